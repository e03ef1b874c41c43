/- PM: lemmas of the library under short names (a claim's text is bounded). No program in sight. PM: calls by a receiver; variables that are captured and stay as they are. PM: what the driver rewrites with. PM: elder contracts that hand back bytes of the call's own. PM: a guarded operation whose value is told without parting the cases. PM: from a contract of PM to one of the elder kind. PM: a range over a map that stays: whichever entry comes next. -/
import Derived.Test.YthaekefdadccaaaDoorKit
import Derived.Test.YthaekefdadccaaaDoorPmC
import Derived.Test.YthaekefdadccaaaDoorPmTy
import Derived.LoopN
import Derived.Maps.RangeRun
set_option linter.unusedVariables false
set_option linter.unusedSimpArgs false
namespace Go.Proofs.YthaekefdadccaaaDoor
namespace PM
theorem U0.{u_1} {α : Type u_1} : Array.toList (#[] : Array α) = [] := rfl
theorem U1.{u} {α : Type u} {as' : List α} : Array.size (List.toArray as') = List.length as' := by first | exact List.size_toArray .. | exact List.size_toArray | simp
theorem U2 (a : Nat) : min a a = a := by first | exact Nat.min_self .. | exact Nat.min_self | simp
theorem U3.{u_1} {α' : Type u_1} {a : α'} : Option.isSome (some a) = true := rfl
theorem U4.{u_1} {α' : Type u_1} {l : List α'} {L : List (List α')} : List.flatten (l :: L) = l ++ List.flatten L := rfl
theorem U5.{u} {α : Type u} : List.flatten ([] : List (List α)) = [] := rfl
theorem U6.{u} {α : Type u} {a : α} : List.replicate 0 a = [] := rfl
theorem U7.{u_1} {α' : Type u_1} {x : α'} {xs : List α'} {d : α'} : List.getD (x :: xs) 0 d = x := by first | exact List.getD_cons_zero .. | exact List.getD_cons_zero | simp
theorem U8.{u_1} {α' : Type u_1} {x : α'} {xs : List α'} {n : Nat} {d : α'} : List.getD (x :: xs) (n + 1) d = List.getD xs n d := by first | exact List.getD_cons_succ .. | exact List.getD_cons_succ | simp
theorem U9.{u_1} {n : Nat} {α' : Type u_1} {d : α'} : List.getD [] n d = d := rfl
theorem Ua.{u_1} {α : Type u_1} {a : α} {l : List α} : (a :: l)[0]? = some a := rfl
theorem Ub.{u_1} {α : Type u_1} {a : α} {i : Nat} {l : List α} : (a :: l)[i + 1]? = l[i]? := rfl
theorem Uc.{u_1} {α : Type u_1} {x : α} {xs : List α} {a : α} : List.set (x :: xs) 0 a = a :: xs := rfl
theorem Ud.{u_1} {α : Type u_1} {x : α} {xs : List α} {i : Nat} {a : α} : List.set (x :: xs) (i + 1) a = x :: List.set xs i a := rfl
theorem Ue.{u_1} {α : Type u_1} {i : Nat} {a : α} : List.set ([] : List α) i a = [] := rfl
theorem Uf.{u} {α : Type u} {a : α} {as' : List α} : List.length (a :: as') = List.length as' + 1 := rfl
theorem Ug.{u} {α : Type u} : List.length ([] : List α) = 0 := rfl
theorem Uh.{u_1, u_2} {α : Type u_1} {β : Type u_2} {as' : List α} (f : α → β) : List.length (List.map f as') = List.length as' := by first | exact List.length_map .. | exact List.length_map | simp
theorem Ui.{u} {α : Type u} {as' bs : List α} : List.length (as' ++ bs) = List.length as' + List.length bs := by first | exact List.length_append .. | exact List.length_append | simp
theorem Uj.{u} {α : Type u} {as' : List α} {i : Nat} {a : α} : List.length (List.set as' i a) = List.length as' := by first | exact List.length_set .. | exact List.length_set | simp
theorem Uk.{u} {α : Type u} {l : List α} : List.drop 0 l = l := by first | exact List.drop_zero .. | exact List.drop_zero | simp
theorem Ul.{u} {α : Type u} {a : α} {l : List α} {i : Nat} : List.drop (i + 1) (a :: l) = List.drop i l := by first | exact List.drop_succ_cons .. | exact List.drop_succ_cons | simp
theorem Um.{u} {α : Type u} {i : Nat} : List.drop i ([] : List α) = [] := by first | exact List.drop_nil .. | exact List.drop_nil | simp
theorem Un.{u} {α : Type u} {a : α} {as' : List α} {i : Nat} : List.take (i + 1) (a :: as') = a :: List.take i as' := rfl
theorem Uo.{u} {α : Type u} {l : List α} : List.take 0 l = [] := rfl
theorem Up.{u} {α : Type u} {i : Nat} : List.take i ([] : List α) = [] := by first | exact List.take_nil .. | exact List.take_nil | simp
theorem Uq.{u_1} {α : Type u_1} {l : List α} : List.take (List.length l) l = l := by first | exact List.take_length .. | exact List.take_length | simp
theorem Ur.{u, v} {α : Type u} {β : Type v} {f : α → β} {a : α} {l : List α} : List.map f (a :: l) = f a :: List.map f l := by first | exact List.map_cons .. | exact List.map_cons | simp
theorem Us.{u, v} {α : Type u} {β : Type v} {f : α → β} : List.map f [] = [] := by first | exact List.map_nil .. | exact List.map_nil | simp
theorem Ut.{u} {α : Type u} (as' : List α) : [] ++ as' = as' := rfl
theorem Uu.{u} {α : Type u} {a : α} {as' bs : List α} : a :: as' ++ bs = a :: (as' ++ bs) := rfl
theorem Uv.{u} {α : Type u} (as' : List α) : as' ++ [] = as' := by first | exact List.append_nil .. | exact List.append_nil | simp
theorem Uw.{u_1} {α' : Type u_1} {a : α'} {l : List α'} {f : α' → Bool} : List.all (a :: l) f = (f a && List.all l f) := rfl
theorem Ux.{u_1} {α' : Type u_1} {f : α' → Bool} : List.all [] f = true := rfl
theorem Uy.{u} {α : Type u} {as' : List α} : Array.toList (List.toArray as') = as' := rfl
theorem Uz.{u} {α : Type u} {xs : List α} {i : Nat} : (List.toArray xs)[i]? = xs[i]? := by first | exact List.getElem?_toArray .. | exact List.getElem?_toArray | simp
theorem V0 {n : Nat} : List.range (Nat.succ n) = List.range n ++ [n] := by first | exact List.range_succ .. | exact List.range_succ | simp
theorem V1 : List.range 0 = [] := rfl
theorem V2.{u_1, u_2} {α : Type u_1} {β : Type u_2} (a : α) (f : α → β) : Option.map f (some a) = some (f a) := rfl
theorem V3.{u_1, u_2} {α : Type u_1} {β : Type u_2} (f : α → β) : Option.map f none = none := rfl
theorem V4.{u_1, u_2} {α : Type u_1} {β : Type u_2} (a : α) (f : α → Option β) : Option.bind (some a) f = f a := rfl
theorem V5.{u_1, u_2} {α : Type u_1} {β : Type u_2} (f : α → Option β) : Option.bind none f = none := rfl
theorem V6.{u_1} {α : Type u_1} : Option.isSome (none : Option α) = false := rfl
theorem V7 (n : Nat) : Int.toNat (n : Int) = n := rfl
theorem V8 : Int.toNat 0 = 0 := rfl
theorem V9 (n : Nat) : 0 + n = n := by first | exact Nat.zero_add .. | exact Nat.zero_add | simp
theorem Va (n : Nat) : n + 0 = n := rfl
theorem Vb (n : Nat) : 0 * n = 0 := by first | exact Nat.zero_mul .. | exact Nat.zero_mul | simp
theorem Vc (n : Nat) : ¬n < 0 := by first | exact Nat.not_lt_zero .. | exact Nat.not_lt_zero | simp
theorem Vd (n : Nat) : ¬n < n := by first | exact Nat.lt_irrefl .. | exact Nat.lt_irrefl | simp
theorem Ve (n : Nat) : n < n + 1 := by first | exact Nat.lt_add_one .. | exact Nat.lt_add_one | simp
theorem Vf (b : Bool) : (b && true) = b := by first | exact Bool.and_true .. | exact Bool.and_true | simp
theorem Vg (b : Bool) : (b && false) = false := by first | exact Bool.and_false .. | exact Bool.and_false | simp
theorem Vh (b : Bool) : (true && b) = b := by first | exact Bool.true_and .. | exact Bool.true_and | simp
theorem Vi (b : Bool) : (false && b) = false := by first | exact Bool.false_and .. | exact Bool.false_and | simp
theorem Vj (b : Bool) : (b || true) = true := by first | exact Bool.or_true .. | exact Bool.or_true | simp
theorem Vk (b : Bool) : (b || false) = b := by first | exact Bool.or_false .. | exact Bool.or_false | simp
theorem Vl (b : Bool) : (true || b) = true := by first | exact Bool.true_or .. | exact Bool.true_or | simp
theorem Vm (b : Bool) : (false || b) = b := by first | exact Bool.false_or .. | exact Bool.false_or | simp
theorem Vn : (!true) = false := by first | exact Bool.not_true .. | exact Bool.not_true | simp
theorem Vo : (!false) = true := by first | exact Bool.not_false .. | exact Bool.not_false | simp
theorem Vp : (false = true) = False := by first | exact Bool.false_eq_true .. | exact Bool.false_eq_true | simp
theorem Vq (n m : Nat) : ((n + m : Nat) : Int) = (n : Int) + (m : Int) := rfl
theorem Vr (n : Nat) : n ≤ n := by first | exact Nat.le_refl .. | exact Nat.le_refl | simp
theorem Vs (a : Int) : a ≤ a := by first | exact Int.le_refl .. | exact Int.le_refl | simp
theorem Vt.{u_1} {α : Type u_1} [LT α] {x y : α} : x > y ↔ y < x := by first | exact gt_iff_lt .. | exact gt_iff_lt | simp
theorem Vu (h : Decidable True) : decide True = true := by first | exact decide_true .. | exact decide_true | simp
theorem Vv (h : Decidable False) : decide False = false := by first | exact decide_false .. | exact decide_false | simp
theorem Vw (p : Prop) : (True ∧ p) = p := by first | exact true_and .. | exact true_and | simp
theorem Vx (p : Prop) : (p ∧ True) = p := by first | exact and_true .. | exact and_true | simp
theorem Vy (p : Prop) : (False ∧ p) = False := by first | exact false_and .. | exact false_and | simp
theorem Vz (p : Prop) : (p ∧ False) = False := by first | exact and_false .. | exact and_false | simp
theorem UU0 (p : Prop) : (p ∨ False) = p := by first | exact or_false .. | exact or_false | simp
theorem UU1 (p : Prop) : (False ∨ p) = p := by first | exact false_or .. | exact false_or | simp
theorem UU2.{u_1} {α : Sort u_1} (a b : α) : (a ≠ b) = ¬a = b := rfl
theorem UU3 : (¬True) = False := by first | exact not_true_eq_false .. | exact not_true_eq_false | simp
theorem UU4 : (¬False) = True := by first | exact not_false_eq_true .. | exact not_false_eq_true | simp
theorem UU5 (p : Prop) : (p ∨ True) = True := by first | exact or_true .. | exact or_true | simp
theorem UU6 (p : Prop) : (True ∨ p) = True := by first | exact true_or .. | exact true_or | simp
theorem UU7.{u_1} {α : Sort u_1} [x' : Decidable True] (t e : α) : (if True then t else e) = t := by first | exact if_true .. | exact if_true | simp
theorem UU8.{u_1} {α : Sort u_1} [x' : Decidable False] (t e : α) : (if False then t else e) = e := by first | exact if_false .. | exact if_false | simp
theorem UU9.{u_1} {α : Type u_1} [BEq α] [ReflBEq α] {a : α} : (a == a) = true := by first | exact BEq.rfl .. | exact BEq.rfl | simp
theorem UUa.{u_1} {α : Type u_1} [BEq α] [ReflBEq α] (a : α) : (a == a) = true := by first | exact beq_self_eq_true .. | exact beq_self_eq_true | simp
end PM
end Go.Proofs.YthaekefdadccaaaDoor
namespace Go.Proofs.YthaekefdadccaaaDoor
open Go.RowKit
namespace PM
mutual
theorem ren_pur {fb fr : Nat → Nat} : ∀ x : AV, purA x = true → ren fb fr x = x
  | .junk, _ => by unfold ren; rfl
  | .d x, _ => by unfold ren; rfl
  | .nils, _ => by unfold ren; rfl
  | .own r k xs, h => by simp [purA] at h
  | .ptr i o, h => by simp [purA] at h
  | .bsl i o n c k, h => by simp [purA] at h
  | .mp i, h => by simp [purA] at h
  | .cp cs, _ => by unfold ren; rfl
  | .fn f cap, h => by unfold purA at h; unfold ren; rw [rens_pur cap h]
  | .agg cs, h => by unfold purA at h; unfold ren; rw [rens_pur cs h]
  | .tup cs, h => by unfold purA at h; unfold ren; rw [rens_pur cs h]
theorem rens_pur {fb fr : Nat → Nat} : ∀ xs : List AV, purAs xs = true → rens fb fr xs = xs
  | [], _ => by unfold rens; rfl
  | x :: xs, h => by
    unfold purAs at h
    simp only [Bool.and_eq_true] at h
    unfold rens
    rw [ren_pur x h.1, rens_pur xs h.2]
end
section
variable {P : Program} {G : Gh} {m m1 : Mem} {w w' : World} {N : No}
/-- a box's cells may be told otherwise -/
theorem tell_box (hm : MemR G m w) {i : Nat} {e : TypeId} {cs cs' : List AV} (hb : m.box[i]? = some (some (e, cs))) (hc : Cos cs cs') : MemR G ⟨m.box.set i (some (e, cs')), m.row⟩ w ∧ Ev G m w G ⟨m.box.set i (some (e, cs')), m.row⟩ w := by
  have hbe : ∀ (j : Nat) x, (m.box.set i (some (e, cs')))[j]? = some (some x) → ∃ y, m.box[j]? = some (some y) := fun j x hx => by
    rcases getElem?_set' hx with ⟨rfl, -⟩ | ⟨-, h⟩
    · exact ⟨_, hb⟩
    · exact ⟨_, h⟩
  have hev : Ev G m w G ⟨m.box.set i (some (e, cs')), m.row⟩ w := by
    refine ⟨rfl, .refl _ _, ?_, fun _ _ => rfl, by simp, Nat.le_refl _, fun _ i _ h => ⟨i, h, Nat.le_refl _, fun _ => ⟨rfl, rfl⟩⟩⟩
    rintro b o (⟨j, e', cs'', h2, rfl⟩ | h2)
    · obtain ⟨⟨e2, cs2⟩, h3⟩ := hbe j _ h2
      exact .inl (.inl ⟨j, e2, cs2, h3, rfl⟩)
    · exact .inl (.inr h2)
  refine ⟨⟨hm.avlt, fun j e' cs'' hj => ?_, hm.row, fun i j x y hi hj hij => ?_, hm.rr, fun i j x y hi hj => ?_⟩, hev⟩
  · rcases getElem?_set' hj with ⟨rfl, hq⟩ | ⟨hne, hj⟩
    · cases hq
      obtain ⟨⟨vs, o9, k1, k2, k3⟩, k4⟩ := hm.box i e cs hb
      exact ⟨⟨vs, o9, k1, (cos_rel _ _ _ hc k2).mono hev, k3⟩, k4⟩
    · obtain ⟨⟨vs, o9, k1, k2, k3⟩, k4⟩ := hm.box j e' cs'' hj
      exact ⟨⟨vs, o9, k1, k2.mono hev, k3⟩, k4⟩
  · obtain ⟨x', hi⟩ := hbe i x hi
    obtain ⟨y', hj⟩ := hbe j y hj
    exact hm.bb i j _ _ hi hj hij
  · obtain ⟨x', hi⟩ := hbe i x hi
    exact hm.br i j _ _ hi hj
theorem PFun.tell {f : Nat} {args : List AV} {r : AV} {m2 : Mem} {i : Nat} {e : TypeId} {cs cs' : List AV} (hb : m.box[i]? = some (some (e, cs))) (hc : Cos cs cs') (hp : PFun P f args ⟨m.box.set i (some (e, cs')), m.row⟩ r m2) : PFun P f args m r m2 := fun G w vs hm ha => by
  obtain ⟨h1, h2⟩ := tell_box hm hb hc
  exact (hp G w vs h1 (ha.mono h2)).mono fun v w' ⟨G', k1, k2, k3⟩ => ⟨G', k1, h2.trans k2, k3⟩
/-- a call by a receiver: its cells are data -/
theorem callP_recv {f i : Nat} {rest rest1 : List AV} {r : AV} {e : TypeId} {cs cs1 cs2 : List AV} {K : AV → Mem → Prop} (hb : m.box[i]? = some (some (e, cs))) (hc : Cos cs cs1) (hr : Cos rest rest1) (p1 : (purAs cs1 && purAs rest1 && purA r && purAs cs2) = true)
    (hp : PFun P f (.ptr 0 0 :: rest1) ⟨[some (e, cs1)], []⟩ r ⟨[some (e, cs2)], []⟩) (hk : Has r → K r ⟨m.box.set i (some (e, cs2)), m.row⟩) : callP P m f (.ptr i 0 :: rest) K := by
  simp only [Bool.and_eq_true] at p1
  obtain ⟨⟨⟨q1, q2⟩, q3⟩, q4⟩ := p1
  have hi : i < m.box.length := (List.getElem?_eq_some_iff.1 hb).1
  have hset : (m.box.set i (some (e, cs1)))[i]? = some (some (e, cs1)) := by rw [List.getElem?_set_self hi]
  have hok : EmbOk ⟨m.box.set i (some (e, cs1)), m.row⟩ [i] [] ⟨[some (e, cs1)], []⟩ := by
    refine ⟨by simp, by simp, rfl, rfl, fun k j hj => ?_, fun k j hj => by simp at hj⟩
    cases k with
    | zero =>
      simp at hj
      subst hj
      exact ⟨_, rfl, by rw [hset]; simp only [renBox, Option.map_some, rens_pur cs1 q1]⟩
    | succ k => simp at hj
  have h1 := hp.emb hok
  have e1 : ∀ N R, rens (num [i] N) (num [] R) (.ptr 0 0 :: rest1) = .ptr i 0 :: rest1 := fun N R => by
    unfold rens ren
    rw [rens_pur rest1 q2]
    rfl
  have e2 : embM ⟨m.box.set i (some (e, cs1)), m.row⟩ [i] [] ⟨[some (e, cs2)], []⟩ = ⟨m.box.set i (some (e, cs2)), m.row⟩ := by
    unfold embM
    simp only [List.map_cons, List.map_nil, renBox, Option.map_some, rens_pur cs2 q4, setAll, List.set_set, List.length_cons, List.length_nil, List.drop_succ_cons, List.append_nil, List.drop_nil]
  rw [e1, e2, ren_pur r q3] at h1
  have h2 : PFun P f (.ptr i 0 :: rest) m r ⟨m.box.set i (some (e, cs2)), m.row⟩ := (PFun.tell hb hc h1).co (by unfold Cos; exact ⟨_, _, rfl, by unfold Co; rfl, hr⟩)
  exact .inr ⟨_, _, h2, hk⟩
/-- what stands for the addresses, the slices and the map of a box that stays -/
structure Fz where
  p : Nat → AV
  b : Nat → Nat → Nat → AV
  mm : AV
def fzC (ds : List DV) : Fz := ⟨fun off => .cp (ds.drop off), fun off n k => if off + n * k ≤ ds.length then .d (.sl k (chunks k n (ds.drop off))) else .junk, .junk⟩
def fzM (ka va : Bool) (ks vs : List (List DV)) : Fz := ⟨fun _ => .junk, fun _ _ _ => .junk, .d (.mpd ka va ks vs)⟩
mutual
/-- box i is one that stays -/
def frz (i : Nat) (F : Fz) : AV → AV
  | .junk => .junk
  | .d x => .d x
  | .nils => .nils
  | .own r k xs => .own r k xs
  | .ptr id off => if id = i then F.p off else .ptr id off
  | .bsl id off n cap k => if id = i then F.b off n k else .bsl id off n cap k
  | .mp id => if id = i then F.mm else .mp id
  | .cp cs => .cp cs
  | .fn f cap => .fn f (frzs i F cap)
  | .agg cs => .agg (frzs i F cs)
  | .tup cs => .tup (frzs i F cs)
def frzs (i : Nat) (F : Fz) : List AV → List AV
  | [] => []
  | x :: xs => frz i F x :: frzs i F xs
end
def frzM (i : Nat) (F : Fz) (m : Mem) : Mem := ⟨(m.box.set i none).map fun x => x.map fun p => (p.1, frzs i F p.2), m.row⟩
theorem frzM_box {i : Nat} {F : Fz} {j : Nat} {e : TypeId} {cs : List AV} (h : (frzM i F m).box[j]? = some (some (e, cs))) : j ≠ i ∧ ∃ cs', m.box[j]? = some (some (e, cs')) ∧ cs = frzs i F cs' := by
  unfold frzM at h
  simp only [List.getElem?_map, Option.map_eq_some_iff] at h
  obtain ⟨x, h1, h2⟩ := h
  cases x with
  | none => simp at h2
  | some p =>
    obtain ⟨e', cs'⟩ := p
    rcases getElem?_set' h1 with ⟨rfl, hq⟩ | ⟨hne, h1⟩
    · cases hq
    · have h3 : e' = e ∧ frzs i F cs' = cs := by simpa using h2
      obtain ⟨rfl, rfl⟩ := h3
      exact ⟨Ne.symm hne, cs', h1, rfl⟩
theorem frz_na {i : Nat} {F : Fz} {b o : Nat} (h : NA G (frzM i F m) b o) : NA G m b o := h.imp (fun h => h) fun h => h.imp (fun ⟨id, e, _cs, h1, h2⟩ => let ⟨_, cs', h3, _⟩ := frzM_box h1; ⟨id, e, cs', h3, h2⟩) (fun h => h)
theorem frz_not (hm : MemR G m w) {i : Nat} {F : Fz} {e : TypeId} {cs : List AV} (hb : m.box[i]? = some (some (e, cs))) (o : Nat) : ¬ NA G (frzM i F m) (G.bi i) o := by
  rintro (h1 | ⟨id', e', cs', h1, h2⟩ | ⟨r, ri, h1, h2, -⟩)
  · exact (hm.box i e cs hb).2 o h1
  · obtain ⟨hne, cs'', h3, -⟩ := frzM_box h1
    exact hne (hm.bb id' i _ _ h3 hb h2)
  · exact hm.br i r _ _ hb h1 h2
structure FzOk (G : Gh) (m : Mem) (w : World) (i : Nat) (F : Fz) : Prop where
  p : ∀ off v, RelA G m w (.ptr i off) v → RelA G (frzM i F m) w (F.p off) v
  b : ∀ off n cap k v, RelA G m w (.bsl i off n cap k) v → RelA G (frzM i F m) w (F.b off n k) v
  mm : ∀ v, RelA G m w (.mp i) v → RelA G (frzM i F m) w F.mm v
mutual
theorem frz_rel {i : Nat} {F : Fz} (hF : FzOk G m w i F) : ∀ (x : AV) (v : Value), RelA G m w x v → RelA G (frzM i F m) w (frz i F x) v
  | .junk, v, _ => by unfold frz RelA; trivial
  | .d x, v, hx => by unfold frz; unfold RelA at hx ⊢; exact RelD.mono (Pre.same fun b o h3 => frz_na h3) x v hx
  | .nils, v, hx => by unfold frz; unfold RelA at hx ⊢; exact hx
  | .own r k xs, v, hx => by
    unfold frz
    unfold RelA at hx ⊢
    exact ⟨hx.1, RelD.mono (Pre.same fun b o h3 => frz_na h3) _ v hx.2.1, hx.2.2⟩
  | .ptr id off, v, hx => by
    unfold frz
    split
    · rename_i hid; subst hid; exact hF.p off v hx
    · unfold RelA at hx ⊢; exact ⟨by simp only [frzM, List.length_map, List.length_set]; exact hx.1, hx.2⟩
  | .bsl id off n cap k, v, hx => by
    unfold frz
    split
    · rename_i hid; subst hid; exact hF.b off n cap k v hx
    · unfold RelA at hx ⊢; exact ⟨by simp only [frzM, List.length_map, List.length_set]; exact hx.1, hx.2⟩
  | .mp id, v, hx => by
    unfold frz
    split
    · rename_i hid; subst hid; exact hF.mm v hx
    · unfold RelA at hx ⊢; exact ⟨by simp only [frzM, List.length_map, List.length_set]; exact hx.1, hx.2⟩
  | .cp cs, v, hx => by
    unfold frz
    unfold RelA at hx ⊢
    obtain ⟨b, o, e, h1⟩ := hx
    exact ⟨b, o, e, RelC.mono (Pre.same fun b o h3 => frz_na h3) b cs o h1⟩
  | .fn f cap, v, hx => by
    unfold frz
    unfold RelA at hx ⊢
    obtain ⟨vs, e, h2⟩ := hx
    exact ⟨vs, e, frzs_rel hF cap vs h2⟩
  | .agg cs, v, hx => by
    unfold frz
    unfold RelA at hx ⊢
    obtain ⟨vs, e, h2, h3⟩ := hx
    exact ⟨vs, e, frzs_rel hF cs vs h2, h3⟩
  | .tup cs, v, hx => by
    unfold frz
    unfold RelA at hx ⊢
    obtain ⟨vs, e, h2⟩ := hx
    exact ⟨vs, e, frzs_rel hF cs vs h2⟩
theorem frzs_rel {i : Nat} {F : Fz} (hF : FzOk G m w i F) : ∀ (xs : List AV) (vs : List Value), RelAs G m w xs vs → RelAs G (frzM i F m) w (frzs i F xs) vs
  | [], vs, hx => by unfold frzs; unfold RelAs at hx ⊢; exact hx
  | x :: xs, vs, hx => by
    unfold frzs
    unfold RelAs at hx ⊢
    obtain ⟨v, vs', e, h1, h2⟩ := hx
    exact ⟨v, vs', e, frz_rel hF x v h1, frzs_rel hF xs vs' h2⟩
end
theorem PW.frzF {c : Code} {Q : Exit → St → Prop} {s : St} (i : Nat) {F : Fz} {e : TypeId} {cs0 : List AV} (_hb : s.m.box[i]? = some (some (e, cs0))) (hF : ∀ G w, MemR G s.m w → FzOk G s.m w i F) (h : PW P c Q ⟨fun j => frz i F (s.t j), s.n, frzM i F s.m⟩) : PW P c Q s := fun G a w hs => by
  have hFw := hF G w hs.mem
  have hev : Ev G s.m w G (frzM i F s.m) w := by
    refine ⟨rfl, .refl _ _, ?_, fun _ _ => rfl, by simp [frzM], Nat.le_refl _, fun _ i _ h => ⟨i, h, Nat.le_refl _, fun _ => ⟨rfl, rfl⟩⟩⟩
    rintro b o (⟨id, e', cs', h1, h2⟩ | h1)
    · obtain ⟨-, cs'', h3, -⟩ := frzM_box h1
      exact .inl (.inl ⟨id, e', cs'', h3, h2⟩)
    · exact .inl (.inr h1)
  have hmr : MemR G (frzM i F s.m) w := by
    refine ⟨hs.mem.avlt, fun id e' cs' h1 => ?_, hs.mem.row, fun a b x y ha hb' hab => ?_, hs.mem.rr, fun a b x y ha hb' => ?_⟩
    · obtain ⟨-, cs'', h3, rfl⟩ := frzM_box h1
      obtain ⟨⟨vs, o9, k1, k2, k3⟩, k4⟩ := hs.mem.box id e' cs'' h3
      exact ⟨⟨vs, o9, k1, frzs_rel hFw cs'' vs k2, k3⟩, k4⟩
    · obtain ⟨e1, c1⟩ := x
      obtain ⟨e2, c2⟩ := y
      obtain ⟨-, ca, ha, -⟩ := frzM_box ha
      obtain ⟨-, cb, hb', -⟩ := frzM_box hb'
      exact hs.mem.bb a b _ _ ha hb' hab
    · obtain ⟨e1, c1⟩ := x
      obtain ⟨-, ca, ha, -⟩ := frzM_box ha
      exact hs.mem.br a b _ _ ha hb'
  refine wp_mono (h G a w ⟨hmr, fun j => frz_rel hFw _ _ (hs.t j), hs.n, hs.df⟩) fun e' a' w' ⟨G', s', q1, q2, q3⟩ => ⟨G', s', q1, hev.trans q2, q3⟩
/-- the cells of a box whose cells are data -/
theorem frz_cells (hm : MemR G m w) {i : Nat} {e : TypeId} (he : e < mapBase) {cs0 : List AV} {ds : List DV} {F : Fz} (hb : m.box[i]? = some (some (e, cs0))) (hd : cs0.mapM dv1 = some ds) (off : Nat) : RelC (NA G (frzM i F m)) w (G.bi i) off (ds.drop off) := by
  refine (relC_iff _ _).2 fun j d hj => ?_
  obtain ⟨⟨vs, o9, k1, k2, k3⟩, k4⟩ := hm.box i e cs0 hb
  obtain ⟨rfl, -⟩ := k3.cells he
  rw [List.getElem?_drop] at hj
  obtain ⟨l1, l2⟩ := mapM_get hd
  have hlt : off + j < cs0.length := by have := (List.getElem?_eq_some_iff.1 hj).1; omega
  have hc : cs0[off + j]? = some cs0[off + j] := List.getElem?_eq_getElem hlt
  obtain ⟨u, hu, hr⟩ := k2.get hc
  have hcell : w.cell? ⟨G.bi i, off + j, none⟩ = some u := by
    rw [cell_of_row w _ _ vs.toArray e (0, 0) k1]
    simpa using hu
  exact ⟨u, hcell, frz_not hm hb _, RelD.mono (Pre.same fun b o h3 => frz_na h3) d u (dv1_rel hr (l2 _ _ _ hc hj))⟩
/-- box i is as it is from here on -/
theorem PW.freeze {c : Code} {Q : Exit → St → Prop} {s : St} (i : Nat) {e : TypeId} (he : e < 4294967296) {cs0 : List AV} {ds : List DV} (hb : s.m.box[i]? = some (some (e, cs0))) (hd : cs0.mapM dv1 = some ds) (h : PW P c Q ⟨fun j => frz i (fzC ds) (s.t j), s.n, frzM i (fzC ds) s.m⟩) : PW P c Q s := by
  refine PW.frzF i hb (fun G w hm => ⟨fun off v hx => ?_, fun off n cap k v hx => ?_, fun v hx => by unfold fzC RelA; trivial⟩) h
  · unfold RelA at hx
    obtain ⟨-, rfl⟩ := hx
    unfold fzC
    simp only
    unfold RelA
    exact ⟨_, _, rfl, frz_cells hm he hb hd off⟩
  · unfold RelA at hx
    obtain ⟨-, hnc, hcm, o, rfl, ho⟩ := hx
    unfold fzC
    simp only
    split
    · rename_i hle
      refine relA_d ?_
      unfold RelD
      rw [chunks_len]
      refine ⟨_, cap, rfl, hnc, hcm, fun e => (by cases e), fun a ha hp => ?_⟩
      cases ha
      obtain rfl := ho (by omega)
      have hl : ((ds.drop o).take (n * k)).length = n * k := by rw [List.length_take, List.length_drop]; omega
      obtain ⟨c1, c2⟩ := chunks_all k n ((ds.drop o).take (n * k)) hl
      rw [chunks_take] at c1 c2
      refine ⟨rfl, (relR_iff _ _).2 ⟨c1, ?_⟩⟩
      rw [c2]
      exact (frz_cells hm he hb hd o).take _
    · unfold RelA; trivial
/-- a map's entries, as data -/
def keyD : AV → Option (Bool × List DV)
  | .agg cs => (cs.mapM dv1).map fun x => (true, x)
  | .fn f [] => some (false, [.fnp f])
  | x => (dv1 x).map fun d => (false, [d])
def entD (ka va : Bool) : List AV → Option (List (List DV) × List (List DV))
  | [] => some ([], [])
  | .tup [k, v] :: r => match keyD k, keyD v, entD ka va r with
    | some (a, x), some (b, y), some (xs, ys) => if a = ka ∧ b = va then some (x :: xs, y :: ys) else none
    | _, _, _ => none
  | _ => none
theorem mapM_as {cs : List AV} {vs : List Value} {ds : List DV} (h : RelAs G m w cs vs) (hd : cs.mapM dv1 = some ds) : RelL (NA G m) w ds vs := by
  induction cs generalizing vs ds with
  | nil =>
    simp at hd
    subst hd
    unfold RelAs at h
    subst h
    unfold RelL
    rfl
  | cons c cs ih =>
    rw [List.mapM_cons] at hd
    simp only [Option.bind_eq_bind, Option.bind_eq_some_iff, Option.pure_def, Option.some.injEq] at hd
    obtain ⟨d, h1, ds', h2, rfl⟩ := hd
    unfold RelAs at h
    obtain ⟨v, vs', rfl, h3, h4⟩ := h
    unfold RelL
    exact ⟨v, vs', rfl, dv1_rel h3 h1, ih h4 h2⟩
theorem keyD_rel {x : AV} {v : Value} {a : Bool} {ds : List DV} (h : RelA G m w x v) (hd : keyD x = some (a, ds)) : ∃ us : List Value, v = (if a = true then .agg us.toArray else us.headD undef) ∧ (a = false → us.length = 1) ∧ RelL (NA G m) w ds us := by
  unfold keyD at hd
  split at hd
  · rename_i cs
    simp only [Option.map_eq_some_iff, Prod.mk.injEq] at hd
    obtain ⟨ds', h1, rfl, rfl⟩ := hd
    unfold RelA at h
    obtain ⟨vs, rfl, h2, -⟩ := h
    exact ⟨vs, rfl, fun e => (by cases e), mapM_as h2 h1⟩
  · rename_i f
    cases hd
    unfold RelA at h
    obtain ⟨vs, rfl, h2⟩ := h
    unfold RelAs at h2
    subst h2
    refine ⟨[.func (.func f) #[] #[]], rfl, fun _ => rfl, ?_⟩
    unfold RelL
    refine ⟨_, [], rfl, ?_, ?_⟩
    · unfold RelD; rfl
    · unfold RelL; rfl
  · simp only [Option.map_eq_some_iff, Prod.mk.injEq] at hd
    obtain ⟨d, h1, rfl, rfl⟩ := hd
    refine ⟨[v], rfl, fun _ => rfl, ?_⟩
    unfold RelL
    refine ⟨v, [], rfl, dv1_rel h h1, ?_⟩
    unfold RelL
    rfl
theorem entD_rel {ka va : Bool} : ∀ (cs : List AV) (es : List MapEntry) (ks vs : List (List DV)), RelAs G m w cs (es.map pairV) → entD ka va cs = some (ks, vs) → RelV (NA G m) w ka ks (es.map (·.key)) ∧ RelV (NA G m) w va vs (es.map (·.val))
  | [], es, ks, vs, h, hd => by
    have : es = [] := by have := h.len; simpa using this.symm
    subst this
    cases hd
    unfold RelV
    exact ⟨rfl, rfl⟩
  | c :: cs, [], ks, vs, h, hd => by have := h.len; simp at this
  | c :: cs, x :: es, ks, vs, h, hd => by
    rw [List.map_cons] at h
    unfold RelAs at h
    obtain ⟨v, vs', e, h1, h2⟩ := h
    simp only [List.cons.injEq] at e
    obtain ⟨rfl, rfl⟩ := e
    unfold entD at hd
    split at hd
    · rename_i q; cases q
    case h_3 => cases hd
    rename_i k' v' r' q
    simp only [List.cons.injEq] at q
    obtain ⟨rfl, rfl⟩ := q
    obtain ⟨g1, g2⟩ := ent_rel h1
    split at hd
    case h_2 => cases hd
    rename_i a kx b vx kxs vxs e1 e2 e3
    split at hd
    case isFalse => cases hd
    rename_i hab
    obtain ⟨rfl, rfl⟩ := hab
    cases hd
    obtain ⟨q1, q2⟩ := entD_rel _ es _ _ h2 e3
    rw [List.map_cons, List.map_cons]
    unfold RelV
    exact ⟨⟨_, _, rfl, keyD_rel g1 e1, q1⟩, ⟨_, _, rfl, keyD_rel g2 e2, q2⟩⟩
/-- map i is as it is from here on -/
theorem PW.freezeMap {c : Code} {Q : Exit → St → Prop} {s : St} (i : Nat) (ka va : Bool) {e : TypeId} (he : 4294967296 ≤ e) {cs0 : List AV} {ks vs : List (List DV)} (hb : s.m.box[i]? = some (some (e, cs0))) (hd : entD ka va cs0 = some (ks, vs)) (h : PW P c Q ⟨fun j => frz i (fzM ka va ks vs) (s.t j), s.n, frzM i (fzM ka va ks vs) s.m⟩) : PW P c Q s := by
  refine PW.frzF i hb (fun G w hm => ⟨fun off v hx => by unfold fzM RelA; trivial, fun off n cap k v hx => by unfold fzM RelA; trivial, fun v hx => ?_⟩) h
  unfold RelA at hx
  obtain ⟨-, rfl⟩ := hx
  obtain ⟨⟨us, o9, k1, k2, k3⟩, k4⟩ := hm.box i e cs0 hb
  obtain ⟨es, cl, rfl, rfl, k5, k6⟩ := k3.map he
  obtain ⟨q1, q2⟩ := entD_rel cs0 es.toList ks vs k2 hd
  unfold fzM
  refine relA_d ?_
  unfold RelD
  exact ⟨_, es, cl, rfl, k1, frz_not hm hb, RelV.mono (Pre.same fun b o h3 => frz_na h3) ka ks _ q1, RelV.mono (Pre.same fun b o h3 => frz_na h3) va vs _ q2, k5, k6⟩
/-- a box's cells may be told otherwise -/
theorem tell_boxR (hm : MemR G m w) {i : Nat} {e : TypeId} {cs cs' : List AV} (hb : m.box[i]? = some (some (e, cs))) (hc : ∀ vs, RelAs G m w cs vs → RelAs G m w cs' vs) : MemR G ⟨m.box.set i (some (e, cs')), m.row⟩ w ∧ Ev G m w G ⟨m.box.set i (some (e, cs')), m.row⟩ w := by
  have hbe : ∀ (j : Nat) x, (m.box.set i (some (e, cs')))[j]? = some (some x) → ∃ y, m.box[j]? = some (some y) := fun j x hx => by
    rcases getElem?_set' hx with ⟨rfl, -⟩ | ⟨-, h⟩
    · exact ⟨_, hb⟩
    · exact ⟨_, h⟩
  have hev : Ev G m w G ⟨m.box.set i (some (e, cs')), m.row⟩ w := by
    refine ⟨rfl, .refl _ _, ?_, fun _ _ => rfl, by simp, Nat.le_refl _, fun _ i _ h => ⟨i, h, Nat.le_refl _, fun _ => ⟨rfl, rfl⟩⟩⟩
    rintro b o (⟨j, e', cs'', h2, rfl⟩ | h2)
    · obtain ⟨⟨e2, cs2⟩, h3⟩ := hbe j _ h2
      exact .inl (.inl ⟨j, e2, cs2, h3, rfl⟩)
    · exact .inl (.inr h2)
  refine ⟨⟨hm.avlt, fun j e' cs'' hj => ?_, hm.row, fun i j x y hi hj hij => ?_, hm.rr, fun i j x y hi hj => ?_⟩, hev⟩
  · rcases getElem?_set' hj with ⟨rfl, hq⟩ | ⟨hne, hj⟩
    · cases hq
      obtain ⟨⟨vs, o9, k1, k2, k3⟩, k4⟩ := hm.box i e cs hb
      exact ⟨⟨vs, o9, k1, (hc vs k2).mono hev, k3⟩, k4⟩
    · obtain ⟨⟨vs, o9, k1, k2, k3⟩, k4⟩ := hm.box j e' cs'' hj
      exact ⟨⟨vs, o9, k1, k2.mono hev, k3⟩, k4⟩
  · obtain ⟨x', hi⟩ := hbe i x hi
    obtain ⟨y', hj⟩ := hbe j y hj
    exact hm.bb i j _ _ hi hj hij
  · obtain ⟨x', hi⟩ := hbe i x hi
    exact hm.br i j _ _ hi hj
/-- a nil slice in a box becomes a row of the call's own -/
theorem PW.nil2box {c : Code} {Q : Exit → St → Prop} {s : St} (i o : Nat) (e : TypeId) (k : Nat) {e0 : TypeId} {cs : List AV} (hb : s.m.box[i]? = some (some (e0, cs))) (hc : cs[o]? = some .nils) (hk : 0 < k)
    (h : PW P c Q ⟨s.t, s.n, ⟨s.m.box.set i (some (e0, cs.set o (.own s.m.row.length k []))), s.m.row ++ [some ⟨e, k, 0⟩]⟩⟩) : PW P c Q s := fun G a w hs => by
  obtain ⟨h1, h2⟩ := mem_rownil hs.mem e k hk
  obtain ⟨h3, h4⟩ := tell_boxR h2 (i := i) (e := e0) (cs := cs) (cs' := cs.set o (.own s.m.row.length k [])) hb (fun vs hv => by
    obtain ⟨v, hv1, hv2⟩ := hv.get hc
    have := hv.set o (x := .own s.m.row.length k []) (v := v) (by
      unfold RelA at hv2
      subst hv2
      unfold RelA
      refine ⟨by simp, ?_, fun x hx => ?_⟩
      · unfold RelD
        exact ⟨none, 0, rfl, by simp, by simp, fun _ => ⟨rfl, rfl⟩, fun a ha => by cases ha⟩
      · simp only [List.getElem?_concat_length, Option.some.injEq] at hx
        subst hx
        refine ⟨by simp, fun _ => ?_⟩
        show _ = Value.slice ((upd G.ri s.m.row.length none s.m.row.length).map _) _ (upd G.rc s.m.row.length 0 s.m.row.length)
        rw [upd_eq, upd_eq]
        rfl)
    have hself : vs.set o v = vs := by
      apply List.ext_getElem?
      intro j
      rw [List.getElem?_set]
      split
      · rename_i hj; subst hj; rw [hv1]; simp [(List.getElem?_eq_some_iff.1 hv1).1]
      · rfl
    rwa [hself] at this)
  refine wp_mono (h _ a w ⟨h3, fun j => ((hs.t j).mono h1).mono h4, hs.n, hs.df⟩) fun e' a' w' ⟨G', s', q1, q2, q3⟩ => ⟨G', s', q1, (h1.trans h4).trans q2, q3⟩
end
end PM
end Go.Proofs.YthaekefdadccaaaDoor
namespace Go.Proofs.YthaekefdadccaaaDoor
open Go.RowKit
namespace PM
theorem upd_app {α : Type} (f : Nat → α) (i : Nat) (v : α) (j : Nat) : upd f i v j = if j = i then v else f j := rfl
theorem iniT_app (args : List AV) (i : Nat) : iniT args i = args.getD i (.tup []) := rfl
abbrev bs (l : List Int) : AV := .d (.sl 1 (encB l))
def encL {α : Type} (e : α → List DV) (l : List α) : List (List DV) := l.map e
section
variable {α : Type} {e : α → List DV}
theorem encL_len (l : List α) : (encL e l).length = l.length := by simp [encL]
theorem encL_get (l : List α) (i : Nat) : (encL e l)[i]? = (l[i]?).map e := by simp [encL]
theorem encL_append (l m : List α) : encL e l ++ encL e m = encL e (l ++ m) := by simp [encL]
theorem encL_take (l : List α) (n : Nat) : (encL e l).take n = encL e (l.take n) := by simp [encL]
theorem encL_drop (l : List α) (n : Nat) : (encL e l).drop n = encL e (l.drop n) := by simp [encL]
theorem encL_snoc (l : List α) (x : α) : encL e (l ++ [x]) = encL e l ++ [e x] := by simp [encL]
theorem encL_nil : ([] : List (List DV)) = encL e [] := rfl
theorem encL_one (x : α) : [e x] = encL e [x] := rfl
end
theorem encB_append (l m : List Int) : encB l ++ encB m = encB (l ++ m) := by simp [encB]
theorem encB_take (l : List Int) (n : Nat) : (encB l).take n = encB (l.take n) := by simp [encB]
theorem encB_drop (l : List Int) (n : Nat) : (encB l).drop n = encB (l.drop n) := by simp [encB]
theorem encB_nil : encB [] = [] := rfl
theorem encB_snoc (l : List Int) (n : Int) : encB l ++ [[.int .u8 n]] = encB (l ++ [n]) := by simp [encB]
theorem bytesD_some {l : List Int} {K : List Int → Prop} : (∃ x, some l = some x ∧ K x) ↔ K l := by simp
theorem wf_i64 (n : Int) : (Lit.int .i64 n).wf = (decide (-9223372036854775808 ≤ n) && decide (n ≤ 9223372036854775807)) := rfl
theorem wf_u64 (n : Int) : (Lit.int .u64 n).wf = (decide (0 ≤ n) && decide (n ≤ 18446744073709551615)) := rfl
theorem wf_u8 (n : Int) : (Lit.int .u8 n).wf = (decide (0 ≤ n) && decide (n ≤ 255)) := rfl
theorem wf_i32 (n : Int) : (Lit.int .i32 n).wf = (decide (-2147483648 ≤ n) && decide (n ≤ 2147483647)) := rfl
theorem wf_u32 (n : Int) : (Lit.int .u32 n).wf = (decide (0 ≤ n) && decide (n ≤ 4294967295)) := rfl
/-- numbers that need no wrapping -/
theorem wl_i64 {n : Int} (h : (decide (-9223372036854775808 ≤ n) && decide (n ≤ 9223372036854775807)) = true) : IntKind.i64.wrap n = n := by
  simp only [Bool.and_eq_true, decide_eq_true_eq] at h
  simp only [IntKind.wrap, IntKind.bits, IntKind.signed, Bool.true_and, decide_eq_true_eq, Int.reducePow, Nat.reduceSub, ge_iff_le]
  split <;> omega
theorem wl_u64 {n : Int} (h : (decide (0 ≤ n) && decide (n ≤ 18446744073709551615)) = true) : IntKind.u64.wrap n = n := by
  simp only [Bool.and_eq_true, decide_eq_true_eq] at h
  simp only [IntKind.wrap, IntKind.bits, IntKind.signed, Bool.false_and, Bool.false_eq_true, ↓reduceIte, Int.reducePow, Nat.reduceSub, ge_iff_le]
  omega
theorem wl_i32 {n : Int} (h : (decide (-2147483648 ≤ n) && decide (n ≤ 2147483647)) = true) : IntKind.i32.wrap n = n := by
  simp only [Bool.and_eq_true, decide_eq_true_eq] at h
  simp only [IntKind.wrap, IntKind.bits, IntKind.signed, Bool.true_and, decide_eq_true_eq, Int.reducePow, Nat.reduceSub, ge_iff_le]
  split <;> omega
theorem wl_u32 {n : Int} (h : (decide (0 ≤ n) && decide (n ≤ 4294967295)) = true) : IntKind.u32.wrap n = n := by
  simp only [Bool.and_eq_true, decide_eq_true_eq] at h
  simp only [IntKind.wrap, IntKind.bits, IntKind.signed, Bool.false_and, Bool.false_eq_true, ↓reduceIte, Int.reducePow, Nat.reduceSub, ge_iff_le]
  omega
theorem wl_u8 {n : Int} (h : (decide (0 ≤ n) && decide (n ≤ 255)) = true) : IntKind.u8.wrap n = n := by
  simp only [Bool.and_eq_true, decide_eq_true_eq] at h
  simp only [IntKind.wrap, IntKind.bits, IntKind.signed, Bool.false_and, Bool.false_eq_true, ↓reduceIte, Int.reducePow, Nat.reduceSub, ge_iff_le]
  omega
theorem wl_i8 {n : Int} (h : (decide (-128 ≤ n) && decide (n ≤ 127)) = true) : IntKind.i8.wrap n = n := by
  simp only [Bool.and_eq_true, decide_eq_true_eq] at h
  simp only [IntKind.wrap, IntKind.bits, IntKind.signed, Bool.true_and, decide_eq_true_eq, Int.reducePow, Nat.reduceSub, ge_iff_le]
  split <;> omega
theorem wl_u16 {n : Int} (h : (decide (0 ≤ n) && decide (n ≤ 65535)) = true) : IntKind.u16.wrap n = n := by
  simp only [Bool.and_eq_true, decide_eq_true_eq] at h
  simp only [IntKind.wrap, IntKind.bits, IntKind.signed, Bool.false_and, Bool.false_eq_true, ↓reduceIte, Int.reducePow, Nat.reduceSub, ge_iff_le]
  omega
theorem wl_i16 {n : Int} (h : (decide (-32768 ≤ n) && decide (n ≤ 32767)) = true) : IntKind.i16.wrap n = n := by
  simp only [Bool.and_eq_true, decide_eq_true_eq] at h
  simp only [IntKind.wrap, IntKind.bits, IntKind.signed, Bool.true_and, decide_eq_true_eq, Int.reducePow, Nat.reduceSub, ge_iff_le]
  split <;> omega
theorem wi_i64 {n : Int} (h1 : -9223372036854775808 ≤ n) (h2 : n ≤ 9223372036854775807) : IntKind.i64.wrap n = n := wl_i64 (by simp [h1, h2])
theorem wi_u64 {n : Int} (h1 : 0 ≤ n) (h2 : n ≤ 18446744073709551615) : IntKind.u64.wrap n = n := wl_u64 (by simp [h1, h2])
theorem wi_i32 {n : Int} (h1 : -2147483648 ≤ n) (h2 : n ≤ 2147483647) : IntKind.i32.wrap n = n := wl_i32 (by simp [h1, h2])
theorem wi_u32 {n : Int} (h1 : 0 ≤ n) (h2 : n ≤ 4294967295) : IntKind.u32.wrap n = n := wl_u32 (by simp [h1, h2])
theorem wi_u8 {n : Int} (h1 : 0 ≤ n) (h2 : n ≤ 255) : IntKind.u8.wrap n = n := wl_u8 (by simp [h1, h2])
theorem wi_i8 {n : Int} (h1 : -128 ≤ n) (h2 : n ≤ 127) : IntKind.i8.wrap n = n := wl_i8 (by simp [h1, h2])
theorem bsz (a : Array UInt8) : (⟨a⟩ : ByteArray).size = a.size := rfl
/-- coercions -/
theorem cos_nil : Cos [] [] := by unfold Cos; rfl
theorem cos_cons {x y : AV} {xs ys : List AV} (h : Co x y) (k : Cos xs ys) : Cos (x :: xs) (y :: ys) := by unfold Cos; exact ⟨y, ys, rfl, h, k⟩
mutual
theorem co_refl : ∀ x : AV, Co x x
  | .own r k xs => by unfold Co; exact .inr rfl
  | .nils => by unfold Co; exact .inr rfl
  | .agg cs => by unfold Co; exact ⟨cs, rfl, cos_refl cs⟩
  | .fn f cap => by unfold Co; exact ⟨cap, rfl, cos_refl cap⟩
  | .tup cs => by unfold Co; exact ⟨cs, rfl, cos_refl cs⟩
  | .junk => by unfold Co; rfl
  | .d x => by unfold Co; rfl
  | .ptr i o => by unfold Co; rfl
  | .bsl i o n c k => by unfold Co; rfl
  | .mp i => by unfold Co; rfl
  | .cp cs => by unfold Co; rfl
theorem cos_refl : ∀ xs : List AV, Cos xs xs
  | [] => cos_nil
  | x :: xs => cos_cons (co_refl x) (cos_refl xs)
end
theorem co_own (r k : Nat) (xs : List (List DV)) : Co (.own r k xs) (.d (.sl k xs)) := by unfold Co; exact .inl rfl
theorem co_nils (k : Nat) : Co .nils (.d (.sl k [])) := by unfold Co; exact .inl ⟨k, rfl⟩
theorem co_nilsB : Co .nils (.d (.sl 1 (encB []))) := co_nils 1
theorem co_nilsL {α : Type} (k : Nat) (e : α → List DV) : Co .nils (.d (.sl k (encL e []))) := co_nils k
theorem co_agg {cs ds : List AV} (h : Cos cs ds) : Co (.agg cs) (.agg ds) := by unfold Co; exact ⟨ds, rfl, h⟩
theorem co_tup {cs ds : List AV} (h : Cos cs ds) : Co (.tup cs) (.tup ds) := by unfold Co; exact ⟨ds, rfl, h⟩
theorem co_eq {x y : AV} (h : x = y) : Co x y := h ▸ co_refl x
theorem co_fn {f : Nat} {cs ds : List AV} (h : Cos cs ds) : Co (.fn f cs) (.fn f ds) := by unfold Co; exact ⟨ds, rfl, h⟩
theorem ite_same (b : Bool) (x : AV) : (if b = true then x else x) = x := by cases b <;> rfl
/-- what bytes are, where they stand for something -/
theorem has_bytes {k : Nat} {l : List Int} (h : Has (.d (.sl k (encB l)))) : Rng l ∧ l.length ≤ maxLen := by
  obtain ⟨G, m, w, v, h⟩ := h
  obtain ⟨h1, ao, cap, -, h2, h3, -⟩ := h.dat.isB.1
  exact ⟨h1, Nat.le_trans h2 h3⟩
theorem has_int {k : IntKind} {n : Int} (h : Has (.d (.int k n))) : (Lit.int k n).wf = true := by
  obtain ⟨G, m, w, v, h⟩ := h
  exact h.int.2
theorem has_str {l : List Int} (h : Has (.d (.str l))) : Rng l ∧ l.length ≤ maxLen := by
  obtain ⟨G, m, w, v, h⟩ := h
  exact h.str.2
theorem has_agg {cs : List AV} (h : Has (.agg cs)) : ∀ x ∈ cs, Has x := by
  obtain ⟨G, m, w, v, h⟩ := h
  unfold RelA at h
  obtain ⟨vs, -, h, -⟩ := h
  intro x hx
  obtain ⟨i, hi⟩ := List.getElem?_of_mem hx
  obtain ⟨u, -, hu⟩ := h.get hi
  exact ⟨_, _, _, _, hu⟩
theorem has_sl {k : Nat} {xs : List (List DV)} (h : Has (.d (.sl k xs))) : xs.length ≤ maxLen ∧ ∀ x ∈ xs, ∀ c ∈ x, Has (.d c) := by
  obtain ⟨G, m, w, v, h⟩ := h
  have h := h.dat
  unfold RelD at h
  obtain ⟨ao, cap, -, h1, h2, h3, h4⟩ := h
  refine ⟨Nat.le_trans h1 h2, fun x hx c hc => ?_⟩
  obtain ⟨i, hi⟩ := List.getElem?_of_mem hx
  obtain ⟨j, hj⟩ := List.getElem?_of_mem hc
  cases ao with
  | none => have := (h3 rfl).1; have := (List.getElem?_eq_some_iff.1 hi).1; omega
  | some a =>
    obtain ⟨-, h5⟩ := h4 a rfl (by have := (List.getElem?_eq_some_iff.1 hi).1; omega)
    obtain ⟨-, h6⟩ := h5.at_ hi
    obtain ⟨u, -, -, h7⟩ := (relC_iff _ _).1 h6 j c hj
    exact ⟨G, m, w, u, relA_d h7⟩
theorem mixed : Tryd.prog.follows .mixedOrders = true := by kernel_rfl
section
variable {P : Program} {ops : Array Oper} {L F : List Nat} {m0 : Mem} {K : St → Prop} {s : St}
theorem opsO_nil (h : K s) : opsO P ops L m0 F [] K s := h
theorem opsO_first {i : Nat} {rest : List (Nat × Bool)} {o : Oper} (ho : ops[i]? = some o) (h : ∀ K' : St → Prop, (∀ s', opsO P ops L m0 F rest K s' → K' s') → wantP ops s o (firstP P L s.eval s.m o fun r => K' (s.put o.dst r)) (K' (s.put o.dst (.tup [])))) : opsO P ops L m0 F ((i, true) :: rest) K s := by
  unfold opsO
  rw [ho]
  exact h _ (fun _ h => h)
theorem opsO_only {i : Nat} {rest : List (Nat × Bool)} {o : Oper} (ho : ops[i]? = some o) (h : ∀ K' : St → Prop, (∀ s', opsO P ops L m0 F rest K s' → K' s') → wantP ops s o (opP P s.eval s.m o fun r m' => (keepL L m0 m' ∨ (F.contains i = true ∧ rest.all (fun x => !x.2) = true)) ∧ K' (({ s with m := m' } : St).put o.dst r)) ((keepL L m0 s.m ∨ (F.contains i = true ∧ rest.all (fun x => !x.2) = true)) ∧ K' (s.put o.dst (.tup [])))) : opsO P ops L m0 F ((i, false) :: rest) K s := by
  unfold opsO
  rw [ho]
  exact h _ (fun _ h => h)
theorem keep_same (L : List Nat) (m : Mem) : keepL L m m := fun _ _ => rfl
theorem keep_box (bx : List (Option (TypeId × List AV))) (r r' : List (Option RowI)) (L : List Nat) : keepL L ⟨bx, r⟩ ⟨bx, r'⟩ := fun _ _ => rfl
theorem keepO_intro {L : List Nat} {m m' : Mem} {Y X : Prop} (h : keepL L m m' ∨ Y) (k : X) : (keepL L m m' ∨ Y) ∧ X := ⟨h, k⟩
theorem keepA_intro {L : List Nat} {m m' : Mem} {X : Prop} (h : keepL L m m') (k : X) : keepL L m m' ∧ X := ⟨h, k⟩
theorem keep_nil (m m' : Mem) : keepL [] m m' := fun _ h => by cases h
theorem firstP_call {K : AV → Prop} {f : Nat} {args args' : List AV} {r : AV} (hc : Cos args args') (hp : purAs args' = true) (h : Pure P f args' r) (hk : K r) : ∃ args' r, Pure P f args' r ∧ Cos args args' ∧ purAs args' = true ∧ K r := ⟨args', r, h, hc, hp, hk⟩
end
theorem PW.nil2ownB {P : Program} {c : Code} {Q : Exit → St → Prop} {t : Nat → AV} {n : Nat} {m : Mem} {bx : List (Option (TypeId × List AV))} (i : Nat) (e : TypeId) (hi : t i = .nils) (hm : m = ⟨bx, []⟩) (h : PW P c Q ⟨upd t i (.own 0 1 (encB [])), n, ⟨bx, [some ⟨e, 1, 0⟩]⟩⟩) : PW P c Q ⟨t, n, m⟩ := by
  subst hm
  exact PW.nil2own i e 1 hi Nat.one_pos h
theorem PW.nil2ownL {P : Program} {c : Code} {Q : Exit → St → Prop} {t : Nat → AV} {n : Nat} {m : Mem} {bx : List (Option (TypeId × List AV))} {α : Type} (en : α → List DV) (i : Nat) (e : TypeId) (k : Nat) (hk : 0 < k) (hi : t i = .nils) (hm : m = ⟨bx, []⟩) (h : PW P c Q ⟨upd t i (.own 0 k (encL en [])), n, ⟨bx, [some ⟨e, k, 0⟩]⟩⟩) : PW P c Q ⟨t, n, m⟩ := by
  subst hm
  exact PW.nil2own i e k hi hk h
end PM
end Go.Proofs.YthaekefdadccaaaDoor
namespace Go.Proofs.YthaekefdadccaaaDoor
open Go.RowKit
namespace PM
section
variable {P : Program} {G : Gh} {m : Mem} {w w' : World} {N : No}
theorem ownS_relD {base : Nat} {e : TypeId} {l : List Int} {v : Value} (h : OwnS w base e v l) (hN : ∀ b, v.ownBlock = some b → ∀ o, o < l.length → ¬ N b o) : RelD N w (.sl 1 (encB l)) v := by
  obtain ⟨ao, cap, hv, -, -, -, hz⟩ := h.form
  obtain ⟨h0, ao', cap', h1, h2, h3, h4, h5⟩ := h.isB
  rw [hv] at h1
  simp only [Value.slice.injEq, true_and] at h1
  obtain ⟨rfl, rfl⟩ := h1
  unfold RelD
  rw [encB_len]
  refine ⟨ao, cap, hv, h2, h3, fun e => ⟨by rw [(h4 e).1]; rfl, (h4 e).2⟩, fun a ha hp => ?_⟩
  obtain ⟨k1, k2, k3⟩ := h5 a ha hp
  refine ⟨k1, (relR_iff _ _).2 ⟨fun x hx => ?_, (relC_iff _ _).2 fun i x hx => ?_⟩⟩
  · unfold encB at hx
    obtain ⟨n, -, rfl⟩ := List.mem_map.1 hx
    rfl
  · have e : (encB l).flatten = l.map fun n => .int .u8 n := by
      unfold encB
      clear h2 h3 h4 h5 hp k3 hN h0 hx hv h hz
      induction l with
      | nil => rfl
      | cons y ys ih => simp [ih]
    rw [e, List.getElem?_map, Option.map_eq_some_iff] at hx
    obtain ⟨n, hn, rfl⟩ := hx
    have hi := (List.getElem?_eq_some_iff.1 hn).1
    have hoff : a.off = 0 := by rw [(hz a ha).1]
    refine ⟨_, k3 i hi, hN a.block (by rw [hv, ha]; rfl) _ (by omega), ?_⟩
    unfold RelD
    have hg : l.getD i 0 = n := by simp [List.getD, hn]
    rw [hg]
    refine ⟨rfl, ?_⟩
    have := h0 n (List.mem_of_getElem? hn)
    simpa [Lit.wf, IntKind.min, IntKind.max, IntKind.signed, IntKind.bits] using this
theorem pfun_of_ownS {f : Nat} {fn : Func} {c : Code} (hf : P.funcs[f]? = some fn) (hname : (fn.name == "runtime.NumGoroutine") = false) (hb : fn.body = some c) {args : List AV} {e : TypeId} {l : List Int}
    (h : ∀ G w vs, MemR G nom w → RelAs G nom w args vs → Calls P f vs.toArray w fun r w' => ∃ v, r = .returned v ∧ OwnS w' w.heap.size e v l ∧ Below w.heap.size w w') : PFun P f args nom (.own 0 1 (encB l)) ⟨[], [some ⟨e, 1, l.length⟩]⟩ := by
  intro G w vs hm ha
  have hcall : (callFunc f vs.toArray).run P w = .ok (.enter f vs.toArray) w := by
    have h1 : fn.name ≠ "runtime.NumGoroutine" := by simpa using hname
    simp [callFunc, hf, h1, hb]
  unfold Runs
  rw [hcall]
  refine (h G w vs hm ha).mono fun r w' ⟨v, h1, h2, h3⟩ => ⟨v, h1, ?_⟩
  have hform := h2.2
  obtain ⟨og, cap, hv, hog⟩ : ∃ (og : Option Nat) (cap : Nat), v = .slice (og.map fun g => ⟨g, 0, none⟩) l.length cap ∧ ((og = none → l = [] ∧ cap = 0) ∧ ∀ g, og = some g → w.heap.size ≤ g ∧ (∃ cur, w'.heap[g]? = some (.cells cur e (0, 0)) ∧ cap ≤ cur.size) ∧ l.length ≤ cap ∧ cap ≤ maxLen) := by
    rcases hform with ⟨h4, h5⟩ | ⟨g, cap, cur, k1, k2, k3, k4, k5, k6, -⟩
    · exact ⟨none, 0, by rw [h4, h5]; rfl, fun _ => ⟨h5, rfl⟩, fun g hg => (by cases hg)⟩
    · exact ⟨some g, cap, k1, fun hg => (by cases hg), fun g' hg => by cases hg; exact ⟨k2, ⟨cur, k3, k5⟩, k4, k6⟩⟩
  obtain ⟨hn, hs⟩ := hog
  have hrow : ∀ (r : Nat) (i : RowI), ([some ⟨e, 1, l.length⟩] : List (Option RowI))[r]? = some (some i) → r = 0 ∧ i = ⟨e, 1, l.length⟩ := fun r i hr => by
    cases r with
    | zero => simp at hr; exact ⟨rfl, hr.symm⟩
    | succ r => simp at hr
  have hmut : ∀ b o, Mut { G with ri := fun _ => og, rc := fun _ => cap } ⟨[], [some ⟨e, 1, l.length⟩]⟩ b o → og = some b ∧ l.length ≤ o := by
    rintro b o (⟨id, e', cs, k, -⟩ | ⟨r, i, k1, k2, k3⟩)
    · simp at k
    · obtain ⟨-, rfl⟩ := hrow r i k1
      exact ⟨k2, by simpa using k3⟩
  have hev : Ev G nom w { G with ri := fun _ => og, rc := fun _ => cap } ⟨[], [some ⟨e, 1, l.length⟩]⟩ w' := by
    refine ⟨rfl, ⟨h3.os, h3.tape, h3.output, h3.size, fun b hb _ => h3.block b hb, fun b o hb _ => h3.cell (p := ⟨b, o, none⟩) hb⟩, fun b o hk => ?_, fun _ _ => rfl, by simp [nom], by simp [nom], fun r i hr _ => by simp [nom] at hr⟩
    exact .inr (hs b (hmut b o hk).1).1
  refine ⟨{ G with ri := fun _ => og, rc := fun _ => cap }, ?_, hev, ?_⟩
  · refine ⟨fun b o hav => Nat.lt_of_lt_of_le (hm.avlt b o hav) h3.size, fun id e' cs k => by simp at k, fun r i hr => ?_, fun i j x y hi => by simp at hi, fun i j x y g hi hj _ _ => ?_, fun i j x y hi => by simp at hi⟩
    · obtain ⟨-, rfl⟩ := hrow r i hr
      refine ⟨Nat.one_pos, fun hg => ⟨by rw [(hn hg).1]; rfl, (hn hg).2⟩, fun g hg => ?_⟩
      obtain ⟨q1, ⟨cur, q2, q3⟩, q4, q5⟩ := hs g hg
      exact ⟨⟨cur, q2, by simpa using q3⟩, q4, q5, fun o hav => absurd (hm.avlt g o hav) (by omega)⟩
    · rw [(hrow i x hi).1, (hrow j y hj).1]
  · unfold RelA
    refine ⟨by simp, ownS_relD h2 fun b hb o ho hna => ?_, fun i hi => ?_⟩
    · have hb' : og = some b := by
        rw [hv] at hb
        cases og with
        | none => simp [Value.ownBlock] at hb
        | some g => simpa [Value.ownBlock] using hb
      rcases hna with hna | hna
      · exact absurd (hm.avlt b o hna) (by have := (hs b hb').1; omega)
      · have := (hmut b o hna).2; omega
    · obtain ⟨-, rfl⟩ := hrow 0 i hi
      rw [encB_len]
      exact ⟨Nat.le_refl _, fun _ => hv⟩
mutual
theorem fg_pur {nb nr : Nat} : ∀ x : AV, purA x = true → fg nb nr x = x
  | .junk, _ => rfl
  | .d _, _ => rfl
  | .nils, _ => rfl
  | .own _ _ _, h => by simp [purA] at h
  | .ptr _ _, h => by simp [purA] at h
  | .bsl _ _ _ _ _, h => by simp [purA] at h
  | .mp _, h => by simp [purA] at h
  | .cp _, _ => rfl
  | .fn f cap, h => by unfold purA at h; unfold fg; rw [fgs_pur cap h]
  | .agg cs, h => by unfold purA at h; unfold fg; rw [fgs_pur cs h]
  | .tup cs, h => by unfold purA at h; unfold fg; rw [fgs_pur cs h]
theorem fgs_pur {nb nr : Nat} : ∀ xs : List AV, purAs xs = true → fgs nb nr xs = xs
  | [], _ => rfl
  | x :: xs, h => by
    simp only [purAs, Bool.and_eq_true] at h
    unfold fgs
    rw [fg_pur x h.1, fgs_pur xs h.2]
end
/-- a call that is handed a row, and hands it back longer -/
theorem callP_row {f i : Nat} {k n n' : Nat} {e : TypeId} {xs xs1 ys : List (List DV)} {rest rest1 : List AV} {K : AV → Mem → Prop} (he : xs1 = xs) (hr : m.row[i]? = some (some ⟨e, k, n⟩)) (hc : Cos rest rest1) (p1 : purAs rest1 = true)
    (hp : PFun P f (.own 0 k xs1 :: rest1) ⟨[], [some ⟨e, k, n⟩]⟩ (.own 0 k ys) ⟨[], [some ⟨e, k, n'⟩]⟩) (hk : K (.own i k ys) ⟨m.box, m.row.set i (some ⟨e, k, n'⟩)⟩) : callP P m f (.own i k xs :: rest) K := by
  subst he
  have hok : EmbOk m [] [i] ⟨[], [some ⟨e, k, n⟩]⟩ := by
    refine ⟨by simp, by simp, rfl, rfl, fun k j hj => by simp at hj, fun a j hj => ?_⟩
    cases a with
    | zero => simp at hj; subst hj; exact ⟨_, rfl, hr⟩
    | succ a => simp at hj
  refine callP_emb [] [i] hok (args' := .own i k xs1 :: rest1) (cos_cons (co_refl _) hc) ?_ hp fun _ => ?_
  · unfold rens ren
    rw [rens_pur rest1 p1]
    rfl
  · have e1 : ren (num [] m.box.length) (num [i] m.row.length) (.own 0 k ys) = .own i k ys := by unfold ren num; simp
    have e2 : embM m [] [i] ⟨[], [some ⟨e, k, n'⟩]⟩ = ⟨m.box, m.row.set i (some ⟨e, k, n'⟩)⟩ := by unfold embM; simp [setAll]
    rw [e1, e2]
    exact hk
/-- a call that hands back a new row -/
theorem callP_new {f : Nat} {k n : Nat} {e : TypeId} {ys : List (List DV)} {rest rest1 : List AV} {K : AV → Mem → Prop} (hc : Cos rest rest1) (p1 : purAs rest1 = true)
    (hp : PFun P f rest1 nom (.own 0 k ys) ⟨[], [some ⟨e, k, n⟩]⟩) (hk : K (.own m.row.length k ys) ⟨m.box, m.row ++ [some ⟨e, k, n⟩]⟩) : callP P m f rest K := by
  have hok : EmbOk m [] [] nom := ⟨by simp, by simp, rfl, rfl, fun k j hj => by simp at hj, fun a j hj => by simp at hj⟩
  refine callP_emb [] [] hok (args' := rest1) hc ?_ hp fun _ => ?_
  · rw [rens_pur rest1 p1]
  · have e1 : ren (num [] m.box.length) (num [] m.row.length) (.own 0 k ys) = .own m.row.length k ys := by unfold ren num; simp
    have e2 : embM m [] [] ⟨[], [some ⟨e, k, n⟩]⟩ = ⟨m.box, m.row ++ [some ⟨e, k, n⟩]⟩ := by unfold embM; simp [setAll]
    rw [e1, e2]
    exact hk
/-- a loop of few rounds -/
def roundsP (P : Program) (c : Code) (Q : Exit → St → Prop) : Nat → St → Prop
  | 0, _ => False
  | n + 1, s => PW P c (thenP (roundsP P c Q n) Q) s
theorem rounds_sound {c : Code} {Q : Exit → St → Prop} {G0 : Gh} {s0 : St} {w0 : World} : ∀ (n : Nat) (s : St) (G : Gh) (a : Act) (w : World), roundsP P c Q n s → StR G s a w → Ev G0 s0.m w0 G s.m w → Code.rounds P c (fun e a' w' => ∃ G' s', StR G' s' a' w' ∧ Ev G0 s0.m w0 G' s'.m w' ∧ Q e s') n a w
  | 0, _, _, _, _, h, _, _ => h.elim
  | n + 1, s, G, a, w, h, hs, hev => by
    refine wp_mono (h G a w hs) fun e a' w' ⟨G', s', q1, q2, q3⟩ => ?_
    cases e <;> simp only [Exit.then] <;> simp only [thenP] at q3
    case normal => exact rounds_sound n s' G' a' w' q3 q1 (hev.trans q2)
    all_goals exact ⟨G', s', q1, hev.trans q2, q3⟩
theorem PW.rounds {id : Nat} (n : Nat) {c : Code} {Q : Exit → St → Prop} {s : St} (h : roundsP P c (blockP id Q) n s) : PW P (.loop c) (blockP id Q) s := fun G a w hs =>
  wp_loop_rounds n (rounds_sound n s G a w h hs (.refl _ _ _))
theorem rounds_more {n : Nat} {c : Code} {Q : Exit → St → Prop} {s : St} (h : ∀ K : St → Prop, (∀ s', roundsP P c Q n s' → K s') → PW P c (thenP K Q) s) : roundsP P c Q (n + 1) s := h _ fun _ h => h
end
end PM
end Go.Proofs.YthaekefdadccaaaDoor
namespace Go.Proofs.YthaekefdadccaaaDoor
open Go.RowKit
namespace PM
/-- a value that stands if the guard is met -/
def mrg (c : Bool) (x : AV) : AV := if c = true then x else .tup []
theorem mrg_t (x : AV) : mrg true x = x := rfl
theorem mrg_f (x : AV) : mrg false x = .tup [] := rfl
theorem pick_or (b y : Bool) : (if b = true then AV.d (.bool true) else mrg (!b) (.d (.bool y))) = .d (.bool (b || y)) := by cases b <;> rfl
theorem pick_and (b y : Bool) : (if b = true then mrg b (.d (.bool y)) else AV.d (.bool false)) = .d (.bool (b && y)) := by cases b <;> rfl
theorem pick_or' (b y : Bool) : (if b = true then AV.d (.bool true) else AV.d (.bool y)) = .d (.bool (b || y)) := by cases b <;> rfl
theorem pick_and' (b y : Bool) : (if b = true then AV.d (.bool y) else AV.d (.bool false)) = .d (.bool (b && y)) := by cases b <;> rfl
section
variable {P : Program} {ops : Array Oper} {rest : List Oper} {K : St → Prop} {s : St}
theorem opsP_consG {d : Nat} {op : Op} {ty : TypeId} {pos : String} {after : Array Edge} {j : Nat} {want : Bool} {_dj : Nat} {c : Bool} {r : AV}
    (hw : ∀ A B : Prop, (c = true → A) → (c = false → B) → wantP ops s ⟨some d, op, ty, pos, after, some (j, want)⟩ A B)
    (hA : c = true → opP P s.eval s.m ⟨some d, op, ty, pos, after, some (j, want)⟩ fun r' m' => r' = r ∧ m' = s.m)
    (hK : ∀ K' : St → Prop, (∀ s', opsP P ops rest K s' → K' s') → K' (s.put (some d) (mrg c r))) : opsP P ops (⟨some d, op, ty, pos, after, some (j, want)⟩ :: rest) K s := by
  refine opsP_cons fun K' hK' => ?_
  have hk := hK K' hK'
  refine hw _ _ (fun h => ?_) (fun h => ?_)
  · unfold mrg at hk
    rw [if_pos h] at hk
    refine opP_mono (fun r' m' hr => ?_) (hA h)
    obtain ⟨rfl, rfl⟩ := hr
    exact hk
  · unfold mrg at hk
    rw [if_neg (by rw [h]; simp)] at hk
    exact hk
variable {d : Nat} {op : Op} {ty : TypeId} {pos : String} {after : Array Edge} {j : Nat} {dj : Nat} {b c : Bool} {r : AV}
theorem opsP_consMt (hj : (ops[j]?).bind (·.dst) = some dj) (hb : s.t dj = .d (.bool b))
    (hA : b = true → opP P s.eval s.m ⟨some d, op, ty, pos, after, some (j, true)⟩ fun r' m' => r' = r ∧ m' = s.m)
    (hK : ∀ K' : St → Prop, (∀ s', opsP P ops rest K s' → K' s') → K' (s.put (some d) (mrg b r))) : opsP P ops (⟨some d, op, ty, pos, after, some (j, true)⟩ :: rest) K s :=
  opsP_consG (c := b) (_dj := dj) (fun A B hA hB => by
    unfold wantP
    simp only [hj, hb]
    exact ⟨hA, fun h => hB (by cases b <;> simp_all)⟩) hA hK
theorem opsP_consMf (hj : (ops[j]?).bind (·.dst) = some dj) (hb : s.t dj = .d (.bool b))
    (hA : (!b) = true → opP P s.eval s.m ⟨some d, op, ty, pos, after, some (j, false)⟩ fun r' m' => r' = r ∧ m' = s.m)
    (hK : ∀ K' : St → Prop, (∀ s', opsP P ops rest K s' → K' s') → K' (s.put (some d) (mrg (!b) r))) : opsP P ops (⟨some d, op, ty, pos, after, some (j, false)⟩ :: rest) K s :=
  opsP_consG (c := !b) (_dj := dj) (fun A B hA hB => by
    unfold wantP
    simp only [hj, hb]
    exact ⟨fun h => hA (by simp [h]), fun h => hB (by cases b <;> simp_all)⟩) hA hK
theorem opsP_consNt (hj : (ops[j]?).bind (·.dst) = some dj) (hb : s.t dj = mrg c (.d (.bool b)))
    (hA : (c && b) = true → opP P s.eval s.m ⟨some d, op, ty, pos, after, some (j, true)⟩ fun r' m' => r' = r ∧ m' = s.m)
    (hK : ∀ K' : St → Prop, (∀ s', opsP P ops rest K s' → K' s') → K' (s.put (some d) (mrg (c && b) r))) : opsP P ops (⟨some d, op, ty, pos, after, some (j, true)⟩ :: rest) K s :=
  opsP_consG (c := c && b) (_dj := dj) (fun A B hA hB => by
    unfold wantP
    simp only [hj, hb]
    cases c with
    | true => rw [mrg_t]; exact ⟨fun h => hA (by simp [h]), fun h => hB (by cases b <;> simp_all)⟩
    | false => rw [mrg_f]; exact hB rfl) hA hK
theorem opsP_consNf (hj : (ops[j]?).bind (·.dst) = some dj) (hb : s.t dj = mrg c (.d (.bool b)))
    (hA : (c && !b) = true → opP P s.eval s.m ⟨some d, op, ty, pos, after, some (j, false)⟩ fun r' m' => r' = r ∧ m' = s.m)
    (hK : ∀ K' : St → Prop, (∀ s', opsP P ops rest K s' → K' s') → K' (s.put (some d) (mrg (c && !b) r))) : opsP P ops (⟨some d, op, ty, pos, after, some (j, false)⟩ :: rest) K s :=
  opsP_consG (c := c && !b) (_dj := dj) (fun A B hA hB => by
    unfold wantP
    simp only [hj, hb]
    cases c with
    | true => rw [mrg_t]; exact ⟨fun h => hA (by simp [h]), fun h => hB (by cases b <;> simp_all)⟩
    | false => rw [mrg_f]; exact hB rfl) hA hK
end
theorem subM_row1 {bx : List (Option (TypeId × List AV))} {i : RowI} {r : List (Option RowI)} : SubM ⟨bx, some i :: r⟩ ⟨[], [some i]⟩ := by
  refine ⟨by simp, by simp, fun j e cs hj => by simp at hj, fun j x hj => ?_⟩
  cases j with
  | zero => exact hj
  | succ j => simp at hj
theorem keep_hd (b : Option (TypeId × List AV)) (bx bx' : List (Option (TypeId × List AV))) (r r' : List (Option RowI)) : keepL [0] ⟨b :: bx, r⟩ ⟨b :: bx', r'⟩ := fun id h => by
  obtain rfl := List.mem_singleton.1 h
  rfl
theorem fd24 (n : Int) : n.fdiv 16777216 = n / 16777216 := Int.fdiv_eq_ediv_of_nonneg _ (by decide)
theorem fd16 (n : Int) : n.fdiv 65536 = n / 65536 := Int.fdiv_eq_ediv_of_nonneg _ (by decide)
theorem fd8 (n : Int) : n.fdiv 256 = n / 256 := Int.fdiv_eq_ediv_of_nonneg _ (by decide)
theorem fd0 (n : Int) : n.fdiv 1 = n := by rw [Int.fdiv_eq_ediv_of_nonneg _ (by decide)]; exact Int.ediv_one n
end PM
end Go.Proofs.YthaekefdadccaaaDoor
namespace Go.Proofs.YthaekefdadccaaaDoor
open Go.RowKit
namespace PM
def G0 : Gh := ⟨fun _ => 0, fun _ => none, fun _ => 0, fun _ _ => False⟩
theorem memR_G0 (w : World) : MemR G0 nom w := ⟨fun b o h => h.elim, fun id e cs h => by simp [nom] at h, fun r i h => by simp [nom] at h, fun i j x y h => by simp [nom] at h, fun i j x y g h => by simp [nom] at h, fun i j x y h => by simp [nom] at h⟩
theorem na_G0 {G : Gh} (h : G.av = G0.av) {b o : Nat} : ¬ NA G nom b o := by
  rintro (h1 | ⟨id, e, cs, h1, -⟩ | ⟨r, i, h1, -⟩)
  · rw [h] at h1; exact h1
  · simp [nom] at h1
  · simp [nom] at h1
/-- nothing is hidden -/
theorem relD_plain {G : Gh} (_hG : G.av = G0.av) {w : World} {x : DV} {v : Value} (h : RelA G nom w (.d x) v) : RelD (fun _ _ => False) w x v := RelD.mono (Pre.same fun _b _o h => h.elim) x v h.dat
theorem relA_plain {w : World} {x : DV} {v : Value} (h : RelD (fun _ _ => False) w x v) : RelA G0 nom w (.d x) v := relA_d (RelD.mono (Pre.same fun _b _o h => absurd h (na_G0 rfl)) x v h)
theorem calls_of_pure {P : Program} {f : Nat} {fn : Func} {c : Code} (hf : P.funcs[f]? = some fn) (hname : (fn.name == "runtime.NumGoroutine") = false) (hb : fn.body = some c) {args : List AV} {r : AV} {vs : List Value} {w : World} (h : Pure P f args r) (ha : RelAs G0 nom w args vs) :
    Calls P f vs.toArray w fun e w' => ∃ v G', e = .returned v ∧ Below w.heap.size w w' ∧ G'.av = G0.av ∧ RelA G' nom w' r v := by
  have h1 := h G0 w vs (memR_G0 w) ha
  have hcall : (callFunc f vs.toArray).run P w = .ok (.enter f vs.toArray) w := by
    have h1 : fn.name ≠ "runtime.NumGoroutine" := by simpa using hname
    simp [callFunc, hf, h1, hb]
  unfold Runs at h1
  rw [hcall] at h1
  exact h1.mono fun e w' ⟨v, h2, G', h3, h4, h5⟩ => ⟨v, G', h2, h4.below, h4.av, h5⟩
/-- bytes -/
theorem relB {w : World} {v : Value} {l : List Int} (h : IsB w v l) : RelA G0 nom w (.d (.sl 1 (encB l))) v := relA_plain (isB_relD h fun _ _ _ _ h => h)
/-- elements of any shape -/
theorem relL {α : Type} {k : Nat} {R : World → List Value → α → Prop} {en : α → List DV} {w : World} {v : Value} {l : List α} (h : IsL k R w v l) (he : ∀ cs x, R w cs x → (en x).length = k ∧ ∀ (i : Nat) d, (en x)[i]? = some d → ∃ u, cs[i]? = some u ∧ RelD (fun _ _ => False) w d u) : RelA G0 nom w (.d (.sl k (l.map en))) v := by
  obtain ⟨ao, cap, hv, h1, h2, h3, h4⟩ := h
  refine relA_plain ?_
  unfold RelD
  refine ⟨ao, cap, by rw [hv, List.length_map], by rw [List.length_map]; exact h1, h2, fun hn => ⟨by rw [(h3 hn).1]; rfl, (h3 hn).2⟩, fun a ha hp => ?_⟩
  rw [List.length_map] at hp
  obtain ⟨x0, hx0⟩ : ∃ x, l[0]? = some x := ⟨_, List.getElem?_eq_getElem hp⟩
  obtain ⟨b, o, cs, q1, q2, q3, q4, q5⟩ := h4 0 x0 hx0
  rw [ha] at q1
  obtain rfl : a = ⟨b, o, none⟩ := Option.some.inj q1
  refine ⟨rfl, ?_⟩
  have key : ∀ (m : List α) (j : Nat), (∀ (i : Nat) x, m[i]? = some x → l[j + i]? = some x) → RelR (fun _ _ => False) w k b (o + j * k) (m.map en) := by
    intro m
    induction m with
    | nil => intro j hj; unfold List.map RelR; trivial
    | cons x m ih =>
      intro j hj
      obtain ⟨b', o', cs', r1, r2, r3, r4, r5⟩ := h4 j x (hj 0 x rfl)
      rw [ha] at r1
      simp only [Option.some.injEq, Addr.mk.injEq, and_true] at r1
      obtain ⟨rfl, rfl⟩ := r1
      obtain ⟨t1, t2⟩ := he cs' x r5
      rw [List.map_cons]
      unfold RelR
      refine ⟨t1, (relC_iff _ _).2 fun i d hd => ?_, ?_⟩
      · obtain ⟨u, hu, hr⟩ := t2 i d hd
        exact ⟨u, r4 i u hu, fun h => h, hr⟩
      · have := ih (j + 1) fun i x hx => by rw [Nat.add_assoc, Nat.add_comm 1 i]; exact hj (i + 1) x hx
        rw [Nat.succ_mul, ← Nat.add_assoc] at this
        exact this
  have := key l 0 fun i x hx => by rw [Nat.zero_add]; exact hx
  rwa [Nat.zero_mul, Nat.add_zero] at this
end PM
end Go.Proofs.YthaekefdadccaaaDoor
namespace Go.Proofs.YthaekefdadccaaaDoor
open Go.RowKit
open Go.ChangeMaps (setBlock)
namespace PM
section
variable {P : Program} {G : Gh} {m : Mem} {w w' : World} {N : No}
mutual
/-- what is there to be looked at stays: so does what is shown -/
theorem RelA.pre (h : Pre (NA G m) w (NA G m) w') : ∀ (x : AV) (v : Value), RelA G m w x v → RelA G m w' x v
  | .junk, _, _ => by unfold RelA; trivial
  | .d x, v, hx => by unfold RelA at hx ⊢; exact RelD.mono h x v hx
  | .nils, v, hx => by unfold RelA at hx ⊢; exact hx
  | .own r k xs, v, hx => by
    unfold RelA at hx ⊢
    exact ⟨hx.1, RelD.mono h _ v hx.2.1, hx.2.2⟩
  | .ptr id off, v, hx => by unfold RelA at hx ⊢; exact hx
  | .bsl id off n cap k, v, hx => by unfold RelA at hx ⊢; exact hx
  | .mp id, v, hx => by unfold RelA at hx ⊢; exact hx
  | .cp cs, v, hx => by
    unfold RelA at hx ⊢
    obtain ⟨b, o, h1, h2⟩ := hx
    exact ⟨b, o, h1, RelC.mono h b cs o h2⟩
  | .fn f cap, v, hx => by
    unfold RelA at hx ⊢
    obtain ⟨vs, h1, h2⟩ := hx
    exact ⟨vs, h1, RelAs.pre h cap vs h2⟩
  | .agg cs, v, hx => by
    unfold RelA at hx ⊢
    obtain ⟨vs, h1, h2, h3⟩ := hx
    exact ⟨vs, h1, RelAs.pre h cs vs h2, h3⟩
  | .tup cs, v, hx => by
    unfold RelA at hx ⊢
    obtain ⟨vs, h1, h2⟩ := hx
    exact ⟨vs, h1, RelAs.pre h cs vs h2⟩
theorem RelAs.pre (h : Pre (NA G m) w (NA G m) w') : ∀ (xs : List AV) (vs : List Value), RelAs G m w xs vs → RelAs G m w' xs vs
  | [], vs, hx => by unfold RelAs at hx ⊢; exact hx
  | x :: xs, vs, hx => by
    unfold RelAs at hx ⊢
    obtain ⟨v, vs', h1, h2, h3⟩ := hx
    exact ⟨v, vs', h1, RelA.pre h x v h2, RelAs.pre h xs vs' h3⟩
end
/-- a range that goes on: which entries are still to come, which one came last -/
structure It where
  id : Nat
  ka : Bool
  va : Bool
  ks : List (List DV)
  vs : List (List DV)
  left : List Nat
  last : Option Nat
def It.step (j : It) (i : Nat) : It := { j with left := j.left.filter fun k => k != i, last := some i }
structure ItAt (N : No) (w : World) (j : It) (blk bm : Nat) (es : Array MapEntry) (cl since : Nat) (seen : Array Nat) (c0 : Nat) : Prop where
  it : w.heap[blk]? = some (.mapIter (some bm) since seen c0)
  mp : w.heap[bm]? = some (.map es cl)
  na : ∀ o, ¬ N bm o
  old : ∀ x ∈ es.toList, x.born < since
  s0 : since ≤ c0
  sl : since ≤ cl
  nd : (es.toList.map (·.born)).Nodup
  k : RelV N w j.ka j.ks (es.toList.map (·.key))
  v : RelV N w j.va j.vs (es.toList.map (·.val))
  lf : ∀ i, i ∈ j.left ↔ ∃ e, es[i]? = some e ∧ seen.contains e.born = false
  la : ∀ i, j.last = some i → ∃ e s', es[i]? = some e ∧ seen = Array.push s' e.born ∧ c0 = cl
def ItR (G : Gh) (m : Mem) (w : World) (j : It) : Prop := j.id < m.box.length ∧ ∃ bm es cl since seen c0, ItAt (NA G m) w j (G.bi j.id) bm es cl since seen c0
theorem ItAt.pre {N' : No} {j : It} {blk bm : Nat} {es : Array MapEntry} {cl since : Nat} {seen : Array Nat} {c0 : Nat} (h : ItAt N w j blk bm es cl since seen c0) (hp : Pre N w N' w') (hb : w'.heap[blk]? = w.heap[blk]?) : ItAt N' w' j blk bm es cl since seen c0 :=
  ⟨hb.trans h.it, (hp.map bm es cl h.mp h.na).2, (hp.map bm es cl h.mp h.na).1, h.old, h.s0, h.sl, h.nd, RelV.mono hp _ _ _ h.k, RelV.mono hp _ _ _ h.v, h.lf, h.la⟩
theorem BoxR.noiter {e : TypeId} {vs : List Value} {o : Obj} (h : BoxR e vs o) {a : Option Nat} {b : Nat} {s : Array Nat} {c : Nat} : o ≠ .mapIter a b s c := by
  rintro rfl
  rcases h with ⟨-, h, -⟩ | ⟨-, es, c, h, -⟩ <;> cases h
theorem it_notMut (hm : MemR G m w) {blk : Nat} {a : Option Nat} {b : Nat} {s : Array Nat} {c : Nat} (hi : w.heap[blk]? = some (.mapIter a b s c)) (o : Nat) : ¬ Mut G m blk o := by
  rintro (⟨id, e, cs, h1, rfl⟩ | ⟨r, i, h1, h2, -⟩)
  · obtain ⟨⟨vs, ob, k1, -, k3⟩, -⟩ := hm.box id e cs h1
    rw [hi] at k1
    cases k1
    exact k3.noiter rfl
  · obtain ⟨-, -, h3⟩ := hm.row r i h1
    obtain ⟨⟨cur, k1, -⟩, -⟩ := h3 blk h2
    rw [hi] at k1
    cases k1
theorem ItR.ev {G' : Gh} {m' : Mem} {j : It} (h : ItR G m w j) (hm : MemR G m w) (hev : Ev G m w G' m' w') : ItR G' m' w' j := by
  obtain ⟨h1, bm, es, cl, since, seen, c0, h2⟩ := h
  refine ⟨Nat.lt_of_lt_of_le h1 hev.bl, bm, es, cl, since, seen, c0, ?_⟩
  rw [hev.bi _ h1]
  exact h2.pre hev.pre (hev.fr.block _ (Array.getElem?_eq_some_iff.1 h2.it).1 (it_notMut hm h2.it))
theorem it_pre {blk : Nat} {a a' : Option Nat} {b b' : Nat} {s s' : Array Nat} {c c' : Nat} (hi : w.heap[blk]? = some (.mapIter a b s c)) {w1 : World} (h1 : w1 = w ∨ w1 = w.drew) : Pre N w N (setBlock w1 blk (.mapIter a' b' s' c')) := by
  have e : w1.heap = w.heap := by rcases h1 with rfl | rfl <;> rfl
  have hb : ∀ r, r ≠ blk → (setBlock w1 blk (.mapIter a' b' s' c')).heap[r]? = w.heap[r]? := fun r hr => by
    show (w1.heap.setIfInBounds blk _)[r]? = _
    rw [e, Array.getElem?_setIfInBounds, if_neg (Ne.symm hr)]
  refine ⟨fun r o u hu hn => ⟨hn, ?_⟩, fun r es cl hr hn => ⟨hn, ?_⟩⟩
  · have hne : r ≠ blk := by
      rintro rfl
      unfold World.cell? at hu
      simp only [hi] at hu
      cases hu
    unfold World.cell? at hu ⊢
    simp only [hb r hne]
    exact hu
  · have hne : r ≠ blk := by rintro rfl; rw [hi] at hr; cases hr
    rw [hb r hne, hr]
theorem it_mem (hm : MemR G m w) {blk : Nat} {a a' : Option Nat} {b b' : Nat} {s s' : Array Nat} {c c' : Nat} (hi : w.heap[blk]? = some (.mapIter a b s c)) {w1 : World} (h1 : w1 = w ∨ w1 = w.drew) : MemR G m (setBlock w1 blk (.mapIter a' b' s' c')) := by
  have e : w1.heap = w.heap := by rcases h1 with rfl | rfl <;> rfl
  have hp : Pre (NA G m) w (NA G m) (setBlock w1 blk (.mapIter a' b' s' c')) := it_pre hi h1
  have hb : ∀ r, r ≠ blk → (setBlock w1 blk (.mapIter a' b' s' c')).heap[r]? = w.heap[r]? := fun r hr => by
    show (w1.heap.setIfInBounds blk _)[r]? = _
    rw [e, Array.getElem?_setIfInBounds, if_neg (Ne.symm hr)]
  have hs : (setBlock w1 blk (.mapIter a' b' s' c')).heap.size = w.heap.size := by
    show (w1.heap.setIfInBounds blk _).size = _
    rw [e, Array.size_setIfInBounds]
  refine ⟨fun b o ha => by rw [hs]; exact hm.avlt b o ha, fun id e cs hx => ?_, fun r i hr => ?_, hm.bb, hm.rr, hm.br⟩
  · obtain ⟨⟨vs, ob, k1, k2, k3⟩, k4⟩ := hm.box id e cs hx
    refine ⟨⟨vs, ob, ?_, RelAs.pre hp _ _ k2, k3⟩, k4⟩
    rw [hb _ (by rintro h9; rw [h9, hi] at k1; cases k1; exact k3.noiter rfl)]
    exact k1
  · obtain ⟨k0, k1, k2⟩ := hm.row r i hr
    refine ⟨k0, k1, fun g hg => ?_⟩
    obtain ⟨⟨cur, q1, q2⟩, q3⟩ := k2 g hg
    refine ⟨⟨cur, ?_, q2⟩, q3⟩
    rw [hb _ (by rintro rfl; rw [hi] at q1; cases q1)]
    exact q1
theorem it_ev {G0 : Gh} {m0 : Mem} {w0 : World} (hev : Ev G0 m0 w0 G m w) {blk : Nat} (hlt : w0.heap.size ≤ blk) {o' : Obj} {w1 : World} (h1 : w1 = w ∨ w1 = w.drew) : Ev G0 m0 w0 G m (setBlock w1 blk o') := by
  have e : w1.heap = w.heap := by rcases h1 with rfl | rfl <;> rfl
  have hb : ∀ r, r ≠ blk → (setBlock w1 blk o').heap[r]? = w.heap[r]? := fun r hr => by
    show (w1.heap.setIfInBounds blk _)[r]? = _
    rw [e, Array.getElem?_setIfInBounds, if_neg (Ne.symm hr)]
  have hs : (setBlock w1 blk o').heap.size = w.heap.size := by
    show (w1.heap.setIfInBounds blk _).size = _
    rw [e, Array.size_setIfInBounds]
  refine ⟨hev.av, ⟨?_, ?_, ?_, by rw [hs]; exact hev.fr.size, fun b hb0 hn => ?_, fun b o hb0 hn => ?_⟩, hev.mt, hev.bi, hev.bl, hev.rl, hev.row⟩
  · refine Eq.trans ?_ hev.fr.os
    rcases h1 with rfl | rfl <;> rfl
  · refine Eq.trans ?_ hev.fr.tape
    rcases h1 with rfl | rfl <;> rfl
  · refine Eq.trans ?_ hev.fr.output
    rcases h1 with rfl | rfl <;> rfl
  · rw [hb b (by omega)]; exact hev.fr.block b hb0 hn
  · have := hev.fr.cell b o hb0 hn
    rw [← this]
    unfold World.cell?
    simp only [hb b (by omega)]
theorem relV_get {a : Bool} : ∀ {xs : List (List DV)} {vs : List Value} {i : Nat} {v : Value}, RelV N w a xs vs → vs[i]? = some v → ∃ x us, xs[i]? = some x ∧ v = (if a = true then Value.agg us.toArray else us.headD undef) ∧ (a = false → us.length = 1) ∧ RelL N w x us
  | [], vs, i, v, h, hv => by unfold RelV at h; subst h; simp at hv
  | x :: xs, vs, i, v, h, hv => by
    unfold RelV at h
    obtain ⟨v0, vs', rfl, ⟨us, h1, h2, h3⟩, h4⟩ := h
    cases i with
    | zero => simp at hv; subst hv; exact ⟨x, us, rfl, h1, h2, h3⟩
    | succ i => simp at hv; obtain ⟨y, us', q1, q2⟩ := relV_get h4 hv; exact ⟨y, us', by simpa using q1, q2⟩
theorem opsN_sound {ops : Array Oper} {Q : Exit → Act → World → Prop} {G0 : Gh} {m0 : Mem} {w0 : World} {s0 : St} {G1 : Gh} {w1 : World} (hb0 : Ev G0 m0 w0 G1 s0.m w1) {K : St → Prop} (hQ : ∀ G' s' a' w', StR G' s' a' w' → Ev G1 s0.m w1 G' s'.m w' → Ev G0 m0 w0 G' s'.m w' → K s' → Q .normal a' w') (l : List Oper) (a : Act) (h : opsP P ops l K s0) (hs : StR G1 s0 a w1) : wpList P ops Q l a w1 :=
  ops_sound (s0 := s0) (G0 := G1) (w0 := w1) (K := K) (fun G' s' a' w' k1 k2 k3 => hQ G' s' a' w' k1 k2 (hb0.trans k2) k3) l s0 G1 a w1 h hs (.refl _ _ _)
/-- what holds behind a code that may go on with a range -/
def PWJ (P : Program) (c : Code) (Q : Exit → St → It → Prop) (s : St) (j : It) : Prop := ∀ G0 m0 w0 G a w, StR G s a w → ItR G s.m w j → Ev G0 m0 w0 G s.m w → w0.heap.size ≤ G.bi j.id →
  c.wp P (fun e a' w' => ∃ G' s' j', StR G' s' a' w' ∧ ItR G' s'.m w' j' ∧ Ev G0 m0 w0 G' s'.m w' ∧ Ev G0 m0 w0 G' s'.m w' ∧ s.m.box.length ≤ s'.m.box.length ∧ s.m.row.length ≤ s'.m.row.length ∧ w0.heap.size ≤ G'.bi j'.id ∧ j'.id = j.id ∧ Q e s' j') a w
def thenJ (K : St → It → Prop) (Q : Exit → St → It → Prop) : Exit → St → It → Prop
  | .normal, s, j => K s j
  | e, s, j => Q e s j
def blockJ (id : Nat) (Q : Exit → St → It → Prop) : Exit → St → It → Prop
  | .exit id', s, j => if id' = id then Q .normal s j else Q (.exit id') s j
  | e, s, j => Q e s j
theorem PWJ.of {c : Code} {Q : Exit → St → It → Prop} {s : St} {j : It} (h : PW P c (fun e s' => Q e s' j) s) : PWJ P c Q s j := fun G0 m0 w0 G a w hs hi hev hb =>
  wp_mono (h G a w hs) fun e a' w' ⟨G', s', k1, k2, k3⟩ => ⟨G', s', j, k1, hi.ev hs.mem k2, hev.trans k2, hev.trans k2, k2.bl, k2.rl, by rw [k2.bi _ hi.1]; exact hb, rfl, k3⟩
theorem PWJ.seq {x y : Code} {Q : Exit → St → It → Prop} {s : St} {j : It} (h : PWJ P x (thenJ (fun s' j' => PWJ P y Q s' j') Q) s j) : PWJ P (.seq x y) Q s j := fun G0 m0 w0 G a w hs hi hev hb => by
  refine wp_seq (wp_mono (h G0 m0 w0 G a w hs hi hev hb) fun e a' w' ⟨G', s', j', k1, k2, k3, _, l1, l2, k4, k5, k6⟩ => ?_)
  cases e <;> simp only [Exit.then] <;> simp only [thenJ] at k6
  case normal => exact wp_mono (k6 G0 m0 w0 G' a' w' k1 k2 k3 k4) fun e a'' w'' ⟨G'', s'', j'', q1, q2, q3, q4, l3, l4, q5, q6, q7⟩ => ⟨G'', s'', j'', q1, q2, q3, q4, Nat.le_trans l1 l3, Nat.le_trans l2 l4, q5, q6.trans k5, q7⟩
  all_goals exact ⟨G', s', j', k1, k2, k3, k3, l1, l2, k4, k5, k6⟩
theorem PWJ.block {id : Nat} {c : Code} {Q : Exit → St → It → Prop} {s : St} {j : It} (h : PWJ P c (blockJ id Q) s j) : PWJ P (.block id c) Q s j := fun G0 m0 w0 G a w hs hi hev hb => by
  refine wp_block (wp_mono (h G0 m0 w0 G a w hs hi hev hb) fun e a' w' ⟨G', s', j', k1, k2, k3, _, l1, l2, k4, k5, k6⟩ => ?_)
  cases e <;> simp only [Exit.inBlock] <;> simp only [blockJ] at k6
  case exit id' =>
    split
    · rename_i e; rw [if_pos e] at k6; exact ⟨G', s', j', k1, k2, k3, k3, l1, l2, k4, k5, k6⟩
    · rename_i e; rw [if_neg e] at k6; exact ⟨G', s', j', k1, k2, k3, k3, l1, l2, k4, k5, k6⟩
  all_goals exact ⟨G', s', j', k1, k2, k3, k3, l1, l2, k4, k5, k6⟩
theorem PWJ.cond {c : Operand} {x y : Code} {Q : Exit → St → It → Prop} {s : St} {j : It} {b : Bool} (hc : s.eval c = .d (.bool b)) (ht : b = true → PWJ P x Q s j) (hf : b = false → PWJ P y Q s j) : PWJ P (.cond c x y) Q s j := fun G0 m0 w0 G a w hs hi hev hb => by
  have he := hs.ev c
  rw [hc] at he
  exact wp_cond_split he.bool (fun h => ht h G0 m0 w0 G a w hs hi hev hb) (fun h => hf h G0 m0 w0 G a w hs hi hev hb)
/-- the step of a range: nothing is left, or one of those that are left, whichever -/
theorem PWJ.next {id d : Nat} {it : Operand} {ty : TypeId} {pos : String} {after : Array Edge} {rest : List Oper} {Q : Exit → St → It → Prop} {s : St} {j : It} (hit : s.eval it = .ptr j.id 0)
    (h0 : (∀ i, i ∉ j.left) → opsP P (⟨some d, .next it false, ty, pos, after, none⟩ :: rest).toArray rest (fun s' => Q .normal s' j) (s.put (some d) (.tup [.d (.bool false)])))
    (h1 : ∀ i k v, i ∈ j.left → j.ks[i]? = some k → j.vs[i]? = some v → opsP P (⟨some d, .next it false, ty, pos, after, none⟩ :: rest).toArray rest (fun s' => Q .normal s' (j.step i)) (s.put (some d) (.tup [.d (.bool true), cellsV j.ka k, cellsV j.va v]))) :
    PWJ P (.region id (⟨some d, .next it false, ty, pos, after, none⟩ :: rest).toArray false) Q s j := fun G0 m0 w0 G a w hs hi hev hb => by
  obtain ⟨h2, bm, es, cl, since, seen, c0, hA⟩ := hi
  refine wp_region_lit ?_
  generalize (⟨some d, .next it false, ty, pos, after, none⟩ :: rest : List Oper).toArray = ops at h0 h1 ⊢
  have hv : a.eval it = .pointer (some ⟨G.bi j.id, 0, none⟩) := by
    have := hs.ev it
    rw [hit] at this
    unfold RelA at this
    exact this.2
  refine wpList_plain rfl fun K hK => ?_
  unfold Oper.wp
  have hex : ∀ v w', (Instr.next (.pointer (some ⟨G.bi j.id, 0, none⟩)) false ty).run P w = .ok v w' → (execOp a.eval ⟨some d, .next it false, ty, pos, after, none⟩).run P w = .ok (.value v) w' := fun v w' hr => by
    simp only [execOp, hv, Sem.run_bind, hr, Result.andThen]
    rfl
  rcases run_next_at (P := P) w ty (G.bi j.id) bm since c0 seen es cl hA.it hA.mp hA.old hA.s0 with ⟨hz, hr⟩ | ⟨e, he, w1, hw1, hr⟩
  · rw [hex _ _ hr, Oper.upon_value]
    refine hK _ _ ?_
    have hno : ∀ i, i ∉ j.left := fun i hm => by
      obtain ⟨e, q1, q2⟩ := (hA.lf i).1 hm
      have : e ∈ (leftOf es seen).toList := by
        unfold leftOf
        rw [Array.toList_filter, List.mem_filter]
        exact ⟨List.mem_of_getElem? (by rw [Array.getElem?_toList]; exact q1), by rw [q2]; rfl⟩
      have := List.length_pos_of_mem this
      rw [Array.length_toList] at this
      omega
    have hput := hs.put hs.mem (.refl _ _ _) (r := .tup [.d (.bool false)]) (v := .tuple #[.bool false]) (by unfold RelA; exact ⟨[.bool false], rfl, RelAs.cons relA_bool RelAs.nil⟩) (some d)
    have hmm := put_m s (some d) (.tup [.d (.bool false)])
    refine opsN_sound (s0 := s.put (some d) (.tup [.d (.bool false)])) (by rw [hmm.1]; exact hev) (fun G' s' a' w' k1 k2 k3 k4 => ?_) rest _ (h0 hno) hput
    rw [hmm.1] at k2
    have hi2 : ItR G s.m w j := ⟨h2, bm, es, cl, since, seen, c0, hA⟩
    exact ⟨G', s', j, k1, hi2.ev hs.mem k2, k3, k3, k2.bl, k2.rl, by rw [k2.bi _ h2]; exact hb, rfl, k4⟩
  · rw [hex _ _ hr, Oper.upon_value]
    refine hK _ _ ?_
    have hel : e ∈ es.toList ∧ seen.contains e.born = false := by
      unfold leftOf at he
      rw [Array.toList_filter, List.mem_filter] at he
      exact ⟨he.1, by simpa using he.2⟩
    obtain ⟨i, hi⟩ := List.getElem?_of_mem hel.1
    have hi' : es[i]? = some e := by rw [← Array.getElem?_toList]; exact hi
    have hil : i ∈ j.left := (hA.lf i).2 ⟨e, hi', hel.2⟩
    obtain ⟨k, us, q1, q2⟩ := relV_get hA.k (show (es.toList.map (·.key))[i]? = some e.key by rw [List.getElem?_map, hi]; rfl)
    obtain ⟨v, us', q3, q4⟩ := relV_get hA.v (show (es.toList.map (·.val))[i]? = some e.val by rw [List.getElem?_map, hi]; rfl)
    have hpre : Pre (NA G s.m) w (NA G s.m) (setBlock w1 (G.bi j.id) (.mapIter (some bm) since (seen.push e.born) cl)) := it_pre hA.it hw1
    have hmem : MemR G s.m (setBlock w1 (G.bi j.id) (.mapIter (some bm) since (seen.push e.born) cl)) := it_mem hs.mem hA.it hw1
    have hsz : w1.heap.size = w.heap.size := by rcases hw1 with rfl | rfl <;> rfl
    have hblk : (setBlock w1 (G.bi j.id) (.mapIter (some bm) since (seen.push e.born) cl)).heap[G.bi j.id]? = some (.mapIter (some bm) since (seen.push e.born) cl) := by
      show (w1.heap.setIfInBounds _ _)[_]? = _
      rw [Array.getElem?_setIfInBounds, if_pos rfl, if_pos (by rw [hsz]; exact (Array.getElem?_eq_some_iff.1 hA.it).1)]
    have hAn : ItAt (NA G s.m) (setBlock w1 (G.bi j.id) (.mapIter (some bm) since (seen.push e.born) cl)) (j.step i) (G.bi j.id) bm es cl since (seen.push e.born) cl := by
      have hmp := hpre.map bm es cl hA.mp hA.na
      refine ⟨hblk, hmp.2, hmp.1, hA.old, hA.sl, hA.sl, hA.nd, RelV.mono hpre _ _ _ hA.k, RelV.mono hpre _ _ _ hA.v, fun i2 => ?_, fun i2 h9 => ?_⟩
      · show i2 ∈ j.left.filter (fun k => k != i) ↔ _
        rw [List.mem_filter, hA.lf]
        constructor
        · rintro ⟨⟨e2, p1, p2⟩, p3⟩
          refine ⟨e2, p1, ?_⟩
          have hne : e2.born ≠ e.born := fun hq => by
            have hi2 : i2 = i := by
              have n1 : (es.toList.map (·.born))[i2]? = some e2.born := by rw [List.getElem?_map, Array.getElem?_toList, p1]; rfl
              have n2 : (es.toList.map (·.born))[i]? = some e2.born := by rw [List.getElem?_map, hi, hq]; rfl
              exact nodup_get hA.nd n1 n2
            simp [hi2] at p3
          rw [Array.contains_push, p2, Bool.false_or]
          simpa [beq_eq_false_iff_ne] using fun h => hne h
        · rintro ⟨e2, p1, p2⟩
          rw [Array.contains_push, Bool.or_eq_false_iff] at p2
          refine ⟨⟨e2, p1, p2.1⟩, ?_⟩
          have hne : i2 ≠ i := fun hq => by
            subst hq
            rw [p1] at hi'
            cases hi'
            simp at p2
          simpa using hne
      · have : i2 = i := by cases h9; rfl
        subst this
        exact ⟨e, seen, hi', rfl, rfl⟩
    have hst : StR G s a (setBlock w1 (G.bi j.id) (.mapIter (some bm) since (seen.push e.born) cl)) := ⟨hmem, fun i => RelA.pre hpre _ _ (hs.t i), hs.n, hs.df⟩
    have hput := hst.put hst.mem (.refl _ _ _) (r := .tup [.d (.bool true), cellsV j.ka k, cellsV j.va v]) (v := .tuple #[.bool true, e.key, e.val]) (by
      unfold RelA
      exact ⟨[.bool true, e.key, e.val], rfl, RelAs.cons relA_bool (RelAs.cons (RelA.pre hpre _ _ (cellsV_rel ⟨us, q2⟩)) (RelAs.cons (RelA.pre hpre _ _ (cellsV_rel ⟨us', q4⟩)) RelAs.nil))⟩) (some d)
    have hmm := put_m s (some d) (.tup [.d (.bool true), cellsV j.ka k, cellsV j.va v])
    have hev2 := it_ev hev hb (o' := .mapIter (some bm) since (seen.push e.born) cl) hw1
    refine opsN_sound (s0 := s.put (some d) (.tup [.d (.bool true), cellsV j.ka k, cellsV j.va v])) (by rw [hmm.1]; exact hev2) (fun G' s' a' w' k1 k2 k3 k4 => ?_) rest _ (h1 i k v hil q1 q3) hput
    rw [hmm.1] at k2
    have hi2 : ItR G s.m (setBlock w1 (G.bi j.id) (.mapIter (some bm) since (seen.push e.born) cl)) (j.step i) := ⟨h2, bm, es, cl, since, _, cl, hAn⟩
    exact ⟨G', s', j.step i, k1, hi2.ev hmem k2, k3, k3, k2.bl, k2.rl, by rw [show (j.step i).id = j.id from rfl, k2.bi _ h2]; exact hb, rfl, k4⟩
/-- the round's key and value -/
theorem PWJ.entry {id d : Nat} {it : Operand} {ty : TypeId} {pos : String} {after : Array Edge} {rest : List Oper} {Q : Exit → St → It → Prop} {s : St} {j : It} {i : Nat} {k v : List DV} (hit : s.eval it = .ptr j.id 0) (hl : j.last = some i) (hk : j.ks[i]? = some k) (hv : j.vs[i]? = some v)
    (h : opsP P (⟨some d, .entry it, ty, pos, after, none⟩ :: rest).toArray rest (fun s' => Q .normal s' j) (s.put (some d) (.tup [cellsV j.ka k, cellsV j.va v]))) :
    PWJ P (.region id (⟨some d, .entry it, ty, pos, after, none⟩ :: rest).toArray false) Q s j := fun G0 m0 w0 G a w hs hi hev hb => by
  obtain ⟨h2, bm, es, cl, since, seen, c0, hA⟩ := hi
  refine wp_region_lit ?_
  generalize (⟨some d, .entry it, ty, pos, after, none⟩ :: rest : List Oper).toArray = ops at h ⊢
  have hv' : a.eval it = .pointer (some ⟨G.bi j.id, 0, none⟩) := by
    have := hs.ev it
    rw [hit] at this
    unfold RelA at this
    exact this.2
  obtain ⟨e, s', he, rfl, rfl⟩ := hA.la i hl
  have hel : es.toList[i]? = some e := by rw [Array.getElem?_toList]; exact he
  have hr := run_entry_at (P := P) w (G.bi j.id) bm since s' es _ e hA.it hA.mp (List.mem_of_getElem? hel) hA.nd
  have hex : (execOp a.eval ⟨some d, .entry it, ty, pos, after, none⟩).run P w = .ok (.value (.tuple #[e.key, e.val])) w := by
    simp only [execOp, hv', Sem.run_bind, hr, Result.andThen]
    rfl
  refine wpList_plain rfl fun K hK => ?_
  unfold Oper.wp
  rw [hex, Oper.upon_value]
  refine hK _ _ ?_
  obtain ⟨k', us, q1, q2⟩ := relV_get hA.k (show (es.toList.map (·.key))[i]? = some e.key by rw [List.getElem?_map, hel]; rfl)
  obtain ⟨v', us', q3, q4⟩ := relV_get hA.v (show (es.toList.map (·.val))[i]? = some e.val by rw [List.getElem?_map, hel]; rfl)
  rw [hk] at q1
  rw [hv] at q3
  cases q1
  cases q3
  have hput := hs.put hs.mem (.refl _ _ _) (r := .tup [cellsV j.ka k, cellsV j.va v]) (v := .tuple #[e.key, e.val]) (by
    unfold RelA
    exact ⟨[e.key, e.val], rfl, RelAs.cons (cellsV_rel ⟨us, q2⟩) (RelAs.cons (cellsV_rel ⟨us', q4⟩) RelAs.nil)⟩) (some d)
  have hmm := put_m s (some d) (.tup [cellsV j.ka k, cellsV j.va v])
  refine opsN_sound (s0 := s.put (some d) (.tup [cellsV j.ka k, cellsV j.va v])) (by rw [hmm.1]; exact hev) (fun G' s2 a' w' k1 k2 k3 k4 => ?_) rest _ h hput
  rw [hmm.1] at k2
  have hi2 : ItR G s.m w j := ⟨h2, bm, es, _, since, _, _, hA⟩
  exact ⟨G', s2, j, k1, hi2.ev hs.mem k2, k3, k3, k2.bl, k2.rl, by rw [k2.bi _ h2]; exact hb, rfl, k4⟩
theorem na_cut {nb nr : Nat} {b o : Nat} (h : NA G (m.cut nb nr) b o) : NA G m b o := na_sub (fun j e cs hh => let ⟨cs', h1, _⟩ := cut_box hh; ⟨cs', h1⟩) (fun j x hh => cut_row hh) h
theorem ItR.cut {j : It} (h : ItR G m w j) {nb nr : Nat} (hb : nb ≤ m.box.length) (hr : nr ≤ m.row.length) (hj : j.id < nb) : ItR G (m.cut nb nr) w j := by
  obtain ⟨h1, bm, es, cl, since, seen, c0, h2⟩ := h
  exact ⟨by rw [(cut_len hb hr).1]; exact hj, bm, es, cl, since, seen, c0, h2.pre (Pre.same fun b o h3 => na_cut h3) rfl⟩
/-- a loop's rounds of a range -/
theorem PWJ.loop {c : Code} {Q : Exit → St → It → Prop} {s : St} {j : It} (I : Nat → St → It → Prop) (n0 : Nat) (h0 : I n0 s j)
    (round : ∀ n s' j', I n s' j' → s'.m.box.length = s.m.box.length → s'.m.row.length = s.m.row.length → j'.id = j.id → PWJ P c (thenJ (fun s2 j2 => ∃ n', n' < n ∧ I n' (s2.cut s.m.box.length s.m.row.length) j2) Q) s' j') : PWJ P (.loop c) Q s j := fun G0 m0 w0 G a w hs hi hev hb => by
  have hlj := hi.1
  refine wp_loop_ghost (fun n a1 w1 => ∃ G1 s1 j1, StR G1 s1 a1 w1 ∧ ItR G1 s1.m w1 j1 ∧ Ev G0 m0 w0 G1 s1.m w1 ∧ w0.heap.size ≤ G1.bi j1.id ∧ j1.id = j.id ∧ I n s1 j1 ∧ s1.m.box.length = s.m.box.length ∧ s1.m.row.length = s.m.row.length) n0 ⟨G, s, j, hs, hi, hev, hb, rfl, h0, rfl, rfl⟩ ?_
  rintro n a1 w1 ⟨G1, s1, j1, k1, k2, k3, k4, k5, k6, k7, k8⟩
  refine wp_mono (round n s1 j1 k6 k7 k8 k5 G0 m0 w0 G1 a1 w1 k1 k2 k3 k4) fun e a2 w2 ⟨G2, s2, j2, q1, q2, q3, _, l1, l2, q4, q5, q6⟩ => ?_
  have hbl : m0.box.length ≤ s.m.box.length := hev.bl
  have hrl : m0.row.length ≤ s.m.row.length := hev.rl
  have hnb : s.m.box.length ≤ s2.m.box.length := k7 ▸ l1
  have hnr : s.m.row.length ≤ s2.m.row.length := k8 ▸ l2
  obtain ⟨c1, c2⟩ := cut_len hnb hnr
  cases e <;> simp only [Exit.then] <;> simp only [thenJ] at q6
  case normal =>
    obtain ⟨n', hn', hI⟩ := q6
    refine ⟨n', hn', G2, s2.cut s.m.box.length s.m.row.length, j2, q1.cut hnb hnr, q2.cut hnb hnr (by rw [q5, k5]; exact hlj), ?_, q4, q5.trans k5, hI, c1, c2⟩
    exact ev_cut q3 (Nat.le_trans hbl (Nat.le_of_eq c1.symm)) (Nat.le_trans hrl (Nat.le_of_eq c2.symm)) (fun j e cs hh => let ⟨cs', h1, _⟩ := cut_box hh; ⟨cs', h1⟩) (fun j x hh => cut_row hh)
  all_goals exact ⟨G2, s2, j2, q1, q2, q3, q3, hnb, hnr, q4, q5.trans k5, q6⟩
/-- a range over a map that stays begins: an iterator, in a box that nobody looks into -/
def rangeP (P : Program) (t : TypeId) (x : Operand) (d : Nat) (c : Code) (Q : Exit → St → Prop) (s : St) : Prop := ∃ ka va ks vs, (mapOf P t).isSome = true ∧ s.eval x = .d (.mpd ka va ks vs) ∧ ks.length = vs.length ∧
  PWJ P c (fun e s' _ => Q e s') (({ s with m := ⟨s.m.box ++ [none], s.m.row⟩ } : St).put (some d) (.ptr s.m.box.length 0)) ⟨s.m.box.length, ka, va, ks, vs, List.range ks.length, none⟩
theorem range_sound {ops : Array Oper} {d : Nat} {x : Operand} {t : TypeId} {ty : TypeId} {pos : String} {after : Array Edge} {c : Code} {Q : Exit → St → Prop} {s : St} (hR : rangeP P t x d c Q s) {G0 : Gh} {m0 : Mem} {w0 : World} {G : Gh} {a : Act} {w : World} (hs : StR G s a w) (hev0 : Ev G0 m0 w0 G s.m w) :
    wpList P ops (Exit.then (c.wp P fun e a' w' => ∃ G' s', StR G' s' a' w' ∧ Ev G0 m0 w0 G' s'.m w' ∧ Q e s') fun e a' w' => ∃ G' s', StR G' s' a' w' ∧ Ev G0 m0 w0 G' s'.m w' ∧ Q e s') [⟨some d, .range t x, ty, pos, after, none⟩] a w := by
  obtain ⟨ka, va, ks, vs, hm, hx, hl, h⟩ := hR
  have hxr := hs.ev x
  rw [hx] at hxr
  replace hxr := hxr.dat
  unfold RelD at hxr
  obtain ⟨r, es, cl, hv, hmp, hna, hk, hv2, hold, hnd⟩ := hxr
  obtain ⟨⟨kt, et⟩, hmo⟩ := Option.isSome_iff_exists.1 hm
  have hu : P.underlying t = some (.map kt et) := by
    unfold mapOf at hmo
    split at hmo
    · rename_i k e q; cases hmo; exact q
    · cases hmo
  have hr := run_range_map (P := P) w t kt et r es cl hu hmp
  have hlt : r < w.heap.size := (Array.getElem?_eq_some_iff.1 hmp).1
  have hbw : Below w.heap.size w (w.alloc (.mapIter (some r) cl #[] cl)) := (Below.refl _ w).alloc (Nat.le_refl _) _
  have hmr := hs.mem.below hbw
  have hmut : ∀ b o, Mut { G with bi := upd G.bi s.m.box.length w.heap.size } ⟨s.m.box ++ [none], s.m.row⟩ b o → Mut G s.m b o := by
    rintro b o (⟨i, e, cs, h1, h2⟩ | h2)
    · rcases getElem?_snoc h1 with ⟨h3, h4⟩ | ⟨_, h4⟩
      · refine .inl ⟨i, e, cs, h4, ?_⟩
        rw [← h2]
        exact (upd_ne _ _ (by omega)).symm
      · cases h4
    · exact .inr h2
  have hev : Ev G s.m w { G with bi := upd G.bi s.m.box.length w.heap.size } ⟨s.m.box ++ [none], s.m.row⟩ (w.alloc (.mapIter (some r) cl #[] cl)) := by
    have h0 := ev_below (G := G) (m := s.m) hbw
    refine ⟨rfl, h0.fr, fun b o hh => .inl (hmut b o hh), fun i hi => upd_ne _ _ (by omega), by simp, Nat.le_refl _, h0.row⟩
  have hmem : MemR { G with bi := upd G.bi s.m.box.length w.heap.size } ⟨s.m.box ++ [none], s.m.row⟩ (w.alloc (.mapIter (some r) cl #[] cl)) := by
    have key : ∀ (i : Nat) e, (s.m.box ++ [none])[i]? = some (some e) → i < s.m.box.length ∧ s.m.box[i]? = some (some e) := fun i e h1 => by
      rcases getElem?_snoc h1 with ⟨h3, h4⟩ | ⟨_, h4⟩
      · exact ⟨h3, h4⟩
      · cases h4
    have hbi : ∀ i, i < s.m.box.length → upd G.bi s.m.box.length w.heap.size i = G.bi i := fun i hi => upd_ne _ _ (by omega)
    refine ⟨hmr.avlt, fun i e cs h1 => ?_, hmr.row, fun i k a b h1 h2 h3 => ?_, hmr.rr, fun i k a b h1 h2 => ?_⟩
    · obtain ⟨h3, h4⟩ := key i _ h1
      obtain ⟨⟨us, o, q1, q2, q3⟩, q4⟩ := hs.mem.box i e cs h4
      show (∃ vs o, _ = some o ∧ _) ∧ _
      rw [show ({ G with bi := upd G.bi s.m.box.length w.heap.size } : Gh).bi i = G.bi i from hbi i h3]
      exact ⟨⟨us, o, (hbw.block _ (Array.getElem?_eq_some_iff.1 q1).1).trans q1, q2.mono hev, q3⟩, q4⟩
    · obtain ⟨p1, p2⟩ := key i _ h1
      obtain ⟨p3, p4⟩ := key k _ h2
      refine hs.mem.bb i k _ _ p2 p4 ?_
      have : upd G.bi s.m.box.length w.heap.size i = upd G.bi s.m.box.length w.heap.size k := h3
      rwa [hbi i p1, hbi k p3] at this
    · obtain ⟨p1, p2⟩ := key i _ h1
      have := hs.mem.br i k _ _ p2 h2
      show G.ri k ≠ some (upd G.bi s.m.box.length w.heap.size i)
      rwa [hbi i p1]
  have hput := hs.put hmem hev (r := .ptr s.m.box.length 0) (v := .pointer (some ⟨w.heap.size, 0, none⟩)) (by
    unfold RelA
    refine ⟨by simp, ?_⟩
    show _ = Value.pointer (some ⟨upd G.bi s.m.box.length w.heap.size s.m.box.length, 0, none⟩)
    rw [upd_eq]) (some d)
  have hmm := put_m ({ s with m := ⟨s.m.box ++ [none], s.m.row⟩ } : St) (some d) (.ptr s.m.box.length 0)
  have hna2 : ∀ o, ¬ NA { G with bi := upd G.bi s.m.box.length w.heap.size } ⟨s.m.box ++ [none], s.m.row⟩ r o := fun o hh => hna o (hh.imp (fun q => q) (hmut r o))
  have hpre : Pre (NA G s.m) w (NA { G with bi := upd G.bi s.m.box.length w.heap.size } ⟨s.m.box ++ [none], s.m.row⟩) (w.alloc (.mapIter (some r) cl #[] cl)) := hev.pre
  have hlen : es.toList.length = ks.length := by
    have : ∀ (xs : List (List DV)) (us : List Value), RelV (NA G s.m) w ka xs us → us.length = xs.length := by
      intro xs
      induction xs with
      | nil => intro us h; unfold RelV at h; rw [h]; rfl
      | cons y ys ih => intro us h; unfold RelV at h; obtain ⟨v, vs', rfl, -, h⟩ := h; simp [ih _ h]
    have := this _ _ hk
    simpa using this
  have hit : ItR { G with bi := upd G.bi s.m.box.length w.heap.size } ⟨s.m.box ++ [none], s.m.row⟩ (w.alloc (.mapIter (some r) cl #[] cl)) ⟨s.m.box.length, ka, va, ks, vs, List.range ks.length, none⟩ := by
    refine ⟨by simp, r, es, cl, cl, #[], cl, ?_⟩
    show ItAt _ _ _ (upd G.bi s.m.box.length w.heap.size s.m.box.length) _ _ _ _ _ _
    rw [upd_eq]
    refine ⟨heap_alloc_new _ _, (heap_alloc_old _ _ hlt).trans hmp, hna2, hold, Nat.le_refl _, Nat.le_refl _, hnd, RelV.mono hpre _ _ _ hk, RelV.mono hpre _ _ _ hv2, fun i => ?_, fun i h9 => by cases h9⟩
    rw [List.mem_range, ← hlen]
    constructor
    · intro hi
      exact ⟨es[i]'(by simpa using hi), by simp, by simp⟩
    · rintro ⟨e, h1, -⟩
      have := (Array.getElem?_eq_some_iff.1 h1).1
      simpa using this
  refine wpList_plain rfl fun K hK => ?_
  have hex : (execOp a.eval ⟨some d, .range t x, ty, pos, after, none⟩).run P w = .ok (.value (.pointer (some ⟨w.heap.size, 0, none⟩))) (w.alloc (.mapIter (some r) cl #[] cl)) := by
    simp only [execOp, hv, Sem.run_bind, hr, Result.andThen]
    rfl
  unfold Oper.wp
  rw [hex, Oper.upon_value]
  refine hK _ _ ?_
  unfold wpList
  simp only [Exit.then]
  refine wp_mono (h G s.m w _ _ _ hput (by rw [hmm.1]; exact hit) (by rw [hmm.1]; exact hev) ?_) fun e a' w' ⟨G', s', j', k1, k2, k3, _, l1, l2, k4, k5, k6⟩ => ⟨G', s', k1, hev0.trans k3, k6⟩
  show w.heap.size ≤ upd G.bi s.m.box.length w.heap.size s.m.box.length
  rw [upd_eq]
  exact Nat.le_refl _
theorem PW.range1 {id d : Nat} {o1 : Oper} {x : Operand} {t : TypeId} {ty : TypeId} {pos : String} {after : Array Edge} {c : Code} {Q : Exit → St → Prop} {s : St}
    (h : ∀ K : St → Prop, (∀ s', rangeP P t x d c Q s' → K s') → wantP #[o1, ⟨some d, .range t x, ty, pos, after, none⟩] s o1 (opP P s.eval s.m o1 fun r m' => K (({ s with m := m' } : St).put o1.dst r)) (K (s.put o1.dst (.tup [])))) :
    PW P (.seq (.region id #[o1, ⟨some d, .range t x, ty, pos, after, none⟩] false) c) Q s := fun G a w hs => by
  refine wp_seq (wp_region_lit (l := [o1, ⟨some d, .range t x, ty, pos, after, none⟩]) ?_)
  have h' := h _ fun _ h => h
  unfold wpList
  rcases want_sound hs h' with ⟨h1, h2⟩ | ⟨h1, h2⟩
  · rw [if_pos h1]
    refine .inl (op_sound hs.mem hs.ev o1 h2 fun v w' r G' m' k1 k2 k3 k4 => ?_)
    refine range_sound k4 (hs.put k1 k2 k3 o1.dst) ?_
    have := put_m ({ s with m := m' } : St) o1.dst r
    rw [this.1]
    exact k2
  · rw [if_neg (by rw [h1]; simp)]
    refine range_sound h2 (hs.put hs.mem (.refl _ _ _) relA_undef o1.dst) ?_
    have := put_m s o1.dst (.tup [])
    rw [this.1]
    exact .refl _ _ _
end
end PM
end Go.Proofs.YthaekefdadccaaaDoor
namespace Go.Proofs.YthaekefdadccaaaDoor
open Go.RowKit
namespace PM
mutual
/-- 'Co', what is handed over being pure -/
inductive CoP : AV → AV → Prop
  | d (x : DV) : CoP (.d x) (.d x)
  | nl : CoP .nils .nils
  | own (r k : Nat) (xs : List (List DV)) : CoP (.own r k xs) (.d (.sl k xs))
  | nilsB : CoP .nils (.d (.sl 1 (encB [])))
  | nilsL {α : Type} (k : Nat) (e : α → List DV) : CoP .nils (.d (.sl k (encL e [])))
  | nils (k : Nat) : CoP .nils (.d (.sl k []))
  | cp (cs : List DV) : CoP (.cp cs) (.cp cs)
  | junk : CoP .junk .junk
  | agg {xs ys : List AV} (h : CosP xs ys) : CoP (.agg xs) (.agg ys)
  | fn {f : Nat} {xs ys : List AV} (h : CosP xs ys) : CoP (.fn f xs) (.fn f ys)
  | tup {xs ys : List AV} (h : CosP xs ys) : CoP (.tup xs) (.tup ys)
  | rf (x : AV) (h : purA x = true) : CoP x x
inductive CosP : List AV → List AV → Prop
  | nil : CosP [] []
  | cons {x y : AV} {xs ys : List AV} (h : CoP x y) (k : CosP xs ys) : CosP (x :: xs) (y :: ys)
  | rf (xs : List AV) (h : purAs xs = true) : CosP xs xs
end
mutual
theorem coP_ok : ∀ {x y : AV}, CoP x y → Co x y ∧ purA y = true
  | _, _, .d _ => ⟨co_refl _, rfl⟩
  | _, _, .nl => ⟨co_refl _, rfl⟩
  | _, _, .own _ _ _ => ⟨co_own _ _ _, rfl⟩
  | _, _, .nilsB => ⟨co_nilsB, rfl⟩
  | _, _, .nilsL _ _ => ⟨co_nilsL _ _, rfl⟩
  | _, _, .nils _ => ⟨co_nils _, rfl⟩
  | _, _, .cp _ => ⟨co_refl _, rfl⟩
  | _, _, .junk => ⟨co_refl _, rfl⟩
  | _, _, .agg h => ⟨co_agg (cosP_ok h).1, by unfold purA; exact (cosP_ok h).2⟩
  | _, _, .fn h => ⟨co_fn (cosP_ok h).1, by unfold purA; exact (cosP_ok h).2⟩
  | _, _, .tup h => ⟨co_tup (cosP_ok h).1, by unfold purA; exact (cosP_ok h).2⟩
  | _, _, .rf _ h => ⟨co_refl _, h⟩
theorem cosP_ok : ∀ {xs ys : List AV}, CosP xs ys → Cos xs ys ∧ purAs ys = true
  | _, _, .nil => ⟨cos_nil, rfl⟩
  | _, _, .cons h k => ⟨cos_cons (coP_ok h).1 (cosP_ok k).1, by unfold purAs; rw [(coP_ok h).2, (cosP_ok k).2]; rfl⟩
  | _, _, .rf _ h => ⟨cos_refl _, h⟩
end
section
variable {P : Program} {m : Mem}
theorem cC_pure {f : Nat} {args args' : List AV} {r : AV} {K : AV → Mem → Prop} (hc : CosP args args') (h : Pure P f args' r) (hk : Has r → K r m) : callP P m f args K := callP_pure (cosP_ok hc).1 (cosP_ok hc).2 h hk
theorem cC_new {f : Nat} {k n : Nat} {e : TypeId} {ys : List (List DV)} {rest rest1 : List AV} {K : AV → Mem → Prop} (hc : CosP rest rest1)
    (hp : PFun P f rest1 nom (.own 0 k ys) ⟨[], [some ⟨e, k, n⟩]⟩) (hk : K (.own m.row.length k ys) ⟨m.box, m.row ++ [some ⟨e, k, n⟩]⟩) : callP P m f rest K := callP_new (cosP_ok hc).1 (cosP_ok hc).2 hp hk
theorem cC_row {f i : Nat} {k n n' : Nat} {e : TypeId} {xs xs1 ys : List (List DV)} {rest rest1 : List AV} {K : AV → Mem → Prop} (he : xs1 = xs) (hr : m.row[i]? = some (some ⟨e, k, n⟩)) (hc : CosP rest rest1)
    (hp : PFun P f (.own 0 k xs1 :: rest1) ⟨[], [some ⟨e, k, n⟩]⟩ (.own 0 k ys) ⟨[], [some ⟨e, k, n'⟩]⟩) (hk : K (.own i k ys) ⟨m.box, m.row.set i (some ⟨e, k, n'⟩)⟩) : callP P m f (.own i k xs :: rest) K := callP_row he hr (cosP_ok hc).1 (cosP_ok hc).2 hp hk
theorem cC_recv {f i : Nat} {rest rest1 : List AV} {r : AV} {e : TypeId} {cs cs1 cs2 : List AV} {K : AV → Mem → Prop} (hb : m.box[i]? = some (some (e, cs))) (hc : CosP cs cs1) (hr : CosP rest rest1) (p1 : (purA r && purAs cs2) = true)
    (hp : PFun P f (.ptr 0 0 :: rest1) ⟨[some (e, cs1)], []⟩ r ⟨[some (e, cs2)], []⟩) (hk : Has r → K r ⟨m.box.set i (some (e, cs2)), m.row⟩) : callP P m f (.ptr i 0 :: rest) K := by
  refine callP_recv hb (cosP_ok hc).1 (cosP_ok hr).1 ?_ hp hk
  rw [(cosP_ok hc).2, (cosP_ok hr).2, Bool.true_and, Bool.true_and]
  exact p1
theorem fC_call {K : AV → Prop} {f : Nat} {args args' : List AV} {r : AV} (hc : CosP args args') (h : Pure P f args' r) (hk : K r) : ∃ args' r, Pure P f args' r ∧ Cos args args' ∧ purAs args' = true ∧ K r := firstP_call (cosP_ok hc).1 (cosP_ok hc).2 h hk
end
set_option linter.defProp false in
/-- what is shown of Bools, in one -/
def PmH := (And.intro (And.intro (And.intro (And.intro @Bool.and_eq_true @Bool.or_eq_true) (And.intro @Bool.not_eq_true' @Bool.not_eq_false')) (And.intro (And.intro @Bool.and_eq_false_iff @Bool.or_eq_false_iff) (And.intro @Bool.not_eq_eq_eq_not @Bool.not_true))) (And.intro (And.intro (And.intro @Bool.not_false @decide_eq_true_eq) (And.intro @decide_eq_false_iff_not @Int.not_lt)) @Int.not_le))
end PM
end Go.Proofs.YthaekefdadccaaaDoor
namespace Go.Proofs.YthaekefdadccaaaDoor
open Go.RowKit
namespace PM
set_option linter.defProp false in
/-- lemmas of the driver, in one -/
def PmL := (And.intro (And.intro (And.intro (And.intro (And.intro @wf_i64 @wf_u64) (And.intro @wf_u8 (And.intro @wf_i32 @wf_u32))) (And.intro (And.intro @wi_i64 (And.intro @wi_u64 @wi_i32)) (And.intro @wi_u32 (And.intro @wi_u8 @wi_i8)))) (And.intro (And.intro (And.intro @encB_len @encB_get) (And.intro @encB_append (And.intro @encB_take @encB_drop))) (And.intro (And.intro @encB_snoc (And.intro @encL_len @encL_get)) (And.intro @encL_append (And.intro @encL_take @encL_drop))))) (And.intro (And.intro (And.intro (And.intro @bytesD_enc @bytesD_some) (And.intro @decide_true (And.intro @decide_false @Bool.and_true))) (And.intro (And.intro @Bool.and_false (And.intro @Bool.true_and @Bool.false_and)) (And.intro @Bool.or_true (And.intro @Bool.or_false @Bool.true_or)))) (And.intro (And.intro (And.intro @Bool.false_or (And.intro @Bool.not_true @Bool.not_false)) (And.intro @Bool.false_eq_true (And.intro @true_and @and_true))) (And.intro (And.intro @false_and (And.intro @and_false @or_false)) (And.intro @false_or (And.intro @or_true @true_or))))))
end PM
end Go.Proofs.YthaekefdadccaaaDoor
