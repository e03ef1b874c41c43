/- PM: the rules for code. PM: functions: entry, results, contracts. PM: what an operation yields is one thing. PM: a call that is handed part of the memory: the callee's numbers are its own. PM: a region that draws its order. -/
import Derived.Test.YthaekefdadccaaaDoorPmB
import Derived.Deep.LoopGhost
import Derived.Test.YthaekefdadccaaaDoorRegT
set_option linter.unusedVariables false
set_option linter.unusedSimpArgs false
namespace Go.Proofs.YthaekefdadccaaaDoor
open Go.RowKit
namespace PM
structure StR (G : Gh) (s : St) (a : Act) (w : World) : Prop where
  mem : MemR G s.m w
  t : ∀ i, RelA G s.m w (s.t i) (a.tmps.getD i undef)
  n : a.tmps.size = s.n
  df : a.defers = []
section
variable {P : Program} {G : Gh} {m : Mem} {w w' : World} {N : No}
theorem StR.ev {s : St} {a : Act} (h : StR G s a w) (x : Operand) : RelA G s.m w (s.eval x) (a.eval x) := by
  cases x with
  | tmp i => exact h.t i
  | const v => exact relA_avOf v
  | global g => show RelA _ _ _ .junk _; unfold RelA; trivial
  | func f => show RelA _ _ _ (.fn f []) _; unfold RelA; exact ⟨[], rfl, .nil⟩
theorem relA_undef : RelA G m w (.tup []) undef := by unfold RelA; exact ⟨[], rfl, .nil⟩
theorem StR.put {s : St} {a : Act} (h : StR G s a w) {G' : Gh} {m' : Mem} (hm : MemR G' m' w') (hev : Ev G s.m w G' m' w') {r : AV} {v : Value} (hr : RelA G' m' w' r v) (d : Option Nat) : StR G' (({ s with m := m' } : St).put d r) (a.put d v) w' := by
  have ht : ∀ i, RelA G' m' w' (s.t i) (a.tmps.getD i undef) := fun i => (h.t i).mono hev
  cases d with
  | none => exact ⟨hm, ht, h.n, h.df⟩
  | some d =>
    unfold St.put
    simp only
    split
    · rename_i hd
      refine ⟨hm, fun i => ?_, by simp [Act.put]; exact h.n, h.df⟩
      show RelA G' m' w' (upd s.t d r i) _
      by_cases hi : i = d
      · subst hi
        rw [upd_eq]
        have : (a.put (some i) v).tmps.getD i undef = v := by
          unfold Act.put
          simp only [Array.getD_eq_getD_getElem?, Array.getElem?_setIfInBounds]
          have hsz : i < a.tmps.size := by rw [h.n]; exact hd
          simp [hsz]
        rw [this]
        exact hr
      · rw [upd_ne _ _ hi]
        have : (a.put (some d) v).tmps.getD i undef = a.tmps.getD i undef := by
          unfold Act.put
          simp only [Array.getD_eq_getD_getElem?, Array.getElem?_setIfInBounds]
          rw [if_neg (Ne.symm hi)]
        rw [this]
        exact ht i
    · rename_i hd
      have : a.put (some d) v = a := by
        unfold Act.put
        simp only
        rw [Array.setIfInBounds_eq_of_size_le (by rw [h.n]; exact Nat.le_of_not_lt hd)]
      rw [this]
      exact ⟨hm, ht, h.n, h.df⟩
def wantB (b want : Bool) (A B : Prop) : Prop := (b = want → A) ∧ (b ≠ want → B)
theorem wantB_tt (A B : Prop) : wantB true true A B = A := by simp [wantB]
theorem wantB_ff (A B : Prop) : wantB false false A B = A := by simp [wantB]
theorem wantB_tf (A B : Prop) : wantB true false A B = B := by simp [wantB]
theorem wantB_ft (A B : Prop) : wantB false true A B = B := by simp [wantB]
theorem wantB_intro {b want : Bool} {A B : Prop} (h1 : b = want → A) (h2 : b = !want → B) : wantB b want A B := ⟨h1, fun h => h2 (by cases b <;> cases want <;> simp_all)⟩
/-- is the operation carried out? -/
def wantP (ops : Array Oper) (s : St) (o : Oper) (A B : Prop) : Prop := match o.guard with
  | none => A
  | some (j, want) => match (ops[j]?).bind (·.dst) with
    | none => B
    | some d => match s.t d with
      | .d (.bool b) => wantB b want A B
      | .tup _ => B
      | _ => False
theorem want_sound {ops : Array Oper} {s : St} {a : Act} (h : StR G s a w) {o : Oper} {A B : Prop} (hw : wantP ops s o A B) : (Region.wanted o (yielded ops a.tmps) = true ∧ A) ∨ (Region.wanted o (yielded ops a.tmps) = false ∧ B) := by
  unfold wantP at hw
  unfold Region.wanted
  split at hw
  · rename_i hg; rw [hg]; exact .inl ⟨rfl, hw⟩
  · rename_i j want hg
    rw [hg]
    simp only
    unfold yielded
    split at hw
    · rename_i hd
      rw [hd]
      exact .inr ⟨rfl, hw⟩
    · rename_i d hd
      rw [hd]
      simp only [Option.bind_some]
      have ht := h.t d
      have hget : ∀ v, v ≠ undef → a.tmps.getD d undef = v → a.tmps[d]? = some v := fun v hne he => by
        rw [Array.getD_eq_getD_getElem?] at he
        cases hq : a.tmps[d]? with
        | none => rw [hq] at he; exact absurd he.symm hne
        | some u => rw [hq] at he; simp only [Option.getD_some] at he; rw [he]
      split at hw
      · rename_i b hb
        rw [hb] at ht
        have := hget (.bool b) (by simp [undef]) ht.bool
        rw [this]
        simp only
        by_cases hbw : b = want
        · subst hbw; exact .inl ⟨by simp, hw.1 rfl⟩
        · exact .inr ⟨by simpa using hbw, hw.2 hbw⟩
      · rename_i cs hb
        rw [hb] at ht
        unfold RelA at ht
        obtain ⟨vs, e, -⟩ := ht
        right
        refine ⟨?_, hw⟩
        cases hq : a.tmps[d]? with
        | none => rfl
        | some u =>
          rw [Array.getD_eq_getD_getElem?, hq] at e
          simp only [Option.getD_some] at e
          subst e
          rfl
      · exact hw.elim
def opsP (P : Program) (ops : Array Oper) : List Oper → (St → Prop) → St → Prop
  | [], K, s => K s
  | o :: rest, K, s => wantP ops s o (opP P s.eval s.m o fun r m' => opsP P ops rest K (({ s with m := m' } : St).put o.dst r)) (opsP P ops rest K (s.put o.dst (.tup [])))
theorem opsP_nil {ops : Array Oper} {K : St → Prop} {s : St} (h : K s) : opsP P ops [] K s := h
theorem opsP_cons {ops : Array Oper} {o : Oper} {rest : List Oper} {K : St → Prop} {s : St} (h : ∀ K' : St → Prop, (∀ s', opsP P ops rest K s' → K' s') → wantP ops s o (opP P s.eval s.m o fun r m' => K' (({ s with m := m' } : St).put o.dst r)) (K' (s.put o.dst (.tup [])))) : opsP P ops (o :: rest) K s := h _ (fun _ h => h)
theorem opsP_consD (d : Nat) {ops : Array Oper} {op : Op} {ty : TypeId} {pos : String} {after : Array Edge} {guard : Option (Nat × Bool)} {rest : List Oper} {K : St → Prop} {s : St} (h : ∀ K' : St → Prop, (∀ s', opsP P ops rest K s' → K' s') → wantP ops s ⟨some d, op, ty, pos, after, guard⟩ (opP P s.eval s.m ⟨some d, op, ty, pos, after, guard⟩ fun r m' => K' (({ s with m := m' } : St).put (some d) r)) (K' (s.put (some d) (.tup [])))) : opsP P ops (⟨some d, op, ty, pos, after, guard⟩ :: rest) K s := h _ (fun _ h => h)
/-- what holds behind a code, in the abstract -/
def PW (P : Program) (c : Code) (Q : Exit → St → Prop) (s : St) : Prop := ∀ G a w, StR G s a w → c.wp P (fun e a' w' => ∃ G' s', StR G' s' a' w' ∧ Ev G s.m w G' s'.m w' ∧ Q e s') a w
theorem ops_sound {ops : Array Oper} {Q : Exit → Act → World → Prop} {s0 : St} {G0 : Gh} {w0 : World} {K : St → Prop} (hQ : ∀ G' s' a' w', StR G' s' a' w' → Ev G0 s0.m w0 G' s'.m w' → K s' → Q .normal a' w') : ∀ (l : List Oper) (s : St) (G : Gh) (a : Act) (w : World), opsP P ops l K s → StR G s a w → Ev G0 s0.m w0 G s.m w → wpList P ops Q l a w
  | [], s, G, a, w, h, hs, hev => hQ G s a w hs hev h
  | o :: rest, s, G, a, w, h, hs, hev => by
    unfold opsP at h
    unfold wpList
    rcases want_sound hs h with ⟨h1, h2⟩ | ⟨h1, h2⟩
    · rw [if_pos h1]
      refine .inl (op_sound hs.mem hs.ev o h2 fun v w' r G' m' k1 k2 k3 k4 => ?_)
      refine ops_sound hQ rest _ G' _ w' k4 (hs.put k1 k2 k3 o.dst) ?_
      have : ∀ d x, (({ s with m := m' } : St).put d x).m = m' := fun d x => by unfold St.put; cases d <;> simp only; split <;> rfl
      rw [this]
      exact hev.trans k2
    · rw [if_neg (by rw [h1]; simp)]
      refine ops_sound hQ rest _ G _ w h2 (hs.put hs.mem (.refl _ _ _) relA_undef o.dst) ?_
      have : ∀ d x, (s.put d x).m = s.m := fun d x => by unfold St.put; cases d <;> simp only; split <;> rfl
      rw [this]
      exact hev
theorem PW.region {id : Nat} {l : List Oper} {Q : Exit → St → Prop} {s : St} (h : ∀ K : St → Prop, (∀ s', Q .normal s' → K s') → opsP P l.toArray l K s) : PW P (.region id l.toArray false) Q s := by
  intro G a w hs
  refine wp_region_lit (ops_sound (s0 := s) (G0 := G) (w0 := w) (K := Q .normal) (fun G' s' a' w' h1 h2 h3 => ⟨G', s', h1, h2, h3⟩) l s G a w (h _ fun _ h => h) hs (.refl _ _ _))
theorem PW.mono {c : Code} {Q Q' : Exit → St → Prop} {s : St} (h : PW P c Q s) (hq : ∀ e s', Q e s' → Q' e s') : PW P c Q' s := fun G a w hs =>
  wp_mono (h G a w hs) fun e _a' _w' ⟨G', s', k1, k2, k3⟩ => ⟨G', s', k1, k2, hq e s' k3⟩
def thenP (K : St → Prop) (Q : Exit → St → Prop) : Exit → St → Prop
  | .normal, s => K s
  | e, s => Q e s
theorem PW.seq {x y : Code} {Q : Exit → St → Prop} {s : St} (h : ∀ K : St → Prop, (∀ s', PW P y Q s' → K s') → PW P x (thenP K Q) s) : PW P (.seq x y) Q s := by
  intro G a w hs
  refine wp_seq (wp_mono (h _ (fun _ h => h) G a w hs) fun e a' w' ⟨G', s', k1, k2, k3⟩ => ?_)
  cases e <;> simp only [Exit.then] <;> simp only [thenP] at k3
  case normal => exact wp_mono (k3 G' a' w' k1) fun e a'' w'' ⟨G'', s'', q1, q2, q3⟩ => ⟨G'', s'', q1, k2.trans q2, q3⟩
  all_goals exact ⟨G', s', k1, k2, k3⟩
theorem PW.skip {Q : Exit → St → Prop} {s : St} (h : Q .normal s) : PW P .skip Q s := fun G _a _w hs => wp_skip ⟨G, s, hs, .refl _ _ _, h⟩
theorem PW.exit {id : Nat} {Q : Exit → St → Prop} {s : St} (h : Q (.exit id) s) : PW P (.exit id) Q s := fun G _a _w hs => wp_exit ⟨G, s, hs, .refl _ _ _, h⟩
theorem PW.ret {Q : Exit → St → Prop} {s : St} (h : Q .ret s) : PW P .ret Q s := fun G _a _w hs => wp_ret ⟨G, s, hs, .refl _ _ _, h⟩
theorem PW.goto {l : Nat} {Q : Exit → St → Prop} {s : St} (h : Q (.goto l) s) : PW P (.goto l) Q s := fun G _a _w hs => wp_goto ⟨G, s, hs, .refl _ _ _, h⟩
theorem PW.label {l : Nat} {Q : Exit → St → Prop} {s : St} (h : Q .normal s) : PW P (.label l) Q s := fun G _a _w hs => wp_label ⟨G, s, hs, .refl _ _ _, h⟩
theorem PW.cond {c : Operand} {x y : Code} {Q : Exit → St → Prop} {s : St} {b : Bool} (hc : s.eval c = .d (.bool b)) (ht : b = true → PW P x Q s) (hf : b = false → PW P y Q s) : PW P (.cond c x y) Q s := by
  intro G a w hs
  have he := hs.ev c
  rw [hc] at he
  refine wp_cond_split he.bool (fun h => ht h G a w hs) (fun h => hf h G a w hs)
def condB (b : Bool) (A B : Prop) : Prop := (b = true → A) ∧ (b = false → B)
theorem condB_t (A B : Prop) : condB true A B = A := by simp [condB]
theorem condB_f (A B : Prop) : condB false A B = B := by simp [condB]
theorem condB_intro {b : Bool} {A B : Prop} (h1 : b = true → A) (h2 : b = false → B) : condB b A B := ⟨h1, h2⟩
def condP (v : AV) (A B : Prop) : Prop := match v with
  | .d (.bool b) => condB b A B
  | _ => False
theorem PW.condM {c : Operand} {x y : Code} {Q : Exit → St → Prop} {s : St} (h : ∀ X Y : Prop, (PW P x Q s → X) → (PW P y Q s → Y) → condP (s.eval c) X Y) : PW P (.cond c x y) Q s := by
  have h1 := h _ _ id id
  unfold condP at h1
  split at h1
  · rename_i b hb
    exact PW.cond hb h1.1 h1.2
  · exact h1.elim
def blockP (id : Nat) (Q : Exit → St → Prop) : Exit → St → Prop
  | .exit id', s => if id' = id then Q .normal s else Q (.exit id') s
  | e, s => Q e s
theorem PW.block {id : Nat} {c : Code} {Q : Exit → St → Prop} {s : St} (h : PW P c (blockP id Q) s) : PW P (.block id c) Q s := by
  intro G a w hs
  refine wp_block (wp_mono (h G a w hs) fun e a' w' ⟨G', s', k1, k2, k3⟩ => ?_)
  cases e <;> simp only [Exit.inBlock] <;> simp only [blockP] at k3
  case exit id' =>
    split
    · rename_i e; rw [if_pos e] at k3; exact ⟨G', s', k1, k2, k3⟩
    · rename_i e; rw [if_neg e] at k3; exact ⟨G', s', k1, k2, k3⟩
  all_goals exact ⟨G', s', k1, k2, k3⟩
/-- what a round leaves is cut to what there was -/
def St.cut (s : St) (nb nr : Nat) : St := ⟨fun i => fg nb nr (s.t i), s.n, s.m.cut nb nr⟩
theorem cut_len {nb nr : Nat} (hb : nb ≤ m.box.length) (hr : nr ≤ m.row.length) : (m.cut nb nr).box.length = nb ∧ (m.cut nb nr).row.length = nr := by
  simp only [Mem.cut, List.length_map, List.length_take]
  omega
theorem StR.cut {s : St} {a : Act} (h : StR G s a w) {nb nr : Nat} (hb : nb ≤ s.m.box.length) (hr : nr ≤ s.m.row.length) : StR G (s.cut nb nr) a w := by
  obtain ⟨l1, l2⟩ := cut_len hb hr
  refine ⟨h.mem.cut hb hr, fun i => RelA.fg (fun j e cs hh => let ⟨cs', h1, _⟩ := cut_box hh; ⟨cs', h1⟩) (fun j x hh => cut_row hh) (Nat.le_of_eq l1.symm) (Nat.le_of_eq l2.symm) _ _ (h.t i), h.n, h.df⟩
theorem Ev.cut {s' : Mem} {G' : Gh} (h : Ev G m w G' s' w') : Ev G m w G' (s'.cut m.box.length m.row.length) w' := by
  obtain ⟨l1, l2⟩ := cut_len h.bl h.rl
  exact ev_cut h (Nat.le_of_eq l1.symm) (Nat.le_of_eq l2.symm) (fun j e cs hh => let ⟨cs', h1, _⟩ := cut_box hh; ⟨cs', h1⟩) (fun j x hh => cut_row hh)
/-- a loop: an invariant that bears a number, which every round lowers -/
theorem PW.loop {c : Code} {Q : Exit → St → Prop} {s : St} (I : Nat → St → Prop) (n0 : Nat) (h0 : I n0 s)
    (round : ∀ n s', I n s' → s'.m.box.length = s.m.box.length → s'.m.row.length = s.m.row.length → PW P c (thenP (fun s2 => ∃ n', n' < n ∧ I n' (s2.cut s.m.box.length s.m.row.length)) Q) s') : PW P (.loop c) Q s := by
  intro G a w hs
  refine wp_loop_ghost (fun n a1 w1 => ∃ G1 s1, StR G1 s1 a1 w1 ∧ Ev G s.m w G1 s1.m w1 ∧ I n s1 ∧ s1.m.box.length = s.m.box.length ∧ s1.m.row.length = s.m.row.length) n0 ⟨G, s, hs, .refl _ _ _, h0, rfl, rfl⟩ ?_
  rintro n a1 w1 ⟨G1, s1, k1, k2, k3, k4, k5⟩
  refine wp_mono (round n s1 k3 k4 k5 G1 a1 w1 k1) fun e a2 w2 ⟨G2, s2, q1, q2, q3⟩ => ?_
  cases e <;> simp only [Exit.then] <;> simp only [thenP] at q3
  case normal =>
    obtain ⟨n', hn', hI⟩ := q3
    have hb : s.m.box.length ≤ s2.m.box.length := k4 ▸ q2.bl
    have hr : s.m.row.length ≤ s2.m.row.length := k5 ▸ q2.rl
    obtain ⟨l1, l2⟩ := cut_len hb hr
    exact ⟨n', hn', G2, s2.cut s.m.box.length s.m.row.length, q1.cut hb hr, (k2.trans q2).cut, hI, l1, l2⟩
  all_goals exact ⟨G2, s2, q1, k2.trans q2, q3⟩
/-- what is shown may be told otherwise -/
theorem PW.tell {c : Code} {Q : Exit → St → Prop} {s s' : St} (hn : ∀ G a w, StR G s a w → StR G s' a w) (hm : s'.m = s.m) (h : PW P c Q s') : PW P c Q s := fun G a w hs => by
  have := h G a w (hn G a w hs)
  rwa [hm] at this
/-- a nil slice becomes a row of the call's own -/
theorem PW.nil2own {c : Code} {Q : Exit → St → Prop} {s : St} (i : Nat) (e : TypeId) (k : Nat) (hi : s.t i = .nils) (hk : 0 < k) (h : PW P c Q ⟨upd s.t i (.own s.m.row.length k []), s.n, ⟨s.m.box, s.m.row ++ [some ⟨e, k, 0⟩]⟩⟩) : PW P c Q s := fun G a w hs => by
  obtain ⟨h1, h2⟩ := mem_rownil hs.mem e k hk
  refine wp_mono (h _ a w ⟨h2, fun j => ?_, hs.n, hs.df⟩) fun e' a' w' ⟨G', s', q1, q2, q3⟩ => ⟨G', s', q1, h1.trans q2, q3⟩
  show RelA _ _ _ (upd s.t i _ j) _
  by_cases hj : j = i
  · subst hj
    rw [upd_eq]
    have := hs.t j
    rw [hi] at this
    unfold RelA at this
    rw [this]
    unfold RelA
    refine ⟨by simp, ?_, fun x hx => ?_⟩
    · unfold RelD
      exact ⟨none, 0, rfl, by simp, by simp, fun _ => ⟨rfl, rfl⟩, fun a ha => by cases ha⟩
    · simp only [List.getElem?_concat_length, Option.some.injEq] at hx
      subst hx
      refine ⟨by simp, fun _ => ?_⟩
      show _ = Value.slice ((upd G.ri s.m.row.length none s.m.row.length).map _) _ (upd G.rc s.m.row.length 0 s.m.row.length)
      rw [upd_eq, upd_eq]
      rfl
  · rw [upd_ne _ _ hj]
    exact (hs.t j).mono h1
end
end PM
end Go.Proofs.YthaekefdadccaaaDoor
namespace Go.Proofs.YthaekefdadccaaaDoor
open Go.RowKit
namespace PM
section
variable {P : Program} {G : Gh} {m : Mem} {w w' : World} {N : No}
/-- the results, one by one -/
def resP (P : Program) (s : St) : List ResultVar → (List AV → Prop) → Prop
  | [], K => K []
  | .tmp t :: rs, K => resP P s rs fun l => K (s.t t :: l)
  | .cell a t :: rs, K => match s.t a with
    | .ptr id off => (match s.m.box[id]? with
      | some (some b) => b.1 < 4294967296 ∧ loadA P t (b.2.drop off) fun x => resP P s rs fun l => K (x :: l)
      | _ => False)
    | _ => False
def tupA : List AV → AV
  | [x] => x
  | l => .tup l
def rvS (tmps : Array Value) : ResultVar → Sem Value
  | .tmp t => pure (tmps.getD t undef)
  | .cell c t => do loadVar t (← asAddr (tmps.getD c undef))
theorem res_sound {s : St} {a : Act} (hs : StR G s a w) : ∀ (rs : List ResultVar) (K : List AV → Prop), resP P s rs K → ∃ l vs, (rs.mapM (rvS a.tmps)).run P w = .ok vs w ∧ RelAs G s.m w l vs ∧ K l
  | [], K, h => ⟨[], [], rfl, .nil, h⟩
  | .tmp t :: rs, K, h => by
    unfold resP at h
    obtain ⟨l, vs, h1, h2, h3⟩ := res_sound hs rs _ h
    refine ⟨s.t t :: l, a.tmps.getD t undef :: vs, ?_, .cons (hs.t t) h2, h3⟩
    have e1 : (rvS a.tmps (.tmp t)).run P w = .ok (a.tmps.getD t undef) w := rfl
    rw [List.mapM_cons]
    simp only [Sem.run_bind, Sem.run_pure, Result.andThen_ok, e1, h1]
  | .cell c t :: rs, K, h => by
    unfold resP at h
    have hc := hs.t c
    split at h
    · rename_i id off he
      rw [he] at hc
      unfold RelA at hc
      split at h
      · rename_i b hb
        obtain ⟨hbe, h⟩ := h
        obtain ⟨vs1, q1, q1', q2⟩ := box_cells hs.mem (e := b.1) hbe (cs := b.2) hb off
        have hl : ∃ x v, (loadVar t ⟨G.bi id, off, none⟩).run P w = .ok v w ∧ RelA G s.m w x v ∧ resP P s rs fun l => K (x :: l) := by
          unfold loadA at h
          cases hz : szOf P t with
          | none => rw [hz] at h; exact h.elim
          | some p =>
            obtain ⟨pa, n⟩ := p
            rw [hz] at h
            cases pa with
            | true =>
              obtain ⟨hn, hK⟩ := h
              have hl := run_loadCells_list (P := P) w ⟨G.bi id, off, none⟩ (vs1.take n) (fun j v hj => by
                rw [plainA]
                rw [List.getElem?_take] at hj
                split at hj
                · exact q2 j v hj
                · cases hj)
              have hlen := q1.len
              rw [List.length_take, Nat.min_eq_left (by omega)] at hl
              refine ⟨_, .agg (vs1.take n).toArray, ?_, by unfold RelA; exact ⟨_, rfl, q1.take n, fun u hu => q1' u (List.mem_of_mem_take hu)⟩, hK⟩
              simp only [loadVar, Sem.run_bind, run_isAgg hz, Result.andThen_ok, ↓reduceIte, run_sizeOf hz, hl, Sem.run_pure]
            | false =>
              cases hcs : b.2.drop off with
              | nil => rw [hcs] at h; exact h.elim
              | cons x rest =>
                rw [hcs] at h q1
                obtain ⟨v, hv, hrel⟩ := q1.get (i := 0) (x := x) rfl
                have := q2 0 v hv
                refine ⟨x, v, ?_, hrel, h⟩
                simp only [loadVar, Sem.run_bind, run_isAgg hz, Result.andThen_ok, Bool.false_eq_true, ↓reduceIte, load, Sem.run]
                rw [show (⟨G.bi id, off, none⟩ : Addr) = ⟨G.bi id, off + 0, none⟩ from rfl, this]
        obtain ⟨x, v, r1, r2, r3⟩ := hl
        obtain ⟨l, vs, h1, h2, h3⟩ := res_sound hs rs _ r3
        refine ⟨x :: l, v :: vs, ?_, .cons r2 h2, h3⟩
        have e1 : (rvS a.tmps (.cell c t)).run P w = .ok v w := by
          show (do loadVar t (← asAddr (a.tmps.getD c undef))).run P w = _
          rw [hc.2]
          simp only [Sem.run_bind, asAddr, Sem.run_pure, Result.andThen_ok, r1]
        rw [List.mapM_cons]
        simp only [Sem.run_bind, Sem.run_pure, Result.andThen_ok, e1, h1]
      · exact h.elim
    · exact h.elim
theorem tup_rel {l : List AV} {vs : List Value} (h : RelAs G m w l vs) : RelA G m w (tupA l) (if h : vs.toArray.size = 1 then vs.toArray[0] else .tuple vs.toArray) := by
  have hl := h.len
  match l, h with
  | [], h => unfold RelAs at h; subst h; unfold tupA RelA; exact ⟨[], rfl, .nil⟩
  | [x], h =>
    unfold RelAs at h
    obtain ⟨v, vs', rfl, h1, h2⟩ := h
    unfold RelAs at h2
    subst h2
    exact h1
  | x :: y :: l, h =>
    have : ¬ vs.toArray.size = 1 := by simp only [List.length_cons, List.size_toArray] at *; omega
    rw [dif_neg this]
    unfold tupA RelA
    exact ⟨vs, rfl, h⟩
theorem results_run {fn : Func} {rs : List ResultVar} (hr : fn.results = rs.toArray) {s : St} {a : Act} (hs : StR G s a w) {K : AV → Prop} (h : resP P s rs fun l => K (tupA l)) : ∃ x v, (results fn a.tmps).run P w = .ok v w ∧ RelA G s.m w x v ∧ K x := by
  obtain ⟨l, vs, h1, h2, h3⟩ := res_sound hs rs _ h
  refine ⟨tupA l, _, ?_, tup_rel h2, h3⟩
  have e1 : results fn a.tmps = (do
      let vs ← fn.results.mapM (rvS a.tmps)
      pure (if h : vs.size = 1 then vs[0] else .tuple vs)) := by
    unfold results
    congr 2
  rw [e1, hr, List.mapM_toArray]
  simp only [Sem.run_bind, Sem.run_map, h1, Result.andThen_ok, Sem.run_pure]
/-- the memory that is handed back: part of what there is, coerced -/
def SubM (m m' : Mem) : Prop := m'.box.length ≤ m.box.length ∧ m'.row.length ≤ m.row.length ∧ (∀ (j : Nat) e cs', m'.box[j]? = some (some (e, cs')) → ∃ cs, m.box[j]? = some (some (e, cs)) ∧ Cos (fgs m'.box.length m'.row.length cs) cs') ∧ ∀ (j : Nat) i, m'.row[j]? = some (some i) → m.row[j]? = some (some i)
theorem MemR.sub {m' : Mem} (hm : MemR G m w) (h : SubM m m') : MemR G m' w := by
  obtain ⟨h1, h2, h3, h4⟩ := h
  have sb : ∀ (j : Nat) e cs, m'.box[j]? = some (some (e, cs)) → ∃ cs', m.box[j]? = some (some (e, cs')) := fun j e cs h => let ⟨cs', k, _⟩ := h3 j e cs h; ⟨cs', k⟩
  refine ⟨hm.avlt, fun id e cs h => ?_, fun r i h => hm.row r i (h4 r i h), fun i j x y hi hj hij => ?_, fun i j x y g hi hj => hm.rr i j x y g (h4 i x hi) (h4 j y hj), fun i j x y hi hj => ?_⟩
  · obtain ⟨cs', k1, k2⟩ := h3 id e cs h
    obtain ⟨⟨vs, o9, q1, q2, q3⟩, q4⟩ := hm.box id e cs' k1
    exact ⟨⟨vs, o9, q1, cos_rel _ _ _ k2 (RelAs.fg sb h4 (Nat.le_refl _) (Nat.le_refl _) cs' vs q2), q3⟩, q4⟩
  · obtain ⟨e1, c1⟩ := x
    obtain ⟨e2, c2⟩ := y
    obtain ⟨x', hi⟩ := sb i _ _ hi
    obtain ⟨y', hj⟩ := sb j _ _ hj
    exact hm.bb i j _ _ hi hj hij
  · obtain ⟨e1, c1⟩ := x
    obtain ⟨x', hi⟩ := sb i _ _ hi
    exact hm.br i j _ _ hi (h4 j y hj)
theorem subM_nom (m : Mem) : SubM m nom := ⟨by simp [nom], by simp [nom], fun j e cs h => by simp [nom] at h, fun j i h => by simp [nom] at h⟩
def iniT (args : List AV) : Nat → AV := fun i => args.getD i (.tup [])
/-- behind the body -/
def retQ (P : Program) (rs : List ResultVar) (R : AV → St → Prop) : Exit → St → Prop
  | .normal, s => resP P s rs fun l => R (tupA l) s
  | .ret, s => resP P s rs fun l => R (tupA l) s
  | _, _ => False
/-- somewhere the memory stands -/
def HasM (m : Mem) : Prop := ∃ G w, MemR G m w
theorem fun_introM {f : Nat} {fn : Func} {c : Code} {rs : List ResultVar} (hf : P.funcs[f]? = some fn) (hname : (fn.name == "runtime.NumGoroutine") = false) (hb : fn.body = some c) (hrs : fn.results = rs.toArray) {args : List AV} {m m' : Mem} {r : AV} (nt : Nat) (hnt : args.length + (fn.ntmps - args.length) = nt)
    (hlen : m.box.length ≤ m'.box.length ∧ m.row.length ≤ m'.row.length)
    (h : (∀ x ∈ args, Has x) → HasM m → PW P c (retQ P rs fun x s => Co (fg m'.box.length m'.row.length x) r ∧ SubM s.m m') ⟨iniT args, nt, m⟩) : PFun P f args m r m' := by
  intro G w vs hm ha
  have hcall : (callFunc f vs.toArray).run P w = .ok (.enter f vs.toArray) w := by
    have h1 : fn.name ≠ "runtime.NumGoroutine" := by simpa using hname
    simp [callFunc, hf, h1, hb]
  unfold Runs
  rw [hcall]
  have hl := ha.len
  refine calls_of_wp hf hb ?_
  have hhas : ∀ x ∈ args, Has x := fun x hx => by
    obtain ⟨i, hi⟩ := List.getElem?_of_mem hx
    obtain ⟨v, -, hv⟩ := ha.get hi
    exact ⟨_, _, _, _, hv⟩
  have hst : StR G ⟨iniT args, nt, m⟩ { tmps := vs.toArray ++ Array.replicate (fn.ntmps - vs.toArray.size) undef, defers := [] } w := by
    refine ⟨hm, fun i => ?_, by simp; omega, rfl⟩
    show RelA G m w (iniT args i) _
    unfold iniT
    rcases Nat.lt_or_ge i args.length with hi | hi
    · have h1 : args[i]? = some args[i] := List.getElem?_eq_getElem hi
      obtain ⟨v, hv, hr⟩ := ha.get h1
      have e1 : args.getD i (.tup []) = args[i] := by simp [List.getD, hi]
      have e2 : (vs.toArray ++ Array.replicate (fn.ntmps - vs.toArray.size) undef).getD i undef = v := by
        rw [Array.getD_eq_getD_getElem?, Array.getElem?_append_left (by simp; omega)]
        simp [hv]
      rw [e1, e2]
      exact hr
    · have e1 : args.getD i (.tup []) = .tup [] := by simp [List.getD, List.getElem?_eq_none hi]
      have e2 : (vs.toArray ++ Array.replicate (fn.ntmps - vs.toArray.size) undef).getD i undef = undef := by
        rw [Array.getD_eq_getD_getElem?, Array.getElem?_append_right (by simp; omega)]
        rw [Array.getElem?_replicate]
        split <;> rfl
      rw [e1, e2]
      exact relA_undef
  have fin : ∀ s a' w' G', StR G' s a' w' → Ev G m w G' s.m w' → resP P s rs (fun l => (fun x s => Co (fg m'.box.length m'.row.length x) r ∧ SubM s.m m') (tupA l) s) →
      a'.defers = [] ∧ ∃ v, (results fn a'.tmps).run P w' = .ok v w' ∧ ∃ v', Ending.returned v = .returned v' ∧ ∃ G'', MemR G'' m' w' ∧ Ev G m w G'' m' w' ∧ RelA G'' m' w' r v' := by
    intro s a' w' G' k1 k2 k3
    obtain ⟨x, v, q1, q2, q3, q4⟩ := results_run (K := fun x => Co (fg m'.box.length m'.row.length x) r ∧ SubM s.m m') hrs k1 k3
    have q4' := q4
    obtain ⟨b1, b2, b3, b4⟩ := q4
    have sb : ∀ (j : Nat) e cs, m'.box[j]? = some (some (e, cs)) → ∃ cs', s.m.box[j]? = some (some (e, cs')) := fun j e cs h => let ⟨cs', k, _⟩ := b3 j e cs h; ⟨cs', k⟩
    exact ⟨k1.df, v, q1, v, rfl, G', k1.mem.sub q4', ev_cut k2 hlen.1 hlen.2 sb b4, co_rel _ _ _ q3 (RelA.fg sb b4 (Nat.le_refl _) (Nat.le_refl _) x v q2)⟩
  refine wp_mono (h hhas ⟨G, w, hm⟩ G _ w hst) fun e a' w' ⟨G', s', k1, k2, k3⟩ => ?_
  cases e <;> simp only [retQ] at k3
  case normal => exact fin s' a' w' G' k1 k2 k3
  case ret => exact fin s' a' w' G' k1 k2 k3
theorem fun_intro {f : Nat} {fn : Func} {c : Code} {rs : List ResultVar} (hf : P.funcs[f]? = some fn) (hname : (fn.name == "runtime.NumGoroutine") = false) (hb : fn.body = some c) (hrs : fn.results = rs.toArray) {args : List AV} {m m' : Mem} {r : AV} (nt : Nat) (hnt : args.length + (fn.ntmps - args.length) = nt)
    (hlen : m.box.length ≤ m'.box.length ∧ m.row.length ≤ m'.row.length)
    (h : (∀ x ∈ args, Has x) → PW P c (retQ P rs fun x s => Co (fg m'.box.length m'.row.length x) r ∧ SubM s.m m') ⟨iniT args, nt, m⟩) : PFun P f args m r m' := fun_introM hf hname hb hrs nt hnt hlen fun hh _ => h hh
theorem HasM.box {m : Mem} (h : HasM m) {i : Nat} {e : TypeId} {cs : List AV} (hb : m.box[i]? = some (some (e, cs))) : ∀ x ∈ cs, Has x := by
  obtain ⟨G, w, hm⟩ := h
  obtain ⟨⟨vs, o9, k1, k2, k3⟩, -⟩ := hm.box i e cs hb
  intro x hx
  obtain ⟨j, hj⟩ := List.getElem?_of_mem hx
  obtain ⟨u, -, hu⟩ := k2.get hj
  exact ⟨_, _, _, _, hu⟩
theorem pure_intro {f : Nat} {fn : Func} {c : Code} {rs : List ResultVar} (hf : P.funcs[f]? = some fn) (hname : (fn.name == "runtime.NumGoroutine") = false) (hb : fn.body = some c) (hrs : fn.results = rs.toArray) {args : List AV} {r : AV} (nt : Nat) (hnt : args.length + (fn.ntmps - args.length) = nt)
    (h : (∀ x ∈ args, Has x) → PW P c (retQ P rs fun x _ => Co (fg 0 0 x) r) ⟨iniT args, nt, nom⟩) : Pure P f args r :=
  fun_intro hf hname hb hrs nt hnt ⟨Nat.le_refl _, Nat.le_refl _⟩ fun hh => (h hh).mono fun e s hq => by
    have : ∀ (rs : List ResultVar) (K K' : List AV → Prop), (∀ l, K l → K' l) → resP P s rs K → resP P s rs K' := by
      intro rs
      induction rs with
      | nil => intro K K' hk h; exact hk _ h
      | cons x rs ih =>
        intro K K' hk h
        cases x with
        | tmp t => unfold resP at h ⊢; exact ih _ _ (fun l => hk _) h
        | cell c t =>
          unfold resP at h ⊢
          split at h
          · split at h
            · refine ⟨h.1, ?_⟩
              replace h := h.2
              unfold loadA at h ⊢
              split at h
              · exact ⟨h.1, ih _ _ (fun l => hk _) h.2⟩
              · split at h
                · exact ih _ _ (fun l => hk _) h
                · exact h.elim
              · exact h.elim
            · exact h.elim
          · exact h.elim
    cases e <;> simp only [retQ] at hq ⊢
    · exact this rs _ _ (fun l h => ⟨h, subM_nom _⟩) hq
    · exact this rs _ _ (fun l h => ⟨h, subM_nom _⟩) hq
/-- a contract of the elder kind -/
theorem pure_of_calls {f : Nat} {fn : Func} {c : Code} (hf : P.funcs[f]? = some fn) (hname : (fn.name == "runtime.NumGoroutine") = false) (hb : fn.body = some c) {args : List AV} {r : AV}
    (h : ∀ G w vs, MemR G nom w → RelAs G nom w args vs → Calls P f vs.toArray w fun e w' => ∃ v, e = .returned v ∧ Below w.heap.size w w' ∧ RelA G nom w' r v) : Pure P f args r := by
  intro G w vs hm ha
  have hcall : (callFunc f vs.toArray).run P w = .ok (.enter f vs.toArray) w := by
    have h1 : fn.name ≠ "runtime.NumGoroutine" := by simpa using hname
    simp [callFunc, hf, h1, hb]
  unfold Runs
  rw [hcall]
  refine (h G w vs hm ha).mono fun e w' ⟨v, h1, h2, h3⟩ => ⟨v, h1, G, hm.below h2, ev_below h2, h3⟩
end
end PM
end Go.Proofs.YthaekefdadccaaaDoor
namespace Go.Proofs.YthaekefdadccaaaDoor
open Go.RowKit
namespace PM
section
variable {P : Program}
def Det (X : (AV → Prop) → Prop) : Prop := ∀ K, X K → ∃ r, K r ∧ ∀ K', K' r → X K'
theorem load_det {t : TypeId} {cs : List AV} : Det (loadA P t cs) := fun K h => by
  unfold loadA at *
  split at h
  · rename_i n he; exact ⟨_, h.2, fun K' hK => ⟨h.1, hK⟩⟩
  · rename_i n he
    cases cs with
    | nil => exact h.elim
    | cons c cs => exact ⟨_, h, fun K' hK => hK⟩
  · exact h.elim
theorem int_det {op : BinOp} {k : IntKind} {a b : Int} : Det (intP op k a b) := fun K h => by
  cases op <;> simp only [intP] at h ⊢ <;> first
    | exact h.elim
    | exact ⟨_, h, fun K' hK => hK⟩
    | exact ⟨_, h.2, fun K' hK => ⟨h.1, hK⟩⟩
theorem ints_det {op : BinOp} {k k' : IntKind} {a b : Int} : Det (intsP op k a k' b) := fun K h => by
  cases op <;> simp only [intsP] at h ⊢ <;> first
    | exact ⟨_, h.2, fun K' hK => ⟨h.1, hK⟩⟩
    | (obtain ⟨r, h1, h2⟩ := int_det K h.2; exact ⟨r, h1, fun K' hK => ⟨h.1, h2 K' hK⟩⟩)
theorem str_det {op : BinOp} {a b : List Int} : Det (strP op a b) := fun K h => by
  cases op <;> simp only [strP] at h ⊢ <;> first
    | exact h.elim
    | exact ⟨_, h, fun K' hK => hK⟩
    | exact ⟨_, h.2, fun K' hK => ⟨h.1, hK⟩⟩
theorem eq_det {t : TypeId} {x y : AV} (K : Bool → Prop) (h : eqP P t x y K) : ∃ b, K b ∧ ∀ K', K' b → eqP P t x y K' := by
  unfold eqP at h
  split at h <;> first
    | exact h.elim
    | exact ⟨_, h.2, fun K' hK => ⟨h.1, hK⟩⟩
    | skip
  split at h
  · rename_i l hl
    split at h
    · rename_i b hb
      exact ⟨b, h, fun K' hK => by unfold eqP; simp only [hl, hb]; exact hK⟩
    · exact h.elim
  · exact h.elim
/-- '==' of what is no number and no string -/
def restP (P : Program) (op : BinOp) (t : TypeId) (x y : AV) (K : AV → Prop) : Prop := match op with
  | .eql => eqP P t x y fun b => K (.d (.bool b))
  | .neq => eqP P t x y fun b => K (.d (.bool (!b)))
  | _ => False
theorem bin_rest {op : BinOp} {t : TypeId} {x y : AV} (n1 : ∀ k a k' b, x = .d (.int k a) → y = .d (.int k' b) → False) (n2 : ∀ a b, x = .d (.str a) → y = .d (.str b) → False) (K : AV → Prop) : binP P op t x y K = restP P op t x y K := by
  unfold binP
  split
  · exact (n1 _ _ _ _ rfl rfl).elim
  · exact (n2 _ _ rfl rfl).elim
  · rfl
theorem bin_det {op : BinOp} {t : TypeId} {x y : AV} : Det (binP P op t x y) := fun K h => by
  unfold binP at h
  split at h
  · obtain ⟨r, h1, h2⟩ := ints_det K h
    exact ⟨r, h1, fun K' hK => by unfold binP; exact h2 K' hK⟩
  · obtain ⟨r, h1, h2⟩ := str_det K h
    exact ⟨r, h1, fun K' hK => by unfold binP; exact h2 K' hK⟩
  · rename_i n1 n2
    have e := bin_rest (P := P) (op := op) (t := t) n1 n2
    cases op <;> simp only at h <;> first
      | exact h.elim
      | (obtain ⟨b, h1, h2⟩ := eq_det _ h; exact ⟨_, h1, fun K' hK => by rw [e]; exact h2 (fun b => K' (.d (.bool b))) hK⟩)
      | (obtain ⟨b, h1, h2⟩ := eq_det _ h; exact ⟨_, h1, fun K' hK => by rw [e]; exact h2 (fun b => K' (.d (.bool (!b)))) hK⟩)
theorem un_det {op : UnOp} {x : AV} : Det (unP op x) := fun K h => by
  unfold unP at h
  split at h <;> first
    | exact h.elim
    | exact ⟨_, h, fun K' hK => hK⟩
theorem conv_det {s d : TypeId} {x : AV} : Det (convP P s d x) := fun K h => by
  unfold convP at h
  split at h
  · rename_i h1 h2; exact ⟨_, h, fun K' hK => by unfold convP; rw [h1, h2]; exact hK⟩
  · rename_i h1 h2; exact ⟨_, h, fun K' hK => by unfold convP; rw [h1, h2]; exact hK⟩
  · rename_i h1 h2; exact ⟨_, h.2, fun K' hK => by unfold convP; rw [h1, h2]; exact ⟨h.1, hK⟩⟩
  · rename_i h1 h2
    obtain ⟨h3, l, h4, h5⟩ := h
    exact ⟨_, h5, fun K' hK => by unfold convP; rw [h1, h2]; exact ⟨h3, l, h4, hK⟩⟩
  · rename_i h1 h2
    obtain ⟨h3, l, h4, h5⟩ := h
    exact ⟨_, h5, fun K' hK => by unfold convP; rw [h1, h2]; exact ⟨h3, l, h4, hK⟩⟩
  · rename_i h1 h2; exact ⟨_, h.2, fun K' hK => by unfold convP; rw [h1, h2]; exact ⟨h.1, hK⟩⟩
  · exact h.elim
theorem slice_det {t : TypeId} {x : AV} {lo hi mx : Option AV} : Det (sliceP P t x lo hi mx) := fun K h => by
  unfold sliceP at h
  split at h
  · rename_i h0
    obtain ⟨h1, a, b, h2, h3, h4, h5⟩ := h
    exact ⟨_, h5, fun K' hK => by unfold sliceP; rw [h0]; exact ⟨h1, a, b, h2, h3, h4, hK⟩⟩
  · rename_i h0
    obtain ⟨q1, q2, q3, a, b, h2, h3, h4, h5⟩ := h
    exact ⟨_, h5, fun K' hK => by unfold sliceP; rw [h0]; exact ⟨q1, q2, q3, a, b, h2, h3, h4, hK⟩⟩
  · rename_i h0
    obtain ⟨q1, q2, q3, a, b, h2, h3, h4, h5⟩ := h
    exact ⟨_, h5, fun K' hK => by unfold sliceP; rw [h0]; exact ⟨q1, q2, q3, a, b, h2, h3, h4, hK⟩⟩
  · rename_i h0
    obtain ⟨q1, q2, q3, q4, h5⟩ := h
    exact ⟨_, h5, fun K' hK => by unfold sliceP; rw [h0]; exact ⟨q1, q2, q3, q4, hK⟩⟩
  · rename_i h0
    obtain ⟨q1, a, b, c, h2, h3, h4, h5, h6⟩ := h
    exact ⟨_, h6, fun K' hK => by unfold sliceP; rw [h0]; exact ⟨q1, a, b, c, h2, h3, h4, h5, hK⟩⟩
  · rename_i h0
    split at h
    · rename_i n k ha
      obtain ⟨q1, a, b, c, h2, h3, h4, h5, h6⟩ := h
      exact ⟨_, h6, fun K' hK => by unfold sliceP; rw [h0]; simp only [ha]; exact ⟨q1, a, b, c, h2, h3, h4, h5, hK⟩⟩
    · exact h.elim
  · exact h.elim
theorem len_det {t : TypeId} {x : AV} : Det (lenP P t x) := fun K h => by
  unfold lenP at h
  split at h <;> first
    | exact h.elim
    | (rename_i h0; exact ⟨_, h, fun K' hK => by unfold lenP; rw [h0]; exact hK⟩)
/-- an operation that does not look at memory -/
def noload (ρ : Operand → AV) : Op → Bool
  | .load _ _ => false
  | .convert _ _ x => !isBsl (ρ x)
  | _ => true
set_option maxHeartbeats 1000000 in
theorem val_det {ρ : Operand → AV} {m : Mem} {op : Op} (K : AV → Prop) (h : valP P ρ m op K) : ∃ r, K r ∧ ∀ m', (noload ρ op = true ∨ m' = m) → ∀ K', K' r → valP P ρ m' op K' := by
  have det : ∀ {X : (AV → Prop) → Prop}, Det X → X K → (∀ m', (noload ρ op = true ∨ m' = m) → ∀ K', X K' → valP P ρ m' op K') → ∃ r, K r ∧ ∀ m', (noload ρ op = true ∨ m' = m) → ∀ K', K' r → valP P ρ m' op K' := fun hd hX hv => by
    obtain ⟨r, h1, h2⟩ := hd K hX
    exact ⟨r, h1, fun m' hm K' hK => hv m' hm K' (h2 K' hK)⟩
  cases op <;> simp only [valP] at h <;> try exact h.elim
  case move x => exact ⟨_, h, fun m' _ K' hK => by simp only [valP]; exact hK⟩
  case assign x => exact ⟨_, h, fun m' _ K' hK => by simp only [valP]; exact hK⟩
  case pick c a b =>
    split at h
    · rename_i t he; exact ⟨_, h, fun m' _ K' hK => by simp only [valP, he]; exact hK⟩
    · exact h.elim
  case load t x =>
    split at h
    · rename_i id off he
      split at h
      · rename_i b hb
        obtain ⟨hbe, h⟩ := h
        exact det load_det h fun m' hm K' hX => by
          have : m' = m := hm.resolve_left (by simp [noload])
          subst this
          simp only [valP, he, hb]; exact ⟨hbe, hX⟩
      · exact h.elim
    · rename_i cs he
      exact det load_det h fun m' hm K' hX => by simp only [valP, he]; exact hX
    · exact h.elim
  case nilCheck x =>
    split at h
    · rename_i he; exact ⟨_, h, fun m' _ K' hK => by simp only [valP, he]; exact hK⟩
    · rename_i he; exact ⟨_, h, fun m' _ K' hK => by simp only [valP, he]; exact hK⟩
    · rename_i he; exact ⟨_, h, fun m' _ K' hK => by simp only [valP, he]; exact hK⟩
    · exact h.elim
  case binOp op t x y t' => exact det bin_det h fun m' _ K' hX => by simp only [valP]; exact hX
  case unOp op t x => exact det un_det h fun m' _ K' hX => by simp only [valP]; exact hX
  case convert s d x =>
    split at h
    · rename_i id off n cap k hx
      obtain ⟨h1, h2⟩ := h
      exact det conv_det h2 fun m' hm K' hX => by
        have : m' = m := hm.resolve_left (by simp [noload, hx, isBsl])
        subst this
        simp only [valP, hx]; exact ⟨h1, hX⟩
    · rename_i y hx
      exact det conv_det h fun m' hm K' hX => by
        simp only [valP]
        first
          | exact hX
          | (split
             · rename_i id off n cap k hx'; exact (hx _ _ _ _ _ hx').elim
             · exact hX)
  case fieldAddr s x f =>
    split at h
    · rename_i t off he
      split at h
      · rename_i a n hz
        obtain ⟨hn, h⟩ := h
        split at h
        · rename_i hx; exact ⟨_, h, fun m' _ K' hK => by simp only [valP, he, hz, hx]; exact ⟨hn, hK⟩⟩
        · rename_i hx; exact ⟨_, h, fun m' _ K' hK => by simp only [valP, he, hz, hx]; exact ⟨hn, hK⟩⟩
        · exact h.elim
      · exact h.elim
    · exact h.elim
  case field s x f =>
    split at h
    · rename_i t off he
      split at h
      · rename_i cs hx; exact det load_det h fun m' _ K' hX => by simp only [valP, he, hx]; exact hX
      · exact h.elim
    · exact h.elim
  case indexAddr t x i =>
    split at h
    · rename_i kk j hi
      split at h
      · rename_i e k he
        split at h
        · rename_i k' xs hs
          obtain ⟨h1, h2, h3⟩ := h
          split at h3
          · rename_i x hx; exact ⟨_, h3, fun m' _ K' hK => by simp only [valP, hi, he, hs, hx]; exact ⟨h1, h2, hK⟩⟩
          · exact h3.elim
        · rename_i hs
          split at h
          · rename_i hx; obtain ⟨h1, h2, h3⟩ := h; exact ⟨_, h3, fun m' _ K' hK => by simp only [valP, hi, he, hx]; exact ⟨h1, h2, hK⟩⟩
          · exact h.elim
      · rename_i he
        split at h
        · rename_i e n k ha
          obtain ⟨h1, h⟩ := h
          split at h
          · rename_i hx; exact ⟨_, h, fun m' _ K' hK => by simp only [valP, hi, he, ha, hx]; exact ⟨h1, hK⟩⟩
          · rename_i hx; exact ⟨_, h, fun m' _ K' hK => by simp only [valP, hi, he, ha, hx]; exact ⟨h1, hK⟩⟩
          · exact h.elim
        · exact h.elim
    · exact h.elim
  case index t x i =>
    split at h
    · rename_i kk j hi
      split at h
      · rename_i l hu hx
        obtain ⟨h1, h3⟩ := h
        split at h3
        · rename_i b hb; exact ⟨_, h3, fun m' _ K' hK => by simp only [valP, hi, hu, hx, hb]; exact ⟨h1, hK⟩⟩
        · exact h3.elim
      · rename_i n e cs hu hx
        obtain ⟨h1, h⟩ := h
        split at h
        · rename_i a k hz; exact det load_det h fun m' _ K' hX => by simp only [valP, hi, hu, hx, hz]; exact ⟨h1, hX⟩
        · exact h.elim
      · exact h.elim
    · exact h.elim
  case slice t x lo hi mx => exact det slice_det h fun m' _ K' hX => by simp only [valP]; exact hX
  case extract x i =>
    split at h
    · rename_i vs hx
      split at h
      · rename_i v hv; exact ⟨_, h, fun m' _ K' hK => by simp only [valP, hx, hv]; exact hK⟩
      · exact h.elim
    · exact h.elim
  case build t parts =>
    split at h
    · rename_i cs hc; exact ⟨_, h, fun m' _ K' hK => by simp only [valP, hc]; exact hK⟩
    · exact h.elim
  case makeFunc fn first cap =>
    cases fn <;> simp only at h
    case func f => exact ⟨_, h.2, fun m' _ K' hK => by simp only [valP]; exact ⟨h.1, hK⟩⟩
theorem app_det {m : Mem} {ts : List TypeId} {s x : AV} (K : AV → Mem → Prop) (h : appP P m ts s x K) : ∃ r m', K r m' ∧ ∀ K' : AV → Mem → Prop, K' r m' → appP P m ts s x K' := by
  unfold appP at h
  split at h
  case h_2 => exact h.elim
  rename_i t t'
  split at h
  case h_2 => exact h.elim
  rename_i e k he
  split at h
  case h_2 => exact h.elim
  rename_i by_ hby
  obtain ⟨h0, h⟩ := h
  split at h
  case h_2 => exact h.elim
  rename_i k' ys hs
  obtain ⟨h1, h2, h3, h⟩ := h
  split at h
  case h_3 => exact h.elim
  case h_2 =>
    obtain ⟨h4, h5, h6⟩ := h
    exact ⟨_, _, h6, fun K' hK => by unfold appP; simp only [he, hby, hs]; exact ⟨h0, h1, h2, h3, h4, h5, hK⟩⟩
  obtain ⟨h4, h5, h6, h7, h8⟩ := h
  exact ⟨_, _, h8, fun K' hK => by unfold appP; simp only [he, hby, hs]; exact ⟨h0, h1, h2, h3, h4, h5, h6, h7, hK⟩⟩
theorem appB_det {m : Mem} {ts : List TypeId} {s x : AV} (K : AV → Mem → Prop) (h : appB P m ts s x K) : ∃ r m', K r m' ∧ ∀ K' : AV → Mem → Prop, K' r m' → appB P m ts s x K' := by
  unfold appB at h
  split at h
  case h_2 => exact h.elim
  split at h
  case h_2 => exact h.elim
  rename_i h1 h2 h3
  obtain ⟨q1, q2, q3, q4, q5, q6⟩ := h
  exact ⟨_, _, q6, fun K' hK => by unfold appB; simp only [h1, h2, h3]; exact ⟨q1, q2, q3, q4, q5, hK⟩⟩
theorem copy_det {m : Mem} {ts : List TypeId} {s x : AV} (K : AV → Mem → Prop) (h : copyP P m ts s x K) : ∃ r m', K r m' ∧ ∀ K' : AV → Mem → Prop, K' r m' → copyP P m ts s x K' := by
  unfold copyP at h
  split at h
  case h_2 => exact h.elim
  split at h
  case h_2 => exact h.elim
  rename_i h1 h2 h3
  obtain ⟨q1, q2, q3, q4, q6⟩ := h
  exact ⟨_, _, q6, fun K' hK => by unfold copyP; simp only [h1, h2, h3]; exact ⟨q1, q2, q3, q4, hK⟩⟩
theorem cap_det {ts : List TypeId} {x : AV} : Det (capP P ts x) := fun K h => by
  unfold capP at h
  split at h
  · exact ⟨_, h.2, fun K' hK => by unfold capP; exact ⟨h.1, hK⟩⟩
  · exact ⟨_, h.2, fun K' hK => by unfold capP; exact ⟨h.1, hK⟩⟩
  · exact h.elim
theorem maplen_det {m : Mem} {ts : List TypeId} {x : AV} : Det (maplenP P m ts x) := fun K h => by
  unfold maplenP at h
  split at h
  case h_2 => exact h.elim
  split at h
  case h_2 => exact h.elim
  rename_i h1 h2
  exact ⟨_, h.2, fun K' hK => by unfold maplenP; simp only [h1, h2]; exact ⟨h.1, hK⟩⟩
theorem look_det {m : Mem} {t : TypeId} {x k : AV} {ok : Bool} : Det (lookP P m t x k ok) := fun K h => by
  unfold lookP at h
  split at h
  case h_2 => exact h.elim
  rename_i h1
  obtain ⟨hk, h⟩ := h
  split at h
  case h_2 => exact h.elim
  rename_i h2
  split at h
  case h_3 => exact h.elim
  · rename_i h3
    split at h
    case h_2 => exact h.elim
    rename_i h4
    exact ⟨_, h, fun K' hK => by unfold lookP; simp only [h1, h2, h3, h4]; exact ⟨hk, hK⟩⟩
  · rename_i h3
    split at h
    case h_2 => exact h.elim
    rename_i h4
    exact ⟨_, h, fun K' hK => by unfold lookP; simp only [h1, h2, h3, h4]; exact ⟨hk, hK⟩⟩
theorem mapSet_det {m : Mem} {t : TypeId} {x k v : AV} (K : AV → Mem → Prop) (h : mapSetP P m t x k v K) : ∃ r m', K r m' ∧ ∀ K' : AV → Mem → Prop, K' r m' → mapSetP P m t x k v K' := by
  unfold mapSetP at h
  split at h
  case h_2 => exact h.elim
  rename_i h1
  obtain ⟨hk, h⟩ := h
  split at h
  case h_2 => exact h.elim
  rename_i h2
  obtain ⟨hb, h⟩ := h
  split at h
  case h_3 => exact h.elim
  · rename_i h3
    exact ⟨_, _, h, fun K' hK => by unfold mapSetP; simp only [h1, h2, h3]; exact ⟨hk, hb, hK⟩⟩
  · rename_i h3
    exact ⟨_, _, h, fun K' hK => by unfold mapSetP; simp only [h1, h2, h3]; exact ⟨hk, hb, hK⟩⟩
theorem builtin_det {m : Mem} {b : Builtin} {ts : List TypeId} {args : List AV} (K : AV → Mem → Prop) (h : builtinP P m b ts args K) : ∃ r m', K r m' ∧ ∀ K' : AV → Mem → Prop, K' r m' → builtinP P m b ts args K' := by
  unfold builtinP at h
  split at h
  · split at h
    · rename_i hq
      obtain ⟨r, h1, h2⟩ := maplen_det (fun r => K r m) h
      exact ⟨r, m, h1, fun K' hK => by unfold builtinP; simp only [hq, ↓reduceIte]; exact h2 (fun r => K' r m) hK⟩
    · rename_i hq
      split at h
      · obtain ⟨r, h1, h2⟩ := len_det (fun r => K r m) h
        exact ⟨r, m, h1, fun K' hK => by unfold builtinP; simp only [hq]; exact h2 (fun r => K' r m) hK⟩
      · exact h.elim
  · split at h
    · rename_i hq
      obtain ⟨r, m', h1, h2⟩ := appB_det K h
      exact ⟨r, m', h1, fun K' hK => by unfold builtinP; simp only [hq, ↓reduceIte]; exact h2 K' hK⟩
    · rename_i hq
      obtain ⟨r, m', h1, h2⟩ := app_det K h
      exact ⟨r, m', h1, fun K' hK => by unfold builtinP; simp only [hq]; exact h2 K' hK⟩
  · obtain ⟨r, m', h1, h2⟩ := copy_det K h
    exact ⟨r, m', h1, fun K' hK => by unfold builtinP; exact h2 K' hK⟩
  · obtain ⟨r, h1, h2⟩ := cap_det (fun r => K r m) h
    exact ⟨r, m, h1, fun K' hK => by unfold builtinP; exact h2 (fun r => K' r m) hK⟩
  · split at h
    · rename_i r hr; exact ⟨r, m, h, fun K' hK => by unfold builtinP; simp only [hr]; exact hK⟩
    · exact h.elim
  · split at h
    · rename_i r hr; exact ⟨r, m, h, fun K' hK => by unfold builtinP; simp only [hr]; exact hK⟩
    · exact h.elim
  · exact h.elim
theorem call_det {m : Mem} {f : Nat} {args : List AV} (K : AV → Mem → Prop) (h : callP P m f args K) : ∃ (r : AV) (m' : Mem) (H : Prop), (H → K r m') ∧ ∀ K' : AV → Mem → Prop, (H → K' r m') → callP P m f args K' := by
  rcases h with ⟨args', r, h1, h2, h3, h4⟩ | ⟨r, m', h1, h2⟩
  · exact ⟨r, m, Has r, h4, fun K' hK => .inl ⟨args', r, h1, h2, h3, hK⟩⟩
  · exact ⟨r, m', Has r, h2, fun K' hK => .inr ⟨r, m', h1, hK⟩⟩
set_option maxHeartbeats 1000000 in
theorem op_det {ρ : Operand → AV} {m : Mem} {o : Oper} (hb : ∀ op t x y t', o.op ≠ .binOp op t x y t') (K : AV → Mem → Prop) (h : opP P ρ m o K) : ∃ (r : AV) (m' : Mem) (H : Prop), (H → K r m') ∧ ∀ K' : AV → Mem → Prop, (H → K' r m') → opP P ρ m o K' := by
  obtain ⟨dst, op, type, pos, after, guard⟩ := o
  cases op
  case alloc e =>
    simp only [opP] at h
    split at h
    · rename_i cs hz; exact ⟨_, _, True, fun _ => h.2, fun K' hK => by simp only [opP, hz]; exact ⟨h.1, hK trivial⟩⟩
    · exact h.elim
  case box e x => simp only [opP] at h; exact ⟨_, _, True, fun _ => h.2.2, fun K' hK => by simp only [opP]; exact ⟨h.1, h.2.1, hK trivial⟩⟩
  case store t a x =>
    simp only [opP] at h
    split at h
    · rename_i id off he
      split at h
      · rename_i b hb
        split at h
        · rename_i hz; exact ⟨_, _, True, fun _ => h.2.2.2.2, fun K' hK => by simp only [opP, he, hb, hz]; exact ⟨h.1, h.2.1, h.2.2.1, h.2.2.2.1, hK trivial⟩⟩
        · exact h.elim
      · exact h.elim
    · exact h.elim
  case buildSlice t len parts =>
    simp only [opP] at h
    rcases h with h | h
    · split at h
      · rename_i e k he
        obtain ⟨h1, h2, h3, h4, h5⟩ := h
        split at h5
        · rename_i xs hx
          obtain ⟨h6, h7 | h7⟩ := h5
          · exact ⟨_, _, True, fun _ => h7, fun K' hK => by simp only [opP, he, hx]; exact .inl ⟨h1, h2, h3, h4, h6, .inl (hK trivial)⟩⟩
          · exact ⟨_, _, True, fun _ => h7, fun K' hK => by simp only [opP, he, hx]; exact .inl ⟨h1, h2, h3, h4, h6, .inr (hK trivial)⟩⟩
        · exact h5.elim
      · exact h.elim
    · split at h
      · rename_i e k he
        obtain ⟨h0, h1, h2, h3, h4, h5, h6⟩ := h
        exact ⟨_, _, True, fun _ => h6, fun K' hK => by simp only [opP, he]; exact .inr ⟨h0, h1, h2, h3, h4, h5, hK trivial⟩⟩
      · exact h.elim
  case makeSlice t l c =>
    simp only [opP] at h
    rcases h with h | h
    · split at h
      · rename_i e k L C he hl hc
        split at h
        · rename_i by_ z hb hz
          obtain ⟨h1, h2, h3, h4, h5, h6, h7⟩ := h
          exact ⟨_, _, True, fun _ => h7, fun K' hK => by simp only [opP, he, hl, hc, hb, hz]; exact .inl ⟨h1, h2, h3, h4, h5, h6, hK trivial⟩⟩
        · exact h.elim
      · exact h.elim
    · split at h
      · rename_i e k L C he hl hc
        split at h
        · rename_i by_ z hb hz
          obtain ⟨h0, h1, h2, h3, h4, h5, h6, h7⟩ := h
          exact ⟨_, _, True, fun _ => h7, fun K' hK => by simp only [opP, he, hl, hc, hb, hz]; exact .inr ⟨h0, h1, h2, h3, h4, h5, h6, hK trivial⟩⟩
        · exact h.elim
      · exact h.elim
  case makeMap t r => simp only [opP] at h; exact ⟨_, _, True, fun _ => h.2.2, fun K' hK => by simp only [opP]; exact ⟨h.1, h.2.1, hK trivial⟩⟩
  case mapUpdate t x k v =>
    simp only [opP] at h
    obtain ⟨r, m', h1, h2⟩ := mapSet_det K h
    exact ⟨r, m', True, fun _ => h1, fun K' hK => by simp only [opP]; exact h2 K' (hK trivial)⟩
  case insert t x k v =>
    simp only [opP] at h
    obtain ⟨r, m', h1, h2⟩ := mapSet_det K h
    exact ⟨r, m', True, fun _ => h1, fun K' hK => by simp only [opP]; exact h2 K' (hK trivial)⟩
  case lookup t x k ok =>
    simp only [opP] at h
    obtain ⟨r, h1, h2⟩ := look_det (fun r => K r m) h
    exact ⟨r, m, True, fun _ => h1, fun K' hK => by simp only [opP]; exact h2 _ (hK trivial)⟩
  case call c =>
    simp only [opP] at h
    split at h
    · rename_i b hb
      obtain ⟨r, m', h1, h2⟩ := builtin_det K h
      exact ⟨r, m', True, fun _ => h1, fun K' hK => by simp only [opP, hb]; exact h2 K' (hK trivial)⟩
    · rename_i x hx
      split at h
      · rename_i f cap he
        obtain ⟨r, m', H, h1, h2⟩ := call_det K h
        exact ⟨r, m', H, h1, fun K' hK => by simp only [opP, hx, he]; exact h2 K' hK⟩
      · rename_i f he
        obtain ⟨r, m', H, h1, h2⟩ := call_det K h
        exact ⟨r, m', H, h1, fun K' hK => by simp only [opP, hx, he]; exact h2 K' hK⟩
      · exact h.elim
    · exact h.elim
  case binOp op t x y t' => exact absurd rfl (hb op t x y t')
  all_goals
    simp only [opP] at h
    obtain ⟨r, h1, h2⟩ := val_det (fun r => K r m) h
    exact ⟨r, m, True, fun _ => h1, fun K' hK => by simp only [opP]; exact h2 m (.inr rfl) _ (hK trivial)⟩
theorem nil_mono {op : BinOp} {t : TypeId} {x y : AV} {K K' : AV → Prop} (h : ∀ r, K r → K' r) (hh : nilP P op t x y K) : nilP P op t x y K' := by
  obtain ⟨h0, hh⟩ := hh
  refine ⟨h0, ?_⟩
  split at hh
  · split at hh
    · exact ⟨fun e => h _ (hh.1 e), h _ hh.2⟩
    · exact ⟨fun e => h _ (hh.1 e), h _ hh.2⟩
    · exact hh.elim
  · exact hh.elim
theorem opP_mono {ρ : Operand → AV} {m : Mem} {o : Oper} {K K' : AV → Mem → Prop} (h : ∀ r m', K r m' → K' r m') (hh : opP P ρ m o K) : opP P ρ m o K' := by
  obtain ⟨dst, op', type, pos, after, guard⟩ := o
  cases op'
  case binOp op t x y t' =>
    simp only [opP] at hh ⊢
    rcases hh with hh | hh
    · obtain ⟨r, k1, k2⟩ := val_det _ hh
      exact .inl (k2 m (.inr rfl) _ (h r m k1))
    · exact .inr (nil_mono (fun r => h r m) hh)
  all_goals
    obtain ⟨r, m', H, h1, h2⟩ := op_det (fun op t x y t' e => by cases e) K hh
    exact h2 K' fun hH => h r m' (h1 hH)
end
end PM
end Go.Proofs.YthaekefdadccaaaDoor
namespace Go.Proofs.YthaekefdadccaaaDoor
open Go.RowKit
namespace PM
mutual
def ren (fb fr : Nat → Nat) : AV → AV
  | .junk => .junk
  | .d x => .d x
  | .nils => .nils
  | .own r k xs => .own (fr r) k xs
  | .ptr id off => .ptr (fb id) off
  | .bsl id off n cap k => .bsl (fb id) off n cap k
  | .mp id => .mp (fb id)
  | .cp cs => .cp cs
  | .fn f cap => .fn f (rens fb fr cap)
  | .agg cs => .agg (rens fb fr cs)
  | .tup cs => .tup (rens fb fr cs)
def rens (fb fr : Nat → Nat) : List AV → List AV
  | [] => []
  | x :: xs => ren fb fr x :: rens fb fr xs
end
/-- the callee's number i is the caller's: one of l, or a new one -/
def num (l : List Nat) (n : Nat) (i : Nat) : Nat := match l[i]? with
  | some j => j
  | none => n + (i - l.length)
def renBox (fb fr : Nat → Nat) (x : Option (TypeId × List AV)) : Option (TypeId × List AV) := x.map fun p => (p.1, rens fb fr p.2)
/-- set at these places -/
def setAll {α : Type} : List α → List Nat → List α → List α
  | l, i :: is, x :: xs => setAll (l.set i x) is xs
  | l, _, _ => l
/-- the memory behind the call -/
def embM (m : Mem) (sb sr : List Nat) (m1 : Mem) : Mem :=
  let fb := num sb m.box.length
  let fr := num sr m.row.length
  let bx := m1.box.map (renBox fb fr)
  ⟨setAll m.box sb bx ++ bx.drop sb.length, setAll m.row sr m1.row ++ m1.row.drop sr.length⟩
theorem setAll_len {α : Type} : ∀ (l : List α) (is : List Nat) (xs : List α), (setAll l is xs).length = l.length
  | l, [], _ => by unfold setAll; rfl
  | l, i :: is, [] => by unfold setAll; rfl
  | l, i :: is, x :: xs => by unfold setAll; rw [setAll_len, List.length_set]
theorem setAll_other {α : Type} : ∀ (l : List α) (is : List Nat) (xs : List α) (j : Nat), j ∉ is → (setAll l is xs)[j]? = l[j]?
  | l, [], _, j, _ => by unfold setAll; rfl
  | l, i :: is, [], j, _ => by unfold setAll; rfl
  | l, i :: is, x :: xs, j, h => by
    unfold setAll
    rw [setAll_other _ is xs j (fun e => h (List.mem_cons_of_mem _ e)), List.getElem?_set_ne (fun e => h (by rw [e]; exact List.mem_cons_self ..))]
theorem setAll_at {α : Type} : ∀ (l : List α) (is : List Nat) (xs : List α) (k j : Nat) (x : α), is.Nodup → is[k]? = some j → xs[k]? = some x → j < l.length → (setAll l is xs)[j]? = some x
  | l, [], xs, k, j, x, _, h, _, _ => by simp at h
  | l, i :: is, [], k, j, x, _, _, h, _ => by simp at h
  | l, i :: is, y :: ys, k, j, x, hn, h1, h2, hj => by
    unfold setAll
    rw [List.nodup_cons] at hn
    cases k with
    | zero =>
      simp at h1 h2
      subst h1 h2
      rw [setAll_other _ _ _ _ hn.1, List.getElem?_set_self hj]
    | succ k =>
      exact setAll_at _ is ys k j x hn.2 (by simpa using h1) (by simpa using h2) (by rw [List.length_set]; exact hj)
theorem num_in {l : List Nat} {n i j : Nat} (h : l[i]? = some j) : num l n i = j := by unfold num; rw [h]
theorem num_out {l : List Nat} {n i : Nat} (h : l.length ≤ i) : num l n i = n + (i - l.length) := by unfold num; rw [List.getElem?_eq_none h]
theorem num_lt {l : List Nat} {n i : Nat} (_hl : ∀ j ∈ l, j < n) (h : num l n i < n) : ∃ j, l[i]? = some j ∧ num l n i = j := by
  cases hi : l[i]? with
  | some j => exact ⟨j, rfl, num_in hi⟩
  | none => rw [num_out (List.getElem?_eq_none_iff.1 hi)] at h; omega
section
variable {P : Program} {G : Gh} {m m1 : Mem} {w w' : World} {N : No} {sb sr : List Nat}
/-- the cells that may turn and are not the callee's -/
def restMut (G : Gh) (m : Mem) (sb sr : List Nat) : No := fun b o => (∃ (id : Nat) (e : TypeId) (cs : List AV), m.box[id]? = some (some (e, cs)) ∧ id ∉ sb ∧ G.bi id = b) ∨ ∃ (r : Nat) (i : RowI), m.row[r]? = some (some i) ∧ r ∉ sr ∧ G.ri r = some b ∧ i.n * i.size ≤ o
def subG (G : Gh) (m : Mem) (sb sr : List Nat) : Gh := ⟨fun i => G.bi (num sb m.box.length i), fun i => G.ri (num sr m.row.length i), fun i => G.rc (num sr m.row.length i), fun b o => G.av b o ∨ restMut G m sb sr b o⟩
structure EmbOk (m : Mem) (sb sr : List Nat) (m1 : Mem) : Prop where
  nb : sb.Nodup
  nr : sr.Nodup
  lb : sb.length = m1.box.length
  lr : sr.length = m1.row.length
  box : ∀ (i : Nat) (j : Nat), sb[i]? = some j → ∃ x, m1.box[i]? = some x ∧ m.box[j]? = some (renBox (num sb m.box.length) (num sr m.row.length) x)
  row : ∀ (i : Nat) (j : Nat), sr[i]? = some j → ∃ x, m1.row[i]? = some x ∧ m.row[j]? = some x
theorem EmbOk.ltb (h : EmbOk m sb sr m1) : ∀ j ∈ sb, j < m.box.length := fun j hj => by
  obtain ⟨i, hi⟩ := List.getElem?_of_mem hj
  obtain ⟨x, -, hx⟩ := h.box i j hi
  exact (List.getElem?_eq_some_iff.1 hx).1
theorem EmbOk.ltr (h : EmbOk m sb sr m1) : ∀ j ∈ sr, j < m.row.length := fun j hj => by
  obtain ⟨i, hi⟩ := List.getElem?_of_mem hj
  obtain ⟨x, -, hx⟩ := h.row i j hi
  exact (List.getElem?_eq_some_iff.1 hx).1
theorem emb_na (h : EmbOk m sb sr m1) {b o : Nat} : NA (subG G m sb sr) m1 b o ↔ NA G m b o := by
  constructor
  · rintro ((h1 | ⟨id, e, cs, k1, -, k2⟩ | ⟨r, i, k1, -, k2, k3⟩) | ⟨id, e, cs, k1, k2⟩ | ⟨r, i, k1, k2, k3⟩)
    · exact .inl h1
    · exact .inr (.inl ⟨id, e, cs, k1, k2⟩)
    · exact .inr (.inr ⟨r, i, k1, k2, k3⟩)
    · have hl : id < sb.length := by rw [h.lb]; exact (List.getElem?_eq_some_iff.1 k1).1
      have hj : sb[id]? = some sb[id] := List.getElem?_eq_getElem hl
      obtain ⟨x, q1, q2⟩ := h.box id _ hj
      rw [k1] at q1
      cases q1
      exact .inr (.inl ⟨sb[id], e, _, q2, by rw [← num_in (n := m.box.length) hj]; exact k2⟩)
    · have hl : r < sr.length := by rw [h.lr]; exact (List.getElem?_eq_some_iff.1 k1).1
      have hj : sr[r]? = some sr[r] := List.getElem?_eq_getElem hl
      obtain ⟨x, q1, q2⟩ := h.row r _ hj
      rw [k1] at q1
      cases q1
      exact .inr (.inr ⟨sr[r], i, q2, by rw [← num_in (n := m.row.length) hj]; exact k2, k3⟩)
  · rintro (h1 | ⟨id, e, cs, k1, k2⟩ | ⟨r, i, k1, k2, k3⟩)
    · exact .inl (.inl h1)
    · by_cases hid : id ∈ sb
      · obtain ⟨j, hj⟩ := List.getElem?_of_mem hid
        obtain ⟨x, q1, q2⟩ := h.box j id hj
        rw [k1] at q2
        cases x with
        | none => simp [renBox] at q2
        | some p => exact .inr (.inl ⟨j, p.1, p.2, q1, by show G.bi (num sb _ j) = b; rw [num_in hj]; exact k2⟩)
      · exact .inl (.inr (.inl ⟨id, e, cs, k1, hid, k2⟩))
    · by_cases hr : r ∈ sr
      · obtain ⟨j, hj⟩ := List.getElem?_of_mem hr
        obtain ⟨x, q1, q2⟩ := h.row j r hj
        rw [k1] at q2
        cases q2
        exact .inr (.inr ⟨j, i, q1, by show G.ri (num sr _ j) = _; rw [num_in hj]; exact k2, k3⟩)
      · exact .inl (.inr (.inr ⟨r, i, k1, hr, k2, k3⟩))
theorem emb_pre (h : EmbOk m sb sr m1) : Pre (NA G m) w (NA (subG G m sb sr) m1) w := Pre.same fun _b _o h3 => (emb_na h).1 h3
mutual
theorem unren (h : EmbOk m sb sr m1) : ∀ (x : AV) (v : Value), RelA G m w (ren (num sb m.box.length) (num sr m.row.length) x) v → RelA (subG G m sb sr) m1 w x v
  | .junk, v, _ => by unfold RelA; trivial
  | .d x, v, hx => by unfold ren at hx; unfold RelA at hx ⊢; exact RelD.mono (emb_pre h) x v hx
  | .nils, v, hx => by unfold ren at hx; unfold RelA at hx ⊢; exact hx
  | .own r k xs, v, hx => by
    unfold ren at hx
    unfold RelA at hx ⊢
    obtain ⟨h1, h2, h3⟩ := hx
    obtain ⟨j, hj, hj'⟩ := num_lt h.ltr h1
    refine ⟨by rw [← h.lr]; exact (List.getElem?_eq_some_iff.1 hj).1, RelD.mono (emb_pre h) _ v h2, fun i hi => ?_⟩
    obtain ⟨x, q1, q2⟩ := h.row r j hj
    rw [hi] at q1
    cases q1
    exact h3 i (by rw [hj']; exact q2)
  | .ptr id off, v, hx => by
    unfold ren at hx
    unfold RelA at hx ⊢
    obtain ⟨j, hj, hj'⟩ := num_lt h.ltb hx.1
    exact ⟨by rw [← h.lb]; exact (List.getElem?_eq_some_iff.1 hj).1, hx.2⟩
  | .bsl id off n cap k, v, hx => by
    unfold ren at hx
    unfold RelA at hx ⊢
    obtain ⟨j, hj, hj'⟩ := num_lt h.ltb hx.1
    exact ⟨by rw [← h.lb]; exact (List.getElem?_eq_some_iff.1 hj).1, hx.2⟩
  | .mp id, v, hx => by
    unfold ren at hx
    unfold RelA at hx ⊢
    obtain ⟨j, hj, hj'⟩ := num_lt h.ltb hx.1
    exact ⟨by rw [← h.lb]; exact (List.getElem?_eq_some_iff.1 hj).1, hx.2⟩
  | .cp cs, v, hx => by
    unfold ren at hx
    unfold RelA at hx ⊢
    obtain ⟨b, o, e, h1⟩ := hx
    exact ⟨b, o, e, RelC.mono (emb_pre h) b cs o h1⟩
  | .fn f cap, v, hx => by
    unfold ren at hx
    unfold RelA at hx ⊢
    obtain ⟨vs, e, h2⟩ := hx
    exact ⟨vs, e, unrens h cap vs h2⟩
  | .agg cs, v, hx => by
    unfold ren at hx
    unfold RelA at hx ⊢
    obtain ⟨vs, e, h2, h3⟩ := hx
    exact ⟨vs, e, unrens h cs vs h2, h3⟩
  | .tup cs, v, hx => by
    unfold ren at hx
    unfold RelA at hx ⊢
    obtain ⟨vs, e, h2⟩ := hx
    exact ⟨vs, e, unrens h cs vs h2⟩
theorem unrens (h : EmbOk m sb sr m1) : ∀ (xs : List AV) (vs : List Value), RelAs G m w (rens (num sb m.box.length) (num sr m.row.length) xs) vs → RelAs (subG G m sb sr) m1 w xs vs
  | [], vs, hx => by unfold rens at hx; unfold RelAs at hx ⊢; exact hx
  | x :: xs, vs, hx => by
    unfold rens at hx
    unfold RelAs at hx ⊢
    obtain ⟨v, vs', e, h1, h2⟩ := hx
    exact ⟨v, vs', e, unren h x v h1, unrens h xs vs' h2⟩
end
theorem nodup_get {l : List Nat} (h : l.Nodup) {i j k : Nat} (h1 : l[i]? = some k) (h2 : l[j]? = some k) : i = j := by
  obtain ⟨a1, a2⟩ := List.getElem?_eq_some_iff.1 h1
  obtain ⟨b1, b2⟩ := List.getElem?_eq_some_iff.1 h2
  rw [← List.Nodup.idxOf_getElem h i a1, ← List.Nodup.idxOf_getElem h j b1, a2, b2]
theorem emb_mem (hm : MemR G m w) (h : EmbOk m sb sr m1) : MemR (subG G m sb sr) m1 w := by
  have getb : ∀ (i : Nat) x, m1.box[i]? = some (some x) → ∃ j, sb[i]? = some j ∧ num sb m.box.length i = j ∧ m.box[j]? = some (some (x.1, rens (num sb m.box.length) (num sr m.row.length) x.2)) := fun i x hx => by
    have hl : i < sb.length := by rw [h.lb]; exact (List.getElem?_eq_some_iff.1 hx).1
    have hj : sb[i]? = some sb[i] := List.getElem?_eq_getElem hl
    obtain ⟨y, q1, q2⟩ := h.box i _ hj
    rw [hx] at q1
    cases q1
    exact ⟨_, hj, num_in hj, q2⟩
  have getr : ∀ (i : Nat) x, m1.row[i]? = some (some x) → ∃ j, sr[i]? = some j ∧ num sr m.row.length i = j ∧ m.row[j]? = some (some x) := fun i x hx => by
    have hl : i < sr.length := by rw [h.lr]; exact (List.getElem?_eq_some_iff.1 hx).1
    have hj : sr[i]? = some sr[i] := List.getElem?_eq_getElem hl
    obtain ⟨y, q1, q2⟩ := h.row i _ hj
    rw [hx] at q1
    cases q1
    exact ⟨_, hj, num_in hj, q2⟩
  refine ⟨?_, fun i e cs hx => ?_, fun r i hx => ?_, fun i j x y hi hj hij => ?_, fun i j x y g hi hj hgi hgj => ?_, fun i j x y hi hj hij => ?_⟩
  · rintro b o (h1 | ⟨id, e, cs, k1, -, k2⟩ | ⟨r, i, k1, -, k2, -⟩)
    · exact hm.avlt b o h1
    · exact k2 ▸ hm.blt k1
    · exact hm.rlt k1 k2
  · obtain ⟨j, j1, j2, j3⟩ := getb i _ hx
    obtain ⟨⟨vs, o9, q1, q2, q3⟩, q4⟩ := hm.box j _ _ j3
    refine ⟨⟨vs, o9, by show w.heap[G.bi (num sb _ i)]? = _; rw [j2]; exact q1, unrens h cs vs q2, q3⟩, ?_⟩
    rintro o (h1 | ⟨id, e', cs', k1, k2, k3⟩ | ⟨r, i', k1, -, k2, -⟩)
    · have : G.av (G.bi (num sb m.box.length i)) o := h1
      rw [j2] at this; exact q4 o this
    · have k3' : G.bi id = G.bi (num sb m.box.length i) := k3
      rw [j2] at k3'
      have := hm.bb id j _ _ k1 j3 k3'
      subst this
      exact k2 (List.mem_of_getElem? j1)
    · have k2' : G.ri r = some (G.bi (num sb m.box.length i)) := k2
      rw [j2] at k2'
      exact hm.br j r _ _ j3 k1 k2'
  · obtain ⟨j, j1, j2, j3⟩ := getr r i hx
    obtain ⟨q0, q1, q2⟩ := hm.row j i j3
    refine ⟨q0, fun hn => ?_, fun g hg => ?_⟩
    · have hn' : G.ri (num sr m.row.length r) = none := hn
      show _ ∧ G.rc (num sr m.row.length r) = 0
      rw [j2] at hn' ⊢; exact q1 hn'
    · have hg' : G.ri (num sr m.row.length r) = some g := hg
      rw [j2] at hg'
      obtain ⟨p1, p2, p3, p4⟩ := q2 g hg'
      show (∃ cur, _ ∧ G.rc (num sr m.row.length r) * _ ≤ _) ∧ _ ≤ G.rc (num sr m.row.length r) ∧ G.rc (num sr m.row.length r) ≤ _ ∧ _
      rw [j2]
      refine ⟨p1, p2, p3, ?_⟩
      rintro o (h1 | ⟨id, e', cs', k1, -, k3⟩ | ⟨r', i', k1, k1', k2, -⟩)
      · exact p4 o h1
      · exact hm.br id j _ _ k1 j3 (by rw [hg', k3])
      · have := hm.rr r' j _ _ g k1 j3 k2 hg'
        subst this
        exact k1' (List.mem_of_getElem? j1)
  · obtain ⟨i', a1, a2, a3⟩ := getb i _ hi
    obtain ⟨j', b1, b2, b3⟩ := getb j _ hj
    have hij' : G.bi (num sb m.box.length i) = G.bi (num sb m.box.length j) := hij
    rw [a2, b2] at hij'
    have := hm.bb i' j' _ _ a3 b3 hij'
    subst this
    exact nodup_get h.nb a1 b1
  · obtain ⟨i', a1, a2, a3⟩ := getr i _ hi
    obtain ⟨j', b1, b2, b3⟩ := getr j _ hj
    have hgi' : G.ri (num sr m.row.length i) = some g := hgi
    have hgj' : G.ri (num sr m.row.length j) = some g := hgj
    rw [a2] at hgi'
    rw [b2] at hgj'
    have := hm.rr i' j' _ _ g a3 b3 hgi' hgj'
    subst this
    exact nodup_get h.nr a1 b1
  · obtain ⟨i', a1, a2, a3⟩ := getb i _ hi
    obtain ⟨j', b1, b2, b3⟩ := getr j _ hj
    have hij' : G.ri (num sr m.row.length j) = some (G.bi (num sb m.box.length i)) := hij
    rw [a2, b2] at hij'
    exact hm.br i' j' _ _ a3 b3 hij'
def idxOf' (l : List Nat) (n id : Nat) : Nat := if id ∈ l then l.idxOf id else id - n + l.length
theorem idx_in {l : List Nat} {n i id : Nat} (hn : l.Nodup) (h : l[i]? = some id) : idxOf' l n id = i := by
  unfold idxOf'
  rw [if_pos (List.mem_of_getElem? h)]
  obtain ⟨h1, h2⟩ := List.getElem?_eq_some_iff.1 h
  rw [← h2]
  exact List.Nodup.idxOf_getElem hn i h1
theorem idx_num {l : List Nat} {n i : Nat} (hn : l.Nodup) (hl : ∀ j ∈ l, j < n) : idxOf' l n (num l n i) = i := by
  cases h : l[i]? with
  | some j => rw [num_in h]; exact idx_in hn h
  | none =>
    have hi := List.getElem?_eq_none_iff.1 h
    rw [num_out hi]
    unfold idxOf'
    rw [if_neg (fun e => by have := hl _ e; omega)]
    omega
/-- where the caller's memory lies behind the call -/
def backG (G : Gh) (m : Mem) (sb sr : List Nat) (G1 : Gh) : Gh :=
  ⟨fun id => if id < m.box.length ∧ id ∉ sb then G.bi id else G1.bi (idxOf' sb m.box.length id),
   fun r => if r < m.row.length ∧ r ∉ sr then G.ri r else G1.ri (idxOf' sr m.row.length r),
   fun r => if r < m.row.length ∧ r ∉ sr then G.rc r else G1.rc (idxOf' sr m.row.length r), G.av⟩
theorem drop_get {α : Type} {l : List α} {n i : Nat} {x : α} (h : (l.drop n)[i]? = some x) : l[n + i]? = some x := by rwa [List.getElem?_drop] at h
theorem embM_box {m2 : Mem} (h : EmbOk m sb sr m1) (hl : m1.box.length ≤ m2.box.length) {id : Nat} {x : TypeId × List AV} (hx : (embM m sb sr m2).box[id]? = some (some x)) :
    (id < m.box.length ∧ id ∉ sb ∧ m.box[id]? = some (some x)) ∨ (∃ i y, num sb m.box.length i = id ∧ idxOf' sb m.box.length id = i ∧ m2.box[i]? = some (some y) ∧ x = (y.1, rens (num sb m.box.length) (num sr m.row.length) y.2) ∧ ¬ (id < m.box.length ∧ id ∉ sb)) := by
  unfold embM at hx
  simp only at hx
  have hlen : (setAll m.box sb (m2.box.map (renBox (num sb m.box.length) (num sr m.row.length)))).length = m.box.length := setAll_len _ _ _
  rcases Nat.lt_or_ge id m.box.length with hid | hid
  · rw [List.getElem?_append_left (by omega)] at hx
    by_cases hin : id ∈ sb
    · obtain ⟨i, hi⟩ := List.getElem?_of_mem hin
      have hil : i < m2.box.length := by have := (List.getElem?_eq_some_iff.1 hi).1; have := h.lb; omega
      have hm2 : (m2.box.map (renBox (num sb m.box.length) (num sr m.row.length)))[i]? = some (renBox (num sb m.box.length) (num sr m.row.length) m2.box[i]) := by rw [List.getElem?_map, List.getElem?_eq_getElem hil]; rfl
      rw [setAll_at _ _ _ i id _ h.nb hi hm2 hid] at hx
      cases hy : m2.box[i] with
      | none => rw [hy] at hx; simp [renBox] at hx
      | some y =>
        rw [hy] at hx
        simp only [renBox, Option.map_some, Option.some.injEq] at hx
        exact .inr ⟨i, y, num_in hi, idx_in h.nb hi, by rw [List.getElem?_eq_getElem hil, hy], hx.symm, fun hh => hh.2 hin⟩
    · rw [setAll_other _ _ _ _ hin] at hx
      exact .inl ⟨hid, hin, hx⟩
  · rw [List.getElem?_append_right (by omega), hlen] at hx
    have h2 := drop_get hx
    rw [List.getElem?_map, Option.map_eq_some_iff] at h2
    obtain ⟨y, hy1, hy2⟩ := h2
    cases y with
    | none => simp [renBox] at hy2
    | some y =>
      simp only [renBox, Option.map_some, Option.some.injEq] at hy2
      refine .inr ⟨sb.length + (id - m.box.length), y, ?_, ?_, hy1, hy2.symm, fun hh => by omega⟩
      · rw [num_out (by omega)]; omega
      · unfold idxOf'
        rw [if_neg (fun e => by have := h.ltb _ e; omega)]
        omega
theorem embM_row {m2 : Mem} (h : EmbOk m sb sr m1) (hl : m1.row.length ≤ m2.row.length) {r : Nat} {x : RowI} (hx : (embM m sb sr m2).row[r]? = some (some x)) :
    (r < m.row.length ∧ r ∉ sr ∧ m.row[r]? = some (some x)) ∨ (∃ i, num sr m.row.length i = r ∧ idxOf' sr m.row.length r = i ∧ m2.row[i]? = some (some x) ∧ ¬ (r < m.row.length ∧ r ∉ sr)) := by
  unfold embM at hx
  simp only at hx
  have hlen : (setAll m.row sr m2.row).length = m.row.length := setAll_len _ _ _
  rcases Nat.lt_or_ge r m.row.length with hid | hid
  · rw [List.getElem?_append_left (by omega)] at hx
    by_cases hin : r ∈ sr
    · obtain ⟨i, hi⟩ := List.getElem?_of_mem hin
      have hil : i < m2.row.length := by have := (List.getElem?_eq_some_iff.1 hi).1; have := h.lr; omega
      rw [setAll_at _ _ _ i r _ h.nr hi (List.getElem?_eq_getElem hil) hid] at hx
      exact .inr ⟨i, num_in hi, idx_in h.nr hi, by rw [List.getElem?_eq_getElem hil]; exact hx, fun hh => hh.2 hin⟩
    · rw [setAll_other _ _ _ _ hin] at hx
      exact .inl ⟨hid, hin, hx⟩
  · rw [List.getElem?_append_right (by omega), hlen] at hx
    have h2 := drop_get hx
    refine .inr ⟨sr.length + (r - m.row.length), ?_, ?_, h2, fun hh => by omega⟩
    · rw [num_out (by omega)]; omega
    · unfold idxOf'
      rw [if_neg (fun e => by have := h.ltr _ e; omega)]
      omega
theorem embM_len {m2 : Mem} : (embM m sb sr m2).box.length = m.box.length + (m2.box.length - sb.length) ∧ (embM m sb sr m2).row.length = m.row.length + (m2.row.length - sr.length) := by
  unfold embM
  simp [setAll_len]
section
variable {G2 : Gh} {m2 : Mem}
theorem backG_new (G2 : Gh) {id : Nat} (h : ¬ (id < m.box.length ∧ id ∉ sb)) : (backG G m sb sr G2).bi id = G2.bi (idxOf' sb m.box.length id) := if_neg h
theorem backG_old (G2 : Gh) {id : Nat} (h : id < m.box.length ∧ id ∉ sb) : (backG G m sb sr G2).bi id = G.bi id := if_pos h
theorem backG_newr (G2 : Gh) {r : Nat} (h : ¬ (r < m.row.length ∧ r ∉ sr)) : (backG G m sb sr G2).ri r = G2.ri (idxOf' sr m.row.length r) ∧ (backG G m sb sr G2).rc r = G2.rc (idxOf' sr m.row.length r) := ⟨if_neg h, if_neg h⟩
theorem backG_oldr (G2 : Gh) {r : Nat} (h : r < m.row.length ∧ r ∉ sr) : (backG G m sb sr G2).ri r = G.ri r ∧ (backG G m sb sr G2).rc r = G.rc r := ⟨if_pos h, if_pos h⟩
/-- what may not be looked at behind the call is the same for both -/
theorem back_na (h : EmbOk m sb sr m1) (hev : Ev (subG G m sb sr) m1 w G2 m2 w') {b o : Nat} : NA (backG G m sb sr G2) (embM m sb sr m2) b o → NA G2 m2 b o := by
  have hav : G2.av = (subG G m sb sr).av := hev.av
  rintro (h1 | ⟨id, e, cs, k1, k2⟩ | ⟨r, i, k1, k2, k3⟩)
  · exact .inl (by rw [hav]; exact .inl h1)
  · rcases embM_box h hev.bl k1 with ⟨q1, q2, q3⟩ | ⟨j, y, q1, q2, q3, q4, q5⟩
    · rw [backG_old G2 ⟨q1, q2⟩] at k2
      exact .inl (by rw [hav]; exact .inr (.inl ⟨id, e, cs, q3, q2, k2⟩))
    · rw [backG_new G2 q5, q2] at k2
      exact .inr (.inl ⟨j, y.1, y.2, q3, k2⟩)
  · rcases embM_row h hev.rl k1 with ⟨q1, q2, q3⟩ | ⟨j, q1, q2, q3, q4⟩
    · rw [(backG_oldr G2 ⟨q1, q2⟩).1] at k2
      exact .inl (by rw [hav]; exact .inr (.inr ⟨r, i, q3, q2, k2, k3⟩))
    · rw [(backG_newr G2 q4).1, q2] at k2
      exact .inr (.inr ⟨j, i, q3, k2, k3⟩)
theorem back_ptr (h : EmbOk m sb sr m1) (_hev : Ev (subG G m sb sr) m1 w G2 m2 w') {id : Nat} (hx : id < m2.box.length) : num sb m.box.length id < (embM m sb sr m2).box.length ∧ (backG G m sb sr G2).bi (num sb m.box.length id) = G2.bi id := by
  have hnum := idx_num (n := m.box.length) (i := id) h.nb h.ltb
  refine ⟨?_, ?_⟩
  · rw [(embM_len (m := m) (sr := sr)).1]
    cases hc : sb[id]? with
    | some j => rw [num_in hc]; have := h.ltb j (List.mem_of_getElem? hc); omega
    | none => rw [num_out (List.getElem?_eq_none_iff.1 hc)]; have := List.getElem?_eq_none_iff.1 hc; omega
  · rw [backG_new G2 (fun hh => ?_), hnum]
    cases hc : sb[id]? with
    | some j => rw [num_in hc] at hh; exact hh.2 (List.mem_of_getElem? hc)
    | none => rw [num_out (List.getElem?_eq_none_iff.1 hc)] at hh; omega
mutual
theorem ren_rel (h : EmbOk m sb sr m1) (hev : Ev (subG G m sb sr) m1 w G2 m2 w') : ∀ (x : AV) (v : Value), RelA G2 m2 w' x v → RelA (backG G m sb sr G2) (embM m sb sr m2) w' (ren (num sb m.box.length) (num sr m.row.length) x) v
  | .junk, v, _ => by unfold ren RelA; trivial
  | .d x, v, hx => by unfold ren; unfold RelA at hx ⊢; exact RelD.mono (Pre.same fun b o h3 => back_na h hev h3) x v hx
  | .nils, v, hx => by unfold ren; unfold RelA at hx ⊢; exact hx
  | .own r k xs, v, hx => by
    unfold ren
    unfold RelA at hx ⊢
    obtain ⟨h1, h2, h3⟩ := hx
    have hnum := idx_num (n := m.row.length) (i := r) h.nr h.ltr
    refine ⟨?_, RelD.mono (Pre.same fun b o h3 => back_na h hev h3) _ v h2, fun i hi => ?_⟩
    · rw [(embM_len (m := m) (sb := sb)).2]
      cases hc : sr[r]? with
      | some j => rw [num_in hc]; have := h.ltr j (List.mem_of_getElem? hc); omega
      | none => rw [num_out (List.getElem?_eq_none_iff.1 hc)]; have := List.getElem?_eq_none_iff.1 hc; omega
    · rcases embM_row h hev.rl hi with ⟨q1, q2, q3⟩ | ⟨j, q1, q2, q3, q4⟩
      · exfalso
        cases hc : sr[r]? with
        | some j => rw [num_in hc] at q2; exact q2 (List.mem_of_getElem? hc)
        | none => rw [num_out (List.getElem?_eq_none_iff.1 hc)] at q1; omega
      · rw [hnum] at q2
        subst q2
        obtain ⟨p1, p2⟩ := h3 i q3
        refine ⟨p1, fun e => ?_⟩
        rw [(backG_newr G2 q4).1, (backG_newr G2 q4).2, hnum]
        exact p2 e
  | .ptr id off, v, hx => by
    unfold ren
    unfold RelA at hx ⊢
    have hp := back_ptr h hev (id := id) hx.1
    exact ⟨hp.1, by rw [hp.2]; exact hx.2⟩
  | .bsl id off n cap k, v, hx => by
    unfold ren
    unfold RelA at hx ⊢
    obtain ⟨hx1, hx2, hx3, o, rfl, hx4⟩ := hx
    have hp := back_ptr h hev (id := id) hx1
    exact ⟨hp.1, hx2, hx3, o, by rw [hp.2], hx4⟩
  | .mp id, v, hx => by
    unfold ren
    unfold RelA at hx ⊢
    obtain ⟨hx1, rfl⟩ := hx
    have hp := back_ptr h hev (id := id) hx1
    exact ⟨hp.1, by rw [hp.2]⟩
  | .cp cs, v, hx => by
    unfold ren
    unfold RelA at hx ⊢
    obtain ⟨b, o, e, h1⟩ := hx
    exact ⟨b, o, e, RelC.mono (Pre.same fun b o h3 => back_na h hev h3) b cs o h1⟩
  | .fn f cap, v, hx => by
    unfold ren
    unfold RelA at hx ⊢
    obtain ⟨vs, e, h2⟩ := hx
    exact ⟨vs, e, rens_rel h hev cap vs h2⟩
  | .agg cs, v, hx => by
    unfold ren
    unfold RelA at hx ⊢
    obtain ⟨vs, e, h2, h3⟩ := hx
    exact ⟨vs, e, rens_rel h hev cs vs h2, h3⟩
  | .tup cs, v, hx => by
    unfold ren
    unfold RelA at hx ⊢
    obtain ⟨vs, e, h2⟩ := hx
    exact ⟨vs, e, rens_rel h hev cs vs h2⟩
theorem rens_rel (h : EmbOk m sb sr m1) (hev : Ev (subG G m sb sr) m1 w G2 m2 w') : ∀ (xs : List AV) (vs : List Value), RelAs G2 m2 w' xs vs → RelAs (backG G m sb sr G2) (embM m sb sr m2) w' (rens (num sb m.box.length) (num sr m.row.length) xs) vs
  | [], vs, hx => by unfold rens; unfold RelAs at hx ⊢; exact hx
  | x :: xs, vs, hx => by
    unfold rens
    unfold RelAs at hx ⊢
    obtain ⟨v, vs', e, h1, h2⟩ := hx
    exact ⟨v, vs', e, ren_rel h hev x v h1, rens_rel h hev xs vs' h2⟩
end
theorem back_ev (_hm : MemR G m w) (h : EmbOk m sb sr m1) (hev : Ev (subG G m sb sr) m1 w G2 m2 w') : Ev G m w (backG G m sb sr G2) (embM m sb sr m2) w' := by
  have sub : ∀ b o, Mut (subG G m sb sr) m1 b o → Mut G m b o := by
    rintro b o (⟨id, e, cs, k1, k2⟩ | ⟨r, i, k1, k2, k3⟩)
    · have hl : id < sb.length := by rw [h.lb]; exact (List.getElem?_eq_some_iff.1 k1).1
      have hj : sb[id]? = some sb[id] := List.getElem?_eq_getElem hl
      obtain ⟨x, q1, q2⟩ := h.box id _ hj
      rw [k1] at q1
      cases q1
      exact .inl ⟨sb[id], e, _, q2, by rw [← num_in (n := m.box.length) hj]; exact k2⟩
    · have hl : r < sr.length := by rw [h.lr]; exact (List.getElem?_eq_some_iff.1 k1).1
      have hj : sr[r]? = some sr[r] := List.getElem?_eq_getElem hl
      obtain ⟨x, q1, q2⟩ := h.row r _ hj
      rw [k1] at q1
      cases q1
      exact .inr ⟨sr[r], i, q2, by rw [← num_in (n := m.row.length) hj]; exact k2, k3⟩
  refine ⟨rfl, ⟨hev.fr.os, hev.fr.tape, hev.fr.output, hev.fr.size, fun b hb hn => hev.fr.block b hb (fun o hq => hn o (sub b o hq)), fun b o hb hn => hev.fr.cell b o hb (fun hq => hn (sub b o hq))⟩, ?_, fun id hid => ?_, ?_, ?_, fun r i hr hi => ?_⟩
  · rintro b o (⟨id, e, cs, k1, k2⟩ | ⟨r, i, k1, k2, k3⟩)
    · rcases embM_box h hev.bl k1 with ⟨q1, q2, q3⟩ | ⟨j, y, q1, q2, q3, q4, q5⟩
      · rw [backG_old G2 ⟨q1, q2⟩] at k2
        exact .inl (.inl ⟨id, e, cs, q3, k2⟩)
      · rw [backG_new G2 q5, q2] at k2
        exact (hev.mt b o (.inl ⟨j, y.1, y.2, q3, k2⟩)).imp (sub b o) (fun h => h)
    · rcases embM_row h hev.rl k1 with ⟨q1, q2, q3⟩ | ⟨j, q1, q2, q3, q4⟩
      · rw [(backG_oldr G2 ⟨q1, q2⟩).1] at k2
        exact .inl (.inr ⟨r, i, q3, k2, k3⟩)
      · rw [(backG_newr G2 q4).1, q2] at k2
        exact (hev.mt b o (.inr ⟨j, i, q3, k2, k3⟩)).imp (sub b o) (fun h => h)
  · by_cases hin : id ∈ sb
    · obtain ⟨i, hi⟩ := List.getElem?_of_mem hin
      rw [backG_new G2 (fun hh => hh.2 hin), idx_in h.nb hi]
      rw [hev.bi i (by rw [← h.lb]; exact (List.getElem?_eq_some_iff.1 hi).1)]
      show G.bi (num sb _ i) = _
      rw [num_in hi]
    · exact backG_old G2 ⟨hid, hin⟩
  · rw [(embM_len (m := m) (sr := sr)).1]; omega
  · rw [(embM_len (m := m) (sb := sb)).2]; omega
  · rcases embM_row h hev.rl hi with ⟨q1, q2, q3⟩ | ⟨j, q1, q2, q3, q4⟩
    · exact ⟨i, q3, Nat.le_refl _, fun _ => backG_oldr G2 ⟨q1, q2⟩⟩
    · have hin : r ∈ sr := Classical.byContradiction fun hn => q4 ⟨hr, hn⟩
      obtain ⟨k, hk⟩ := List.getElem?_of_mem hin
      have hjk : j = k := by rw [← q2]; exact idx_in h.nr hk
      subst hjk
      have hjl : j < m1.row.length := by rw [← h.lr]; exact (List.getElem?_eq_some_iff.1 hk).1
      obtain ⟨i0, p1, p2, p3⟩ := hev.row j i hjl q3
      obtain ⟨x, y1, y2⟩ := h.row j r hk
      rw [p1] at y1
      cases y1
      refine ⟨i0, y2, p2, fun e => ?_⟩
      rw [(backG_newr G2 q4).1, (backG_newr G2 q4).2, q2]
      obtain ⟨z1, z2⟩ := p3 e
      rw [z1, z2]
      show G.ri (num sr _ j) = _ ∧ G.rc (num sr _ j) = _
      rw [num_in hk]
      exact ⟨rfl, rfl⟩
theorem back_mem (hm : MemR G m w) (h : EmbOk m sb sr m1) (hev : Ev (subG G m sb sr) m1 w G2 m2 w') (hm2 : MemR G2 m2 w') : MemR (backG G m sb sr G2) (embM m sb sr m2) w' := by
  have hav : G2.av = (subG G m sb sr).av := hev.av
  have hB := back_ev hm h hev
  -- the caller's alone is as it was
  have oldb : ∀ (id : Nat) x, m.box[id]? = some (some x) → id ∉ sb → ∀ o, ¬ Mut (subG G m sb sr) m1 (G.bi id) o := fun id x hx hin o hM => by
    obtain ⟨e, cs⟩ := x
    rcases hM with ⟨i, e', cs', k1, k2⟩ | ⟨r, i, k1, k2, -⟩
    · have hl : i < sb.length := by rw [h.lb]; exact (List.getElem?_eq_some_iff.1 k1).1
      have hj : sb[i]? = some sb[i] := List.getElem?_eq_getElem hl
      obtain ⟨y, q1, q2⟩ := h.box i _ hj
      rw [k1] at q1
      cases q1
      have k2' : G.bi (num sb m.box.length i) = G.bi id := k2
      rw [num_in hj] at k2'
      have := hm.bb _ id _ _ q2 hx k2'
      exact hin (this ▸ List.getElem_mem hl)
    · have hl : r < sr.length := by rw [h.lr]; exact (List.getElem?_eq_some_iff.1 k1).1
      have hj : sr[r]? = some sr[r] := List.getElem?_eq_getElem hl
      obtain ⟨y, q1, q2⟩ := h.row r _ hj
      rw [k1] at q1
      cases q1
      have k2' : G.ri (num sr m.row.length r) = some (G.bi id) := k2
      rw [num_in hj] at k2'
      exact hm.br id _ _ _ hx q2 k2'
  have oldr : ∀ (r g : Nat) x, m.row[r]? = some (some x) → r ∉ sr → G.ri r = some g → ∀ o, ¬ Mut (subG G m sb sr) m1 g o := fun r g x hx hin hg o hM => by
    rcases hM with ⟨i, e', cs', k1, k2⟩ | ⟨r', i, k1, k2, -⟩
    · have hl : i < sb.length := by rw [h.lb]; exact (List.getElem?_eq_some_iff.1 k1).1
      have hj : sb[i]? = some sb[i] := List.getElem?_eq_getElem hl
      obtain ⟨y, q1, q2⟩ := h.box i _ hj
      rw [k1] at q1
      cases q1
      have k2' : G.bi (num sb m.box.length i) = g := k2
      rw [num_in hj] at k2'
      exact hm.br _ r _ _ q2 hx (by rw [hg, k2'])
    · have hl : r' < sr.length := by rw [h.lr]; exact (List.getElem?_eq_some_iff.1 k1).1
      have hj : sr[r']? = some sr[r'] := List.getElem?_eq_getElem hl
      obtain ⟨y, q1, q2⟩ := h.row r' _ hj
      rw [k1] at q1
      cases q1
      have k2' : G.ri (num sr m.row.length r') = some g := k2
      rw [num_in hj] at k2'
      have := hm.rr _ r _ _ g q2 hx k2' hg
      exact hin (this ▸ List.getElem_mem hl)
  have avb : ∀ (id : Nat) x, m.box[id]? = some (some x) → id ∉ sb → G2.av (G.bi id) 0 := fun id x hx hin => by
    rw [hav]; exact .inr (.inl ⟨id, x.1, x.2, hx, hin, rfl⟩)
  have avr : ∀ (r g : Nat) (x : RowI), m.row[r]? = some (some x) → r ∉ sr → G.ri r = some g → G2.av g (x.n * x.size) := fun r g x hx hin hg => by
    rw [hav]; exact .inr (.inr ⟨r, x, hx, hin, hg, Nat.le_refl _⟩)
  have avG : ∀ b o, G.av b o → G2.av b o := fun b o ha => by rw [hav]; exact .inl ha
  refine ⟨fun b o ha => Nat.lt_of_lt_of_le (hm.avlt b o ha) hev.fr.size, fun id e cs hx => ?_, fun r i hx => ?_, fun i j x y hi hj hij => ?_, fun i j x y g hi hj hgi hgj => ?_, fun i j x y hi hj hij => ?_⟩
  · rcases embM_box h hev.bl hx with ⟨q1, q2, q3⟩ | ⟨j, y, q1, q2, q3, q4, q5⟩
    · rw [backG_old G2 ⟨q1, q2⟩]
      obtain ⟨⟨vs, o9, k1, k2, k3⟩, k4⟩ := hm.box id e cs q3
      exact ⟨⟨vs, o9, (hev.fr.block _ (hm.blt q3) (oldb id _ q3 q2)).trans k1, k2.mono hB, k3⟩, k4⟩
    · rw [backG_new G2 q5, q2]
      cases q4
      obtain ⟨⟨vs, o9, k1, k2, k3⟩, k4⟩ := hm2.box j _ _ q3
      exact ⟨⟨vs, o9, k1, rens_rel h hev _ vs k2, k3⟩, fun o ha => k4 o (avG _ o ha)⟩
  · rcases embM_row h hev.rl hx with ⟨q1, q2, q3⟩ | ⟨j, q1, q2, q3, q4⟩
    · obtain ⟨k0, k1, k2⟩ := hm.row r i q3
      rw [(backG_oldr G2 ⟨q1, q2⟩).1, (backG_oldr G2 ⟨q1, q2⟩).2]
      refine ⟨k0, k1, fun g hg => ?_⟩
      obtain ⟨⟨cur, p1, p2⟩, p3⟩ := k2 g hg
      exact ⟨⟨cur, (hev.fr.block _ (hm.rlt q3 hg) (oldr r g i q3 q2 hg)).trans p1, p2⟩, p3⟩
    · rw [(backG_newr G2 q4).1, (backG_newr G2 q4).2, q2]
      obtain ⟨k0, k1, k2⟩ := hm2.row j i q3
      refine ⟨k0, k1, fun g hg => ?_⟩
      obtain ⟨p1, p2, p3, p4⟩ := k2 g hg
      exact ⟨p1, p2, p3, fun o ha => p4 o (avG g o ha)⟩
  · obtain ⟨e1, c1⟩ := x
    obtain ⟨e2, c2⟩ := y
    rcases embM_box h hev.bl hi with ⟨q1, q2, q3⟩ | ⟨i', y1, q1, q2, q3, q4, q5⟩ <;> rcases embM_box h hev.bl hj with ⟨p1, p2, p3⟩ | ⟨j', y2, p1, p2, p3, p4, p5⟩
    · rw [backG_old G2 ⟨q1, q2⟩, backG_old G2 ⟨p1, p2⟩] at hij
      exact hm.bb i j _ _ q3 p3 hij
    · rw [backG_old G2 ⟨q1, q2⟩, backG_new G2 p5, p2] at hij
      exact absurd (hij ▸ avb i _ q3 q2) ((hm2.box j' y2.1 y2.2 p3).2 0)
    · rw [backG_new G2 q5, q2, backG_old G2 ⟨p1, p2⟩] at hij
      exact absurd (hij ▸ avb j _ p3 p2) ((hm2.box i' y1.1 y1.2 q3).2 0)
    · rw [backG_new G2 q5, q2, backG_new G2 p5, p2] at hij
      have := hm2.bb i' j' _ _ q3 p3 hij
      subst this
      exact q1.symm.trans p1
  · rcases embM_row h hev.rl hi with ⟨q1, q2, q3⟩ | ⟨i', q1, q2, q3, q5⟩ <;> rcases embM_row h hev.rl hj with ⟨p1, p2, p3⟩ | ⟨j', p1, p2, p3, p5⟩
    · rw [(backG_oldr G2 ⟨q1, q2⟩).1] at hgi
      rw [(backG_oldr G2 ⟨p1, p2⟩).1] at hgj
      exact hm.rr i j _ _ g q3 p3 hgi hgj
    · rw [(backG_oldr G2 ⟨q1, q2⟩).1] at hgi
      rw [(backG_newr G2 p5).1, p2] at hgj
      exact absurd (avr i g x q3 q2 hgi) (((hm2.row j' y p3).2.2 g hgj).2.2.2 _)
    · rw [(backG_newr G2 q5).1, q2] at hgi
      rw [(backG_oldr G2 ⟨p1, p2⟩).1] at hgj
      exact absurd (avr j g y p3 p2 hgj) (((hm2.row i' x q3).2.2 g hgi).2.2.2 _)
    · rw [(backG_newr G2 q5).1, q2] at hgi
      rw [(backG_newr G2 p5).1, p2] at hgj
      have := hm2.rr i' j' _ _ g q3 p3 hgi hgj
      subst this
      exact q1.symm.trans p1
  · obtain ⟨e1, c1⟩ := x
    rcases embM_box h hev.bl hi with ⟨q1, q2, q3⟩ | ⟨i', y1, q1, q2, q3, q4, q5⟩ <;> rcases embM_row h hev.rl hj with ⟨p1, p2, p3⟩ | ⟨j', p1, p2, p3, p5⟩
    · rw [(backG_oldr G2 ⟨p1, p2⟩).1, backG_old G2 ⟨q1, q2⟩] at hij
      exact hm.br i j _ _ q3 p3 hij
    · rw [(backG_newr G2 p5).1, p2, backG_old G2 ⟨q1, q2⟩] at hij
      exact absurd (avb i _ q3 q2) (((hm2.row j' y p3).2.2 _ hij).2.2.2 0)
    · rw [(backG_oldr G2 ⟨p1, p2⟩).1, backG_new G2 q5, q2] at hij
      exact absurd (avr j _ y p3 p2 hij) ((hm2.box i' y1.1 y1.2 q3).2 _)
    · rw [(backG_newr G2 p5).1, p2, backG_new G2 q5, q2] at hij
      exact hm2.br i' j' _ _ q3 p3 hij
end
/-- a call that is handed the boxes sb and the rows sr -/
theorem PFun.emb {f : Nat} {args : List AV} {r : AV} {m2 : Mem} (hp : PFun P f args m1 r m2) (h : EmbOk m sb sr m1) : PFun P f (rens (num sb m.box.length) (num sr m.row.length) args) m (ren (num sb m.box.length) (num sr m.row.length) r) (embM m sb sr m2) := by
  intro G w vs hm ha
  refine (hp (subG G m sb sr) w vs (emb_mem hm h) (unrens h args vs ha)).mono fun v w' ⟨G2, k1, k2, k3⟩ => ⟨backG G m sb sr G2, back_mem hm h k2 k1, back_ev hm h k2, ren_rel h k2 r v k3⟩
/-- arguments that may be told otherwise -/
theorem PFun.co {f : Nat} {args args' : List AV} {r : AV} {m2 : Mem} (hp : PFun P f args' m r m2) (hc : Cos args args') : PFun P f args m r m2 := fun G w vs hm ha => hp G w vs hm (cos_rel args args' vs hc ha)
theorem callP_emb {f : Nat} {cargs args args' : List AV} {r : AV} {m2 : Mem} {K : AV → Mem → Prop} (sb sr : List Nat) (h : EmbOk m sb sr m1) (hc : Cos cargs args') (hr : args' = rens (num sb m.box.length) (num sr m.row.length) args) (hp : PFun P f args m1 r m2) (hk : Has (ren (num sb m.box.length) (num sr m.row.length) r) → K (ren (num sb m.box.length) (num sr m.row.length) r) (embM m sb sr m2)) : callP P m f cargs K :=
  .inr ⟨_, _, (hr ▸ (hp.emb h)).co hc, hk⟩
end
end PM
end Go.Proofs.YthaekefdadccaaaDoor
namespace Go.Proofs.YthaekefdadccaaaDoor
open Go.RowKit
namespace PM
section
variable {P : Program} {ops : Array Oper} {S : Mem → Prop} {F : List Nat} {md : Region.Mode}
theorem pairs_congr {ρ ρ' : Operand → AV} (ps : List (Nat × Operand)) (h : ∀ p ∈ ps, ρ p.2 = ρ' p.2) : (ps.map fun p => (p.1, ρ p.2)) = (ps.map fun p => (p.1, ρ' p.2)) :=
  List.map_congr_left fun p hp => by rw [h p hp]
theorem mapM_congr' {ρ ρ' : Operand → AV} : ∀ (ps : List (Nat × Operand)), (∀ p ∈ ps, ρ p.2 = ρ' p.2) → (ps.mapM fun p => elA (ρ p.2)) = (ps.mapM fun p => elA (ρ' p.2))
  | [], _ => rfl
  | p :: ps, h => by rw [List.mapM_cons, List.mapM_cons, h p (by simp), mapM_congr' ps fun q hq => h q (List.mem_cons_of_mem _ hq)]
set_option maxHeartbeats 1000000 in
theorem opP_congr {ρ ρ' : Operand → AV} (o : Oper) (h : ∀ x ∈ o.op.operands, ρ x = ρ' x) (m : Mem) (K : AV → Mem → Prop) : opP P ρ m o K = opP P ρ' m o K := by
  obtain ⟨dst, op, type, pos, after, guard⟩ := o
  cases op <;> simp only [Op.operands] at h <;> simp only [opP, valP]
  case build t ps => rw [pairs_congr ps.toList fun p hp => h p.2 (by simp; exact ⟨p.1, by simpa using hp⟩)]
  case buildSlice t n ps =>
    have hps : ∀ p ∈ ps.toList, ρ p.2 = ρ' p.2 := fun p hp => h p.2 (by simp; exact ⟨p.1, by simpa using hp⟩)
    have e1 : ∀ k : Nat, (ps.toList.all fun p => (ρ p.2).okv && ((cellsA (ρ p.2)).length == k)) = (ps.toList.all fun p => (ρ' p.2).okv && ((cellsA (ρ' p.2)).length == k)) := fun k => by
      rw [Bool.eq_iff_iff, List.all_eq_true, List.all_eq_true]
      exact ⟨fun hh p hp => by rw [← hps p hp]; exact hh p hp, fun hh p hp => by rw [hps p hp]; exact hh p hp⟩
    have e2 : (ps.toList.map fun p => cellsA (ρ p.2)) = ps.toList.map fun p => cellsA (ρ' p.2) := List.map_congr_left fun p hp => by rw [hps p hp]
    rw [mapM_congr' ps.toList hps, e2]
    simp only [e1]
  case makeFunc fn first cap =>
    cases fn <;> simp only
    case func f => rw [List.map_congr_left (l := cap.toList) fun x hx => h x (by simp; exact .inr (by simpa using hx))]
  case call c =>
    obtain ⟨callee, args, tys⟩ := c
    simp only [Call.operands] at h
    have ha : args.toList.map ρ = args.toList.map ρ' := List.map_congr_left fun x hx => h x (by simp; exact .inr (by simpa using hx))
    cases callee <;> simp only
    case value f => rw [ha, h f (by simp)]
    case builtin b => rw [ha]
  case slice t x lo hi mx => cases lo <;> cases hi <;> cases mx <;> simp_all
  all_goals (first | rfl | (simp_all; done))
theorem put_m (s : St) (d : Option Nat) (v : AV) : (s.put d v).m = s.m ∧ (s.put d v).n = s.n := by
  unfold St.put
  cases d with
  | none => exact ⟨rfl, rfl⟩
  | some d => simp only; split <;> exact ⟨rfl, rfl⟩
theorem put_t (s : St) (d : Option Nat) (v : AV) {i : Nat} (h : d ≠ some i) : (s.put d v).t i = s.t i := by
  unfold St.put
  cases d with
  | none => rfl
  | some d =>
    simp only
    split
    · exact upd_ne _ _ (fun e => h (by rw [e]))
    · rfl
theorem put_eval (s : St) (d : Option Nat) (v : AV) {x : Operand} (h : ∀ i, d = some i → x ≠ .tmp i) : (s.put d v).eval x = s.eval x := by
  cases x with
  | tmp i => exact put_t s d v (fun e => h i e rfl)
  | _ => rfl
theorem withm_put (s : St) (m' : Mem) (d : Option Nat) (v : AV) : (({ s with m := m' } : St).put d v) = { (s.put d v) with m := m' } := by
  unfold St.put
  cases d with
  | none => rfl
  | some d => simp only; split <;> rfl
theorem put_comm (s : St) {x y : Option Nat} (v u : AV) (h : ∀ d, x = some d → y ≠ some d) : (s.put x v).put y u = (s.put y u).put x v := by
  unfold St.put
  cases x with
  | none => rfl
  | some d =>
    cases y with
    | none => rfl
    | some e =>
      have hne : d ≠ e := fun he => h d rfl (he ▸ rfl)
      simp only
      by_cases h1 : d < s.n <;> by_cases h2 : e < s.n <;> simp only [h1, h2, ↓reduceIte, St.mk.injEq, and_self, and_true]
      funext j
      unfold upd
      by_cases hj : j = d
      · subst hj; simp [hne]
      · simp [hj]
theorem look_op {o : Oper} {d : Nat} (h : d ∉ o.looksAt ops) : ∀ x ∈ o.op.operands, x ≠ .tmp d := fun x hx e => h (by
  subst e
  exact List.mem_append_left _ (List.mem_filterMap.2 ⟨.tmp d, by simpa using hx, rfl⟩))
theorem want_put {s : St} {o : Oper} {dst : Option Nat} {v : AV} (h : ∀ d, dst = some d → d ∉ o.looksAt ops) (A B : Prop) : wantP ops (s.put dst v) o A B = wantP ops s o A B := by
  unfold wantP
  split
  · rfl
  · rename_i j want hg
    split
    · rfl
    · rename_i d hd
      rw [put_t]
      intro e
      refine h d e ?_
      unfold Oper.looksAt
      rw [hg]
      simp [hd]
theorem op_put {s : St} {o : Oper} {dst : Option Nat} {v : AV} (h : ∀ d, dst = some d → d ∉ o.looksAt ops) (m : Mem) (K : AV → Mem → Prop) : opP P (s.put dst v).eval m o K = opP P s.eval m o K :=
  opP_congr o (fun x hx => put_eval s dst v fun i hi => look_op (h i hi) x hx) m K
def opI (P : Program) (ops : Array Oper) (i : Nat) (K : St → Prop) (s : St) : Prop := match ops[i]? with
  | none => K s
  | some o => wantP ops s o (opP P s.eval s.m o fun r m' => K (({ s with m := m' } : St).put o.dst r)) (K (s.put o.dst (.tup [])))
theorem want_mono {s : St} {o : Oper} {A B A' B' : Prop} (hA : A → A') (hB : B → B') (h : wantP ops s o A B) : wantP ops s o A' B' := by
  unfold wantP at *
  cases hg : o.guard with
  | none => rw [hg] at h; exact hA h
  | some q =>
    obtain ⟨j, want⟩ := q
    rw [hg] at h
    simp only at h ⊢
    cases hd : (ops[j]?).bind (·.dst) with
    | none => rw [hd] at h; exact hB h
    | some d =>
      rw [hd] at h
      simp only at h ⊢
      cases ht : s.t d <;> rw [ht] at h <;> try exact h.elim
      case d x => cases x <;> first | exact h.elim | exact ⟨fun e => hA (h.1 e), fun e => hB (h.2 e)⟩
      case tup cs => exact hB h
theorem opI_mono {i : Nat} {K K' : St → Prop} {s : St} (h : ∀ s', K s' → K' s') (hh : opI P ops i K s) : opI P ops i K' s := by
  unfold opI at *
  cases ho : ops[i]? with
  | none => rw [ho] at hh; exact h _ hh
  | some o =>
    rw [ho] at hh
    exact want_mono (opP_mono fun r m' => h _) (h _) hh
/-- every order, in the abstract -/
def anyT (P : Program) (md : Region.Mode) (ops : Array Oper) (S : Mem → Prop) (F : List Nat) : Nat → Array Bool → (St → Prop) → St → Prop
  | 0, listed, K, s => Region.ready md ops listed = [] ∧ K s
  | fuel + 1, listed, K, s => (Region.ready md ops listed = [] → K s) ∧ ∀ i ∈ Region.ready md ops listed, opI P ops i (fun s' => (S s'.m ∨ i ∈ F) ∧ anyT P md ops S F fuel (listed.setIfInBounds i true) K s') s
theorem any_sound {Q : Exit → Act → World → Prop} {s0 : St} {G0 : Gh} {w0 : World} {K : St → Prop} (hQ : ∀ G' s' a' w', StR G' s' a' w' → Ev G0 s0.m w0 G' s'.m w' → K s' → Q .normal a' w') : ∀ (fuel : Nat) (listed : Array Bool) (s : St) (G : Gh) (a : Act) (w : World), anyT P md ops S F fuel listed K s → StR G s a w → Ev G0 s0.m w0 G s.m w → wpAny P md ops Q fuel listed a w
  | 0, listed, s, G, a, w, h, hs, hev => ⟨h.1, hQ G s a w hs hev h.2⟩
  | fuel + 1, listed, s, G, a, w, h, hs, hev => by
    refine ⟨fun he => hQ G s a w hs hev (h.1 he), fun i hi => ?_⟩
    have h1 := h.2 i hi
    unfold opI at h1
    unfold wpOp
    cases ho : ops[i]? with
    | none =>
      rw [ho] at h1
      exact any_sound hQ fuel _ s G a w h1.2 hs hev
    | some o =>
      rw [ho] at h1
      simp only at h1 ⊢
      rcases want_sound hs h1 with ⟨k1, k2⟩ | ⟨k1, k2⟩
      · rw [if_pos k1]
        refine .inl (op_sound hs.mem hs.ev o k2 fun v w' r G' m' q1 q2 q3 q4 => ?_)
        refine any_sound hQ fuel _ _ G' _ w' q4.2 (hs.put q1 q2 q3 o.dst) ?_
        rw [(put_m _ _ _).1]
        exact hev.trans q2
      · rw [if_neg (by rw [k1]; simp)]
        refine any_sound hQ fuel _ _ G _ w k2.2 (hs.put hs.mem (.refl _ _ _) relA_undef o.dst) ?_
        rw [(put_m _ _ _).1]
        exact hev
/-- yields r wherever S holds -/
def Yld (P : Program) (ops : Array Oper) (S : Mem → Prop) (o : Oper) (r : AV) (s : St) : Prop :=
  ((∀ A B : Prop, A → wantP ops s o A B) ∧ ∀ m', S m' → ∀ K : AV → Mem → Prop, K r m' → opP P s.eval m' o K) ∨ ((∀ A B : Prop, B → wantP ops s o A B) ∧ r = .tup [])
theorem Yld.run {i : Nat} {o : Oper} {r : AV} {s : St} (hi : ops[i]? = some o) (h : Yld P ops S o r s) (hS : S s.m) {K : St → Prop} (hK : K (s.put o.dst r)) : opI P ops i K s := by
  unfold opI
  rw [hi]
  rcases h with ⟨h1, h2⟩ | ⟨h1, rfl⟩
  · exact h1 _ _ (h2 s.m hS _ hK)
  · exact h1 _ _ hK
theorem Yld.put {o oj : Oper} {r v : AV} {s : St} {m' : Mem} (hap : ∀ d, oj.dst = some d → d ∉ o.looksAt ops) (h : Yld P ops S o r s) : Yld P ops S o r (({ s with m := m' } : St).put oj.dst v) := by
  have e1 : ∀ A B, wantP ops (({ s with m := m' } : St).put oj.dst v) o A B = wantP ops s o A B := fun A B => (want_put hap A B).trans rfl
  have e2 : ∀ m K, opP P (({ s with m := m' } : St).put oj.dst v).eval m o K = opP P s.eval m o K := fun m K => (op_put (s := { s with m := m' }) hap m K).trans rfl
  rcases h with ⟨h1, h2⟩ | ⟨h1, h2⟩
  · exact .inl ⟨fun A B hA => by rw [e1]; exact h1 A B hA, fun m2 hm K hK => by rw [e2]; exact h2 m2 hm K hK⟩
  · exact .inr ⟨fun A B hB => by rw [e1]; exact h1 A B hB, h2⟩
/-- one that is apart from i: whether i's value is there already makes no difference to it -/
theorem opI_put {j : Nat} {oi oj : Oper} {v : AV} {s : St} (hj : ops[j]? = some oj) (hap : oi.apart ops oj = true) (hy : Yld P ops S oi v s) {K : St → Prop} (h : opI P ops j K (s.put oi.dst v)) : opI P ops j (fun s' => Yld P ops S oi v s' ∧ K (s'.put oi.dst v)) s := by
  obtain ⟨h1, h2, h3⟩ := Oper.apart_spec hap
  unfold opI at *
  rw [hj] at h ⊢
  simp only at h ⊢
  rw [want_put h1, op_put h1, (put_m _ _ _).1] at h
  refine want_mono (opP_mono fun r m' hK => ⟨hy.put h3, ?_⟩) (fun hK => ⟨hy.put (m' := s.m) h3, ?_⟩) h
  · rw [put_comm _ _ _ (fun d hd he => h2 d he hd), withm_put s m' oi.dst v]
    exact hK
  · rw [put_comm _ _ _ (fun d hd he => h2 d he hd)]
    exact hK
theorem any_first {i : Nat} {oi : Oper} {v : AV} {K : St → Prop} (hi : ops[i]? = some oi) (hL : ∀ j ∈ F, reachB md ops i ops.size j = true) :
    ∀ (fuel : Nat) (listed : Array Bool) (s : St), ShutL md ops listed →
      (∀ j oj, ops[j]? = some oj → j ≠ i → listed.getD j true = false → (∀ e ∈ oj.after, Region.binds md e = true → e.on ≠ i) → oi.apart ops oj = true) →
      i ∈ Region.ready md ops listed → Yld P ops S oi v s → S s.m →
      anyT P md ops S F fuel (listed.setIfInBounds i true) K (s.put oi.dst v) → anyT P md ops S F (fuel + 1) listed K s := by
  intro fuel
  induction fuel with
  | zero =>
    intro listed s _ _ hr hy hS H
    refine ⟨fun h => (by rw [h] at hr; cases hr), fun j hj => ?_⟩
    by_cases hji : j = i
    · subst hji; exact hy.run hi hS ⟨.inl (by rw [(put_m _ _ _).1]; exact hS), H⟩
    · have := ready_mono hj hji
      rw [H.1] at this
      cases this
  | succ fuel ih =>
    intro listed s hshut hfree hr hy hS H
    refine ⟨fun h => (by rw [h] at hr; cases hr), fun j hj => ?_⟩
    by_cases hji : j = i
    · subst hji; exact hy.run hi hS ⟨.inl (by rw [(put_m _ _ _).1]; exact hS), H⟩
    · have h1 := H.2 j (ready_mono hj hji)
      obtain ⟨hjun, oj, hoj, hall⟩ := mem_ready.1 hj
      have hinot : listed.getD i false = true → False := fun h1 => by
        have h0 := (mem_ready.1 hr).1
        rcases Nat.lt_or_ge i listed.size with h' | h'
        · simp [h'] at h0 h1; rw [h0] at h1; cases h1
        · simp [Array.getElem?_eq_none h'] at h1
      have hnot : ∀ e ∈ oj.after, Region.binds md e = true → e.on ≠ i := fun e he hb heq => by
        have h1 := hall e he hb
        rw [heq] at h1
        exact hinot h1
      have hjL : ¬ j ∈ F := fun hjF => hinot (reach_listed hshut _ j oj hoj hall (hL j hjF))
      have h2 := opI_put hoj (hfree j oj hoj hji hjun hnot) hy h1
      have hfree' : ∀ k ok, ops[k]? = some ok → k ≠ i → (listed.setIfInBounds j true).getD k true = false →
          (∀ e ∈ ok.after, Region.binds md e = true → e.on ≠ i) → oi.apart ops ok = true := fun k ok hk hki hun hno => by
        refine hfree k ok hk hki ?_ hno
        by_cases hjk : j = k
        · subst hjk; exact hjun
        · rw [getD_set_ne true hjk] at hun; exact hun
      refine opI_mono (fun s' h3 => ?_) h2
      have hS' : S s'.m := by
        have := h3.2.1.resolve_right hjL
        rwa [(put_m _ _ _).1] at this
      refine ⟨.inl hS', ih (listed.setIfInBounds j true) s' (shutL_set hshut hoj hall) hfree' (ready_mono hr (Ne.symm hji)) h3.1 hS' ?_⟩
      rw [Array.setIfInBounds_comm _ _ hji]
      exact h3.2.2
/-- may it be taken first? -/
def firstOk : Op → Bool
  | .call c => (match c.callee with
    | .builtin .len => true
    | .builtin .min => true
    | .builtin .max => true
    | .value _ => true
    | _ => false)
  | .alloc _ | .box _ _ | .store _ _ _ | .buildSlice _ _ _ | .makeSlice _ _ _ | .makeMap _ _ | .mapUpdate _ _ _ _ | .insert _ _ _ _ | .lookup _ _ _ _ => false
  | _ => true
/-- taken first: the boxes in L are as they were -/
def firstP (P : Program) (L : List Nat) (ρ : Operand → AV) (m : Mem) (o : Oper) (K : AV → Prop) : Prop := match o.op with
  | .call c => (match c.callee with
    | .builtin b => firstOk o.op = true ∧ ((c.args.toList.map ρ).all fun x => !isMapA x) = true ∧ builtinP P m b c.argTypes.toList (c.args.toList.map ρ) fun r _ => K r
    | .value x => (match ρ x with
      | .fn f cap => ∃ args' r, Pure P f args' r ∧ Cos (c.args.toList.map ρ ++ cap) args' ∧ purAs args' = true ∧ K r
      | .d (.fnp f) => ∃ args' r, Pure P f args' r ∧ Cos (c.args.toList.map ρ) args' ∧ purAs args' = true ∧ K r
      | _ => False)
    | _ => False)
  | .convert _ _ x => isBsl (ρ x) = false ∧ valP P ρ m o.op K
  | .load _t x => (match ρ x with
    | .ptr id _ => id ∈ L ∧ valP P ρ m o.op K
    | .cp _ => valP P ρ m o.op K
    | _ => False)
  | .buildSlice t len parts => (match elOf P t with
    | some (e, k) => (zeroA P e).isSome = true ∧ parts.toList.map (·.1) = List.range len ∧ 0 < k ∧ len * k ≤ 16777216 ∧ (match parts.toList.mapM (fun p => elA (ρ p.2)) with
      | some xs => (xs.all fun x => x.length == k) = true ∧ K (.d (.sl k xs))
      | none => False)
    | none => False)
  | op => firstOk op = true ∧ valP P ρ m op K
def keepL (L : List Nat) (m0 m : Mem) : Prop := ∀ id ∈ L, m.box[id]? = m0.box[id]?
theorem builtin_first {m : Mem} {b : Builtin} {ts ts' : Array TypeId} {cargs : Array Operand} {as : List AV} {K : AV → Prop} (hb : firstOk (.call ⟨.builtin b, cargs, ts'⟩) = true) (h0 : (as.all fun x => !isMapA x) = true) (h : builtinP P m b ts.toList as fun r _ => K r) : ∃ r, K r ∧ ∀ m', ∀ K' : AV → Mem → Prop, K' r m' → builtinP P m' b ts.toList as K' := by
  generalize ts.toList = tl at *
  cases b <;> simp only [firstOk, Bool.false_eq_true] at hb
  case len =>
    match as, h0, h with
    | [x], h0, h =>
      have hx : isMapA x = false := by simpa using h0
      unfold builtinP at h
      simp only [hx, Bool.false_eq_true, ↓reduceIte] at h
      split at h
      · obtain ⟨r, k1, k2⟩ := len_det (fun r => K r) h
        refine ⟨r, k1, fun m' K' hK => ?_⟩
        unfold builtinP
        simp only [hx, Bool.false_eq_true, ↓reduceIte]
        exact k2 (fun r => K' r m') hK
      · exact h.elim
    | [], _, h => exact h.elim
    | _ :: _ :: _, _, h => exact h.elim
  case min =>
    match as, h with
    | [x, y], h =>
      have h' : (match min2 x y with | some r => K r | none => False) := h
      cases hr : min2 x y with
      | none => rw [hr] at h'; exact h'.elim
      | some r =>
        rw [hr] at h'
        refine ⟨r, h', fun m' K' hK => ?_⟩
        show (match min2 x y with | some r => K' r m' | none => False)
        rw [hr]; exact hK
    | [], h => exact h.elim
    | [x], h => exact h.elim
    | _ :: _ :: _ :: _, h => exact h.elim
  case max =>
    match as, h with
    | [x, y], h =>
      have h' : (match max2 x y with | some r => K r | none => False) := h
      cases hr : max2 x y with
      | none => rw [hr] at h'; exact h'.elim
      | some r =>
        rw [hr] at h'
        refine ⟨r, h', fun m' K' hK => ?_⟩
        show (match max2 x y with | some r => K' r m' | none => False)
        rw [hr]; exact hK
    | [], h => exact h.elim
    | [x], h => exact h.elim
    | _ :: _ :: _ :: _, h => exact h.elim
theorem first_spec {L : List Nat} {m0 m : Mem} {s : St} {o : Oper} {K : AV → Prop} (hm : keepL L m0 m) (h : firstP P L s.eval m o K) : ∃ r, K r ∧ ∀ m', keepL L m0 m' → ∀ K' : AV → Mem → Prop, K' r m' → opP P s.eval m' o K' := by
  obtain ⟨dst, op, type, pos, after, guard⟩ := o
  have val : noload s.eval op = true → firstOk op = true → (∀ m' K', valP P s.eval m' op (fun r => K' r m') → opP P s.eval m' ⟨dst, op, type, pos, after, guard⟩ K') → valP P s.eval m op K → ∃ r, K r ∧ ∀ m', keepL L m0 m' → ∀ K' : AV → Mem → Prop, K' r m' → opP P s.eval m' ⟨dst, op, type, pos, after, guard⟩ K' := fun h1 _ h2 h3 => by
    obtain ⟨r, k1, k2⟩ := val_det K h3
    exact ⟨r, k1, fun m' _ K' hK => h2 m' K' (k2 m' (.inl h1) _ hK)⟩
  cases op
  case call c =>
    obtain ⟨callee, args, tys⟩ := c
    simp only [firstP] at h
    cases callee with
    | invoke r n => exact h.elim
    | builtin b =>
      simp only at h
      obtain ⟨h1, h0, h2⟩ := h
      have key := builtin_first h1 h0 h2
      obtain ⟨r, k1, k2⟩ := key
      exact ⟨r, k1, fun m' _ K' hK => by simp only [opP]; exact k2 m' K' hK⟩
    | value x =>
      simp only at h
      split at h
      · rename_i f cap he
        obtain ⟨args', r, h1, h2, h3, h4⟩ := h
        exact ⟨r, h4, fun m' _ K' hK => by simp only [opP, he]; exact .inl ⟨args', r, h1, h2, h3, fun _ => hK⟩⟩
      · rename_i f he
        obtain ⟨args', r, h1, h2, h3, h4⟩ := h
        exact ⟨r, h4, fun m' _ K' hK => by simp only [opP, he]; exact .inl ⟨args', r, h1, h2, h3, fun _ => hK⟩⟩
      · exact h.elim
  case convert t d x =>
    simp only [firstP] at h
    exact val (by simp [noload, h.1]) rfl (fun m' K' hv => by simp only [opP]; exact hv) h.2
  case load t x =>
    simp only [firstP] at h
    split at h
    · rename_i id off he
      obtain ⟨h1, h2⟩ := h
      simp only [valP, he] at h2
      split at h2
      · rename_i b hb
        obtain ⟨hbe, h2⟩ := h2
        obtain ⟨r, k1, k2⟩ := load_det K h2
        refine ⟨r, k1, fun m' hm' K' hK => ?_⟩
        have hb' : m'.box[id]? = some (some b) := by rw [hm' id h1, ← hm id h1]; exact hb
        simp only [opP, valP, he, hb']
        exact ⟨hbe, k2 (fun r => K' r m') hK⟩
      · exact h2.elim
    · rename_i cs he
      simp only [valP, he] at h
      obtain ⟨r, k1, k2⟩ := load_det K h
      exact ⟨r, k1, fun m' _ K' hK => by simp only [opP, valP, he]; exact k2 (fun r => K' r m') hK⟩
    · exact h.elim
  case buildSlice t len parts =>
    simp only [firstP] at h
    split at h
    · rename_i e k he
      obtain ⟨h1, h2, h3, h4, h5⟩ := h
      split at h5
      · rename_i xs hx
        exact ⟨_, h5.2, fun m' _ K' hK => by simp only [opP, he, hx]; exact .inl ⟨h1, h2, h3, h4, h5.1, .inl hK⟩⟩
      · exact h5.elim
    · exact h.elim
  all_goals
    simp only [firstP] at h
    first
      | (exfalso; simp [firstOk] at h; done)
      | exact val rfl h.1 (fun m' K' hv => by simp only [opP]; first | exact hv | exact .inl hv) h.2
/-- the operations in the order ord; those with a mark are taken first -/
def opsO (P : Program) (ops : Array Oper) (L : List Nat) (m0 : Mem) (F : List Nat) : List (Nat × Bool) → (St → Prop) → St → Prop
  | [], K, s => K s
  | (i, true) :: rest, K, s => match ops[i]? with
    | none => False
    | some o => wantP ops s o (firstP P L s.eval s.m o fun r => opsO P ops L m0 F rest K (s.put o.dst r)) (opsO P ops L m0 F rest K (s.put o.dst (.tup [])))
  | (i, false) :: rest, K, s => match ops[i]? with
    | none => False
    | some o => wantP ops s o (opP P s.eval s.m o fun r m' => (keepL L m0 m' ∨ (F.contains i = true ∧ rest.all (fun x => !x.2) = true)) ∧ opsO P ops L m0 F rest K (({ s with m := m' } : St).put o.dst r)) ((keepL L m0 s.m ∨ (F.contains i = true ∧ rest.all (fun x => !x.2) = true)) ∧ opsO P ops L m0 F rest K (s.put o.dst (.tup [])))
/-- is it an order that serves? -/
def chkO (ops : Array Oper) (F : List Nat) : List (Nat × Bool) → Array Bool → Bool
  | [], listed => (Region.ready .any ops listed).isEmpty
  | (i, true) :: rest, listed => (Region.ready .any ops listed).contains i && Region.free .any ops listed i && F.all (fun j => reachB .any ops i ops.size j) && shutB .any ops listed && chkO ops F rest (listed.setIfInBounds i true)
  | (i, false) :: rest, listed => (Region.ready .any ops listed == [i]) && chkO ops F rest (listed.setIfInBounds i true)
theorem want_cases {s : St} {o : Oper} {A B : Prop} (h : wantP ops s o A B) : ((∀ X Y : Prop, X → wantP ops s o X Y) ∧ A) ∨ ((∀ X Y : Prop, Y → wantP ops s o X Y) ∧ B) := by
  unfold wantP at *
  cases hg : o.guard with
  | none => rw [hg] at h; exact .inl ⟨fun X Y hX => hX, h⟩
  | some q =>
    obtain ⟨j, want⟩ := q
    rw [hg] at h
    simp only at h ⊢
    cases hd : (ops[j]?).bind (·.dst) with
    | none => rw [hd] at h; exact .inr ⟨fun X Y hY => hY, h⟩
    | some d =>
      rw [hd] at h
      simp only at h ⊢
      cases ht : s.t d <;> rw [ht] at h <;> try exact h.elim
      case d x =>
        cases x <;> try exact h.elim
        case bool b =>
          by_cases hb : b = want
          · exact .inl ⟨fun X Y hX => ⟨fun _ => hX, fun hn => absurd hb hn⟩, h.1 hb⟩
          · exact .inr ⟨fun X Y hY => ⟨fun he => absurd he hb, fun _ => hY⟩, h.2 hb⟩
      case tup cs => exact .inr ⟨fun X Y hY => hY, h⟩
theorem opsO_sound {l : List Oper} {L : List Nat} {m0 : Mem} {K : St → Prop} : ∀ (ord : List (Nat × Bool)) (listed : Array Bool) (s : St), chkO l.toArray F ord listed = true → opsO P l.toArray L m0 F ord K s → (keepL L m0 s.m ∨ ord.all (fun x => !x.2) = true) → ∀ fuel, ord.length ≤ fuel → anyT P .any l.toArray (keepL L m0) F fuel listed K s
  | [], listed, s, hc, h, _, fuel, _ => by
    unfold chkO at hc
    have hr : Region.ready .any l.toArray listed = [] := by simpa using hc
    cases fuel with
    | zero => exact ⟨hr, h⟩
    | succ n => exact ⟨fun _ => h, by rw [hr]; simp⟩
  | (i, true) :: rest, listed, s, hc, h, hS, fuel, hf => by
    unfold chkO at hc
    simp only [Bool.and_eq_true] at hc
    obtain ⟨⟨⟨⟨h1, h2⟩, h3⟩, h4⟩, h5⟩ := hc
    unfold opsO at h
    cases ho : l.toArray[i]? with
    | none => rw [ho] at h; exact h.elim
    | some o =>
      rw [ho] at h
      simp only at h
      have hS' : keepL L m0 s.m := hS.resolve_right (by simp)
      cases fuel with
      | zero => simp at hf
      | succ n =>
        have ih := fun (s' : St) (hs' : opsO P l.toArray L m0 F rest K s') (hm : keepL L m0 s'.m) => opsO_sound rest (listed.setIfInBounds i true) s' h5 hs' (.inl hm) n (by simpa using hf)
        have fin : ∀ r, Yld P l.toArray (keepL L m0) o r s → opsO P l.toArray L m0 F rest K (s.put o.dst r) → anyT P .any l.toArray (keepL L m0) F (n + 1) listed K s := fun r hy hr =>
          any_first ho (List.all_eq_true.1 h3) n listed s (shutB_spec h4) (Region.free_spec ho h2) (by simpa using h1) hy hS' (ih _ hr (by rw [(put_m _ _ _).1]; exact hS'))
        rcases want_cases h with ⟨k1, k2⟩ | ⟨k1, k2⟩
        · obtain ⟨r, q1, q2⟩ := first_spec (L := L) (m0 := m0) hS' k2
          exact fin r (.inl ⟨k1, fun m' hm' K' hK => q2 m' hm' K' hK⟩) q1
        · exact fin _ (.inr ⟨k1, rfl⟩) k2
  | (i, false) :: rest, listed, s, hc, h, hS, fuel, hf => by
    unfold chkO at hc
    simp only [Bool.and_eq_true, beq_iff_eq] at hc
    obtain ⟨h1, h2⟩ := hc
    unfold opsO at h
    cases ho : l.toArray[i]? with
    | none => rw [ho] at h; exact h.elim
    | some o =>
      rw [ho] at h
      simp only at h
      cases fuel with
      | zero => simp at hf
      | succ n =>
        refine ⟨fun h0 => (by rw [h1] at h0; cases h0), fun j hj => ?_⟩
        rw [h1, List.mem_singleton] at hj
        subst hj
        unfold opI
        rw [ho]
        refine want_mono (opP_mono fun r m' hK => ?_) (fun hK => ?_) h
        · obtain ⟨q1, q2⟩ := hK
          have q3 := opsO_sound rest (listed.setIfInBounds j true) _ h2 q2 (by rw [(put_m _ _ _).1]; exact q1.imp id (·.2)) n (by simpa using hf)
          refine ⟨?_, q3⟩
          rw [(put_m _ _ _).1]
          exact q1.imp id (fun h => by simpa using h.1)
        · obtain ⟨q1, q2⟩ := hK
          have q3 := opsO_sound rest (listed.setIfInBounds j true) _ h2 q2 (by rw [(put_m _ _ _).1]; exact q1.imp id (·.2)) n (by simpa using hf)
          refine ⟨?_, q3⟩
          rw [(put_m _ _ _).1]
          exact q1.imp id (fun h => by simpa using h.1)
/-- a region that draws its order, carried out in one order -/
theorem PW.draw {id : Nat} {l : List Oper} {Q : Exit → St → Prop} {s : St} (hmx : P.follows .mixedOrders = true) (L : List Nat) (F : List Nat) (ord : List (Nat × Bool)) (hc : chkO l.toArray F ord (Array.replicate l.length false) = true) (hl : ord.length ≤ l.length)
    (h : ∀ K : St → Prop, (∀ s', Q .normal s' → K s') → opsO P l.toArray L s.m F ord K s) : PW P (.region id l.toArray true) Q s := by
  intro G a w hs
  have hdrew : Below w.heap.size w w.drew := (Below.refl _ w).drew
  have hs' : StR G s a w.drew := ⟨hs.mem.below hdrew, fun i => (hs.t i).mono (ev_below hdrew), hs.n, hs.df⟩
  refine wp_region_any hmx ?_
  rw [show l.toArray.size = l.length by simp]
  exact any_sound (s0 := s) (G0 := G) (w0 := w) (K := Q .normal) (fun G' s' a' w' h1 h2 h3 => ⟨G', s', h1, h2, h3⟩) l.length _ s G a w.drew
    (opsO_sound ord _ s hc (h _ fun _ h => h) (.inl fun id _ => rfl) l.length hl) hs' (ev_below hdrew)
theorem PW.drawR {id : Nat} {l : List Oper} {Q : Exit → St → Prop} {s : St} (hmx : P.follows .mixedOrders = true) (F : List Nat) (ord : List (Nat × Bool)) (hc : chkO l.toArray F ord (Array.replicate l.length false) = true) (hl : ord.length ≤ l.length)
    (h : ∀ K : St → Prop, (∀ s', Q .normal s' → K s') → opsO P l.toArray (List.range s.m.box.length) s.m F ord K s) : PW P (.region id l.toArray true) Q s := PW.draw hmx _ F ord hc hl h
end
end PM
end Go.Proofs.YthaekefdadccaaaDoor
