/- What came in, opened and read by its shape. No program in sight. -/
import Derived.Test.YtmojbamloanleaaKit
import Derived.ProofKit
import Derived.OpenShut
import Derived.ShutString
import Derived.ChangeOld
import Derived.Lib.SmallJoins
import Derived.JoinedCond
import Derived.SizedLaws
import Derived.Test.YtmojbamloanleaaRows
import Derived.Deep.Slices
set_option linter.unusedVariables false
set_option linter.unusedSimpArgs false
namespace Go.Proofs.Ytmojbamloanleaa
open Go.ChangeShapes Go.WideShapes Go.ChangeAt Go.RowKit Go.Joins
section
variable {H : Type} {enc : TypeId × Value → H} {P : Program} {w : World} {base : Nat} {spare : Nat → Bool} {held : Bool}
theorem rng_u8 {zs : List Int} (h : ∀ n ∈ zs, (Lit.int .u8 n).wf = true) : Rng zs := fun x hx => by
  have := h x hx
  simpa [Lit.wf, IntKind.min, IntKind.max, IntKind.signed, IntKind.bits] using this
/-- one cell that holds a []byte -/
theorem isB_of_trod {t e : TypeId} {fuel : Nat} {v : Value} {x : DataW H × List MemPlace} (ht : P.underlying t = some (.slice e)) (he : P.underlying e = some (.int .u8)) (hc : P.cellsOf e = 1)
    (h : DataW.trod enc P w base spare held fuel t [v] = some x) : ∃ l, IsB w v l ∧ (l = [] ∨ ∃ elems sp, x.1 = .slice elems sp ∧ elems.length = l.length) := by
  rcases open_ints ht he hc h with ⟨hcs, _⟩ | ⟨a, len, cap, zs, hcs, _, hl, hm, hz, hx, hcell, hwz⟩
  · simp at hcs; subst hcs; exact ⟨[], IsB.nil w, .inl rfl⟩
  · simp at hcs; subst hcs
    have hlen : (zs.take len).length = len := by
      rw [List.length_take]
      have : len ≤ zs.length := by rw [hz]; split <;> omega
      omega
    refine ⟨zs.take len, ⟨(rng_u8 hwz).take len, some a, cap, by rw [hlen], by rw [hlen]; exact hl, hm, (fun h => by cases h), fun a' ha hp => ?_⟩, .inr ⟨_, _, by rw [hx], by simp [lits]⟩⟩
    cases ha
    rw [hlen] at hp
    have hzl : len ≤ zs.length := by rw [hz]; split <;> omega
    have h0 := hcell 0 (by omega)
    have hs : a.spot = none := by simpa [Addr.add] using World.cell?_spot h0
    obtain ⟨b, o, s⟩ := a
    simp only at hs
    subst hs
    have plain : ∀ i, (⟨b, o, none⟩ : Addr).add i = ⟨b, o + i, none⟩ := fun i => by unfold Addr.add; split <;> simp_all
    refine ⟨rfl, World.block_lt_of_cell? w _ ((plain 0) ▸ h0), fun i hi => ?_⟩
    rw [hlen] at hi
    have := hcell i (by omega)
    rw [plain] at this
    rw [this]
    simp [List.getD, List.getElem?_take_of_lt hi]
theorem open_isB {t e : TypeId} {r : Reach} {b0 : Nat} {v : Value} {d : DataW H} {p : List MemPlace} (ht : P.underlying t = some (.slice e)) (he : P.underlying e = some (.int .u8)) (hc : P.cellsOf e = 1)
    (hv : Value.okWide P w r b0 t v) (h : DataW.Trod enc P w base spare held t v d p) : ∃ l, IsB w v l ∧ (l = [] ∨ ∃ elems sp, d = .slice elems sp ∧ elems.length = l.length) := by
  obtain ⟨a, len, cap, rfl⟩ := okWide_slice ht hv
  obtain ⟨fuel, hf⟩ := h
  exact isB_of_trod ht he hc (by simpa [Value.cells] using hf)
/-- an array of two integers, by value -/
theorem open_arr2 {t e : TypeId} {k : IntKind} {r : Reach} {b0 : Nat} {v : Value} {d : DataW H} {p : List MemPlace} (ht : P.underlying t = some (.array 2 e)) (he : P.underlying e = some (.int k)) (hc : P.cellsOf e = 1) (hC : P.cellsOf t = 2)
    (hv : Value.okWide P w r b0 t v) (h : DataW.Trod enc P w base spare held t v d p) : ∃ x y : Int, v = .agg #[.int k x, .int k y] ∧ (Lit.int k x).wf = true ∧ (Lit.int k y).wf = true := by
  unfold Value.okWide at hv
  rw [ht] at hv
  obtain ⟨cs, rfl, hsz, _⟩ := hv
  obtain ⟨l⟩ := cs
  match l, hsz.trans hC with
  | [c0, c1], _ =>
    obtain ⟨fuel, hf⟩ := h
    obtain ⟨xs, m, _, _, _, hl, hx⟩ := DataW.trod_array ht hf
    match xs, hl with
    | [y0, y1], _ =>
      have h0 : DataW.trod enc P w base spare held m e [c0] = some y0 := by simpa [hc, Value.cells] using hx 0 (by omega)
      have h1 : DataW.trod enc P w base spare held m e [c1] = some y1 := by simpa [hc, Value.cells] using hx 1 (by omega)
      obtain ⟨x, e0, rfl, wx⟩ := DataW.trod_int he h0
      obtain ⟨y, e1, rfl, wy⟩ := DataW.trod_int he h1
      simp at e0 e1
      subst e0 e1
      exact ⟨x, y, rfl, wx, wy⟩
end
end Go.Proofs.Ytmojbamloanleaa
namespace Go.Proofs.Ytmojbamloanleaa
open Go.ChangeShapes Go.WideShapes Go.ChangeAt Go.RowKit Go.Joins Go.Deep
/-- a type's shape -/
inductive Ty where
  | int (k : IntKind)
  | bool
  | str
  | st (fields : Ty)
  | fnil
  | fcons (off : Nat) (a rest : Ty)
  | sl (by_ : Nat) (e : Ty)
  | arr (n : Nat) (e : Ty)
def Ty.D : Ty → Type
  | .int _ => Int
  | .bool => Bool
  | .str => ByteArray
  | .st f => f.D
  | .fnil => Unit
  | .fcons _ a r => a.D × r.D
  | .sl _ e => List e.D
  | .arr _ e => List e.D
def Ty.size : Ty → Nat
  | .int _ => 1
  | .bool => 1
  | .str => 1
  | .st f => f.size
  | .fnil => 0
  | .fcons off a r => max (off + a.size) r.size
  | .sl _ _ => 1
  | .arr n e => n * e.size
/-- element i -/
def nth {α : Type} (l : List α) (i : Nat) : Option α := l[i]?
theorem list_of {α : Type} {Q : Nat → α → Prop} : ∀ n, (∀ i, i < n → ∃ x, Q i x) → ∃ l : List α, l.length = n ∧ ∀ i x, nth l i = some x → Q i x
  | 0, _ => ⟨[], rfl, fun i x h => by simp [nth] at h⟩
  | n + 1, h => by
    obtain ⟨l, h1, h2⟩ := list_of n (fun i hi => h i (by omega))
    obtain ⟨y, hy⟩ := h n (by omega)
    refine ⟨l ++ [y], by simp [h1], fun i x hx => ?_⟩
    unfold nth at hx
    rcases Nat.lt_or_ge i n with hi | hi
    · rw [List.getElem?_append_left (by omega)] at hx
      exact h2 i x hx
    · rw [List.getElem?_append_right (by omega)] at hx
      have : i = n := by
        rcases Nat.lt_or_ge (i - l.length) 1 with k | k
        · omega
        · rw [List.getElem?_eq_none (by simpa using k)] at hx; cases hx
      subst this
      simp [h1] at hx
      subst hx
      exact hy
/-- these cells read as d -/
def Rd (w : World) : (t : Ty) → List Value → t.D → Prop
  | .int k, cs, n => cs = [.int k n] ∧ (Lit.int k n).wf = true
  | .bool, cs, b => cs = [.bool b]
  | .str, cs, s => cs = [.string s] ∧ s.size ≤ maxLen
  | .st f, cs, d => cs.length = f.size ∧ Rd w f cs d
  | .fnil, _, _ => True
  | .fcons off a r, cs, d => Rd w a ((cs.drop off).take a.size) d.1 ∧ Rd w r cs d.2
  | .sl _ e, cs, l => ∃ ao cap, cs = [.slice ao (List.length (α := e.D) l) cap] ∧ List.length (α := e.D) l ≤ cap ∧ cap ≤ maxLen ∧ (ao = none → List.length (α := e.D) l = 0 ∧ cap = 0) ∧
      ∀ i (x : e.D), nth (α := e.D) l i = some x → ∃ b o cs', ao = some ⟨b, o, none⟩ ∧ b < w.heap.size ∧ cs'.length = e.size ∧ (∀ j u, cs'[j]? = some u → w.cell? ⟨b, o + i * e.size + j, none⟩ = some u) ∧ Rd w e cs' x
  | .arr n e, cs, l => List.length (α := e.D) l = n ∧ ∀ i (x : e.D), nth (α := e.D) l i = some x → Rd w e ((cs.drop (i * e.size)).take e.size) x
/-- each slice and string in it has at most so many elements -/
def Fits (N : Nat) : (t : Ty) → t.D → Prop
  | .int _, _ => True
  | .bool, _ => True
  | .str, s => ByteArray.size s ≤ N
  | .st f, d => Fits N f d
  | .fnil, _ => True
  | .fcons _ a r, d => Fits N a d.1 ∧ Fits N r d.2
  | .sl b e, l => List.length (α := e.D) l * b ≤ N ∧ ∀ i (x : e.D), nth (α := e.D) l i = some x → Fits N e x
  | .arr _ e, l => ∀ i (x : e.D), nth (α := e.D) l i = some x → Fits N e x
/-- how many values and letters -/
def Bulk : (t : Ty) → t.D → Nat
  | .int _, _ => 1
  | .bool, _ => 1
  | .str, s => ByteArray.size s + 1
  | .st f, d => Bulk f d + 1
  | .fnil, _ => 0
  | .fcons _ a r, d => Bulk a d.1 + Bulk r d.2
  | .sl _ e, l => (List.map (fun x : e.D => Bulk e x) l).sum + 1
  | .arr _ e, l => (List.map (fun x : e.D => Bulk e x) l).sum + 1
theorem sum_le {α : Type} {f : α → Nat} : ∀ (l : List α) (g : Nat → Nat), (∀ i x, nth l i = some x → f x ≤ g i) → (l.map f).sum ≤ ((List.range l.length).map g).sum
  | [], _, _ => by simp
  | y :: l, g, h => by
    have h0 := h 0 y rfl
    have ih := sum_le l (fun i => g (i + 1)) (fun i x hx => h (i + 1) x hx)
    rw [List.length_cons, List.range_succ_eq_map, List.map_cons, List.map_cons, List.map_map, List.sum_cons, List.sum_cons]
    have e : ((List.range l.length).map (g ∘ Nat.succ)) = (List.range l.length).map (fun i => g (i + 1)) := rfl
    rw [e]
    omega
theorem bulkAll_eq {H : Type} : ∀ l : List (DataW H), Rows.uptoBulkAll l = (l.map Rows.uptoBulk).sum
  | [] => by simp [Rows.uptoBulkAll]
  | d :: l => by simp only [Rows.uptoBulkAll, List.map_cons, List.sum_cons, bulkAll_eq l]
theorem weightsAll_mem {H : Type} {P : Program} {e : TypeId} {B : Nat} : ∀ {l : List (DataW H)} {d : DataW H}, d ∈ l → (DataW.weightsAll P e l).all (· ≤ B) = true → (d.weights P e).all (· ≤ B) = true
  | x :: l, d, h, k => by
    simp only [DataW.weightsAll, List.all_append, Bool.and_eq_true] at k
    cases List.mem_cons.1 h with
    | inl e => subst e; exact k.1
    | inr e => exact weightsAll_mem e k.2
theorem Rd.below {w w' : World} (hb : Below w.heap.size w w') : ∀ (t : Ty) (cs : List Value) (d : t.D), Rd w t cs d → Rd w' t cs d
  | .int _, _, _, h => by unfold Rd at h ⊢; exact h
  | .bool, _, _, h => by unfold Rd at h ⊢; exact h
  | .str, _, _, h => by unfold Rd at h ⊢; exact h
  | .st f, cs, d, h => by unfold Rd at h ⊢; exact ⟨h.1, Rd.below hb f cs d h.2⟩
  | .fnil, _, _, _ => by unfold Rd; trivial
  | .fcons _ a r, cs, d, h => by unfold Rd at h ⊢; exact ⟨Rd.below hb a _ _ h.1, Rd.below hb r cs d.2 h.2⟩
  | .sl _ e, _, l, h => by
    unfold Rd at h ⊢
    obtain ⟨ao, cap, h1, h2, h3, h4, h5⟩ := h
    refine ⟨ao, cap, h1, h2, h3, h4, fun i x hx => ?_⟩
    obtain ⟨b, o, cs', k1, k2, k3, k4, k5⟩ := h5 i x hx
    exact ⟨b, o, cs', k1, Nat.lt_of_lt_of_le k2 hb.size, k3, fun j u hu => (hb.cell (p := ⟨b, o + i * e.size + j, none⟩) k2).trans (k4 j u hu), Rd.below hb e cs' x k5⟩
  | .arr n e, cs, l, h => by unfold Rd at h ⊢; exact ⟨h.1, fun i x hx => Rd.below hb e _ x (h.2 i x hx)⟩
section
variable {H : Type} {enc : TypeId × Value → H} {P : Program} {w : World} {base : Nat} {spare : Nat → Bool} {held : Bool}
/-- a type of the program has this shape; or: these fields from the i-th on -/
def Mt (P : Program) : Ty → TypeId ⊕ (Array Field × Nat) → Prop
  | .int k, .inl t => P.underlying t = some (.int k) ∧ P.cellsOf t = 1
  | .bool, .inl t => P.underlying t = some .bool ∧ P.cellsOf t = 1
  | .str, .inl t => P.underlying t = some .string ∧ P.cellsOf t = 1
  | .st f, .inl t => ∃ fs, P.underlying t = some (.struct fs) ∧ P.cellsOf t = f.size ∧ Mt P f (.inr (fs, 0))
  | .fnil, .inr _ => True
  | .fcons off a r, .inr (fs, i) => ∃ f, fs[i]? = some f ∧ f.offset = off ∧ Mt P a (.inl f.type) ∧ Mt P r (.inr (fs, i + 1))
  | .sl b e, .inl t => ∃ e', P.underlying t = some (.slice e') ∧ P.cellsOf t = 1 ∧ (0 < e.size ∧ P.bytesOf e' = b) ∧ Mt P e (.inl e')
  | .arr n e, .inl t => ∃ e', P.underlying t = some (.array n e') ∧ P.cellsOf t = n * e.size ∧ Mt P e (.inl e')
  | _, _ => False
theorem Mt.cells : ∀ (ty : Ty) (t : TypeId), Mt P ty (.inl t) → P.cellsOf t = ty.size
  | .int _, _, h => h.2
  | .bool, _, h => h.2
  | .str, _, h => h.2
  | .st f, t, h => by obtain ⟨_, _, h2, _⟩ := h; exact h2
  | .sl _ _, _, h => by obtain ⟨_, _, h2, _⟩ := h; exact h2
  | .arr _ _, _, h => by obtain ⟨_, _, h2, _⟩ := h; exact h2
  | .fnil, _, h => h.elim
  | .fcons _ _ _, _, h => h.elim
theorem plain_add (b o i : Nat) : (⟨b, o, none⟩ : Addr).add i = ⟨b, o + i, none⟩ := by unfold Addr.add; split <;> simp_all
theorem add_add' (a : Addr) (i j : Nat) : (a.add i).add j = a.add (i + j) := by
  unfold Addr.add
  by_cases hi : i = 0 <;> by_cases hj : j = 0 <;> simp [hi, hj, Nat.add_assoc]
theorem rd_int {k : IntKind} {cs : List Value} (d : (Ty.int k).D) (h : cs = [.int k d] ∧ (Lit.int k d).wf = true) : Rd w (.int k) cs d := by unfold Rd; exact h
theorem rd_bool {cs : List Value} (d : Ty.bool.D) (h : cs = [.bool d]) : Rd w .bool cs d := by unfold Rd; exact h
theorem rd_str {cs : List Value} (d : Ty.str.D) (h : cs = [.string d] ∧ ByteArray.size d ≤ maxLen) : Rd w .str cs d := by unfold Rd; exact h
theorem rd_st {f : Ty} {cs : List Value} (d : (Ty.st f).D) (h : cs.length = f.size ∧ Rd w f cs d) : Rd w (.st f) cs d := by
  unfold Rd; exact h
theorem rd_fnil {cs : List Value} (d : Ty.fnil.D) : Rd w .fnil cs d := by unfold Rd; trivial
theorem rd_fcons {off : Nat} {a r : Ty} {cs : List Value} (d : (Ty.fcons off a r).D) (h : Rd w a ((cs.drop off).take a.size) d.1 ∧ Rd w r cs d.2) : Rd w (.fcons off a r) cs d := by unfold Rd; exact h
theorem rd_sl {by_ : Nat} {e : Ty} {cs : List Value} (l : (Ty.sl by_ e).D) (h : ∃ ao cap, cs = [.slice ao (List.length (α := e.D) l) cap] ∧ List.length (α := e.D) l ≤ cap ∧ cap ≤ maxLen ∧ (ao = none → List.length (α := e.D) l = 0 ∧ cap = 0) ∧
      ∀ i (x : e.D), nth (α := e.D) l i = some x → ∃ b o cs', ao = some ⟨b, o, none⟩ ∧ b < w.heap.size ∧ cs'.length = e.size ∧ (∀ j u, cs'[j]? = some u → w.cell? ⟨b, o + i * e.size + j, none⟩ = some u) ∧ Rd w e cs' x) : Rd w (.sl by_ e) cs l := by unfold Rd; exact h
theorem rd_arr {n : Nat} {e : Ty} {cs : List Value} (l : (Ty.arr n e).D) (h : List.length (α := e.D) l = n ∧ ∀ i (x : e.D), nth (α := e.D) l i = some x → Rd w e ((cs.drop (i * e.size)).take e.size) x) : Rd w (.arr n e) cs l := by unfold Rd; exact h
theorem Rd.int' {k : IntKind} {cs : List Value} {d : Int} (h : Rd w (.int k) cs d) : cs = [.int k d] ∧ (Lit.int k d).wf = true := by
  have h' : ∀ d : (Ty.int k).D, Rd w (.int k) cs d → cs = [.int k d] ∧ (Lit.int k d).wf = true := fun d h => by unfold Rd at h; exact h
  exact h' d h
theorem Rd.bool' {cs : List Value} {d : Bool} (h : Rd w .bool cs d) : cs = [.bool d] := by
  have h' : ∀ d : Ty.bool.D, Rd w .bool cs d → cs = [.bool d] := fun d h => by unfold Rd at h; exact h
  exact h' d h
theorem Rd.str' {cs : List Value} {d : ByteArray} (h : Rd w .str cs d) : cs = [.string d] ∧ d.size ≤ maxLen := by
  have h' : ∀ d : Ty.str.D, Rd w .str cs d → cs = [.string d] ∧ ByteArray.size d ≤ maxLen := fun d h => by unfold Rd at h; exact h
  exact h' d h
theorem Rd.st' {f : Ty} {cs : List Value} {d : f.D} (h : Rd w (.st f) cs d) : cs.length = f.size ∧ Rd w f cs d := by
  have h' : ∀ d : (Ty.st f).D, Rd w (.st f) cs d → cs.length = f.size ∧ Rd w f cs d := fun d h => by unfold Rd at h; exact h
  exact h' d h
theorem Rd.fc {off : Nat} {a r : Ty} {cs : List Value} {d : a.D × r.D} (h : Rd w (.fcons off a r) cs d) : Rd w a ((cs.drop off).take a.size) d.1 ∧ Rd w r cs d.2 := by
  have h' : ∀ d : (Ty.fcons off a r).D, Rd w (.fcons off a r) cs d → Rd w a ((cs.drop off).take a.size) d.1 ∧ Rd w r cs d.2 := fun d h => by unfold Rd at h; exact h
  exact h' d h
theorem Rd.sl' {by_ : Nat} {e : Ty} {cs : List Value} {l : List e.D} (h : Rd w (.sl by_ e) cs l) : ∃ ao cap, cs = [.slice ao l.length cap] ∧ l.length ≤ cap ∧ cap ≤ maxLen ∧ (ao = none → l.length = 0 ∧ cap = 0) ∧
      ∀ i x, l[i]? = some x → ∃ b o cs', ao = some ⟨b, o, none⟩ ∧ b < w.heap.size ∧ cs'.length = e.size ∧ (∀ j u, cs'[j]? = some u → w.cell? ⟨b, o + i * e.size + j, none⟩ = some u) ∧ Rd w e cs' x := by
  have h' : ∀ l : (Ty.sl by_ e).D, Rd w (.sl by_ e) cs l → ∃ ao cap, cs = [.slice ao (List.length (α := e.D) l) cap] ∧ List.length (α := e.D) l ≤ cap ∧ cap ≤ maxLen ∧ (ao = none → List.length (α := e.D) l = 0 ∧ cap = 0) ∧
      ∀ i (x : e.D), nth (α := e.D) l i = some x → ∃ b o cs', ao = some ⟨b, o, none⟩ ∧ b < w.heap.size ∧ cs'.length = e.size ∧ (∀ j u, cs'[j]? = some u → w.cell? ⟨b, o + i * e.size + j, none⟩ = some u) ∧ Rd w e cs' x := fun d h => by unfold Rd at h; exact h
  exact h' l h
theorem Rd.arr' {n : Nat} {e : Ty} {cs : List Value} {l : List e.D} (h : Rd w (.arr n e) cs l) : l.length = n ∧ ∀ i x, l[i]? = some x → Rd w e ((cs.drop (i * e.size)).take e.size) x := by
  have h' : ∀ l : (Ty.arr n e).D, Rd w (.arr n e) cs l → List.length (α := e.D) l = n ∧ ∀ i (x : e.D), nth (α := e.D) l i = some x → Rd w e ((cs.drop (i * e.size)).take e.size) x := fun d h => by unfold Rd at h; exact h
  exact h' l h
theorem fits_int {N : Nat} {k : IntKind} (d : (Ty.int k).D) : Fits N (.int k) d := by rw [Fits]; trivial
theorem fits_bool {N : Nat} (d : Ty.bool.D) : Fits N .bool d := by rw [Fits]; trivial
theorem fits_fnil {N : Nat} (d : Ty.fnil.D) : Fits N .fnil d := by rw [Fits]; trivial
theorem fits_str {N : Nat} (d : Ty.str.D) (h : ByteArray.size d ≤ N) : Fits N .str d := by rw [Fits]; exact h
theorem fits_st {N : Nat} {f : Ty} (d : (Ty.st f).D) (h : Fits N f d) : Fits N (.st f) d := by rw [Fits]; exact h
theorem bulk_int {k : IntKind} (d : (Ty.int k).D) : Bulk (.int k) d = 1 := by rw [Bulk]
theorem bulk_bool (d : Ty.bool.D) : Bulk .bool d = 1 := by rw [Bulk]
theorem bulk_fnil (d : Ty.fnil.D) : Bulk .fnil d = 0 := by rw [Bulk]
theorem bulk_str (d : Ty.str.D) : Bulk .str d = ByteArray.size d + 1 := by rw [Bulk]
theorem bulk_st {f : Ty} (d : (Ty.st f).D) : Bulk (.st f) d = Bulk f d + 1 := by rw [Bulk]
theorem Fits.sl' {N by_ : Nat} {e : Ty} {l : List e.D} (h : Fits N (.sl by_ e) l) : l.length * by_ ≤ N ∧ ∀ (i : Nat) x, l[i]? = some x → Fits N e x := by
  have h' : ∀ l : (Ty.sl by_ e).D, Fits N (.sl by_ e) l → (List.length (α := e.D) l * by_ ≤ N ∧ ∀ i (x : e.D), nth (α := e.D) l i = some x → Fits N e x) := fun l h => by unfold Fits at h; exact h
  exact h' l h
theorem Fits.arr' {N n : Nat} {e : Ty} {l : List e.D} (h : Fits N (.arr n e) l) : ∀ (i : Nat) x, l[i]? = some x → Fits N e x := by
  have h' : ∀ l : (Ty.arr n e).D, Fits N (.arr n e) l → (∀ i (x : e.D), nth (α := e.D) l i = some x → Fits N e x) := fun l h => by unfold Fits at h; exact h
  exact h' l h
theorem Fits.st' {N : Nat} {f : Ty} {d : f.D} (h : Fits N (.st f) d) : Fits N f d := by
  have h' : ∀ d : (Ty.st f).D, Fits N (.st f) d → Fits N f d := fun d h => by unfold Fits at h; exact h
  exact h' d h
theorem Fits.fc {N off : Nat} {a r : Ty} {d : a.D × r.D} (h : Fits N (.fcons off a r) d) : Fits N a d.1 ∧ Fits N r d.2 := by
  have h' : ∀ d : (Ty.fcons off a r).D, Fits N (.fcons off a r) d → Fits N a d.1 ∧ Fits N r d.2 := fun d h => by unfold Fits at h; exact h
  exact h' d h
theorem Fits.str' {N : Nat} {s : ByteArray} (h : Fits N .str s) : s.size ≤ N := by
  have h' : ∀ d : Ty.str.D, Fits N .str d → ByteArray.size d ≤ N := fun d h => by unfold Fits at h; exact h
  exact h' s h
theorem fits_sl {N by_ : Nat} {e : Ty} {l : List e.D} (h : l.length * by_ ≤ N ∧ ∀ i x, nth l i = some x → Fits N e x) : Fits N (.sl by_ e) l := by
  have h' : ∀ l : (Ty.sl by_ e).D, (List.length (α := e.D) l * by_ ≤ N ∧ ∀ i (x : e.D), nth (α := e.D) l i = some x → Fits N e x) → Fits N (.sl by_ e) l := fun l h => by unfold Fits; exact h
  exact h' l h
theorem fits_arr {N n : Nat} {e : Ty} {l : List e.D} (h : ∀ i x, nth l i = some x → Fits N e x) : Fits N (.arr n e) l := by
  have h' : ∀ l : (Ty.arr n e).D, (∀ i (x : e.D), nth (α := e.D) l i = some x → Fits N e x) → Fits N (.arr n e) l := fun l h => by unfold Fits; exact h
  exact h' l h
theorem bulk_sl {by_ : Nat} {e : Ty} {l : List e.D} : Bulk (.sl by_ e) l = (l.map fun x => Bulk e x).sum + 1 := by
  have h' : ∀ l : (Ty.sl by_ e).D, Bulk (.sl by_ e) l = (List.map (fun x : e.D => Bulk e x) l).sum + 1 := fun l => by rw [Bulk]
  exact h' l
theorem bulk_arr {n : Nat} {e : Ty} {l : List e.D} : Bulk (.arr n e) l = (l.map fun x => Bulk e x).sum + 1 := by
  have h' : ∀ l : (Ty.arr n e).D, Bulk (.arr n e) l = (List.map (fun x : e.D => Bulk e x) l).sum + 1 := fun l => by rw [Bulk]
  exact h' l
/-- what is said of a reading d of data x at type t -/
def Says (P : Program) (w : World) (ty : Ty) (t : TypeId) (cs : List Value) (x : DataW H) (d : ty.D) : Prop :=
  Rd w ty cs d ∧ (∀ B, (x.weights P t).all (· ≤ B) = true → Fits B ty d) ∧ Bulk ty d ≤ Rows.uptoBulk x
mutual
theorem rd_of_trod : ∀ (ty : Ty) (t : TypeId) (fuel : Nat) (cs : List Value) (x : DataW H × List MemPlace), Mt P ty (.inl t) → DataW.trod enc P w base spare held fuel t cs = some x → ∃ d, Says P w ty t cs x.1 d
  | .int k, t, fuel, cs, x, hm, h => by
    obtain ⟨n, h1, h2, h3⟩ := DataW.trod_int hm.1 h
    exact ⟨n, rd_int n ⟨h1, h3⟩, fun _ _ => fits_int n, by rw [h2]; exact Nat.le_trans (Nat.le_of_eq (bulk_int n)) (by simp [Rows.uptoBulk])⟩
  | .bool, t, fuel, cs, x, hm, h => by
    obtain ⟨n, h1, h2⟩ := DataW.trod_bool hm.1 h
    exact ⟨n, rd_bool n h1, fun _ _ => fits_bool n, by rw [h2]; exact Nat.le_trans (Nat.le_of_eq (bulk_bool n)) (by simp [Rows.uptoBulk])⟩
  | .str, t, fuel, cs, x, hm, h => by
    obtain ⟨s, h1, h2, h3⟩ := DataW.trod_string hm.1 h
    exact ⟨s, rd_str s ⟨h1, h3⟩, fun B hB => by rw [h2] at hB; exact fits_str s (by simpa [DataW.weights] using hB), by rw [h2]; exact Nat.le_trans (Nat.le_of_eq (bulk_str s)) (by simp [Rows.uptoBulk])⟩
  | .st f, t, fuel, cs, x, hm, h => by
    obtain ⟨fs, h1, h2, h3⟩ := hm
    obtain ⟨xs, n, _, hx, hl, hlen, hf⟩ := DataW.trod_struct h1 h
    obtain ⟨d, hd, hw, hb⟩ := rdF_of_trod f fs 0 n cs xs h3 hlen hf
    refine ⟨d, rd_st d ⟨hl.trans h2, hd⟩, fun B hB => ?_, ?_⟩
    · rw [hx] at hB
      unfold DataW.weights at hB
      rw [h1] at hB
      exact fits_st d (hw B hB)
    · rw [hx]
      refine Nat.le_trans (Nat.le_of_eq (bulk_st d)) ?_
      simp only [Rows.uptoBulk]
      have : Bulk f d ≤ Rows.uptoBulkAll (xs.map (·.1)) := hb
      omega
  | .sl by_ e, t, fuel, cs, x, hm, h => by
    obtain ⟨e', h1, _, ⟨hp, hby⟩, h3⟩ := hm
    have hce := Mt.cells e e' h3
    rcases open_slice h1 h with ⟨rfl, hx⟩ | ⟨a, len, cap, m, n, D, Pl, rfl, _, hl, hc, hmm, hx, hi⟩
    · refine ⟨([] : List e.D), rd_sl [] ⟨none, 0, rfl, by simp, by simp [maxLen], fun _ => ⟨rfl, rfl⟩, fun i x hx => by simp [nth] at hx⟩, fun B hB => ?_, ?_⟩
      · exact fits_sl (l := []) ⟨by simp, fun i x hx => by simp [nth] at hx⟩
      · rw [hx]
        exact Nat.le_of_eq (by rw [show Bulk (.sl by_ e) ([] : List e.D) = _ from bulk_sl]; simp [Rows.uptoBulk])
    · have hlm : len ≤ m := by rw [hmm]; split <;> omega
      have each : ∀ i, i < len → ∃ d : e.D, ∃ b o cs', a = ⟨b, o, none⟩ ∧ b < w.heap.size ∧ cs'.length = e.size ∧ (∀ j u, cs'[j]? = some u → w.cell? ⟨b, o + i * e.size + j, none⟩ = some u) ∧ Says P w e e' cs' (D i) d := by
        intro i hil
        obtain ⟨cs', k1, k2⟩ := hi i (by omega)
        rw [hce] at k1
        obtain ⟨d, hd⟩ := rd_of_trod e e' n cs' _ h3 k2
        obtain ⟨_, k3, k4⟩ := World.cells?_some k1
        have c0 := k4 0 (by omega)
        have hv : cs'[0]? = some (cs'[0]'(by omega)) := List.getElem?_eq_getElem (by omega)
        rw [hv] at c0
        have hs : a.spot = none := by
          obtain ⟨cs0, z1, z2⟩ := hi 0 (by omega)
          rw [hce] at z1
          obtain ⟨_, z3, z4⟩ := World.cells?_some z1
          have z0 := z4 0 (by omega)
          have hv0 : cs0[0]? = some (cs0[0]'(by omega)) := List.getElem?_eq_getElem (by omega)
          rw [hv0] at z0
          have := World.cell?_spot z0
          simpa [Addr.add] using this
        obtain ⟨b, o, s⟩ := a
        simp only at hs
        subst hs
        have hb := World.block_lt_of_cell? w _ c0
        rw [plain_add, plain_add] at hb
        refine ⟨d, b, o, cs', rfl, hb, k3, fun j u hu => ?_, hd⟩
        have hj : j < e.size := by
          rcases Nat.lt_or_ge j e.size with hj | hj
          · exact hj
          · rw [List.getElem?_eq_none (by omega)] at hu; cases hu
        have := k4 j hj
        rw [plain_add, plain_add, hu] at this
        exact this
      obtain ⟨l, hl1, hl2⟩ := list_of len each
      refine ⟨l, ?_, ?_, ?_⟩
      · refine rd_sl l ?_
        refine ⟨some a, cap, by rw [hl1], by omega, hc, fun h => (by cases h), fun i x hx => ?_⟩
        obtain ⟨b, o, cs', k1, k2, k3, k4, k5⟩ := hl2 i x hx
        exact ⟨b, o, cs', by rw [k1], k2, k3, k4, k5.1⟩
      · intro B hB
        rw [hx] at hB
        unfold DataW.weights at hB
        rw [h1] at hB
        simp only [List.all_cons, List.all_append, Bool.and_eq_true, decide_eq_true_eq, List.length_map, List.length_range] at hB
        obtain ⟨g1, g2, _⟩ := hB
        refine fits_sl (l := l) ⟨?_, fun i x hx => ?_⟩
        · rw [hl1, ← hby]
          exact Nat.le_trans (Nat.mul_le_mul_right _ (by omega)) g1
        · have hil : i < len := by
            unfold nth at hx
            have := (List.getElem?_eq_some_iff.1 hx).1
            omega
          obtain ⟨_, _, _, _, _, _, _, k5⟩ := hl2 i x hx
          exact k5.2.1 B (weightsAll_mem (List.mem_map.2 ⟨i, List.mem_range.2 hil, rfl⟩) g2)
      · rw [hx]
        refine Nat.le_trans (Nat.le_of_eq bulk_sl) ?_
        simp only [Rows.uptoBulk]
        rw [bulkAll_eq ((List.range len).map D), List.map_map]
        have := sum_le (f := fun x => Bulk e x) l (fun i => Rows.uptoBulk (D i)) (fun i x hx => by
          obtain ⟨_, _, _, _, _, _, _, k5⟩ := hl2 i x hx
          exact k5.2.2)
        rw [hl1] at this
        have e : ((List.range len).map (Rows.uptoBulk ∘ D)) = (List.range len).map (fun i => Rows.uptoBulk (D i)) := rfl
        rw [e]
        omega
  | .arr n e, t, fuel, cs, x, hm, h => by
    obtain ⟨e', h1, h2, h3⟩ := hm
    have hce := Mt.cells e e' h3
    obtain ⟨xs, m, _, hx0, hl, hlen, hx⟩ := DataW.trod_array h1 h
    have each : ∀ i, i < n → ∃ d : e.D, ∃ y, xs[i]? = some y ∧ Says P w e e' ((cs.drop (i * e.size)).take e.size) y.1 d := by
      intro i hi
      have k := hx i hi
      rw [hce] at k
      have hy : xs[i]? = some (xs[i]'(by omega)) := List.getElem?_eq_getElem (by omega)
      obtain ⟨d, hd⟩ := rd_of_trod e e' m _ _ h3 (k.trans hy)
      exact ⟨d, _, hy, hd⟩
    obtain ⟨l, hl1, hl2⟩ := list_of n each
    refine ⟨l, rd_arr l ⟨hl1, fun i x hx => ?_⟩, fun B hB => ?_, ?_⟩
    · obtain ⟨_, _, k⟩ := hl2 i x hx
      exact k.1
    · rw [hx0] at hB
      unfold DataW.weights at hB
      rw [h1] at hB
      refine fits_arr (l := l) fun i x hx => ?_
      obtain ⟨y, hy, k⟩ := hl2 i x hx
      exact k.2.1 B (weightsAll_mem (List.mem_map.2 ⟨y, List.mem_of_getElem? hy, rfl⟩) hB)
    · rw [hx0]
      refine Nat.le_trans (Nat.le_of_eq bulk_arr) ?_
      simp only [Rows.uptoBulk]
      rw [bulkAll_eq (xs.map (·.1)), List.map_map]
      have := sum_le (f := fun x => Bulk e x) l (fun i => ((xs[i]?).map fun y => Rows.uptoBulk y.1).getD 0) (fun i x hx => by
        obtain ⟨y, hy, k⟩ := hl2 i x hx
        rw [hy]
        exact k.2.2)
      rw [hl1] at this
      have e2 : (List.range n).map (fun i => ((xs[i]?).map fun y => Rows.uptoBulk y.1).getD 0) = xs.map (Rows.uptoBulk ∘ fun x => x.1) := by
        refine List.ext_getElem (by simp [hlen]) fun i k1 k2 => ?_
        simp at k1 k2
        simp [List.getElem?_eq_getElem k2]
      rw [e2] at this
      omega
  | .fnil, _, _, _, _, hm, _ => hm.elim
  | .fcons _ _ _, _, _, _, _, hm, _ => hm.elim
theorem rdF_of_trod : ∀ (ty : Ty) (fs : Array Field) (i n : Nat) (cs : List Value) (xs : List (DataW H × List MemPlace)), Mt P ty (.inr (fs, i)) → xs.length = fs.size →
    (∀ (i : Nat) (f : Field), fs[i]? = some f → DataW.trod enc P w base spare held n f.type ((cs.drop f.offset).take (P.cellsOf f.type)) = xs[i]?) →
    ∃ d, Rd w ty cs d ∧ (∀ B, (DataW.weightsEach P ((fs.toList.drop i).map (·.type)) ((xs.drop i).map (·.1))).all (· ≤ B) = true → Fits B ty d) ∧ Bulk ty d ≤ Rows.uptoBulkAll ((xs.drop i).map (·.1))
  | .fnil, _, _, _, _, _, _, _, _ => ⟨(), rd_fnil (), fun _ _ => fits_fnil (), Nat.le_trans (Nat.le_of_eq (bulk_fnil ())) (Nat.zero_le _)⟩
  | .fcons off a r, fs, i, n, cs, xs, hm, hlen, hf => by
    obtain ⟨f, h1, h2, h3, h4⟩ := hm
    have k := hf i f h1
    rw [Mt.cells a f.type h3, h2] at k
    have hi : i < fs.size := (Array.getElem?_eq_some_iff.1 h1).1
    obtain ⟨d1, hd1, hw1, hb1⟩ := rd_of_trod a f.type n _ _ h3 (k.trans (List.getElem?_eq_getElem (by omega)))
    obtain ⟨d2, hd2, hw2, hb2⟩ := rdF_of_trod r fs (i + 1) n cs xs h4 hlen hf
    have e1 : fs.toList.drop i = f :: fs.toList.drop (i + 1) := by
      rw [List.drop_eq_getElem_cons (by simpa using hi)]
      congr 1
      have := (Array.getElem?_eq_some_iff.1 h1).2
      simpa using this
    have e2 : xs.drop i = xs[i]'(by omega) :: xs.drop (i + 1) := List.drop_eq_getElem_cons (by omega)
    refine ⟨(d1, d2), rd_fcons (d1, d2) ⟨hd1, hd2⟩, fun B hB => ?_, ?_⟩
    · rw [e1, e2] at hB
      simp only [List.map_cons, DataW.weightsEach, List.all_append, Bool.and_eq_true] at hB
      have h' : ∀ d : (Ty.fcons off a r).D, Fits B a d.1 ∧ Fits B r d.2 → Fits B (.fcons off a r) d := fun d h => by unfold Fits; exact h
      exact h' (d1, d2) ⟨hw1 B hB.1, hw2 B hB.2⟩
    · rw [e2]
      simp only [List.map_cons, Rows.uptoBulkAll]
      have h' : ∀ d : (Ty.fcons off a r).D, Bulk (.fcons off a r) d = Bulk a d.1 + Bulk r d.2 := fun d => by rw [Bulk]
      have := h' (d1, d2)
      show Bulk (.fcons off a r) (d1, d2) ≤ _
      rw [this]
      simp only
      omega
  | .int _, _, _, _, _, _, hm, _, _ => hm.elim
  | .bool, _, _, _, _, _, hm, _, _ => hm.elim
  | .str, _, _, _, _, _, hm, _, _ => hm.elim
  | .st _, _, _, _, _, _, hm, _, _ => hm.elim
  | .sl _ _, _, _, _, _, _, hm, _, _ => hm.elim
  | .arr _ _, _, _, _, _, _, hm, _, _ => hm.elim
end
theorem open_rd {ty : Ty} {t : TypeId} {v : Value} {d : DataW H} {p : List MemPlace} (hm : Mt P ty (.inl t)) (h : DataW.Trod enc P w base spare held t v d p) : ∃ x, Rd w ty v.cells.toList x := by
  obtain ⟨fuel, hf⟩ := h
  obtain ⟨x, hx, _⟩ := rd_of_trod ty t fuel _ _ hm hf
  exact ⟨x, hx⟩
theorem open_says {ty : Ty} {t : TypeId} {v : Value} {d : DataW H} {p : List MemPlace} (hm : Mt P ty (.inl t)) (h : DataW.Trod enc P w base spare held t v d p) : ∃ x, Says P w ty t v.cells.toList d x := by
  obtain ⟨fuel, hf⟩ := h
  exact rd_of_trod ty t fuel _ _ hm hf
end
theorem sized_arg {H : Type} {P : Program} {ts : List TypeId} {ds : List (DataW H)} (h : (DataW.weightsEach P ts ds).all (· ≤ reachBytes) = true) {j : Nat} {t : TypeId} {d : DataW H} (ht : ts[j]? = some t) (hd : ds[j]? = some d) : (d.weights P t).all (· ≤ reachBytes) = true :=
  List.all_eq_true.2 fun n hn => List.all_eq_true.1 h _ (DataW.weights_mem_each ht hd n hn)
theorem wf_i64 {n : Int} (h : (Lit.int .i64 n).wf = true) : -9223372036854775808 ≤ n ∧ n ≤ 9223372036854775807 := by simpa [Lit.wf, IntKind.min, IntKind.max, IntKind.signed, IntKind.bits] using h
theorem wf_u64 {n : Int} (h : (Lit.int .u64 n).wf = true) : 0 ≤ n ∧ n ≤ 18446744073709551615 := by simpa [Lit.wf, IntKind.min, IntKind.max, IntKind.signed, IntKind.bits] using h
theorem wf_u8 {n : Int} (h : (Lit.int .u8 n).wf = true) : 0 ≤ n ∧ n ≤ 255 := by simpa [Lit.wf, IntKind.min, IntKind.max, IntKind.signed, IntKind.bits] using h
end Go.Proofs.Ytmojbamloanleaa
namespace Go.Proofs.Ytmojbamloanleaa
open Go.RowKit
theorem isB_of_rd {w : World} {v : Value} {l : List Int} (h : Rd w (.sl 1 (.int .u8)) [v] l) : IsB w v l := by
  obtain ⟨ao, cap, h1, h2, h3, h4, h5⟩ := Rd.sl' h
  simp only [List.cons.injEq, and_true] at h1
  have hel : ∀ (i : Nat) (x : Int), l[i]? = some x → ∃ b o, ao = some ⟨b, o, none⟩ ∧ b < w.heap.size ∧ w.cell? ⟨b, o + i, none⟩ = some (.int .u8 x) ∧ 0 ≤ x ∧ x ≤ 255 := fun i x hx => by
    obtain ⟨b, o, cs, k1, k2, k3, k4, k5⟩ := h5 i x hx
    obtain ⟨e0, w0⟩ := Rd.int' k5
    subst e0
    have c := k4 0 _ rfl
    have hs : Ty.size (.int .u8) = 1 := rfl
    rw [hs, Nat.mul_one, Nat.add_zero] at c
    exact ⟨b, o, k1, k2, c, wf_u8 w0⟩
  refine ⟨fun x hx => ?_, ao, cap, h1, h2, h3, fun hn => ⟨List.eq_nil_of_length_eq_zero (h4 hn).1, (h4 hn).2⟩, fun a ha hl => ?_⟩
  · obtain ⟨i, hi⟩ := List.getElem?_of_mem hx
    exact (hel i x hi).elim fun _ h => h.elim fun _ h => h.2.2.2
  · subst ha
    have h0 : l[0]? = some (l[0]'hl) := List.getElem?_eq_getElem hl
    obtain ⟨b, o, e, hb, -⟩ := hel 0 _ h0
    cases e
    refine ⟨rfl, hb, fun i hi => ?_⟩
    obtain ⟨b', o', e', -, c, -⟩ := hel i _ (List.getElem?_eq_getElem hi)
    cases e'
    rw [c, List.getD_eq_getElem?_getD, List.getElem?_eq_getElem hi]
    rfl
end Go.Proofs.Ytmojbamloanleaa
