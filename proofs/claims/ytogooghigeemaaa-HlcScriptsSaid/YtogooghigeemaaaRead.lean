/- What came in, read by its type: integers, bools, strings, structs, arrays and slices of these, one in the other. No program in sight. -/
import Derived.Test.YtogooghigeemaaaOpen
import Derived.Deep.Slices
namespace Go.Proofs.Ytogooghigeemaaa
open Go.ChangeShapes Go.WideShapes Go.ChangeAt Go.RowKit Go.Joins Go.Deep
/-- a type's shape -/
inductive Ty where
  | int (k : IntKind)
  | bool
  | str
  | st (fields : Ty)
  | fnil
  | fcons (off : Nat) (a rest : Ty)
  | sl (e : Ty)
  | arr (n : Nat) (e : Ty)
def Ty.D : Ty → Type
  | .int _ => Int
  | .bool => Bool
  | .str => ByteArray
  | .st f => f.D
  | .fnil => Unit
  | .fcons _ a r => a.D × r.D
  | .sl e => List e.D
  | .arr _ e => List e.D
def Ty.size : Ty → Nat
  | .int _ => 1
  | .bool => 1
  | .str => 1
  | .st f => f.size
  | .fnil => 0
  | .fcons off a r => max (off + a.size) r.size
  | .sl _ => 1
  | .arr n e => n * e.size
/-- element i -/
def nth {α : Type} (l : List α) (i : Nat) : Option α := l[i]?
theorem list_of {α : Type} {Q : Nat → α → Prop} : ∀ n, (∀ i, i < n → ∃ x, Q i x) → ∃ l : List α, l.length = n ∧ ∀ i x, nth l i = some x → Q i x
  | 0, _ => ⟨[], rfl, fun i x h => by simp [nth] at h⟩
  | n + 1, h => by
    obtain ⟨l, h1, h2⟩ := list_of n (fun i hi => h i (by omega))
    obtain ⟨y, hy⟩ := h n (by omega)
    refine ⟨l ++ [y], by simp [h1], fun i x hx => ?_⟩
    unfold nth at hx
    rcases Nat.lt_or_ge i n with hi | hi
    · rw [List.getElem?_append_left (by omega)] at hx
      exact h2 i x hx
    · rw [List.getElem?_append_right (by omega)] at hx
      have : i = n := by
        rcases Nat.lt_or_ge (i - l.length) 1 with k | k
        · omega
        · rw [List.getElem?_eq_none (by simpa using k)] at hx; cases hx
      subst this
      simp [h1] at hx
      subst hx
      exact hy
/-- these cells read as d -/
def Rd (w : World) : (t : Ty) → List Value → t.D → Prop
  | .int k, cs, n => cs = [.int k n] ∧ (Lit.int k n).wf = true
  | .bool, cs, b => cs = [.bool b]
  | .str, cs, s => cs = [.string s] ∧ s.size ≤ maxLen
  | .st f, cs, d => cs.length = f.size ∧ Rd w f cs d
  | .fnil, _, _ => True
  | .fcons off a r, cs, d => Rd w a ((cs.drop off).take a.size) d.1 ∧ Rd w r cs d.2
  | .sl e, cs, l => ∃ ao cap, cs = [.slice ao (List.length (α := e.D) l) cap] ∧ List.length (α := e.D) l ≤ cap ∧ cap ≤ maxLen ∧ (ao = none → List.length (α := e.D) l = 0 ∧ cap = 0) ∧
      ∀ i (x : e.D), nth (α := e.D) l i = some x → ∃ b o cs', ao = some ⟨b, o, none⟩ ∧ b < w.heap.size ∧ cs'.length = e.size ∧ (∀ j u, cs'[j]? = some u → w.cell? ⟨b, o + i * e.size + j, none⟩ = some u) ∧ Rd w e cs' x
  | .arr n e, cs, l => List.length (α := e.D) l = n ∧ ∀ i (x : e.D), nth (α := e.D) l i = some x → Rd w e ((cs.drop (i * e.size)).take e.size) x
theorem Rd.below {w w' : World} (hb : Below w.heap.size w w') : ∀ (t : Ty) (cs : List Value) (d : t.D), Rd w t cs d → Rd w' t cs d
  | .int _, _, _, h => by unfold Rd at h ⊢; exact h
  | .bool, _, _, h => by unfold Rd at h ⊢; exact h
  | .str, _, _, h => by unfold Rd at h ⊢; exact h
  | .st f, cs, d, h => by unfold Rd at h ⊢; exact ⟨h.1, Rd.below hb f cs d h.2⟩
  | .fnil, _, _, _ => by unfold Rd; trivial
  | .fcons _ a r, cs, d, h => by unfold Rd at h ⊢; exact ⟨Rd.below hb a _ _ h.1, Rd.below hb r cs d.2 h.2⟩
  | .sl e, _, l, h => by
    unfold Rd at h ⊢
    obtain ⟨ao, cap, h1, h2, h3, h4, h5⟩ := h
    refine ⟨ao, cap, h1, h2, h3, h4, fun i x hx => ?_⟩
    obtain ⟨b, o, cs', k1, k2, k3, k4, k5⟩ := h5 i x hx
    exact ⟨b, o, cs', k1, Nat.lt_of_lt_of_le k2 hb.size, k3, fun j u hu => (hb.cell (p := ⟨b, o + i * e.size + j, none⟩) k2).trans (k4 j u hu), Rd.below hb e cs' x k5⟩
  | .arr n e, cs, l, h => by unfold Rd at h ⊢; exact ⟨h.1, fun i x hx => Rd.below hb e _ x (h.2 i x hx)⟩
section
variable {H : Type} {enc : TypeId × Value → H} {P : Program} {w : World} {base : Nat} {spare : Nat → Bool} {held : Bool}
/-- a type of the program has this shape; or: these fields from the i-th on -/
def Mt (P : Program) : Ty → TypeId ⊕ (Array Field × Nat) → Prop
  | .int k, .inl t => P.underlying t = some (.int k) ∧ P.cellsOf t = 1
  | .bool, .inl t => P.underlying t = some .bool ∧ P.cellsOf t = 1
  | .str, .inl t => P.underlying t = some .string ∧ P.cellsOf t = 1
  | .st f, .inl t => ∃ fs, P.underlying t = some (.struct fs) ∧ P.cellsOf t = f.size ∧ Mt P f (.inr (fs, 0))
  | .fnil, .inr _ => True
  | .fcons off a r, .inr (fs, i) => ∃ f, fs[i]? = some f ∧ f.offset = off ∧ Mt P a (.inl f.type) ∧ Mt P r (.inr (fs, i + 1))
  | .sl e, .inl t => ∃ e', P.underlying t = some (.slice e') ∧ P.cellsOf t = 1 ∧ 0 < e.size ∧ Mt P e (.inl e')
  | .arr n e, .inl t => ∃ e', P.underlying t = some (.array n e') ∧ P.cellsOf t = n * e.size ∧ Mt P e (.inl e')
  | _, _ => False
theorem Mt.cells : ∀ (ty : Ty) (t : TypeId), Mt P ty (.inl t) → P.cellsOf t = ty.size
  | .int _, _, h => h.2
  | .bool, _, h => h.2
  | .str, _, h => h.2
  | .st f, t, h => by obtain ⟨_, _, h2, _⟩ := h; exact h2
  | .sl _, _, h => by obtain ⟨_, _, h2, _⟩ := h; exact h2
  | .arr _ _, _, h => by obtain ⟨_, _, h2, _⟩ := h; exact h2
  | .fnil, _, h => h.elim
  | .fcons _ _ _, _, h => h.elim
theorem plain_add (b o i : Nat) : (⟨b, o, none⟩ : Addr).add i = ⟨b, o + i, none⟩ := by unfold Addr.add; split <;> simp_all
theorem add_add' (a : Addr) (i j : Nat) : (a.add i).add j = a.add (i + j) := by
  unfold Addr.add
  by_cases hi : i = 0 <;> by_cases hj : j = 0 <;> simp [hi, hj, Nat.add_assoc]
theorem rd_int {k : IntKind} {cs : List Value} (d : (Ty.int k).D) (h : cs = [.int k d] ∧ (Lit.int k d).wf = true) : Rd w (.int k) cs d := by unfold Rd; exact h
theorem rd_bool {cs : List Value} (d : Ty.bool.D) (h : cs = [.bool d]) : Rd w .bool cs d := by unfold Rd; exact h
theorem rd_str {cs : List Value} (d : Ty.str.D) (h : cs = [.string d] ∧ ByteArray.size d ≤ maxLen) : Rd w .str cs d := by unfold Rd; exact h
theorem rd_st {f : Ty} {cs : List Value} (d : (Ty.st f).D) (h : cs.length = f.size ∧ Rd w f cs d) : Rd w (.st f) cs d := by
  unfold Rd; exact h
theorem rd_fnil {cs : List Value} (d : Ty.fnil.D) : Rd w .fnil cs d := by unfold Rd; trivial
theorem rd_fcons {off : Nat} {a r : Ty} {cs : List Value} (d : (Ty.fcons off a r).D) (h : Rd w a ((cs.drop off).take a.size) d.1 ∧ Rd w r cs d.2) : Rd w (.fcons off a r) cs d := by unfold Rd; exact h
theorem rd_sl {e : Ty} {cs : List Value} (l : (Ty.sl e).D) (h : ∃ ao cap, cs = [.slice ao (List.length (α := e.D) l) cap] ∧ List.length (α := e.D) l ≤ cap ∧ cap ≤ maxLen ∧ (ao = none → List.length (α := e.D) l = 0 ∧ cap = 0) ∧
      ∀ i (x : e.D), nth (α := e.D) l i = some x → ∃ b o cs', ao = some ⟨b, o, none⟩ ∧ b < w.heap.size ∧ cs'.length = e.size ∧ (∀ j u, cs'[j]? = some u → w.cell? ⟨b, o + i * e.size + j, none⟩ = some u) ∧ Rd w e cs' x) : Rd w (.sl e) cs l := by unfold Rd; exact h
theorem rd_arr {n : Nat} {e : Ty} {cs : List Value} (l : (Ty.arr n e).D) (h : List.length (α := e.D) l = n ∧ ∀ i (x : e.D), nth (α := e.D) l i = some x → Rd w e ((cs.drop (i * e.size)).take e.size) x) : Rd w (.arr n e) cs l := by unfold Rd; exact h
theorem Rd.int' {k : IntKind} {cs : List Value} {d : Int} (h : Rd w (.int k) cs d) : cs = [.int k d] ∧ (Lit.int k d).wf = true := by
  have h' : ∀ d : (Ty.int k).D, Rd w (.int k) cs d → cs = [.int k d] ∧ (Lit.int k d).wf = true := fun d h => by unfold Rd at h; exact h
  exact h' d h
theorem Rd.bool' {cs : List Value} {d : Bool} (h : Rd w .bool cs d) : cs = [.bool d] := by
  have h' : ∀ d : Ty.bool.D, Rd w .bool cs d → cs = [.bool d] := fun d h => by unfold Rd at h; exact h
  exact h' d h
theorem Rd.str' {cs : List Value} {d : ByteArray} (h : Rd w .str cs d) : cs = [.string d] ∧ d.size ≤ maxLen := by
  have h' : ∀ d : Ty.str.D, Rd w .str cs d → cs = [.string d] ∧ ByteArray.size d ≤ maxLen := fun d h => by unfold Rd at h; exact h
  exact h' d h
theorem Rd.st' {f : Ty} {cs : List Value} {d : f.D} (h : Rd w (.st f) cs d) : cs.length = f.size ∧ Rd w f cs d := by
  have h' : ∀ d : (Ty.st f).D, Rd w (.st f) cs d → cs.length = f.size ∧ Rd w f cs d := fun d h => by unfold Rd at h; exact h
  exact h' d h
theorem Rd.fc {off : Nat} {a r : Ty} {cs : List Value} {d : a.D × r.D} (h : Rd w (.fcons off a r) cs d) : Rd w a ((cs.drop off).take a.size) d.1 ∧ Rd w r cs d.2 := by
  have h' : ∀ d : (Ty.fcons off a r).D, Rd w (.fcons off a r) cs d → Rd w a ((cs.drop off).take a.size) d.1 ∧ Rd w r cs d.2 := fun d h => by unfold Rd at h; exact h
  exact h' d h
theorem Rd.sl' {e : Ty} {cs : List Value} {l : List e.D} (h : Rd w (.sl e) cs l) : ∃ ao cap, cs = [.slice ao l.length cap] ∧ l.length ≤ cap ∧ cap ≤ maxLen ∧ (ao = none → l.length = 0 ∧ cap = 0) ∧
      ∀ i x, l[i]? = some x → ∃ b o cs', ao = some ⟨b, o, none⟩ ∧ b < w.heap.size ∧ cs'.length = e.size ∧ (∀ j u, cs'[j]? = some u → w.cell? ⟨b, o + i * e.size + j, none⟩ = some u) ∧ Rd w e cs' x := by
  have h' : ∀ l : (Ty.sl e).D, Rd w (.sl e) cs l → ∃ ao cap, cs = [.slice ao (List.length (α := e.D) l) cap] ∧ List.length (α := e.D) l ≤ cap ∧ cap ≤ maxLen ∧ (ao = none → List.length (α := e.D) l = 0 ∧ cap = 0) ∧
      ∀ i (x : e.D), nth (α := e.D) l i = some x → ∃ b o cs', ao = some ⟨b, o, none⟩ ∧ b < w.heap.size ∧ cs'.length = e.size ∧ (∀ j u, cs'[j]? = some u → w.cell? ⟨b, o + i * e.size + j, none⟩ = some u) ∧ Rd w e cs' x := fun d h => by unfold Rd at h; exact h
  exact h' l h
theorem Rd.arr' {n : Nat} {e : Ty} {cs : List Value} {l : List e.D} (h : Rd w (.arr n e) cs l) : l.length = n ∧ ∀ i x, l[i]? = some x → Rd w e ((cs.drop (i * e.size)).take e.size) x := by
  have h' : ∀ l : (Ty.arr n e).D, Rd w (.arr n e) cs l → List.length (α := e.D) l = n ∧ ∀ i (x : e.D), nth (α := e.D) l i = some x → Rd w e ((cs.drop (i * e.size)).take e.size) x := fun d h => by unfold Rd at h; exact h
  exact h' l h
mutual
theorem rd_of_trod : ∀ (ty : Ty) (t : TypeId) (fuel : Nat) (cs : List Value) (x : DataW H × List MemPlace), Mt P ty (.inl t) → DataW.trod enc P w base spare held fuel t cs = some x → ∃ d, Rd w ty cs d
  | .int k, t, fuel, cs, x, hm, h => by
    obtain ⟨n, h1, _, h3⟩ := DataW.trod_int hm.1 h
    exact ⟨n, rd_int n ⟨h1, h3⟩⟩
  | .bool, t, fuel, cs, x, hm, h => by
    obtain ⟨n, h1, _⟩ := DataW.trod_bool hm.1 h
    exact ⟨n, rd_bool n h1⟩
  | .str, t, fuel, cs, x, hm, h => by
    obtain ⟨s, h1, _, h3⟩ := DataW.trod_string hm.1 h
    exact ⟨s, rd_str s ⟨h1, h3⟩⟩
  | .st f, t, fuel, cs, x, hm, h => by
    obtain ⟨fs, h1, h2, h3⟩ := hm
    obtain ⟨xs, n, _, _, hl, hlen, hf⟩ := DataW.trod_struct h1 h
    obtain ⟨d, hd⟩ := rdF_of_trod f fs 0 n cs xs h3 hlen hf
    exact ⟨d, rd_st d ⟨hl.trans h2, hd⟩⟩
  | .sl e, t, fuel, cs, x, hm, h => by
    obtain ⟨e', h1, _, hp, h3⟩ := hm
    have hce := Mt.cells e e' h3
    rcases open_slice h1 h with ⟨rfl, _⟩ | ⟨a, len, cap, m, n, D, Pl, rfl, _, hl, hc, hmm, _, hi⟩
    · exact ⟨([] : List e.D), rd_sl [] ⟨none, 0, rfl, by simp, by simp [maxLen], fun _ => ⟨rfl, rfl⟩, fun i x hx => by simp [nth] at hx⟩⟩
    · have hlm : len ≤ m := by rw [hmm]; split <;> omega
      have each : ∀ i, i < len → ∃ d : e.D, ∃ b o cs', a = ⟨b, o, none⟩ ∧ b < w.heap.size ∧ cs'.length = e.size ∧ (∀ j u, cs'[j]? = some u → w.cell? ⟨b, o + i * e.size + j, none⟩ = some u) ∧ Rd w e cs' d := by
        intro i hil
        obtain ⟨cs', k1, k2⟩ := hi i (by omega)
        rw [hce] at k1
        obtain ⟨d, hd⟩ := rd_of_trod e e' n cs' _ h3 k2
        obtain ⟨_, k3, k4⟩ := World.cells?_some k1
        have c0 := k4 0 (by omega)
        have hv : cs'[0]? = some (cs'[0]'(by omega)) := List.getElem?_eq_getElem (by omega)
        rw [hv] at c0
        have hs : a.spot = none := by
          obtain ⟨cs0, z1, z2⟩ := hi 0 (by omega)
          rw [hce] at z1
          obtain ⟨_, z3, z4⟩ := World.cells?_some z1
          have z0 := z4 0 (by omega)
          have hv0 : cs0[0]? = some (cs0[0]'(by omega)) := List.getElem?_eq_getElem (by omega)
          rw [hv0] at z0
          have := World.cell?_spot z0
          simpa [Addr.add] using this
        obtain ⟨b, o, s⟩ := a
        simp only at hs
        subst hs
        have hb := World.block_lt_of_cell? w _ c0
        rw [plain_add, plain_add] at hb
        refine ⟨d, b, o, cs', rfl, hb, k3, fun j u hu => ?_, hd⟩
        have hj : j < e.size := by
          rcases Nat.lt_or_ge j e.size with hj | hj
          · exact hj
          · rw [List.getElem?_eq_none (by omega)] at hu; cases hu
        have := k4 j hj
        rw [plain_add, plain_add, hu] at this
        exact this
      obtain ⟨l, hl1, hl2⟩ := list_of len each
      refine ⟨l, rd_sl l ?_⟩; refine ⟨some a, cap, by rw [hl1], by omega, hc, fun h => (by cases h), fun i x hx => ?_⟩
      obtain ⟨b, o, cs', k1, r⟩ := hl2 i x hx
      exact ⟨b, o, cs', by rw [k1], r⟩
  | .arr n e, t, fuel, cs, x, hm, h => by
    obtain ⟨e', h1, h2, h3⟩ := hm
    have hce := Mt.cells e e' h3
    obtain ⟨xs, m, _, _, hl, hlen, hx⟩ := DataW.trod_array h1 h
    have each : ∀ i, i < n → ∃ d : e.D, Rd w e ((cs.drop (i * e.size)).take e.size) d := by
      intro i hi
      have k := hx i hi
      rw [hce] at k
      exact rd_of_trod e e' m _ _ h3 (k.trans (List.getElem?_eq_getElem (by omega)))
    obtain ⟨l, hl1, hl2⟩ := list_of n each
    exact ⟨l, rd_arr l ⟨hl1, hl2⟩⟩
  | .fnil, _, _, _, _, hm, _ => hm.elim
  | .fcons _ _ _, _, _, _, _, hm, _ => hm.elim
theorem rdF_of_trod : ∀ (ty : Ty) (fs : Array Field) (i n : Nat) (cs : List Value) (xs : List (DataW H × List MemPlace)), Mt P ty (.inr (fs, i)) → xs.length = fs.size →
    (∀ (i : Nat) (f : Field), fs[i]? = some f → DataW.trod enc P w base spare held n f.type ((cs.drop f.offset).take (P.cellsOf f.type)) = xs[i]?) → ∃ d, Rd w ty cs d
  | .fnil, _, _, _, _, _, _, _, _ => ⟨(), rd_fnil ()⟩
  | .fcons off a r, fs, i, n, cs, xs, hm, hlen, hf => by
    obtain ⟨f, h1, h2, h3, h4⟩ := hm
    have k := hf i f h1
    rw [Mt.cells a f.type h3, h2] at k
    have hi : i < fs.size := (Array.getElem?_eq_some_iff.1 h1).1
    obtain ⟨d1, hd1⟩ := rd_of_trod a f.type n _ _ h3 (k.trans (List.getElem?_eq_getElem (by omega)))
    obtain ⟨d2, hd2⟩ := rdF_of_trod r fs (i + 1) n cs xs h4 hlen hf
    exact ⟨(d1, d2), rd_fcons (d1, d2) ⟨hd1, hd2⟩⟩
  | .int _, _, _, _, _, _, hm, _, _ => hm.elim
  | .bool, _, _, _, _, _, hm, _, _ => hm.elim
  | .str, _, _, _, _, _, hm, _, _ => hm.elim
  | .st _, _, _, _, _, _, hm, _, _ => hm.elim
  | .sl _, _, _, _, _, _, hm, _, _ => hm.elim
  | .arr _ _, _, _, _, _, _, hm, _, _ => hm.elim
end
theorem open_rd {ty : Ty} {t : TypeId} {v : Value} {d : DataW H} {p : List MemPlace} (hm : Mt P ty (.inl t)) (h : DataW.Trod enc P w base spare held t v d p) : ∃ x, Rd w ty v.cells.toList x := by
  obtain ⟨fuel, hf⟩ := h
  exact rd_of_trod ty t fuel _ _ hm hf
end
theorem wf_i64 {n : Int} (h : (Lit.int .i64 n).wf = true) : -9223372036854775808 ≤ n ∧ n ≤ 9223372036854775807 := by simpa [Lit.wf, IntKind.min, IntKind.max, IntKind.signed, IntKind.bits] using h
theorem wf_u64 {n : Int} (h : (Lit.int .u64 n).wf = true) : 0 ≤ n ∧ n ≤ 18446744073709551615 := by simpa [Lit.wf, IntKind.min, IntKind.max, IntKind.signed, IntKind.bits] using h
theorem wf_u8 {n : Int} (h : (Lit.int .u8 n).wf = true) : 0 ≤ n ∧ n ≤ 255 := by simpa [Lit.wf, IntKind.min, IntKind.max, IntKind.signed, IntKind.bits] using h
end Go.Proofs.Ytogooghigeemaaa
