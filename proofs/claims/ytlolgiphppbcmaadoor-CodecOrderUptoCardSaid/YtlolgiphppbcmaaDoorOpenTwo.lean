/- An array of two []byte, by value. No program in sight. -/
import Derived.Test.YtlolgiphppbcmaaDoorOpen
namespace Go.Proofs.YtlolgiphppbcmaaDoor
open Go.ChangeShapes Go.WideShapes Go.ChangeAt Go.RowKit Go.Joins
theorem open_two {H : Type} {enc : TypeId × Value → H} {P : Program} {w : World} {base : Nat} {spare : Nat → Bool} {held : Bool} {t e e' : TypeId} {r : Reach} {b0 : Nat} {v : Value} {d : DataW H} {p : List MemPlace}
    (ht : P.underlying t = some (.array 2 e)) (he : P.underlying e = some (.slice e')) (he' : P.underlying e' = some (.int .u8)) (hc : P.cellsOf e = 1) (hc' : P.cellsOf e' = 1) (hC : P.cellsOf t = 2)
    (hv : Value.okWide P w r b0 t v) (h : DataW.Trod enc P w base spare held t v d p) :
    ∃ c0 c1 l m d0 d1, v = .agg #[c0, c1] ∧ IsB w c0 l ∧ IsB w c1 m ∧ d = .agg [d0, d1] ∧ (l = [] ∨ ∃ elems sp, d0 = .slice elems sp ∧ elems.length = l.length) ∧ (m = [] ∨ ∃ elems sp, d1 = .slice elems sp ∧ elems.length = m.length) := by
  unfold Value.okWide at hv
  rw [ht] at hv
  obtain ⟨cs, rfl, hsz, _⟩ := hv
  obtain ⟨l⟩ := cs
  match l, hsz.trans hC with
  | [c0, c1], _ =>
    obtain ⟨fuel, hf⟩ := h
    obtain ⟨xs, m, _, hx0, _, hl, hx⟩ := DataW.trod_array ht hf
    match xs, hl with
    | [y0, y1], _ =>
      have h0 : DataW.trod enc P w base spare held m e [c0] = some y0 := by simpa [hc, Value.cells] using hx 0 (by omega)
      have h1 : DataW.trod enc P w base spare held m e [c1] = some y1 := by simpa [hc, Value.cells] using hx 1 (by omega)
      obtain ⟨l0, B0, D0⟩ := isB_of_trod he he' hc' h0
      obtain ⟨l1, B1, D1⟩ := isB_of_trod he he' hc' h1
      have hd : d = DataW.agg [y0.1, y1.1] := by have := congrArg Prod.fst hx0; simpa using this
      exact ⟨c0, c1, l0, l1, y0.1, y1.1, rfl, B0, B1, hd, D0, D1⟩
end Go.Proofs.YtlolgiphppbcmaaDoor
