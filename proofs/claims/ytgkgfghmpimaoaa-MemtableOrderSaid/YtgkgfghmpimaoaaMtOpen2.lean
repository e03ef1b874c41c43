/- memtable: two lists of heights that come in. -/
import Derived.Test.YtgkgfghmpimaoaaMtOpen
import Derived.Test.YtgkgfghmpimaoaaMt17
set_option linter.unusedVariables false
set_option linter.unusedSimpArgs false
namespace Go.Proofs.Ytgkgfghmpimaoaa
open Go.RowKit
namespace Mt
abbrev hs2Ty : Ty := (.arr 2 (.sl 8 (.int .i64)))
theorem hs2Mt : Mt Try.prog hs2Ty (.inl 50) := ⟨_, Try.underlying50, by kernel_rfl, ⟨_, Try.underlying22, by kernel_rfl, ⟨by decide, by kernel_rfl⟩, ⟨Try.underlying3, by kernel_rfl⟩⟩⟩
theorem cells2 : Try.prog.cellsOf 50 = 2 := by kernel_rfl
theorem hs2_open {w : World} {base : Nat} {r : Reach} {v : Value} {d : List (List Int)} (hv : Value.okWide Try.prog w r base 50 v) (h : Rd w hs2Ty v.cells.toList d) (hf : Fits reachBytes hs2Ty d) :
    ∃ x : Value × Value × List Int × List Int, v = .agg #[x.1, x.2.1] ∧ IsI w x.1 x.2.2.1 ∧ IsI w x.2.1 x.2.2.2 ∧ x.2.2.1.length ≤ 17592186044416 ∧ x.2.2.2.length ≤ 17592186044416 := by
  unfold Value.okWide at hv
  rw [Try.underlying50] at hv
  obtain ⟨cs, rfl, hsz, -⟩ := hv
  obtain ⟨l⟩ := cs
  match l, hsz.trans cells2 with
  | [c0, c1], _ =>
    obtain ⟨h1, h2⟩ := Rd.arr' h
    have h3 := Fits.arr' hf
    match d, h1 with
    | [y0, y1], _ =>
      have r0 : Rd w hssTy [c0] y0 := h2 0 y0 rfl
      have r1 : Rd w hssTy [c1] y1 := h2 1 y1 rfl
      have f0 : Fits reachBytes hssTy y0 := h3 0 y0 rfl
      have f1 : Fits reachBytes hssTy y1 := h3 1 y1 rfl
      obtain ⟨l0, i0, b0⟩ := hs_open r0 f0
      obtain ⟨l1, i1, b1⟩ := hs_open r1 f1
      exact ⟨(c0, c1, l0, l1), rfl, i0, i1, b0, b1⟩
end Mt
end Go.Proofs.Ytgkgfghmpimaoaa
