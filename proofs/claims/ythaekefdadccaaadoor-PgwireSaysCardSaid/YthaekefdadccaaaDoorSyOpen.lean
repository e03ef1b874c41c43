/- pgwire: a value that comes in; the table of the powers of ten. -/
import Derived.Test.YthaekefdadccaaaDoorSy7
import Derived.Test.YthaekefdadccaaaDoorRead
import Derived.LaidSub
import Derived.WideShapes
set_option linter.unusedVariables false
set_option linter.unusedSimpArgs false
namespace Go.Proofs.YthaekefdadccaaaDoor
open Go.RowKit
namespace Sy
abbrev valTy : Ty := (.st (.fcons 0 (.int .i64) (.fcons 1 .bool (.fcons 2 (.int .i64) (.fcons 3 .str .fnil)))))
theorem valMt : Mt Tryd.prog valTy (.inl 49) := ⟨_, Tryd.underlying49, by kernel_rfl, ⟨_, rfl, rfl, ⟨Tryd.underlying3, by kernel_rfl⟩, ⟨_, rfl, rfl, ⟨Tryd.underlying4, by kernel_rfl⟩, ⟨_, rfl, rfl, ⟨Tryd.underlying2, by kernel_rfl⟩, ⟨_, rfl, rfl, ⟨Tryd.underlying9, by kernel_rfl⟩, trivial⟩⟩⟩⟩⟩
set_option maxRecDepth 100000 in
theorem val_open {w : World} {base : Nat} {r : Reach} {v : Value} {d : Int × Bool × Int × ByteArray × Unit} (hv : Value.okWide Tryd.prog w r base 49 v) (h : Rd w valTy v.cells.toList d) :
    ∃ x : Int × Bool × Int × ByteArray, v = .agg #[.int .i64 x.1, .bool x.2.1, .int .i64 x.2.2.1, .string x.2.2.2] ∧ -9223372036854775808 ≤ x.2.2.1 ∧ x.2.2.1 ≤ 9223372036854775807 ∧ x.2.2.2.size ≤ maxLen := by
  obtain ⟨⟨cs⟩, rfl, hsz⟩   := Go.WideShapes.okWide_struct Tryd.underlying49 hv
  obtain ⟨hl, q⟩ := Rd.st' h
  obtain ⟨q0, q⟩ := Rd.fc q
  obtain ⟨q1, q⟩ := Rd.fc q
  obtain ⟨q2, q⟩ := Rd.fc q
  obtain ⟨q3, _⟩ := Rd.fc q
  have hl' : cs.length = 4 := hl
  match cs, hl' with
  | [c0, c1, c2, c3], _ =>
    obtain ⟨e0, w0⟩ := Rd.int' q0
    have e1 := Rd.bool' q1
    obtain ⟨e2, w2⟩ := Rd.int' q2
    obtain ⟨e3, w3⟩ := Rd.str' q3
    have e0' : [c0] = [.int .i64 d.1] := e0
    have e1' : [c1] = [.bool d.2.1] := e1
    have e2' : [c2] = [.int .i64 d.2.2.1] := e2
    have e3' : [c3] = [.string d.2.2.2.1] := e3
    cases e0'
    cases e1'
    cases e2'
    cases e3'
    have hw := wf_i64 w2
    exact ⟨(d.1, d.2.1, d.2.2.1, d.2.2.2.1), rfl, hw.1, hw.2, w3⟩
theorem cellsU : Tryd.prog.cellsOf 123 = 1 := by kernel_rfl
set_option maxRecDepth 100000 in
theorem tab_of {W : World} (h : laidMet Tryd.prog Rows.pgwireSaysRow.laid W) : Lib.TabIs Tryd.prog W "internal/strconv.uint64pow10" .u64 Lib.pow10Tab := by
  have h1 := laidMet.filter (fun x => x.1 == "internal/strconv.uint64pow10") h
  have h2 : laidMet Tryd.prog [("internal/strconv.uint64pow10", Lib.tabData .u64 Lib.pow10Tab)] W := h1
  exact Lib.tabIs_of_head (g := 1) (t := 150) (e := 123) (n := 20) (by kernel_rfl) (by kernel_rfl) Tryd.underlying150 Tryd.underlying123 cellsU (by kernel_rfl) h2
end Sy
end Go.Proofs.YthaekefdadccaaaDoor
