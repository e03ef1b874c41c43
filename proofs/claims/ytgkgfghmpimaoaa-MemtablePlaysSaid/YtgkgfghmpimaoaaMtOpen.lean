/- memtable: arguments that come in: whole numbers, entries. -/
import Derived.Test.YtgkgfghmpimaoaaMt15
import Derived.Test.YtgkgfghmpimaoaaRead
set_option linter.unusedVariables false
set_option linter.unusedSimpArgs false
namespace Go.Proofs.Ytgkgfghmpimaoaa
open Go.RowKit
namespace Mt
abbrev hssTy : Ty := (.sl 8 (.int .i64))
theorem hssMt : Mt Try.prog hssTy (.inl 22) := ⟨_, Try.underlying22, by kernel_rfl, ⟨by decide, by kernel_rfl⟩, ⟨Try.underlying3, by kernel_rfl⟩⟩
abbrev ensTy : Ty := (.sl 64 (.st (.fcons 0 (.sl 1 (.int .u8)) (.fcons 1 (.int .u64) (.fcons 2 .bool (.fcons 3 (.sl 1 (.int .u8)) .fnil))))))
theorem ensMt : Mt Try.prog ensTy (.inl 39) := ⟨_, Try.underlying39, by kernel_rfl, ⟨by decide, by kernel_rfl⟩, ⟨_, Try.underlying32, by kernel_rfl, ⟨_, rfl, rfl, ⟨_, Try.underlying29, by kernel_rfl, ⟨by decide, by kernel_rfl⟩, ⟨Try.underlying5, by kernel_rfl⟩⟩, ⟨_, rfl, rfl, ⟨Try.underlying30, by kernel_rfl⟩, ⟨_, rfl, rfl, ⟨Try.underlying4, by kernel_rfl⟩, ⟨_, rfl, rfl, ⟨_, Try.underlying29, by kernel_rfl, ⟨by decide, by kernel_rfl⟩, ⟨Try.underlying5, by kernel_rfl⟩⟩, trivial⟩⟩⟩⟩⟩⟩
theorem u64_of_wf {n : Int} (h : (Lit.int .u64 n).wf = true) : U64 n := by
  unfold U64
  simpa [Lit.wf, IntKind.min, IntKind.max, IntKind.signed, IntKind.bits] using h
theorem hs_open {w : World} {v : Value} {l : List Int} (h : Rd w hssTy [v] l) (hf : Fits reachBytes hssTy l) : ∃ l : List Int, IsI w v l ∧ l.length ≤ 17592186044416 := by
  refine ⟨l, ?_, ?_⟩
  · obtain ⟨ao, cap, h1, h2, h3, h4, h5⟩ := Rd.sl' h
    simp only [List.cons.injEq, and_true] at h1
    refine ⟨ao, cap, h1, h2, h3, fun hn => ⟨List.eq_nil_of_length_eq_zero (h4 hn).1, (h4 hn).2⟩, fun i x hx => ?_⟩
    obtain ⟨b, o, cs, k1, k2, k3, k4, k5⟩ := h5 i x hx
    obtain ⟨e0, w0⟩ := Rd.int' k5
    subst e0
    refine ⟨b, o, _, k1, k2, rfl, fun j u hu => k4 j u hu, rfl, ?_⟩
    unfold I64
    simpa [Lit.wf, IntKind.min, IntKind.max, IntKind.signed, IntKind.bits] using w0
  · obtain ⟨h1, -⟩ := Fits.sl' hf
    have h1' : List.length (α := Int) l * 8 ≤ 140737488351232 := h1
    omega
abbrev ExD : Type := List Int × Int × Bool × List Int × Unit
def toE (x : ExD) : En := (x.1, x.2.1, x.2.2.1, x.2.2.2.1)
theorem es_open {w : World} {v : Value} {l : List ExD} (h : Rd w ensTy [v] l) (_ : Fits reachBytes ensTy l) : ∃ l : List En, IsEs w v l := by
  refine ⟨l.map toE, ?_⟩
  obtain ⟨ao, cap, h1, h2, h3, h4, h5⟩ := Rd.sl' h
  simp only [List.cons.injEq, and_true] at h1
  refine ⟨ao, cap, by rw [List.length_map]; exact h1, by rw [List.length_map]; exact h2, h3, fun hn => ⟨by rw [List.eq_nil_of_length_eq_zero (h4 hn).1]; rfl, (h4 hn).2⟩, fun i x hx => ?_⟩
  rw [List.getElem?_map, Option.map_eq_some_iff] at hx
  obtain ⟨y, hy, rfl⟩ := hx
  obtain ⟨b, o, cs, k1, k2, k3, k4, k5⟩ := h5 i y hy
  have k3' : cs.length = 4 := k3
  match cs, k3' with
  | [c0, c1, c2, c3], _ =>
    obtain ⟨_, q⟩ := Rd.st' k5
    obtain ⟨q0, q⟩ := Rd.fc q
    obtain ⟨q1, q⟩ := Rd.fc q
    obtain ⟨q2, q⟩ := Rd.fc q
    obtain ⟨q3, _⟩ := Rd.fc q
    obtain ⟨e1, w1⟩ := Rd.int' q1
    have e2 := Rd.bool' q2
    have e1' : [c1] = [.int .u64 y.2.1] := e1
    have e2' : [c2] = [.bool y.2.2.1] := e2
    cases e1'
    cases e2'
    exact ⟨b, o, _, k1, k2, rfl, fun j u hu => k4 j u hu, c0, c3, rfl, isB_of_rd q0, isB_of_rd q3, u64_of_wf w1⟩
end Mt
end Go.Proofs.Ytgkgfghmpimaoaa
