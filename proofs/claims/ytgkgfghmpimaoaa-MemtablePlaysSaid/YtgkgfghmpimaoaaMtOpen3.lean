/- memtable: what is done with a table, as it comes in. -/
import Derived.Test.YtgkgfghmpimaoaaMtOpen
import Derived.Test.YtgkgfghmpimaoaaMt24
set_option linter.unusedVariables false
set_option linter.unusedSimpArgs false
namespace Go.Proofs.Ytgkgfghmpimaoaa
open Go.RowKit
namespace Mt
abbrev desTy : Ty := (.sl 80 (.st (.fcons 0 (.int .i64) (.fcons 1 (.st (.fcons 0 (.sl 1 (.int .u8)) (.fcons 1 (.int .u64) (.fcons 2 .bool (.fcons 3 (.sl 1 (.int .u8)) .fnil))))) (.fcons 5 (.int .i64) .fnil)))))
theorem desMt : Mt Try.prog desTy (.inl 23) := ⟨_, Try.underlying23, by kernel_rfl, ⟨by decide, by kernel_rfl⟩, ⟨_, Try.underlying34, by kernel_rfl, ⟨_, rfl, rfl, ⟨Try.underlying3, by kernel_rfl⟩, ⟨_, rfl, rfl, ⟨_, Try.underlying32, by kernel_rfl, ⟨_, rfl, rfl, ⟨_, Try.underlying29, by kernel_rfl, ⟨by decide, by kernel_rfl⟩, ⟨Try.underlying5, by kernel_rfl⟩⟩, ⟨_, rfl, rfl, ⟨Try.underlying30, by kernel_rfl⟩, ⟨_, rfl, rfl, ⟨Try.underlying4, by kernel_rfl⟩, ⟨_, rfl, rfl, ⟨_, Try.underlying29, by kernel_rfl, ⟨by decide, by kernel_rfl⟩, ⟨Try.underlying5, by kernel_rfl⟩⟩, trivial⟩⟩⟩⟩⟩, ⟨_, rfl, rfl, ⟨Try.underlying3, by kernel_rfl⟩, trivial⟩⟩⟩⟩⟩
abbrev DeD : Type := Int × (List Int × Int × Bool × List Int × Unit) × Int × Unit
def toDe (x : DeD) : De := (x.1, toE x.2.1, x.2.2.1)
theorem i64_of_wf {n : Int} (h : (Lit.int .i64 n).wf = true) : I64 n := by
  unfold I64
  simpa [Lit.wf, IntKind.min, IntKind.max, IntKind.signed, IntKind.bits] using h
theorem ds_open {w : World} {v : Value} {l : List DeD} (h : Rd w desTy [v] l) (hf : Fits reachBytes desTy l) : ∃ l : List De, IsDs w v l := by
  refine ⟨l.map toDe, ?_⟩
  obtain ⟨-, hf2⟩ := Fits.sl' hf
  obtain ⟨ao, cap, h1, h2, h3, h4, h5⟩ := Rd.sl' h
  simp only [List.cons.injEq, and_true] at h1
  refine ⟨ao, cap, by rw [List.length_map]; exact h1, by rw [List.length_map]; exact h2, h3, fun hn => ⟨by rw [List.eq_nil_of_length_eq_zero (h4 hn).1]; rfl, (h4 hn).2⟩, fun i x hx => ?_⟩
  rw [List.getElem?_map, Option.map_eq_some_iff] at hx
  obtain ⟨y, hy, rfl⟩ := hx
  have hfy := hf2 i y hy
  obtain ⟨b, o, cs, k1, k2, k3, k4, k5⟩ := h5 i y hy
  have k3' : cs.length = 6 := k3
  match cs, k3' with
  | [c0, c1, c2, c3, c4, c5], _ =>
    obtain ⟨_, q⟩ := Rd.st' k5
    obtain ⟨q0, q⟩ := Rd.fc q
    obtain ⟨q1, q⟩ := Rd.fc q
    obtain ⟨q5, _⟩ := Rd.fc q
    obtain ⟨_, p⟩ := Rd.st' q1
    obtain ⟨p0, p⟩ := Rd.fc p
    obtain ⟨p1, p⟩ := Rd.fc p
    obtain ⟨p2, p⟩ := Rd.fc p
    obtain ⟨p3, _⟩ := Rd.fc p
    obtain ⟨e0, w0⟩ := Rd.int' q0
    obtain ⟨e5, w5⟩ := Rd.int' q5
    obtain ⟨e1, w1⟩ := Rd.int' p1
    have e2 := Rd.bool' p2
    have e0' : [c0] = [.int .i64 y.1] := e0
    have e5' : [c5] = [.int .i64 y.2.2.1] := e5
    have e1' : [c2] = [.int .u64 y.2.1.2.1] := e1
    have e2' : [c3] = [.bool y.2.1.2.2.1] := e2
    cases e0'
    cases e5'
    cases e1'
    cases e2'
    have f := Fits.st' hfy
    obtain ⟨-, f⟩ := Fits.fc f
    obtain ⟨f1, -⟩ := Fits.fc f
    have f1 := Fits.st' f1
    obtain ⟨g0, f1⟩ := Fits.fc f1
    obtain ⟨-, f1⟩ := Fits.fc f1
    obtain ⟨-, f1⟩ := Fits.fc f1
    obtain ⟨g3, -⟩ := Fits.fc f1
    obtain ⟨m0, -⟩ := Fits.sl' g0
    obtain ⟨m3, -⟩ := Fits.sl' g3
    have m0' : List.length (α := Int) y.2.1.1 * 1 ≤ 140737488351232 := m0
    have m3' : List.length (α := Int) y.2.1.2.2.2.1 * 1 ≤ 140737488351232 := m3
    have b0 : IsB w c1 y.2.1.1 := isB_of_rd p0
    have b3 : IsB w c4 y.2.1.2.2.2.1 := isB_of_rd p3
    refine ⟨b, o, _, k1, k2, rfl, fun j u hu => k4 j u hu, c1, c4, rfl, b0, b3, u64_of_wf w1, ⟨?_, ?_⟩, i64_of_wf w5⟩
    · show y.2.1.1.length ≤ _
      omega
    · show y.2.1.2.2.2.1.length ≤ _
      omega
end Mt
end Go.Proofs.Ytgkgfghmpimaoaa
