/- Ranges that came in. -/
import Derived.Test.YtbeniogffhihlaaRm
import Derived.Test.YtbeniogffhihlaaRead
set_option linter.unusedVariables false
set_option linter.unusedSimpArgs false
namespace Go.Proofs.Ytbeniogffhihlaa
open Go.RowKit
namespace Rm
abbrev rgsTy : Ty := (.sl 64 (.st (.fcons 0 (.int .i64) (.fcons 1 (.st (.fcons 0 (.sl 1 (.int .u8)) (.fcons 1 (.sl 1 (.int .u8)) .fnil))) (.fcons 3 (.int .i64) .fnil)))))
theorem rgsMt : Mt Try.prog rgsTy (.inl 29) := ⟨_, Try.underlying29, by kernel_rfl, ⟨by decide, by kernel_rfl⟩, ⟨_, Try.underlying39, by kernel_rfl, ⟨_, rfl, rfl, ⟨Try.underlying3, by kernel_rfl⟩, ⟨_, rfl, rfl, ⟨_, Try.underlying25, by kernel_rfl, ⟨_, rfl, rfl, ⟨_, Try.underlying23, by kernel_rfl, ⟨by decide, by kernel_rfl⟩, ⟨Try.underlying5, by kernel_rfl⟩⟩, ⟨_, rfl, rfl, ⟨_, Try.underlying23, by kernel_rfl, ⟨by decide, by kernel_rfl⟩, ⟨Try.underlying5, by kernel_rfl⟩⟩, trivial⟩⟩⟩, ⟨_, rfl, rfl, ⟨Try.underlying3, by kernel_rfl⟩, trivial⟩⟩⟩⟩⟩
abbrev RgD : Type := Int × (List Int × List Int × Unit) × Int × Unit
def toR (x : RgD) : RangeD := (x.1, x.2.1.1, x.2.1.2.1, x.2.2.1)
theorem i64_of_wf {n : Int} (h : (Lit.int .i64 n).wf = true) : I64 n := by
  unfold I64
  simpa [Lit.wf, IntKind.min, IntKind.max, IntKind.signed, IntKind.bits] using h
theorem rgs_of_rd {w : World} {v : Value} {l : List RgD} (h : Rd w rgsTy [v] l) : IsRgs w v (l.map toR) := by
  obtain ⟨ao, cap, h1, h2, h3, h4, h5⟩ := Rd.sl' h
  simp only [List.cons.injEq, and_true] at h1
  refine ⟨ao, cap, by rw [List.length_map]; exact h1, by rw [List.length_map]; exact h2, h3, fun hn => ⟨by rw [List.eq_nil_of_length_eq_zero (h4 hn).1]; rfl, (h4 hn).2⟩, fun i x hx => ?_⟩
  rw [List.getElem?_map, Option.map_eq_some_iff] at hx
  obtain ⟨y, hy, rfl⟩ := hx
  obtain ⟨b, o, cs, k1, k2, k3, k4, k5⟩ := h5 i y hy
  have k3' : cs.length = 4 := k3
  match cs, k3' with
  | [c0, c1, c2, c3], _ =>
    obtain ⟨_, q⟩ := Rd.st' k5
    obtain ⟨q0, q⟩ := Rd.fc q
    obtain ⟨q1, q⟩ := Rd.fc q
    obtain ⟨q2, _⟩ := Rd.fc q
    obtain ⟨_, p⟩ := Rd.st' q1
    obtain ⟨p0, p⟩ := Rd.fc p
    obtain ⟨p1, _⟩ := Rd.fc p
    obtain ⟨e0, w0⟩ := Rd.int' q0
    obtain ⟨e2, w2⟩ := Rd.int' q2
    have e0' : [c0] = [.int .i64 y.1] := e0
    have e2' : [c3] = [.int .i64 y.2.2.1] := e2
    cases e0'
    cases e2'
    exact ⟨b, o, _, k1, k2, rfl, fun j u hu => k4 j u hu, c1, c2, rfl, isB_of_rd p0, isB_of_rd p1, i64_of_wf w0, i64_of_wf w2⟩
theorem rgs_fits {N : Nat} {l : List RgD} (h : Fits N rgsTy l) : ∀ x ∈ l.map toR, x.2.1.length ≤ N ∧ x.2.2.1.length ≤ N := by
  obtain ⟨_, h2⟩ := Fits.sl' h
  intro x hx
  obtain ⟨y, hy, rfl⟩ := List.mem_map.1 hx
  obtain ⟨i, hi⟩ := List.getElem?_of_mem hy
  obtain ⟨-, k⟩ := Fits.fc (Fits.st' (h2 i y hi))
  obtain ⟨k1, -⟩ := Fits.fc k
  obtain ⟨a1, k⟩ := Fits.fc (Fits.st' k1)
  obtain ⟨a2, -⟩ := Fits.fc k
  have m1 := (Fits.sl' a1).1
  have m2 := (Fits.sl' a2).1
  simp only [Nat.mul_one] at m1 m2
  exact ⟨m1, m2⟩
theorem rgs_open {w : World} {v : Value} {l : List RgD} (h : Rd w rgsTy [v] l) (hf : Fits reachBytes rgsTy l) : ∃ l : List RangeD, IsRgs w v l ∧ ∀ x ∈ l, x.2.1.length ≤ 140737488355328 ∧ x.2.2.1.length ≤ 140737488355328 :=
  ⟨l.map toR, rgs_of_rd h, fun x hx => by have := rgs_fits hf x hx; simp only [reachBytes] at this; omega⟩
end Rm
end Go.Proofs.Ytbeniogffhihlaa
