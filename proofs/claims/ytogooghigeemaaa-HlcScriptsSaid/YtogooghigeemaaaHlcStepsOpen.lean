/- A []Step that came in. -/
import Derived.Test.YtogooghigeemaaaHlcSteps
import Derived.Test.YtogooghigeemaaaRead
import Derived.Test.YtogooghigeemaaaRows
namespace Go.Proofs.Ytogooghigeemaaa
open Go.RowKit
namespace Hlc
abbrev stepsTy : Ty := (.sl (.st (.fcons 0 (.int .i64) (.fcons 1 (.int .i64) (.fcons 2 (.st (.fcons 0 (.int .i64) (.fcons 1 (.int .i64) .fnil))) .fnil)))))
theorem stepsMt : Mt Try.prog stepsTy (.inl 44) := ⟨_, Try.underlying44, by kernel_rfl, by decide, ⟨_, Try.underlying46, by kernel_rfl, ⟨_, rfl, rfl, ⟨Try.underlying3, by kernel_rfl⟩, ⟨_, rfl, rfl, ⟨Try.underlying3, by kernel_rfl⟩, ⟨_, rfl, rfl, ⟨_, Try.underlying23, by kernel_rfl, ⟨_, rfl, rfl, ⟨Try.underlying3, by kernel_rfl⟩, ⟨_, rfl, rfl, ⟨Try.underlying3, by kernel_rfl⟩, trivial⟩⟩⟩, trivial⟩⟩⟩⟩⟩
theorem cells4 {e : Ty} (cs : List Value) (h : cs.length = 4) : ∃ a b c d, cs = [a, b, c, d] := by
  match cs, h with
  | [a, b, c, d], _ => exact ⟨a, b, c, d, rfl⟩
theorem steps_of_rd {w : World} {ao : Option Addr} {n cap : Nat} {l : List (Int × Int × (Int × Int × Unit) × Unit)} (h : Rd w stepsTy [.slice ao n cap] l) : ∃ xs, IsSteps w (.slice ao n cap) xs := by
  obtain ⟨ao', cap', h1, h2, h3, _, h5⟩ := Rd.sl' h
  simp only [List.cons.injEq, and_true] at h1
  refine ⟨List.map (fun x : Int × Int × (Int × Int × Unit) × Unit => (x.1, x.2.1, x.2.2.1.1, x.2.2.1.2.1)) l, ao', cap', by rw [List.length_map]; exact h1, by rw [List.length_map]; exact h2, h3, fun i x hx => ?_⟩
  rw [List.getElem?_map, Option.map_eq_some_iff] at hx
  obtain ⟨y, hy, rfl⟩ := hx
  obtain ⟨b, o, cs, k1, k2, k3, k4, k5⟩ := h5 i y hy
  obtain ⟨c0, c1, c2, c3, rfl⟩ := cells4 (e := stepsTy) cs k3
  have g0 := k4 0 _ rfl
  have g1 := k4 1 _ rfl
  have g2 := k4 2 _ rfl
  have g3 := k4 3 _ rfl
  obtain ⟨_, q⟩ := Rd.st' k5
  obtain ⟨q0, q⟩ := Rd.fc q
  obtain ⟨q1, q⟩ := Rd.fc q
  obtain ⟨q2, _⟩ := Rd.fc q
  obtain ⟨_, q2⟩ := Rd.st' q2
  obtain ⟨q2, q⟩ := Rd.fc q2
  obtain ⟨q3, _⟩ := Rd.fc q
  obtain ⟨e0, w0⟩ := Rd.int' q0
  obtain ⟨e1, w1⟩ := Rd.int' q1
  obtain ⟨e2, w2⟩ := Rd.int' q2
  obtain ⟨e3, w3⟩ := Rd.int' q3
  cases (show [c0] = [.int .i64 y.1] from e0)
  cases (show [c1] = [.int .i64 y.2.1] from e1)
  cases (show [c2] = [.int .i64 y.2.2.1.1] from e2)
  cases (show [c3] = [.int .i64 y.2.2.1.2.1] from e3)
  exact ⟨b, o, k1, k2, ⟨wf_i64 w0, wf_i64 w1, wf_i64 w2, wf_i64 w3⟩, g0, g1, g2, g3⟩
end Hlc
end Go.Proofs.Ytogooghigeemaaa
