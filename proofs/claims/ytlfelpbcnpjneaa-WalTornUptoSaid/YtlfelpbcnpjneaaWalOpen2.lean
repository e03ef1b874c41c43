/- Lists of operations that came in. -/
import Derived.Test.YtlfelpbcnpjneaaWalTornW
import Derived.Test.YtlfelpbcnpjneaaWalOpen
namespace Go.Proofs.Ytlfelpbcnpjneaa
open Go.RowKit
namespace Wal
abbrev opssTy : Ty := (.sl 24 (.sl 56 (.st (.fcons 0 .bool (.fcons 1 (.sl 1 (.int .u8)) (.fcons 2 (.sl 1 (.int .u8)) .fnil))))))
theorem opssMt : Mt Try.prog opssTy (.inl 39) := ⟨_, Try.underlying39, by kernel_rfl, ⟨by decide, by kernel_rfl⟩, ⟨_, Try.underlying23, by kernel_rfl, ⟨by decide, by kernel_rfl⟩, ⟨_, Try.underlying43, by kernel_rfl, ⟨_, rfl, rfl, ⟨Try.underlying4, by kernel_rfl⟩, ⟨_, rfl, rfl, ⟨_, Try.underlying28, by kernel_rfl, ⟨by decide, by kernel_rfl⟩, ⟨Try.underlying5, by kernel_rfl⟩⟩, ⟨_, rfl, rfl, ⟨_, Try.underlying28, by kernel_rfl, ⟨by decide, by kernel_rfl⟩, ⟨Try.underlying5, by kernel_rfl⟩⟩, trivial⟩⟩⟩⟩⟩⟩
theorem opss_of_rd {w : World} {v : Value} {l : List (List OpD)} (h : Rd w opssTy [v] l) : ∃ bl, IsL 1 opsR w v bl := by
  obtain ⟨ao, cap, h1, h2, h3, h4, h5⟩ := Rd.sl' h
  simp only [List.cons.injEq, and_true] at h1
  refine ⟨l.map fun y => y.map fun x => (x.1, x.2.1, x.2.2.1), ao, cap, by rw [List.length_map]; exact h1, by rw [List.length_map]; exact h2, h3, fun hn => ⟨by rw [List.eq_nil_of_length_eq_zero (h4 hn).1]; rfl, (h4 hn).2⟩, fun i x hx => ?_⟩
  rw [List.getElem?_map, Option.map_eq_some_iff] at hx
  obtain ⟨y, hy, rfl⟩ := hx
  obtain ⟨b, o, cs, k1, k2, k3, k4, k5⟩ := h5 i y hy
  have k3' : cs.length = 1 := k3
  match cs, k3' with
  | [c0], _ => exact ⟨b, o, _, k1, k2, rfl, fun j u hu => k4 j u hu, c0, rfl, ops_of_rd k5⟩
end Wal
end Go.Proofs.Ytlfelpbcnpjneaa
