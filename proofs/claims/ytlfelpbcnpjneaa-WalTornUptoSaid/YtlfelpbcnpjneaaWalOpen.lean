/- Operations and batches that came in. -/
import Derived.Test.YtlfelpbcnpjneaaWalOps
import Derived.Test.YtlfelpbcnpjneaaRead
namespace Go.Proofs.Ytlfelpbcnpjneaa
open Go.RowKit
namespace Wal
abbrev opsTy : Ty := (.sl 56 (.st (.fcons 0 .bool (.fcons 1 (.sl 1 (.int .u8)) (.fcons 2 (.sl 1 (.int .u8)) .fnil)))))
theorem opsMt : Mt Try.prog opsTy (.inl 23) := ⟨_, Try.underlying23, by kernel_rfl, ⟨by decide, by kernel_rfl⟩, ⟨_, Try.underlying43, by kernel_rfl, ⟨_, rfl, rfl, ⟨Try.underlying4, by kernel_rfl⟩, ⟨_, rfl, rfl, ⟨_, Try.underlying28, by kernel_rfl, ⟨by decide, by kernel_rfl⟩, ⟨Try.underlying5, by kernel_rfl⟩⟩, ⟨_, rfl, rfl, ⟨_, Try.underlying28, by kernel_rfl, ⟨by decide, by kernel_rfl⟩, ⟨Try.underlying5, by kernel_rfl⟩⟩, trivial⟩⟩⟩⟩⟩
abbrev batTy : Ty := (.st (.fcons 0 (.int .u64) (.fcons 1 (.sl 56 (.st (.fcons 0 .bool (.fcons 1 (.sl 1 (.int .u8)) (.fcons 2 (.sl 1 (.int .u8)) .fnil))))) .fnil)))
theorem batMt : Mt Try.prog batTy (.inl 25) := ⟨_, Try.underlying25, by kernel_rfl, ⟨_, rfl, rfl, ⟨Try.underlying22, by kernel_rfl⟩, ⟨_, rfl, rfl, ⟨_, Try.underlying23, by kernel_rfl, ⟨by decide, by kernel_rfl⟩, ⟨_, Try.underlying43, by kernel_rfl, ⟨_, rfl, rfl, ⟨Try.underlying4, by kernel_rfl⟩, ⟨_, rfl, rfl, ⟨_, Try.underlying28, by kernel_rfl, ⟨by decide, by kernel_rfl⟩, ⟨Try.underlying5, by kernel_rfl⟩⟩, ⟨_, rfl, rfl, ⟨_, Try.underlying28, by kernel_rfl, ⟨by decide, by kernel_rfl⟩, ⟨Try.underlying5, by kernel_rfl⟩⟩, trivial⟩⟩⟩⟩⟩, trivial⟩⟩⟩
abbrev OpD : Type := Bool × List Int × List Int × Unit
theorem ops_of_rd {w : World} {v : Value} {l : List OpD} (h : Rd w opsTy [v] l) : IsOps w v (l.map fun x => (x.1, x.2.1, x.2.2.1)) := by
  obtain ⟨ao, cap, h1, h2, h3, h4, h5⟩ := Rd.sl' h
  simp only [List.cons.injEq, and_true] at h1
  refine ⟨ao, cap, by rw [List.length_map]; exact h1, by rw [List.length_map]; exact h2, h3, fun hn => ⟨by rw [List.eq_nil_of_length_eq_zero (h4 hn).1]; rfl, (h4 hn).2⟩, fun i x hx => ?_⟩
  rw [List.getElem?_map, Option.map_eq_some_iff] at hx
  obtain ⟨y, hy, rfl⟩ := hx
  obtain ⟨b, o, cs, k1, k2, k3, k4, k5⟩ := h5 i y hy
  have k3' : cs.length = 3 := k3
  match cs, k3' with
  | [c0, c1, c2], _ =>
    obtain ⟨_, q⟩ := Rd.st' k5
    obtain ⟨q0, q⟩ := Rd.fc q
    obtain ⟨q1, q⟩ := Rd.fc q
    obtain ⟨q2, _⟩ := Rd.fc q
    have e0 := Rd.bool' q0
    cases (show [c0] = [.bool y.1] from e0)
    exact ⟨b, o, _, k1, k2, rfl, fun j u hu => k4 j u hu, c1, c2, rfl, isB_of_rd q1, isB_of_rd q2⟩
theorem ops_fits {N : Nat} {l : List OpD} (h : Fits N opsTy l) : (l.map fun x => ((x.1, x.2.1, x.2.2.1) : Opr)).length * 56 ≤ N ∧ ∀ x ∈ (l.map fun x => ((x.1, x.2.1, x.2.2.1) : Opr)), x.2.1.length ≤ N ∧ x.2.2.length ≤ N := by
  obtain ⟨h1, h2⟩ := Fits.sl' h
  refine ⟨by rw [List.length_map]; exact h1, fun x hx => ?_⟩
  obtain ⟨y, hy, rfl⟩ := List.mem_map.1 hx
  obtain ⟨i, hi⟩ := List.getElem?_of_mem hy
  have k := Fits.st' (h2 i y hi)
  obtain ⟨-, k⟩ := Fits.fc k
  obtain ⟨k1, k⟩ := Fits.fc k
  obtain ⟨k2, -⟩ := Fits.fc k
  have m1 := (Fits.sl' k1).1
  have m2 := (Fits.sl' k2).1
  simp only [Nat.mul_one] at m1 m2
  exact ⟨m1, m2⟩
theorem bat_of_rd {w : World} {c0 c1 : Value} {d : Int × List OpD × Unit} (h : Rd w batTy [c0, c1] d) : ∃ s : Nat, c0 = .int .u64 s ∧ s < 18446744073709551616 ∧ IsOps w c1 (d.2.1.map fun x => (x.1, x.2.1, x.2.2.1)) := by
  obtain ⟨_, q⟩ := Rd.st' h
  obtain ⟨q0, q⟩ := Rd.fc q
  obtain ⟨q1, _⟩ := Rd.fc q
  obtain ⟨e0, w0⟩ := Rd.int' q0
  have hw := wf_u64 w0
  refine ⟨d.1.toNat, ?_, by omega, ops_of_rd q1⟩
  have e1 : [c0] = [.int .u64 d.1] := e0
  cases e1
  congr 1
  omega
theorem bat_fits {N : Nat} {d : Int × List OpD × Unit} (h : Fits N batTy d) : Fits N opsTy d.2.1 := by
  obtain ⟨-, k⟩ := Fits.fc (Fits.st' h)
  exact (Fits.fc k).1
end Wal
end Go.Proofs.Ytlfelpbcnpjneaa
