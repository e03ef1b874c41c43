/- codec's statements: lent, stays. -/
import Derived.Test.YtmojbamloanleaaBytesFn
import Derived.Test.YtmojbamloanleaaKit
set_option linter.unusedVariables false
set_option linter.unusedSimpArgs false
namespace Go.Proofs.Ytmojbamloanleaa
open Go.RowKit
namespace Codec
def LentPost (l : List Int) (w : World) (e : Ending) (w' : World) : Prop :=
  e = .returned (.slice (some ⟨w.heap.size, 0, none⟩) (l.length + 2) (l.length + 2)) ∧ w'.ownsRow w.heap.size 5 1 (.slice (some ⟨w.heap.size, 0, none⟩) (l.length + 2) (l.length + 2)) (l.length + 2) ((l ++ [177, 178]).map (Value.int .u8)) ∧ Below w.heap.size w w'
theorem IsB.front {w : World} {ao : Option Addr} {m cap : Nat} {L : List Int} (h : IsB w (.slice ao m cap) L) (n : Nat) (hn : n ≤ L.length) : IsB w (.slice ao n cap) (L.take n) := by
  obtain ⟨h0, ao', cap', h1, h2, h3, h4, h5⟩ := h
  simp only [Value.slice.injEq] at h1
  obtain ⟨rfl, rfl, rfl⟩ := h1
  have hl : (L.take n).length = n := by rw [List.length_take]; omega
  refine ⟨h0.take n, ao, cap, by rw [hl], by rw [hl]; omega, h3, fun e => ⟨by rw [(h4 e).1]; simp, (h4 e).2⟩, fun a ha hp => ?_⟩
  rw [hl] at hp
  obtain ⟨k1, k2, k3⟩ := h5 a ha (by omega)
  refine ⟨k1, k2, fun i hi => ?_⟩
  rw [hl] at hi
  rw [k3 i (by omega)]
  simp [List.getD, List.getElem?_take_of_lt hi]
end Codec
end Go.Proofs.Ytmojbamloanleaa
