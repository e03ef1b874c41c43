/- A [][]byte that reads as a list of lists of bytes. No program in sight. -/
import Derived.Test.YtlolgiphppbcmaaDoorOwn
namespace Go.Proofs.YtlolgiphppbcmaaDoor
open Go.RowKit
/-- v is a [][]byte that reads as ls -/
def IsBB (w : World) (v : Value) (ls : List (List Int)) : Prop :=
  ∃ ao cap, v = .slice ao ls.length cap ∧ ls.length ≤ cap ∧ cap ≤ maxLen ∧ (ao = none → ls = [] ∧ cap = 0) ∧
    ∀ a, ao = some a → 0 < ls.length → a.spot = none ∧ a.block < w.heap.size ∧ ∀ i l, ls[i]? = some l → ∃ u, w.cell? ⟨a.block, a.off + i, none⟩ = some u ∧ IsB w u l
theorem IsBB.nil (w : World) : IsBB w (.slice none 0 0) [] := ⟨none, 0, rfl, by simp, by simp [maxLen], fun _ => ⟨rfl, rfl⟩, fun _ h => by cases h⟩
theorem IsBB.below {w w' : World} {v : Value} {ls : List (List Int)} (h : IsBB w v ls) (hb : Below w.heap.size w w') : IsBB w' v ls := by
  obtain ⟨ao, cap, h1, h2, h3, h4, h5⟩ := h
  refine ⟨ao, cap, h1, h2, h3, h4, fun a ha hl => ?_⟩
  obtain ⟨k1, k2, k3⟩ := h5 a ha hl
  refine ⟨k1, Nat.lt_of_lt_of_le k2 hb.size, fun i l hi => ?_⟩
  obtain ⟨u, hu, hB⟩ := k3 i l hi
  exact ⟨u, (hb.cell (p := ⟨a.block, a.off + i, none⟩) k2).trans hu, hB.below hb⟩
theorem IsBB.max {w : World} {v : Value} {ls : List (List Int)} (h : IsBB w v ls) : ls.length ≤ 9223372036854775807 := by
  obtain ⟨ao, cap, _, h2, h3, _⟩ := h
  unfold maxLen at h3; omega
theorem IsBB.form {w : World} {v : Value} {ls : List (List Int)} (h : IsBB w v ls) : ∃ ao cap, v = .slice ao ls.length cap ∧ ls.length ≤ cap := by
  obtain ⟨ao, cap, h1, h2, _⟩ := h
  exact ⟨ao, cap, h1, h2⟩
/-- element k -/
theorem IsBB.at_ {w : World} {ao : Option Addr} {n cap : Nat} {ls : List (List Int)} (h : IsBB w (.slice ao n cap) ls) {k : Nat} (hk : k < ls.length) :
    ∃ b o u l, ao = some ⟨b, o, none⟩ ∧ b < w.heap.size ∧ Hid (ls[k]? = some l) ∧ w.cell? ⟨b, o + k, none⟩ = some u ∧ Hid (IsB w u l) := by
  obtain ⟨ao', cap', h1, h2, h3, h4, h5⟩ := h
  simp only [Value.slice.injEq] at h1
  obtain ⟨rfl, rfl, rfl⟩ := h1
  rcases ao with _ | ⟨b, o, s⟩
  · have := (h4 rfl).1; subst this; simp at hk
  · obtain ⟨k1, k2, k3⟩ := h5 _ rfl (by omega)
    simp only at k1 k2 k3
    subst k1
    have e : ls[k]? = some (ls[k]) := List.getElem?_eq_getElem hk
    obtain ⟨u, hu, hB⟩ := k3 k _ e
    exact ⟨b, o, u, _, rfl, k2, e, hu, hB⟩
end Go.Proofs.YtlolgiphppbcmaaDoor
