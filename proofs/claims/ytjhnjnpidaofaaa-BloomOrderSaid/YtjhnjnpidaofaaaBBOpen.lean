/- A [][]byte that came in. -/
import Derived.Test.YtjhnjnpidaofaaaBB
import Derived.Test.YtjhnjnpidaofaaaRead
import Derived.Test.YtjhnjnpidaofaaaRows
namespace Go.Proofs.Ytjhnjnpidaofaaa
open Go.RowKit
abbrev bbTy : Ty := (.sl 24 (.sl 1 (.int .u8)))
theorem bbMt : Mt Try.prog bbTy (.inl 27) := ⟨_, Try.underlying27, by kernel_rfl, ⟨by decide, by kernel_rfl⟩, ⟨_, Try.underlying22, by kernel_rfl, ⟨by decide, by kernel_rfl⟩, ⟨Try.underlying5, by kernel_rfl⟩⟩⟩
abbrev bTy : Ty := .sl 1 (.int .u8)
theorem isB_of_rd {w : World} {v : Value} {l : List Int} (h : Rd w bTy [v] l) : IsB w v l := by
  obtain ⟨ao, cap, h1, h2, h3, h4, h5⟩ := Rd.sl' h
  simp only [List.cons.injEq, and_true] at h1
  have each : ∀ i x, l[i]? = some x → ∃ b o, ao = some ⟨b, o, none⟩ ∧ b < w.heap.size ∧ w.cell? ⟨b, o + i, none⟩ = some (.int .u8 x) ∧ 0 ≤ x ∧ x ≤ 255 := by
    intro i x hx
    obtain ⟨b, o, cs, k1, k2, k3, k4, k5⟩ := h5 i x hx
    obtain ⟨rfl, k6⟩ := Rd.int' k5
    have := k4 0 _ rfl
    exact ⟨b, o, k1, k2, by simpa [Ty.size] using this, wf_u8 k6⟩
  refine ⟨fun x hx => ?_, ao, cap, h1, h2, h3, fun hn => ?_, fun a ha hp => ?_⟩
  · obtain ⟨i, hi⟩ := List.mem_iff_getElem?.1 hx
    obtain ⟨_, _, _, _, _, k⟩ := each i x hi
    exact k
  · exact ⟨List.eq_nil_of_length_eq_zero (h4 hn).1, (h4 hn).2⟩
  · have h0 : l[0]? = some (l[0]) := List.getElem?_eq_getElem hp
    obtain ⟨b, o, k1, k2, _⟩ := each 0 _ h0
    rw [ha] at k1
    cases k1
    refine ⟨rfl, k2, fun i hi => ?_⟩
    have hi' : l[i]? = some (l[i]) := List.getElem?_eq_getElem hi
    obtain ⟨b', o', q1, _, q3, _⟩ := each i _ hi'
    rw [ha] at q1
    cases q1
    rw [q3]
    simp [List.getD, hi]
theorem bb_of_rd {w : World} {ao : Option Addr} {n cap : Nat} {l : List (List Int)} (h : Rd w bbTy [.slice ao n cap] l) : IsBB w (.slice ao n cap) l := by
  obtain ⟨ao', cap', h1, h2, h3, h4, h5⟩ := Rd.sl' h
  simp only [List.cons.injEq, and_true] at h1
  refine ⟨ao', cap', h1, h2, h3, fun hn => ⟨List.eq_nil_of_length_eq_zero (h4 hn).1, (h4 hn).2⟩, fun a ha hp => ?_⟩
  have each : ∀ i x, l[i]? = some x → ∃ b o, ao' = some ⟨b, o, none⟩ ∧ b < w.heap.size ∧ ∃ u, w.cell? ⟨b, o + i, none⟩ = some u ∧ IsB w u x := by
    intro i x hx
    obtain ⟨b, o, cs, k1, k2, k3, k4, k5⟩ := h5 i x hx
    match cs, k3 with
    | [u], _ =>
      have := k4 0 _ rfl
      exact ⟨b, o, k1, k2, u, by simpa [Ty.size] using this, isB_of_rd k5⟩
  have h0 : l[0]? = some (l[0]) := List.getElem?_eq_getElem hp
  obtain ⟨b, o, k1, k2, _⟩ := each 0 _ h0
  rw [ha] at k1
  cases k1
  refine ⟨rfl, k2, fun i x hi => ?_⟩
  obtain ⟨b', o', q1, _, u, q3, q4⟩ := each i x hi
  rw [ha] at q1
  cases q1
  exact ⟨u, q3, q4⟩
theorem bb_plain {w : World} {ao : Option Addr} {n cap : Nat} {l : List (List Int)} (h : Rd w bbTy [.slice ao n cap] l) : ∃ ls, IsBB w (.slice ao n cap) ls := ⟨l, bb_of_rd h⟩
/-- with its sizes -/
theorem bb_sized {w : World} {ao : Option Addr} {n cap : Nat} {l : List (List Int)} (h : Rd w bbTy [.slice ao n cap] l) (k : Fits reachBytes bbTy l) :
    ∃ ls, IsBB w (.slice ao n cap) ls ∧ (∀ l ∈ ls, l.length ≤ 140737488351232) ∧ ls.length ≤ 5864062014634 := by
  have k' := Fits.sl' k
  have k1 : l.length * 24 ≤ 140737488351232 := k'.1
  refine ⟨l, bb_of_rd h, fun x hx => ?_, by omega⟩
  obtain ⟨i, hi⟩ := List.mem_iff_getElem?.1 hx
  have q := k'.2 i x hi
  have q' : x.length * 1 ≤ 140737488351232 := (Fits.sl' q).1
  omega
end Go.Proofs.Ytjhnjnpidaofaaa
