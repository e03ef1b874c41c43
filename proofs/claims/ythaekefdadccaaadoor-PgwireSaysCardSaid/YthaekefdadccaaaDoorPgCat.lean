/- pgwire in the abstract: slices.Concat of bytes. -/
import Derived.Test.YthaekefdadccaaaDoorPmD
import Derived.Test.YthaekefdadccaaaDoorCat
set_option linter.unusedVariables false
set_option linter.unusedSimpArgs false
namespace Go.Proofs.YthaekefdadccaaaDoor
open Go.RowKit
namespace PM
def bbC (l : List Int) : List DV := [.sl 1 (encB l)]
theorem relD_isBB {N : No} {w : World} {ls : List (List Int)} {v : Value} (h : RelD N w (.sl 1 (ls.map bbC)) v) : IsBB w v ls := by
  unfold RelD at h
  obtain ⟨ao, cap, h1, h2, h3, h4, h5⟩ := h
  rw [List.length_map] at h1 h2 h4 h5
  refine ⟨ao, cap, h1, h2, h3, fun e => ⟨List.eq_nil_of_length_eq_zero (h4 e).1, (h4 e).2⟩, fun a ha hp => ?_⟩
  obtain ⟨h6, h7⟩ := h5 a ha hp
  have hc : ∀ i l, ls[i]? = some l → ∃ u, w.cell? ⟨a.block, a.off + i, none⟩ = some u ∧ IsB w u l := fun i l hi => by
    obtain ⟨-, h8⟩ := h7.at_ (i := i) (x := bbC l) (by rw [List.getElem?_map, hi]; rfl)
    unfold bbC RelC at h8
    obtain ⟨⟨u, k1, -, k2⟩, -⟩ := h8
    rw [Nat.mul_one] at k1
    exact ⟨u, k1, k2.isB.1⟩
  obtain ⟨u, k1, -⟩ := hc 0 _ (List.getElem?_eq_getElem hp)
  exact ⟨h6, lt_of_cell k1, hc⟩
theorem flat_rng {ls : List (List Int)} (h : ∀ l ∈ ls, Rng l) : Rng ls.flatten := fun x hx => by
  obtain ⟨l, hl, hx⟩ := List.mem_flatten.1 hx
  exact h l hl x hx
theorem isBB_rng {w : World} {v : Value} {ls : List (List Int)} (h : IsBB w v ls) : ∀ l ∈ ls, Rng l := by
  obtain ⟨ao, cap, h1, h2, h3, h4, h5⟩ := h
  intro l hl
  obtain ⟨i, hi⟩ := List.getElem?_of_mem hl
  rcases ao with _ | a
  · rw [(h4 rfl).1] at hl; cases hl
  · obtain ⟨-, -, h6⟩ := h5 a rfl (List.length_pos_of_mem hl)
    obtain ⟨u, -, hu⟩ := h6 i l hi
    exact hu.1
set_option maxRecDepth 100000 in
theorem pConcat (ls : List (List Int)) (hs : catLen ls ≤ 140737488355328) : PFun Tryd.prog 44 [.d (.sl 1 (ls.map bbC))] nom (.own 0 1 (encB ls.flatten)) ⟨[], [some ⟨5, 1, ls.flatten.length⟩]⟩ :=
  pfun_of_ownS Tryd.func44 rfl rfl fun G w vs hm ha => by
    unfold RelAs at ha
    obtain ⟨v1, vs, rfl, h1, ha⟩ := ha
    unfold RelAs at ha
    subst ha
    have hb := relD_isBB h1.dat
    refine (concat_any v1 ls w hb hs).mono fun e w' ⟨v, k1, k2, k3⟩ => ⟨v, k1, OwnS.of_own k2 (flat_rng (isBB_rng hb)), k3⟩

set_option maxRecDepth 100000 in
theorem pConcat2 (a b : List Int) (hs : a.length + b.length ≤ 140737488355328) : PFun Tryd.prog 44 [.d (.sl 1 [[.sl 1 (encB a)], [.sl 1 (encB b)]])] nom (.own 0 1 (encB (a ++ b))) ⟨[], [some ⟨5, 1, (a ++ b).length⟩]⟩ := by
  have h := pConcat [a, b] (by simp only [catLen, List.map_cons, List.map_nil, List.sum_cons, List.sum_nil]; omega)
  simp only [List.flatten_cons, List.flatten_nil, List.append_nil] at h
  exact h
end PM
end Go.Proofs.YthaekefdadccaaaDoor
