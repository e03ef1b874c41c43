/- pgwire, plainly: what is said of a beginning is said of all. No program in sight. -/
import Derived.Test.YthaekefdadccaaaDoorPgP
namespace Go.Proofs.YthaekefdadccaaaDoor
open Go.RowKit
namespace PM
theorem getD_take {b : List Int} {k i : Nat} (h : i < k) : (b.take k).getD i 0 = b.getD i 0 := by
  rw [List.getD, List.getD, List.getElem?_take, if_pos h]
theorem i32v_pre {b : List Int} {k j : Nat} (h : j + 4 ≤ k) : i32v ((b.take k).drop j) = i32v (b.drop j) := by
  unfold i32v
  have e : ∀ i, i < 4 → ((b.take k).drop j).getD i 0 = (b.drop j).getD i 0 := fun i hi => by
    rw [List.getD, List.getD, List.getElem?_drop, List.getElem?_drop, List.getElem?_take, if_pos (by omega)]
  rw [e 0 (by omega), e 1 (by omega), e 2 (by omega), e 3 (by omega)]
theorem i32v_pre0 {b : List Int} {k : Nat} (h : 4 ≤ k) : i32v (b.take k) = i32v b := i32v_pre (j := 0) (by omega)
theorem take_pre {b : List Int} {n k : Nat} (h : n ≤ k) : (b.take k).take n = b.take n := by rw [List.take_take, Nat.min_eq_left h]
theorem paramsF_err : ∀ (f k : Nat) (b : List Int), (paramsF f k b).2 ≠ 10
  | 0, _, _ => by unfold paramsF; decide
  | f + 1, k, b => by
    unfold paramsF
    split
    · decide
    · split
      · split <;> decide
      · split
        · decide
        · split
          · decide
          · split
            · decide
            · simp only
              split
              · exact paramsF_err f _ _
              · exact (by decide : (0 : Int) ≠ 10)
theorem first_short {b : List Int} (h : (firstS b).2.2 = 10) : firstS b = (zF, 0, 10) := by
  unfold firstS at h ⊢
  repeat' split at h
  all_goals first
    | (simp at h; done)
    | (exact absurd h (paramsF_err _ _ _))
    | (simp only [*, ↓reduceIte]; done)
theorem first_pieces {b : List Int} {k : Nat} (hk : k ≤ b.length) (h : (firstS (b.take k)).2.2 ≠ 10) : firstS b = firstS (b.take k) := by
  have hl : (b.take k).length = k := by rw [List.length_take]; omega
  by_cases h4 : k < 4
  · exfalso; apply h; unfold firstS; rw [if_pos (by omega)]
  have g4 : ¬ (b.take k).length < 4 := by omega
  have g4' : ¬ b.length < 4 := by omega
  by_cases h8 : i32v b < 8
  · simp only [firstS, hl, h4, g4', i32v_pre0 (show 4 ≤ k by omega), h8, ↓reduceIte]
  by_cases hm : 10000 < i32v b
  · simp only [firstS, hl, h4, g4', i32v_pre0 (show 4 ≤ k by omega), h8, hm, ↓reduceIte]
  by_cases hn : (k : Int) < i32v b
  · exfalso; apply h; simp only [firstS, hl, h4, i32v_pre0 (show 4 ≤ k by omega), h8, hm, hn, ↓reduceIte]
  have hn' : ¬ (b.length : Int) < i32v b := by omega
  have e4 : i32v ((b.take k).drop 4) = i32v (b.drop 4) := i32v_pre (by omega)
  have et : (b.take k).take (i32v b).toNat = b.take (i32v b).toNat := take_pre (by omega)
  by_cases hc : i32v b = 16
  · have e8 : i32v ((b.take k).drop 8) = i32v (b.drop 8) := i32v_pre (by omega)
    have e12 : i32v ((b.take k).drop 12) = i32v (b.drop 12) := i32v_pre (by omega)
    simp only [firstS, hl, h4, g4', i32v_pre0 (show 4 ≤ k by omega), h8, hm, hn, hn', e4, et, e8, e12, ↓reduceIte]
  · simp only [firstS, hl, h4, g4', i32v_pre0 (show 4 ≤ k by omega), h8, hm, hn, hn', e4, et, hc, ne_eq, not_false_eq_true, ↓reduceIte]
theorem body_err (t : Int) (b : List Int) : (bodyS t b).2 ≠ 10 := by
  unfold bodyS
  repeat' split
  all_goals first | decide | exact (by decide : (0 : Int) ≠ 10)
theorem later_short {b : List Int} (h : (laterS b).2.2 = 10) : laterS b = (zF, 0, 10) := by
  unfold laterS at h ⊢
  repeat' split at h
  all_goals first
    | (simp at h; done)
    | (exact absurd h (body_err _ _))
    | (simp only [*, ↓reduceIte]; done)
theorem later_pieces {b : List Int} {k : Nat} (hk : k ≤ b.length) (h : (laterS (b.take k)).2.2 ≠ 10) : laterS b = laterS (b.take k) := by
  have hl : (b.take k).length = k := by rw [List.length_take]; omega
  by_cases h0 : k = 0
  · exfalso; apply h; unfold laterS; rw [if_pos (by omega)]
  have g0 : ¬ (b.take k).length = 0 := by omega
  have g0' : ¬ b.length = 0 := by omega
  have eg : (b.take k).getD 0 0 = b.getD 0 0 := getD_take (by omega)
  by_cases h1 : b.getD 0 0 = 0 ∨ 127 < b.getD 0 0
  · simp only [laterS, hl, h0, g0', eg, h1, ↓reduceIte]
  by_cases h5 : k < 5
  · exfalso; apply h; simp only [laterS, hl, h0, eg, h1, h5, ↓reduceIte]
  have g5 : ¬ (b.take k).length < 5 := by omega
  have g5' : ¬ b.length < 5 := by omega
  have e1 : i32v ((b.take k).drop 1) = i32v (b.drop 1) := i32v_pre (by omega)
  by_cases h4 : i32v (b.drop 1) < 4
  · simp only [laterS, hl, h0, g0', eg, h1, h5, g5', e1, h4, ↓reduceIte]
  by_cases hm : 1048576 < i32v (b.drop 1)
  · simp only [laterS, hl, h0, g0', eg, h1, h5, g5', e1, h4, hm, ↓reduceIte]
  by_cases hn : (k : Int) - 1 < i32v (b.drop 1)
  · exfalso; apply h; simp only [laterS, hl, h0, eg, h1, h5, e1, h4, hm, hn, ↓reduceIte]
  have hn' : ¬ (b.length : Int) - 1 < i32v (b.drop 1) := by omega
  have et : (b.take k).take (1 + i32v (b.drop 1)).toNat = b.take (1 + i32v (b.drop 1)).toNat := take_pre (by omega)
  simp only [laterS, hl, h0, g0', eg, h1, h5, g5', e1, h4, hm, hn, hn', et, ↓reduceIte]
theorem takeFront_short {b : List Int} {st : Bool} (h : (takeFrontS b st).2.2 = 10) : takeFrontS b st = (zF, 0, 10) := by
  unfold takeFrontS at h ⊢
  split at h
  · rename_i hs; rw [if_pos hs]; exact first_short h
  · rename_i hs; rw [if_neg hs]; exact later_short h
theorem takeFront_pieces {b : List Int} {st : Bool} {k : Nat} (hk : k ≤ b.length) (h : (takeFrontS (b.take k) st).2.2 ≠ 10) : takeFrontS b st = takeFrontS (b.take k) st := by
  unfold takeFrontS at h ⊢
  split at h
  · rename_i hs; rw [if_pos hs, if_pos hs]; exact first_pieces hk h
  · rename_i hs; rw [if_neg hs, if_neg hs]; exact later_pieces hk h
end PM
end Go.Proofs.YthaekefdadccaaaDoor
