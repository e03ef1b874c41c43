/- codec: the order of what is laid down as keys. No program in sight. -/
import Derived.Test.YtfkemeamimcnjaaDoorCodecKeyT
set_option linter.unusedVariables false
set_option linter.unusedSimpArgs false
namespace Go.Proofs.YtfkemeamimcnjaaDoor
open Go.RowKit
namespace Codec
theorem cmpB_nil_nil : cmpB [] [] = 0 := by rw [cmpB]
theorem cmpB_nil_cons (y : Int) (m : List Int) : cmpB [] (y :: m) = -1 := by rw [cmpB]
theorem cmpB_cons_nil (x : Int) (l : List Int) : cmpB (x :: l) [] = 1 := by rw [cmpB]
theorem cmpB_cons (x y : Int) (l m : List Int) : cmpB (x :: l) (y :: m) = if x < y then -1 else if y < x then 1 else cmpB l m := by rw [cmpB]
theorem cmpB_same (x : Int) (l m : List Int) : cmpB (x :: l) (x :: m) = cmpB l m := by rw [cmpB_cons, if_neg (by omega), if_neg (by omega)]
theorem cmpB_diff {x y : Int} (h : x ≠ y) (l m l' m' : List Int) : cmpB (x :: l) (y :: m) = cmpB (x :: l') (y :: m') := by
  rw [cmpB_cons, cmpB_cons]
  by_cases h1 : x < y
  · rw [if_pos h1, if_pos h1]
  · rw [if_neg h1, if_neg h1, if_pos (by omega), if_pos (by omega)]
theorem cmpB_refl : ∀ l : List Int, cmpB l l = 0
  | [] => cmpB_nil_nil
  | x :: l => by rw [cmpB_same]; exact cmpB_refl l
/-- of lists of one length that differ it matters not what stands behind -/
theorem cmpB_app : ∀ {l m : List Int} (a b : List Int), l.length = m.length → l ≠ m → cmpB (l ++ a) (m ++ b) = cmpB l m
  | [], [], _, _, _, h => absurd rfl h
  | [], _ :: _, _, _, h, _ => by simp at h
  | _ :: _, [], _, _, h, _ => by simp at h
  | x :: l, y :: m, a, b, hl, hne => by
    rw [List.cons_append, List.cons_append]
    by_cases h : x = y
    · subst h
      rw [cmpB_same, cmpB_same]
      exact cmpB_app a b (by simpa using hl) (fun e => hne (by rw [e]))
    · exact cmpB_diff h _ _ _ _
/-- keys' texts stand as the texts do, whatever is behind -/
theorem cmpB_key : ∀ {s t : List Int} (a b : List Int), Rng s → Rng t → s ≠ t → cmpB (keyT s ++ a) (keyT t ++ b) = cmpB s t
  | [], [], _, _, _, _, h => absurd rfl h
  | [], y :: t, a, b, _, ht, _ => by
    have hy := ht y (by simp)
    rw [cmpB_nil_cons]
    by_cases h : y = 0
    · subst h
      have e : keyT (0 :: t) ++ b = 0 :: 255 :: (keyT t ++ b) := by simp [keyT, repl]
      have e2 : keyT [] ++ a = 0 :: 1 :: a := rfl
      rw [e, e2, cmpB_same, cmpB_cons, if_pos (by decide)]
    · have e : keyT (y :: t) ++ b = y :: (keyT t ++ b) := by simp [keyT, repl, h]
      have e2 : keyT [] ++ a = 0 :: 1 :: a := rfl
      rw [e, e2, cmpB_cons, if_pos (by omega)]
  | x :: s, [], a, b, hs, _, _ => by
    have hx := hs x (by simp)
    rw [cmpB_cons_nil]
    by_cases h : x = 0
    · subst h
      have e : keyT (0 :: s) ++ a = 0 :: 255 :: (keyT s ++ a) := by simp [keyT, repl]
      have e2 : keyT [] ++ b = 0 :: 1 :: b := rfl
      rw [e, e2, cmpB_same, cmpB_cons, if_neg (by decide), if_pos (by decide)]
    · have e : keyT (x :: s) ++ a = x :: (keyT s ++ a) := by simp [keyT, repl, h]
      have e2 : keyT [] ++ b = 0 :: 1 :: b := rfl
      rw [e, e2, cmpB_cons, if_neg (by omega), if_pos (by omega)]
  | x :: s, y :: t, a, b, hs, ht, hne => by
    have hs' : Rng s := fun z hz => hs z (by simp [hz])
    have ht' : Rng t := fun z hz => ht z (by simp [hz])
    by_cases h : x = y
    · subst h
      have ih := cmpB_key a b hs' ht' (fun e => hne (by rw [e]))
      rw [cmpB_same]
      by_cases h0 : x = 0
      · subst h0
        have e : ∀ r c, keyT (0 :: r) ++ c = 0 :: 255 :: (keyT r ++ c) := fun r c => by simp [keyT, repl]
        rw [e, e, cmpB_same, cmpB_same]; exact ih
      · have e : ∀ r c, keyT (x :: r) ++ c = x :: (keyT r ++ c) := fun r c => by simp [keyT, repl, h0]
        rw [e, e, cmpB_same]; exact ih
    · have e : ∀ z r c, ∃ q, keyT (z :: r) ++ c = z :: q := fun z r c => by
        by_cases h0 : z = 0
        · subst h0; exact ⟨_, by simp [keyT, repl]; rfl⟩
        · exact ⟨_, by simp [keyT, repl, h0]; rfl⟩
      obtain ⟨q1, e1⟩ := e x s a
      obtain ⟨q2, e2⟩ := e y t b
      rw [e1, e2]
      exact cmpB_diff h _ _ _ _
theorem cmpB_keyT (s t : List Int) (hs : Rng s) (ht : Rng t) : cmpB (keyT s) (keyT t) = cmpB s t := by
  by_cases h : s = t
  · subst h; rw [cmpB_refl, cmpB_refl]
  · have := cmpB_key [] [] hs ht h
    rwa [List.append_nil, List.append_nil] at this
/-- a list as a number, the highest first -/
def vB : List Int → Int
  | [] => 0
  | x :: l => x * 256 ^ l.length + vB l
theorem vB_rng : ∀ {l : List Int}, Rng l → 0 ≤ vB l ∧ vB l < 256 ^ l.length
  | [], _ => ⟨(by show (0 : Int) ≤ 0; omega), (by show (0 : Int) < 1; omega)⟩
  | x :: l, h => by
    have ih := vB_rng (l := l) (fun z hz => h z (by simp [hz]))
    have hx := h x (by simp)
    rw [vB, List.length_cons, Int.pow_succ]
    have h1 : 0 ≤ x * 256 ^ l.length := Int.mul_nonneg hx.1 (by omega)
    have h2 : x * 256 ^ l.length ≤ 255 * 256 ^ l.length := Int.mul_le_mul_of_nonneg_right hx.2 (by omega)
    omega
theorem cmpB_val : ∀ {l m : List Int}, l.length = m.length → Rng l → Rng m → cmpB l m = if vB l < vB m then -1 else if vB m < vB l then 1 else 0
  | [], [], _, _, _ => by rw [cmpB_nil_nil]; rfl
  | [], _ :: _, h, _, _ => by simp at h
  | _ :: _, [], h, _, _ => by simp at h
  | x :: l, y :: m, h, hl, hm => by
    have hlen : l.length = m.length := by simpa using h
    have hl' : Rng l := fun z hz => hl z (by simp [hz])
    have hm' : Rng m := fun z hz => hm z (by simp [hz])
    have ih := cmpB_val hlen hl' hm'
    have r1 := vB_rng hl'
    have r2 := vB_rng hm'
    rw [cmpB_cons, vB, vB, ← hlen]
    rw [← hlen] at r2
    by_cases h1 : x < y
    · have h2 : (x + 1) * 256 ^ l.length ≤ y * 256 ^ l.length := Int.mul_le_mul_of_nonneg_right (by omega) (by omega)
      rw [Int.add_mul, Int.one_mul] at h2
      rw [if_pos h1, if_pos (by omega)]
    · by_cases h3 : y < x
      · have h2 : (y + 1) * 256 ^ l.length ≤ x * 256 ^ l.length := Int.mul_le_mul_of_nonneg_right (by omega) (by omega)
        rw [Int.add_mul, Int.one_mul] at h2
        rw [if_neg h1, if_pos h3, if_neg (by omega), if_pos (by omega)]
      · have e : x = y := by omega
        subst e
        rw [if_neg h1, if_neg h3, ih]
        by_cases h4 : vB l < vB m
        · rw [if_pos h4, if_pos (by omega)]
        · by_cases h5 : vB m < vB l
          · rw [if_neg h4, if_pos h5, if_neg (by omega), if_pos (by omega)]
          · rw [if_neg h4, if_neg h5, if_neg (by omega), if_neg (by omega)]
theorem vB_key {n : Int} (h : -9223372036854775808 ≤ n ∧ n ≤ 9223372036854775807) : vB (keyL n) = n + 9223372036854775808 := by
  have e : ∀ u : Int, 0 ≤ u ∧ u ≤ 18446744073709551615 → vB (bytes8 u) = u := by
    intro u hu
    unfold bytes8
    simp only [vB, List.length_cons, List.length_nil, Nat.zero_add, Nat.reduceAdd, Int.reducePow]
    omega
  exact e _ (by omega)
theorem cmpB_keyL {x y : Int} (hx : -9223372036854775808 ≤ x ∧ x ≤ 9223372036854775807) (hy : -9223372036854775808 ≤ y ∧ y ≤ 9223372036854775807) : cmpB (keyL x) (keyL y) = if x < y then -1 else if y < x then 1 else 0 := by
  rw [cmpB_val (l := keyL x) (m := keyL y) rfl (keyL_rng hx) (keyL_rng hy), vB_key hx, vB_key hy]
  by_cases h1 : x < y
  · rw [if_pos h1, if_pos (by omega)]
  · rw [if_neg h1, if_neg (by omega)]
    by_cases h2 : y < x
    · rw [if_pos h2, if_pos (by omega)]
    · rw [if_neg h2, if_neg (by omega)]
theorem keyL_ne {x y : Int} (hx : -9223372036854775808 ≤ x ∧ x ≤ 9223372036854775807) (hy : -9223372036854775808 ≤ y ∧ y ≤ 9223372036854775807) (h : x ≠ y) : keyL x ≠ keyL y := fun e => h (by
  have h1 := vB_key hx
  rw [e, vB_key hy] at h1
  omega)
end Codec
end Go.Proofs.YtfkemeamimcnjaaDoor
