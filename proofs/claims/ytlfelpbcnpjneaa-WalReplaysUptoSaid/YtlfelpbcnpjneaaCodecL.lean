/- codec: the plain words for numbers. No program in sight. -/
import Derived.Test.YtlfelpbcnpjneaaKit
namespace Go.Proofs.Ytlfelpbcnpjneaa
open Go.RowKit
namespace Codec
/-- a number's bytes -/
def numN (n : Nat) : List Int := if h : n < 128 then [(n : Int)] else (128 + (n : Int) % 128) :: numN (n / 128)
termination_by n
decreasing_by omega
theorem numN_lo {n : Nat} (h : n < 128) : numN n = [(n : Int)] := by rw [numN, dif_pos h]
theorem numN_hi {n : Nat} (h : 128 ≤ n) : numN n = (128 + (n : Int) % 128) :: numN (n / 128) := by rw [numN, dif_neg (by omega)]
theorem numN_len : ∀ (k n : Nat), n < 128 ^ (k + 1) → (numN n).length ≤ k + 1
  | 0, n, h => by rw [numN_lo (by simpa using h)]; simp
  | k + 1, n, h => by
    rcases Nat.lt_or_ge n 128 with h1 | h1
    · rw [numN_lo h1]; simp
    · rw [numN_hi h1, List.length_cons]
      have := numN_len k (n / 128) (by rw [Nat.div_lt_iff_lt_mul (by decide)]; rw [Nat.pow_succ] at h; exact h)
      omega
theorem numN_len10 {n : Nat} (h : n < 18446744073709551616) : (numN n).length ≤ 10 := by
  have e : (128 : Nat) ^ (9 + 1) = 1180591620717411303424 := by decide
  exact numN_len 9 n (by omega)
theorem numN_pos (n : Nat) : 0 < (numN n).length := by
  rcases Nat.lt_or_ge n 128 with h | h
  · rw [numN_lo h]; simp
  · rw [numN_hi h]; simp
theorem numN_rng (n : Nat) : Rng (numN n) := by
  induction n using Nat.strongRecOn with
  | ind n ih =>
    rcases Nat.lt_or_ge n 128 with h | h
    · rw [numN_lo h]; exact Rng.cons (by omega) Rng.nil
    · rw [numN_hi h]; exact Rng.cons (by omega) (ih (n / 128) (by omega))
/-- the value of a number's bytes -/
def v128 : List Int → Int
  | [] => 0
  | x :: l => x % 128 + 128 * v128 l
/-- what reading a number off the front answers: value, how many, errno -/
def takeN (l : List Int) : Int × Int × Int :=
  match (l.take 10).findIdx? (fun x => decide (x < 128)) with
  | none => if l.length < 10 then (0, 0, 10) else (0, 0, 11)
  | some e => if (0 < e ∧ l.getD e 0 = 0) ∨ (e = 9 ∧ 1 < l.getD 9 0) then (0, 0, 11) else (v128 (l.take (e + 1)), e + 1, 0)
/-- it reads what was laid, whatever stands behind -/
theorem v128_num (n : Nat) : v128 (numN n) = n := by
  induction n using Nat.strongRecOn with
  | ind n ih =>
    rcases Nat.lt_or_ge n 128 with h | h
    · rw [numN_lo h]; simp [v128]; omega
    · rw [numN_hi h]; simp only [v128]; rw [ih (n / 128) (by omega)]; omega
/-- the last byte alone is below 128; it is 0 only where it is the first -/
theorem numN_shape (n : Nat) : ∃ pre z, numN n = pre ++ [z] ∧ (∀ x ∈ pre, 128 ≤ x) ∧ 0 ≤ z ∧ z < 128 ∧ (pre ≠ [] → 0 < z) ∧ (128 : Int) ^ pre.length * z ≤ n := by
  induction n using Nat.strongRecOn with
  | ind n ih =>
    rcases Nat.lt_or_ge n 128 with h | h
    · exact ⟨[], n, by rw [numN_lo h]; rfl, fun x hx => by simp at hx, by omega, by omega, fun h => absurd rfl h, by simp⟩
    · obtain ⟨pre, z, h1, h2, h3, h4, h5, h6⟩ := ih (n / 128) (by omega)
      refine ⟨(128 + (n : Int) % 128) :: pre, z, by rw [numN_hi h, h1]; rfl, fun x hx => ?_, h3, h4, fun _ => ?_, ?_⟩
      · cases List.mem_cons.1 hx with
        | inl e => subst e; omega
        | inr e => exact h2 x e
      · cases pre with
        | nil =>
          have := v128_num (n / 128)
          rw [h1] at this
          simp [v128] at this
          omega
        | cons a b => exact h5 (by simp)
      · rw [List.length_cons, Int.pow_succ]
        have : (128 : Int) ^ pre.length * 128 * z = 128 * ((128 : Int) ^ pre.length * z) := by
          rw [Int.mul_comm ((128 : Int) ^ pre.length) 128, Int.mul_assoc]
        rw [this]
        omega
theorem takeN_num {n : Nat} (h : n < 18446744073709551616) (rest : List Int) : takeN (numN n ++ rest) = ((n : Int), ((numN n).length : Int), 0) := by
  obtain ⟨pre, z, h1, h2, h3, h4, h5, h6⟩ := numN_shape n
  have hlen := numN_len10 h
  rw [h1] at hlen
  simp at hlen
  have hv := v128_num n
  have hf : ((numN n ++ rest).take 10).findIdx? (fun x => decide (x < 128)) = some pre.length := by
    rw [h1, List.append_assoc, List.take_append, List.take_of_length_le (by omega)]
    rw [List.findIdx?_append]
    have : pre.findIdx? (fun x => decide (x < 128)) = none := by
      rw [List.findIdx?_eq_none_iff]
      intro x hx
      have := h2 x hx
      simp; omega
    rw [this]
    have e : (10 - pre.length) = (9 - pre.length) + 1 := by omega
    rw [e]
    simp [List.findIdx?_cons, h4]
  unfold takeN
  rw [hf]
  have hg : (numN n ++ rest).getD pre.length 0 = z := by
    rw [h1]; simp [List.getD]
  have ht : (numN n ++ rest).take (pre.length + 1) = numN n := by
    rw [h1, List.take_append_of_le_length (by simp), List.take_of_length_le (by simp)]
  have hc : ¬ ((0 < pre.length ∧ (numN n ++ rest).getD pre.length 0 = 0) ∨ (pre.length = 9 ∧ 1 < (numN n ++ rest).getD 9 0)) := by
    rintro (⟨a, b⟩ | ⟨a, b⟩)
    · rw [hg] at b
      have := h5 (by rintro rfl; exact absurd a (Nat.lt_irrefl 0))
      omega
    · rw [a] at hg h6
      rw [hg] at b
      have e : (128 : Int) ^ 9 = 9223372036854775808 := by decide
      rw [e] at h6
      omega
  show (if _ then _ else _) = _
  rw [if_neg hc, ht, hv, h1]
  simp
end Codec
end Go.Proofs.Ytlfelpbcnpjneaa
