/- A []Step that reads as a list; the plain laws of a clock. -/
import Derived.Test.YtogooghigeemaaaHlcLearn
import Derived.Test.YtogooghigeemaaaMore
namespace Go.Proofs.Ytogooghigeemaaa
open Go.RowKit
namespace Hlc
def I64 (x : Int) : Prop := -9223372036854775808 ≤ x ∧ x ≤ 9223372036854775807
/-- v is a []Step: do, wall, the stamp's two -/
def IsSteps (w : World) (v : Value) (xs : List (Int × Int × Int × Int)) : Prop :=
  ∃ ao cap, v = .slice ao xs.length cap ∧ xs.length ≤ cap ∧ cap ≤ maxLen ∧ ∀ i x, xs[i]? = some x → ∃ b o, ao = some ⟨b, o, none⟩ ∧ b < w.heap.size ∧
    (I64 x.1 ∧ I64 x.2.1 ∧ I64 x.2.2.1 ∧ I64 x.2.2.2) ∧
    w.cell? ⟨b, o + i * 4, none⟩ = some (.int .i64 x.1) ∧ w.cell? ⟨b, o + i * 4 + 1, none⟩ = some (.int .i64 x.2.1) ∧
    w.cell? ⟨b, o + i * 4 + 2, none⟩ = some (.int .i64 x.2.2.1) ∧ w.cell? ⟨b, o + i * 4 + 3, none⟩ = some (.int .i64 x.2.2.2)
theorem IsSteps.below {w w' : World} {v : Value} {xs : List (Int × Int × Int × Int)} (h : IsSteps w v xs) (hb : Below w.heap.size w w') : IsSteps w' v xs := by
  obtain ⟨ao, cap, h1, h2, h3, h4⟩ := h
  refine ⟨ao, cap, h1, h2, h3, fun i x hx => ?_⟩
  obtain ⟨b, o, k1, k2, k3, c0, c1, c2, c3⟩ := h4 i x hx
  exact ⟨b, o, k1, Nat.lt_of_lt_of_le k2 hb.size, k3, (hb.cell k2).trans c0, (hb.cell k2).trans c1, (hb.cell k2).trans c2, (hb.cell k2).trans c3⟩
theorem IsSteps.form {w : World} {v : Value} {xs : List (Int × Int × Int × Int)} (h : IsSteps w v xs) : ∃ ao cap, v = .slice ao xs.length cap ∧ xs.length ≤ cap ∧ cap ≤ 9223372036854775807 := by
  obtain ⟨ao, cap, h1, h2, h3, _⟩ := h
  exact ⟨ao, cap, h1, h2, by unfold maxLen at h3; omega⟩
theorem IsSteps.at_ {w : World} {ao : Option Addr} {n cap k : Nat} {xs : List (Int × Int × Int × Int)} (h : IsSteps w (.slice ao n cap) xs) (hk : k < xs.length) :
    ∃ b o d t x y, ao = some ⟨b, o, none⟩ ∧ b < w.heap.size ∧ Hid (xs[k]? = some (d, t, x, y)) ∧ (I64 d ∧ I64 t ∧ I64 x ∧ I64 y) ∧
    w.cell? ⟨b, o + k * 4, none⟩ = some (.int .i64 d) ∧ w.cell? ⟨b, o + k * 4 + 1, none⟩ = some (.int .i64 t) ∧
    w.cell? ⟨b, o + k * 4 + 2, none⟩ = some (.int .i64 x) ∧ w.cell? ⟨b, o + k * 4 + 3, none⟩ = some (.int .i64 y) := by
  obtain ⟨ao', cap', h1, h2, h3, h4⟩ := h
  simp only [Value.slice.injEq] at h1
  obtain ⟨rfl, rfl, rfl⟩ := h1
  have e : xs[k]? = some (xs[k]) := List.getElem?_eq_getElem hk
  obtain ⟨b, o, k1, k2, k3, c0, c1, c2, c3⟩ := h4 k _ e
  exact ⟨b, o, _, _, _, _, k1, k2, e, k3, c0, c1, c2, c3⟩

theorem next_ok {a b : Int} (h : (next a b).2.2 = 0) : right a b = true ∧ right (next a b).1 (next a b).2.1 = true ∧ 0 < cmpS (next a b).1 (next a b).2.1 a b ∧ a ≤ (next a b).1 := by
  have e : next a b = if right a b = false then (0, 0, 80) else if a = 9007199254740991 ∧ b = 65535 then (0, 0, 82) else if b = 65535 then (a + 1, 0, 0) else (a, b + 1, 0) := rfl
  generalize next a b = z at *
  by_cases h1 : right a b = false
  · rw [if_pos h1] at e; subst e; simp at h
  · rw [if_neg h1] at e
    have hr : right a b = true := by simpa using h1
    have hb := right_iff.1 hr
    by_cases h2 : a = 9007199254740991 ∧ b = 65535
    · rw [if_pos h2] at e; subst e; simp at h
    · rw [if_neg h2] at e
      by_cases h3 : b = 65535
      · rw [if_pos h3] at e; subst e
        refine ⟨hr, right_iff.2 ⟨by simp; omega, by simp⟩, ?_, by simp; omega⟩
        rw [rcmp2 (by simp; omega)]; decide
      · rw [if_neg h3] at e; subst e
        refine ⟨hr, right_iff.2 ⟨by simp; omega, by simp; omega⟩, ?_, by simp⟩
        rw [rcmp4 rfl (by simp; omega)]; decide
/-- the order of stamps is an order: as pairs -/
theorem cmp_lt {a b c d : Int} : cmpS a b c d < 0 ↔ (a < c ∨ a = c ∧ b < d) := by
  rcases Int.lt_trichotomy a c with h | h | h
  · rw [rcmp1 h]; simp; omega
  · rcases Int.lt_trichotomy b d with k | k | k
    · rw [rcmp3 h k]; simp; omega
    · rw [rcmp5 h k]; simp; omega
    · rw [rcmp4 h k]; simp; omega
  · rw [rcmp2 h]; simp; omega
theorem cmp_gt {a b c d : Int} : 0 < cmpS a b c d ↔ (c < a ∨ a = c ∧ d < b) := by
  rcases Int.lt_trichotomy a c with h | h | h
  · rw [rcmp1 h]; simp; omega
  · rcases Int.lt_trichotomy b d with k | k | k
    · rw [rcmp3 h k]; simp; omega
    · rw [rcmp5 h k]; simp; omega
    · rw [rcmp4 h k]; simp; omega
  · rw [rcmp2 h]; simp; omega
theorem now_law {la lb t ta tb : Int} (hr : right la lb = true) (hle : cmpS ta tb la lb ≤ 0) (h : (nowR la lb t).2.2 = 0) :
    right (nowR la lb t).1 (nowR la lb t).2.1 = true ∧ 0 < cmpS (nowR la lb t).1 (nowR la lb t).2.1 ta tb ∧ t ≤ (nowR la lb t).1 := by
  have e : nowR la lb t = if isWall t = false then (0, 0, 1) else if 0 < cmpS t 0 la lb then (t, 0, 0) else if (next la lb).2.2 = 0 then ((next la lb).1, (next la lb).2.1, 0) else (0, 0, (next la lb).2.2) := rfl
  generalize nowR la lb t = z at *
  have hle' : ¬ 0 < cmpS ta tb la lb := by omega
  rw [cmp_gt] at hle'
  by_cases h1 : isWall t = false
  · rw [if_pos h1] at e; subst e; simp at h
  · rw [if_neg h1] at e
    have ht : 0 ≤ t ∧ t ≤ 9007199254740991 := by simpa [isWall] using h1
    by_cases h2 : 0 < cmpS t 0 la lb
    · rw [if_pos h2] at e; subst e
      rw [cmp_gt] at h2
      refine ⟨right_iff.2 ⟨by simp; omega, by simp⟩, ?_, by simp⟩
      rw [cmp_gt]; simp only; omega
    · rw [if_neg h2] at e
      by_cases h3 : (next la lb).2.2 = 0
      · rw [if_pos h3] at e; subst e
        obtain ⟨_, k1, k2, k3⟩ := next_ok h3
        rw [cmp_gt] at k2 h2
        have hb := right_iff.1 hr
        refine ⟨k1, ?_, ?_⟩
        · rw [cmp_gt]; simp only; omega
        · simp only; omega
      · rw [if_neg h3] at e; subst e; simp at h; exact absurd h h3
theorem learn_law {off la lb a b t ta tb : Int} (hr : right la lb = true) (hle : cmpS ta tb la lb ≤ 0) :
    right (learnL off la lb a b t).1 (learnL off la lb a b t).2 = true ∧ cmpS ta tb (learnL off la lb a b t).1 (learnL off la lb a b t).2 ≤ 0 ∧
      (learnE off a b t = 0 → cmpS a b (learnL off la lb a b t).1 (learnL off la lb a b t).2 ≤ 0) := by
  have e : learnL off la lb a b t = if learnE off a b t = 0 ∧ 0 < cmpS a b la lb then (a, b) else (la, lb) := rfl
  generalize learnL off la lb a b t = z at *
  have self : cmpS a b a b = 0 := rcmp5 rfl rfl
  by_cases h : learnE off a b t = 0 ∧ 0 < cmpS a b la lb
  · rw [if_pos h] at e; subst e
    have hra : right a b = true := by
      have := h.1
      unfold learnE at this
      by_cases h1 : isWall t = false
      · rw [if_pos h1] at this; simp at this
      · rw [if_neg h1] at this
        by_cases h2 : right a b = false
        · rw [if_pos h2] at this; simp at this
        · simpa using h2
    refine ⟨hra, ?_, fun _ => by simp only; omega⟩
    have h2 := h.2
    rw [cmp_gt] at h2
    have hle' : ¬ 0 < cmpS ta tb la lb := by omega
    rw [cmp_gt] at hle'
    have : ¬ 0 < cmpS ta tb a b := by rw [cmp_gt]; omega
    simp only; omega
  · rw [if_neg h] at e; subst e
    exact ⟨hr, hle, fun he => by simp only; omega⟩
end Hlc
end Go.Proofs.Ytogooghigeemaaa
