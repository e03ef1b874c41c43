/- memtable: plain: the order of entries; an entry put into a list in order; where a place is. -/
import Derived.Test.YtgkgfghmpimaoaaMt4
set_option linter.unusedVariables false
set_option linter.unusedSimpArgs false
namespace Go.Proofs.Ytgkgfghmpimaoaa
namespace Mt
theorem cmpB_same : ∀ l : List Int, cmpB l l = 0
  | [] => rfl
  | a :: l => by simp only [cmpB]; rw [if_neg (by omega), if_neg (by omega)]; exact cmpB_same l
theorem cmpB_zero : ∀ {l m : List Int}, cmpB l m = 0 → l = m
  | [], [], _ => rfl
  | [], _ :: _, h => by simp [cmpB] at h
  | _ :: _, [], h => by simp [cmpB] at h
  | a :: x, b :: y, h => by
    simp only [cmpB] at h
    split at h
    · omega
    · split at h
      · omega
      · rw [show a = b by omega, cmpB_zero h]
theorem cmpB_trans : ∀ {l m k : List Int}, cmpB l m ≤ 0 → cmpB m k ≤ 0 → cmpB l k ≤ 0
  | [], _, [], _, _ => by simp [cmpB]
  | [], _, _ :: _, _, _ => by simp [cmpB]
  | _ :: _, [], _, h, _ => by simp [cmpB] at h
  | _ :: _, _ :: _, [], _, h => by simp [cmpB] at h
  | a :: x, b :: y, c :: z, h1, h2 => by
    simp only [cmpB] at h1 h2 ⊢
    split
    · omega
    · split at h1
      · split at h2
        · omega
        · split at h2
          · omega
          · omega
      · split at h1
        · omega
        · split at h2
          · omega
          · split at h2
            · omega
            · rw [if_neg (by omega)]
              exact cmpB_trans h1 h2
theorem cmpB_ltrans {l m k : List Int} (h1 : cmpB l m < 0) (h2 : cmpB m k < 0) : cmpB l k < 0 := by
  have h := cmpB_trans (Int.le_of_lt h1) (Int.le_of_lt h2)
  rcases Int.lt_or_eq_of_le h with h | h
  · exact h
  · have := cmpB_zero h
    subst this
    have := cmpB_swap l m
    omega
theorem cmpE_lt {a b : En} : cmpE a b < 0 ↔ cmpB a.1 b.1 < 0 ∨ (a.1 = b.1 ∧ b.2.1 < a.2.1) := by
  unfold cmpE
  by_cases h : cmpB a.1 b.1 = 0
  · rw [if_neg (by simp [h])]
    have e := cmpB_zero h
    constructor
    · intro q
      refine .inr ⟨e, ?_⟩
      split at q
      · assumption
      · split at q <;> omega
    · rintro (q | ⟨-, q⟩)
      · omega
      · rw [if_pos q]; omega
  · rw [if_pos h]
    constructor
    · exact .inl
    · rintro (q | ⟨q, -⟩)
      · exact q
      · rw [q] at h; exact absurd (cmpB_same _) h
theorem cmpE_zero {a b : En} : cmpE a b = 0 ↔ a.1 = b.1 ∧ a.2.1 = b.2.1 := by
  unfold cmpE
  by_cases h : cmpB a.1 b.1 = 0
  · rw [if_neg (by simp [h])]
    have e := cmpB_zero h
    constructor
    · intro q
      refine ⟨e, ?_⟩
      split at q
      · omega
      · split at q <;> omega
    · rintro ⟨-, q⟩
      rw [if_neg (by omega), if_neg (by omega)]
  · rw [if_pos h]
    constructor
    · intro q; exact absurd q h
    · rintro ⟨q, -⟩
      rw [q] at h; exact absurd (cmpB_same _) h
theorem cmpE_swap (a b : En) : cmpE b a = - cmpE a b := by
  have h1 := cmpE_lt (a := a) (b := b)
  unfold cmpE
  rw [cmpB_swap a.1 b.1]
  by_cases h : cmpB a.1 b.1 = 0
  · simp only [h, Int.neg_zero, ne_eq, not_true, if_false]
    split
    · rw [if_neg (by omega)]
    · split <;> rfl
  · rw [if_pos (by omega), if_pos h]
theorem cmpE_trans {a b c : En} (h1 : cmpE a b < 0) (h2 : cmpE b c < 0) : cmpE a c < 0 := by
  rw [cmpE_lt] at *
  rcases h1 with h1 | ⟨h1, h1'⟩ <;> rcases h2 with h2 | ⟨h2, h2'⟩
  · exact .inl (cmpB_ltrans h1 h2)
  · exact .inl (by rw [← h2]; exact h1)
  · exact .inl (by rw [h1]; exact h2)
  · exact .inr ⟨h1.trans h2, by omega⟩
theorem ahead_iff (a x : En) : aheadB a x.1 x.2.1 = decide (cmpE a x < 0) := by
  unfold aheadB
  rw [Bool.eq_iff_iff]
  simp only [Bool.or_eq_true, Bool.and_eq_true, decide_eq_true_eq, cmpE_lt]
  constructor
  · rintro (h | ⟨h, h'⟩)
    · exact .inl h
    · exact .inr ⟨cmpB_zero h, h'⟩
  · rintro (h | ⟨h, h'⟩)
    · exact .inl h
    · exact .inr ⟨by rw [h]; exact cmpB_same _, h'⟩
theorem asc_ins {l : List En} {x : En} {pos : Nat} (h : Asc l) (hle : pos ≤ l.length) (hp : ∀ i y, l[i]? = some y → aheadB y x.1 x.2.1 = decide (i < pos)) (ht : ∀ y, l[pos]? = some y → ¬ (y.1 = x.1 ∧ y.2.1 = x.2.1)) : Asc (l.take pos ++ x :: l.drop pos) := by
  have lo : ∀ y ∈ l.take pos, cmpE y x < 0 := fun y hy => by
    obtain ⟨i, hi, rfl⟩ := List.mem_take_iff_getElem.1 hy
    have := hp i l[i] (List.getElem?_eq_getElem (by omega))
    rw [ahead_iff, decide_eq_decide] at this
    exact this.2 (by omega)
  have hi : ∀ y ∈ l.drop pos, cmpE x y < 0 := fun y hy => by
    obtain ⟨i, hi⟩ := List.mem_iff_getElem?.1 hy
    rw [List.getElem?_drop] at hi
    have hlt := (List.getElem?_eq_some_iff.1 hi).1
    obtain ⟨z, hz⟩ : ∃ z, l[pos]? = some z := ⟨l[pos], List.getElem?_eq_getElem (by omega)⟩
    have hz0 := hp pos z hz
    rw [ahead_iff, decide_eq_decide] at hz0
    have hz1 : ¬ cmpE z x < 0 := fun h => by have := hz0.1 h; omega
    have hz2 : cmpE z x ≠ 0 := fun h => ht z hz (cmpE_zero.1 h)
    have hxz : cmpE x z < 0 := by rw [cmpE_swap z x]; omega
    rcases Nat.eq_zero_or_pos i with rfl | hi0
    · rw [Nat.add_zero, hz] at hi
      cases hi
      exact hxz
    · refine cmpE_trans hxz ?_
      obtain ⟨l1, e1⟩ := List.getElem?_eq_some_iff.1 hz
      obtain ⟨l2, e2⟩ := List.getElem?_eq_some_iff.1 hi
      rw [← e1, ← e2]
      exact List.pairwise_iff_getElem.1 h pos (pos + i) l1 l2 (by omega)
  unfold Asc at *
  rw [List.pairwise_append]
  have hsub := h
  rw [← List.take_append_drop pos l, List.pairwise_append] at hsub
  refine ⟨hsub.1, List.pairwise_cons.2 ⟨hi, hsub.2.1⟩, fun a ha b hb => ?_⟩
  rcases List.mem_cons.1 hb with rfl | hb
  · exact lo a ha
  · exact hsub.2.2 a ha b hb
end Mt
end Go.Proofs.Ytgkgfghmpimaoaa
