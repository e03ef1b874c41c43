/- rowkey, plainly: both ways of reading a row answer the same. No program in sight. -/
import Derived.Test.YtfkemeamimcnjaaDoorRku2
namespace Go.Proofs.YtfkemeamimcnjaaDoor
open Go.RowKit
set_option maxRecDepth 100000
namespace PM
theorem byteS_bad {st : Rdr} (h : st.2 = true) : (byteS st).2.2 = true := by
  obtain ⟨l, bad⟩ := st
  cases l with
  | nil => rfl
  | cons c l => exact h
theorem wentS_bad {st : Rdr} (m e : Int) (h : st.2 = true) : (wentS st m e).2 = true := by
  unfold wentS
  simp [h]
theorem valS_bad (td : List Int → List Int × Int × Int) (nb k : Int) {st : Rdr} (h : (byteS st).2.2 = true) : (valS td nb k st).2.2 = true := by
  unfold valS
  split
  · exact h
  · split
    · exact wentS_bad _ _ h
    · split
      · exact byteS_bad h
      · exact wentS_bad _ _ h
theorem keysS_bad (T : Tb) : ∀ (l : List Int) (x : List XV × Rdr), x.2.2 = true → (keysS T l x).2.2 = true
  | [], x, h => h
  | i :: l, x, h => by
    unfold keysS
    exact keysS_bad T l _ (valS_bad _ _ _ (byteS_bad h))
theorem restS_bad (key : List Int) : ∀ (C : List Col) (k : Nat) (x : List XV × Rdr), x.2.2 = true → (restS key k C x).2.2 = true
  | [], _, x, h => h
  | c :: C, k, x, h => by
    unfold restS
    refine restS_bad key C (k + 1) _ ?_
    split
    · exact h
    · exact valS_bad _ _ _ (byteS_bad h)
/-- one key's column -/
theorem takeKey_val (k : Int) (b : List Int) : ((takeKeyS k b).2.2 = false ∧ (valS Codec.tkL 2 k (b, false)).2.2 = true) ∨ takeKeyS k b = ((valS Codec.tkL 2 k (b, false)).1, (valS Codec.tkL 2 k (b, false)).2.1, true) ∧ (valS Codec.tkL 2 k (b, false)).2.2 = false := by
  cases b with
  | nil => exact .inl ⟨rfl, valS_bad _ _ _ rfl⟩
  | cons c b =>
    by_cases h2 : c = 2
    · subst h2
      exact .inr ⟨by simp [takeKeyS, valS, byteS], by simp [valS, byteS]⟩
    by_cases k1 : k = 1
    · subst k1
      by_cases he : (Codec.takeKeyIntF b).2.2 = 0
      · exact .inr ⟨by simp [takeKeyS, valS, byteS, h2, he, wentS], by simp [valS, byteS, h2, he, wentS]⟩
      · exact .inl ⟨by simp [takeKeyS, h2, he], by simp [valS, byteS, h2, he, wentS]⟩
    by_cases k2 : k = 2
    · subst k2
      cases b with
      | nil => exact .inl ⟨by simp [takeKeyS, h2], by simp [valS, byteS, h2]⟩
      | cons d b => exact .inr ⟨by simp [takeKeyS, valS, byteS, h2], by simp [valS, byteS, h2]⟩
    by_cases he : (Codec.tkL b).2.2 = 0
    · exact .inr ⟨by simp [takeKeyS, valS, byteS, h2, k1, k2, he, wentS], by simp [valS, byteS, h2, k1, k2, he, wentS]⟩
    · exact .inl ⟨by simp [takeKeyS, h2, k1, k2, he], by simp [valS, byteS, h2, k1, k2, he, wentS]⟩
theorem taken_keys (T : Tb) : ∀ (l : List Int) (R : List XV) (b : List Int), ((takenS T l (R, b)).2 = none ∧ (keysS T l (R, b, false)).2.2 = true) ∨ takenS T l (R, b) = ((keysS T l (R, b, false)).1, some (keysS T l (R, b, false)).2.1) ∧ (keysS T l (R, b, false)).2.2 = false
  | [], R, b => .inr ⟨rfl, rfl⟩
  | i :: l, R, b => by
    rw [takenS_cons]
    unfold keysS
    simp only
    rcases takeKey_val (tyAt T i) b with ⟨h1, h2⟩ | ⟨h1, h2⟩
    · rw [if_neg (by rw [h1]; simp)]
      exact .inl ⟨rfl, keysS_bad T l _ h2⟩
    · rw [if_pos (by rw [h1]), h1]
      simp only
      have ih := taken_keys T l (R.set i.toNat (valS Codec.tkL 2 (tyAt T i) (b, false)).1) (valS Codec.tkL 2 (tyAt T i) (b, false)).2.1
      have e : (valS Codec.tkL 2 (tyAt T i) (b, false)).2 = ((valS Codec.tkL 2 (tyAt T i) (b, false)).2.1, false) := Prod.ext rfl h2
      rw [e]
      exact ih
/-- one other column -/
theorem val18_val (k : Int) (hk : 1 ≤ k ∧ k ≤ 3) (b : List Int) : ((val18 k (b, false)).2.2 = true ∧ (valS Codec.takeTextF 0 k (b, false)).2.2 = true) ∨ val18 k (b, false) = valS Codec.takeTextF 0 k (b, false) ∧ (valS Codec.takeTextF 0 k (b, false)).2.2 = false := by
  cases b with
  | nil =>
    refine .inl ⟨?_, valS_bad _ _ _ rfl⟩
    simp [val18, byteS]
  | cons c b =>
    by_cases h2 : c = 0
    · subst h2
      exact .inr ⟨by simp [val18, valS, byteS], by simp [valS, byteS]⟩
    rcases (by omega : k = 1 ∨ k = 2 ∨ k = 3) with rfl | rfl | rfl
    · by_cases he : (Codec.takeKeyIntF b).2.2 = 0
      · exact .inr ⟨by simp [val18, valS, byteS, h2, he, wentS, went18], by simp [valS, byteS, h2, he, wentS]⟩
      · exact .inl ⟨by simp [val18, byteS, h2, he, went18], by simp [valS, byteS, h2, he, wentS]⟩
    · cases b with
      | nil => exact .inl ⟨by simp [val18, byteS, h2], by simp [valS, byteS, h2]⟩
      | cons d b => exact .inr ⟨by simp [val18, valS, byteS, h2], by simp [valS, byteS, h2]⟩
    · by_cases he : (Codec.takeTextF b).2.2 = 0
      · exact .inr ⟨by simp [val18, text18, valS, byteS, h2, he, wentS, went18], by simp [valS, byteS, h2, he, wentS]⟩
      · exact .inl ⟨by simp [val18, text18, byteS, h2, he, went18], by simp [valS, byteS, h2, he, wentS]⟩
theorem restS_cons (key : List Int) (k : Nat) (c : Col) (C : List Col) (x : List XV × Rdr) : restS key k (c :: C) x = restS key (k + 1) C (if key.contains (k : Int) = true then x else (x.1.set k (valS Codec.takeTextF 0 c.ty x.2).1, (valS Codec.takeTextF 0 c.ty x.2).2)) := rfl
theorem rest18_rest (key : List Int) : ∀ (C : List Col) (k : Nat) (R : List XV) (b : List Int), colsOk C = true → (rest18 key k C (R, b) = none ∧ (restS key k C (R, b, false)).2.2 = true) ∨ rest18 key k C (R, b) = some ((restS key k C (R, b, false)).1, (restS key k C (R, b, false)).2.1) ∧ (restS key k C (R, b, false)).2.2 = false
  | [], k, R, b, _ => .inr ⟨rfl, rfl⟩
  | c :: C, k, R, b, hc => by
    unfold colsOk at hc
    simp only [List.all_cons, Bool.and_eq_true, decide_eq_true_eq] at hc
    rw [rest18_cons, restS_cons]
    cases hkey : key.contains (k : Int)
    · simp only [Bool.false_eq_true, if_false]
      rcases val18_val c.ty hc.1 b with ⟨h1, h2⟩ | ⟨h1, h2⟩
      · rw [if_pos h1]
        exact .inl ⟨rfl, restS_bad key C (k + 1) _ h2⟩
      · rw [h1, if_neg (show ¬ (valS Codec.takeTextF 0 c.ty (b, false)).2.2 = true by rw [h2]; simp)]
        have ih := rest18_rest key C (k + 1) (R.set k (valS Codec.takeTextF 0 c.ty (b, false)).1) (valS Codec.takeTextF 0 c.ty (b, false)).2.1 hc.2
        have e : (valS Codec.takeTextF 0 c.ty (b, false)).2 = ((valS Codec.takeTextF 0 c.ty (b, false)).2.1, false) := Prod.ext rfl h2
        rw [e]
        exact ih
    · simp only [if_true]
      exact rest18_rest key C (k + 1) R b hc.2
theorem takeRow_same (T : Tb) (K V : List Int) : tRowS T K V = takeRowS T K V := by
  unfold tRowS takeRowS
  cases ht : tabled T T.key
  · rfl
  simp only [Bool.true_eq_false, if_false]
  by_cases h17 : K.length < 17
  · rw [if_pos h17, if_pos]
    left
    have hd : K.drop 17 = [] := List.drop_eq_nil_of_le (by omega)
    unfold read1
    rw [hd]
    have hne : T.key ≠ [] := fun h => by
      unfold tabled unlike at ht
      rw [h] at ht
      simp at ht
    obtain ⟨i, l, hl⟩ := List.exists_cons_of_ne_nil hne
    rw [hl]
    unfold keysS
    exact keysS_bad T l _ (valS_bad _ _ _ rfl)
  rw [if_neg h17]
  have h1 := taken_keys T T.key (List.replicate T.cols.length z4) (K.drop 17)
  rw [show keysS T T.key (List.replicate T.cols.length z4, K.drop 17, false) = read1 T K from rfl] at h1
  rcases h1 with ⟨h1, h2⟩ | ⟨h1, h2⟩
  · rw [if_pos (.inl h2)]
    obtain ⟨⟨R1, o1⟩, h3⟩ : ∃ r, takenS T T.key (List.replicate T.cols.length z4, K.drop 17) = r := ⟨_, rfl⟩
    rw [h3] at h1 ⊢
    simp only at h1
    rw [h1]
  · rw [h1]
    simp only
    have h3 := rest18_rest T.key T.cols 0 (read1 T K).1 V (tabled_cols ht)
    rw [show restS T.key 0 T.cols ((read1 T K).1, V, false) = read2 T K V from rfl] at h3
    rcases h3 with ⟨h3, h4⟩ | ⟨h3, h4⟩
    · rw [h3, if_pos (.inr (.inl h4))]
    · rw [h3]
      simp only
      by_cases he : rowKV T (read2 T K V).1 = (K, V, 0)
      · rw [if_pos he, if_neg]
        rw [h2, h4]
        simp [he]
      · rw [if_neg he, if_pos (.inr (.inr he))]
end PM
end Go.Proofs.YtfkemeamimcnjaaDoor
