/- rowkey, plainly: keys' columns are read again. No program in sight. -/
import Derived.Test.YtfkemeamimcnjaaDoorRkt3
import Derived.Test.YtfkemeamimcnjaaDoorRkc
namespace Go.Proofs.YtfkemeamimcnjaaDoor
open Go.RowKit
set_option maxRecDepth 100000
namespace PM
theorem keyInt_back {n : Int} (h : -9223372036854775808 ≤ n ∧ n ≤ 9223372036854775807) (m : List Int) : Codec.takeKeyIntF (Codec.keyL n ++ m) = (n, 8, 0) := by
  have h8 : ∀ u : Int, 0 ≤ u ∧ u ≤ 18446744073709551615 → Codec.v256 (Codec.bytes8 u) = u := fun u h => by
    unfold Codec.v256 Codec.bytes8
    simp only [List.foldl_cons, List.foldl_nil]
    omega
  have hl : (Codec.keyL n).length = 8 := rfl
  unfold Codec.takeKeyIntF
  rw [if_neg (by rw [List.length_append, hl]; omega), List.take_left' hl]
  have e : Codec.v256 (Codec.keyL n) = n + 9223372036854775808 := h8 _ (by omega)
  rw [e, Codec.flip_back (by omega)]
  congr 1
  omega
theorem fitsV_null {v : XV} {k : Int} (h : fitsV v k = true) (hn : v.null = true) : v = ⟨k, true, 0, []⟩ := by
  obtain ⟨ty, nu, n, s⟩ := v
  simp only at hn
  subst hn
  unfold fitsV at h
  simp only [Bool.and_eq_true, decide_eq_true_eq, Bool.true_and, Bool.not_eq_true', Bool.or_eq_false_iff, Bool.not_eq_false', decide_eq_true_eq] at h
  obtain ⟨h1, ⟨h2, h3⟩, -⟩ := h
  rw [h1, h2, h3]
/-- a value's key is read again -/
theorem valS_key {v : XV} {k : Int} (hk : 1 ≤ k ∧ k ≤ 3) (hv : fitsV v k = true) (rv : okX v) (b : List Int) (bad : Bool) : valS Codec.tkL 2 k (colKey v ++ b, bad) = (v, b, bad) := by
  cases hn : v.null
  · have e2 : ((1 : Int) = 2) = False := by simp
    have hne := fitsV_s hv
    obtain ⟨ty, nu, n, s⟩ := v
    simp only at hn
    subst hn
    rcases (by omega : k = 1 ∨ k = 2 ∨ k = 3) with rfl | rfl | rfl
    · obtain ⟨t1, s1⟩ := fitsV_1 hv
      simp only at t1 s1
      subst t1 s1
      have e : colKey ⟨1, false, n, []⟩ ++ b = 1 :: (Codec.keyL n ++ b) := by simp [colKey]
      rw [e]
      unfold valS
      rw [byteS_of]
      simp only [e2, if_false, if_true]
      rw [keyInt_back rv.1]
      unfold wentS
      simp only [if_true, decide_true, Bool.not_true, Bool.or_false]
      rw [show (8 : Int).toNat = (Codec.keyL n).length from rfl, List.drop_left]
    · obtain ⟨t1, s1, n1⟩ := fitsV_2 hv
      simp only at t1 s1 n1
      subst t1 s1
      have e : colKey ⟨2, false, n, []⟩ ++ b = 1 :: n :: b := by
        have : n % 256 = n := by omega
        simp [colKey, this]
      rw [e]
      unfold valS
      rw [byteS_of]
      simp only [e2, if_false, if_true, show ¬ ((2 : Int) = 1) by omega]
      rw [byteS_of]
    · obtain ⟨t1, n1⟩ := fitsV_3 hv
      simp only at t1 n1
      subst t1 n1
      have e : colKey ⟨3, false, 0, s⟩ ++ b = 1 :: (Codec.keyT s ++ b) := by simp [colKey]
      rw [e]
      unfold valS
      rw [byteS_of]
      simp only [e2, if_false, show ¬ ((3 : Int) = 1) by omega, show ¬ ((3 : Int) = 2) by omega]
      rw [Codec.tkL_key]
      unfold wentS
      simp only [if_true, decide_true, Bool.not_true, Bool.or_false, Int.toNat_natCast, List.drop_left]
  · have hz := fitsV_null hv hn
    have e : colKey v ++ b = 2 :: b := by unfold colKey; rw [if_pos hn]; rfl
    rw [e]
    unfold valS
    rw [byteS_of]
    simp only [if_true]
    rw [← hz]
/-- values at places -/
def putAt (R : List XV) : List Int → List XV → List XV
  | [], R0 => R0
  | i :: l, R0 => putAt R l (R0.set i.toNat (valAt R i))
theorem putAt_len (R : List XV) : ∀ (l : List Int) (R0 : List XV), (putAt R l R0).length = R0.length
  | [], _ => rfl
  | i :: l, R0 => by unfold putAt; rw [putAt_len R l]; simp
theorem putAt_get (R : List XV) (j : Nat) (hj : j < R.length) : ∀ (l : List Int) (R0 : List XV), (∀ i ∈ l, 0 ≤ i) → j < R0.length → ((j : Int) ∈ l ∨ R0[j]? = R[j]?) → (putAt R l R0)[j]? = R[j]?
  | [], R0, _, _, h => by
    rcases h with h | h
    · simp at h
    · exact h
  | i :: l, R0, hp, h0, h => by
    unfold putAt
    refine putAt_get R j hj l _ (fun x hx => hp x (List.mem_cons_of_mem _ hx)) (by simpa using h0) ?_
    have hi := hp i (by simp)
    by_cases he : (j : Int) = i
    · right
      subst he
      rw [Int.toNat_natCast, List.getElem?_set_self h0]
      unfold valAt
      rw [Int.toNat_natCast, List.getD_eq_getElem?_getD, List.getElem?_eq_getElem hj]
      rfl
    · rcases h with h | h
      · rcases List.mem_cons.1 h with h | h
        · exact absurd h he
        · exact .inl h
      · right
        rw [List.getElem?_set_ne (by omega)]
        exact h
theorem col_fit {T : Tb} {R : List XV} (hc : colsOk T.cols = true) (hr : rowFits R T.cols = true) {i : Int} (hi : 0 ≤ i ∧ i < T.cols.length) : (1 ≤ tyAt T i ∧ tyAt T i ≤ 3) ∧ fitsV (valAt R i) (tyAt T i) = true ∧ valAt R i ∈ R := by
  have lA : R.length = T.cols.length := Classical.byContradiction fun e => by rw [rowFits_len e] at hr; cases hr
  obtain ⟨c, hcc⟩ : ∃ c, T.cols[i.toNat]? = some c := ⟨_, List.getElem?_eq_getElem (by omega)⟩
  obtain ⟨v, hv⟩ : ∃ c, R[i.toNat]? = some c := ⟨_, List.getElem?_eq_getElem (by omega)⟩
  have hva : valAt R i = v := by unfold valAt; rw [List.getD_eq_getElem?_getD, hv]; rfl
  have hty : tyAt T i = c.ty := by unfold tyAt; rw [List.getD_eq_getElem?_getD, hcc]; rfl
  rw [hva, hty]
  refine ⟨?_, ?_, List.mem_of_getElem? hv⟩
  · unfold colsOk at hc
    rw [List.all_eq_true] at hc
    simpa using hc c (List.mem_of_getElem? hcc)
  · cases hf : okVC v c
    · rw [rowFits_no hv hcc hf] at hr; cases hr
    · unfold okVC at hf
      simp only [Bool.and_eq_true] at hf
      exact hf.1
theorem keysS_back {T : Tb} {R : List XV} (hc : colsOk T.cols = true) (hr : rowFits R T.cols = true) (ok : ∀ v ∈ R, okX v) (b : List Int) (bad : Bool) : ∀ (l : List Int) (R0 : List XV), (∀ i ∈ l, 0 ≤ i ∧ i < T.cols.length) →
    keysS T l (R0, keysOf R l ++ b, bad) = (putAt R l R0, b, bad)
  | [], R0, _ => rfl
  | i :: l, R0, hl => by
    obtain ⟨h1, h2, h3⟩ := col_fit hc hr (hl i (by simp))
    unfold keysS
    rw [keysOf_cons, List.append_assoc]
    simp only
    rw [valS_key h1 h2 (ok _ h3)]
    simp only
    rw [keysS_back hc hr ok b bad l _ (fun j hj => hl j (List.mem_cons_of_mem _ hj))]
    rfl
end PM
end Go.Proofs.YtfkemeamimcnjaaDoor
