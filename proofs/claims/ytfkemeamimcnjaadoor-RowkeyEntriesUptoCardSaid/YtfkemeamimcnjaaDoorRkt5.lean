/- rowkey, plainly: what was laid down is read again. No program in sight. -/
import Derived.Test.YtfkemeamimcnjaaDoorRkt4
import Derived.Test.YtfkemeamimcnjaaDoorRkc
namespace Go.Proofs.YtfkemeamimcnjaaDoor
open Go.RowKit
set_option maxRecDepth 100000
namespace PM
theorem keyInt_back {n : Int} (h : -9223372036854775808 ≤ n ∧ n ≤ 9223372036854775807) (m : List Int) : Codec.takeKeyIntF (Codec.keyL n ++ m) = (n, 8, 0) := by
  have h8 : ∀ u : Int, 0 ≤ u ∧ u ≤ 18446744073709551615 → Codec.v256 (Codec.bytes8 u) = u := fun u h => by
    unfold Codec.v256 Codec.bytes8
    simp only [List.foldl_cons, List.foldl_nil]
    omega
  have hl : (Codec.keyL n).length = 8 := rfl
  unfold Codec.takeKeyIntF
  rw [if_neg (by rw [List.length_append, hl]; omega), List.take_left' hl]
  have e : Codec.v256 (Codec.keyL n) = n + 9223372036854775808 := h8 _ (by omega)
  rw [e, Codec.flip_back (by omega)]
  congr 1
  omega
theorem text_back (l m : List Int) (hl : l.length ≤ 2097152) : Codec.takeTextF (textB l ++ m) = (l, ((textB l).length : Int), 0) := by
  have hn : ∀ {n : Nat} (_ : n ≤ 2097152) (r : List Int) (more : Nat) (_ : n + more ≤ r.length), Codec.lenF (Codec.numN n ++ r) more = ((n : Int), ((Codec.numN n).length : Int), 0) := fun {n} hn r more h => by
    unfold Codec.lenF
    rw [Codec.takeN_num (by omega)]
    simp only [List.length_append]
    rw [if_neg (by simp), if_neg (by omega), if_neg (by omega)]
  unfold Codec.takeTextF textB
  have e := hn hl (l ++ m) 0 (by rw [List.length_append]; omega)
  rw [List.append_assoc]
  have e' : Codec.lenF (Codec.numN l.length ++ (l ++ m)) 0 = ((l.length : Int), ((Codec.numN l.length).length : Int), 0) := e
  rw [e']
  simp
theorem fitsV_null {v : XV} {k : Int} (h : fitsV v k = true) (hn : v.null = true) : v = ⟨k, true, 0, []⟩ := by
  obtain ⟨ty, nu, n, s⟩ := v
  simp only at hn
  subst hn
  unfold fitsV at h
  simp only [Bool.and_eq_true, decide_eq_true_eq, Bool.true_and, Bool.not_eq_true', Bool.or_eq_false_iff, Bool.not_eq_false', decide_eq_true_eq] at h
  obtain ⟨h1, ⟨h2, h3⟩, -⟩ := h
  rw [h1, h2, h3]
/-- a value's key is read again -/
theorem valS_key {v : XV} {k : Int} (hk : 1 ≤ k ∧ k ≤ 3) (hv : fitsV v k = true) (rv : okX v) (b : List Int) (bad : Bool) : valS Codec.tkL 2 k (colKey v ++ b, bad) = (v, b, bad) := by
  cases hn : v.null
  · have e2 : ((1 : Int) = 2) = False := by simp
    have hne := fitsV_s hv
    obtain ⟨ty, nu, n, s⟩ := v
    simp only at hn
    subst hn
    rcases (by omega : k = 1 ∨ k = 2 ∨ k = 3) with rfl | rfl | rfl
    · obtain ⟨t1, s1⟩ := fitsV_1 hv
      simp only at t1 s1
      subst t1 s1
      have e : colKey ⟨1, false, n, []⟩ ++ b = 1 :: (Codec.keyL n ++ b) := by simp [colKey]
      rw [e]
      unfold valS
      rw [byteS_of]
      simp only [e2, if_false, if_true]
      rw [keyInt_back rv.1]
      unfold wentS
      simp only [if_true, decide_true, Bool.not_true, Bool.or_false]
      rw [show (8 : Int).toNat = (Codec.keyL n).length from rfl, List.drop_left]
    · obtain ⟨t1, s1, n1⟩ := fitsV_2 hv
      simp only at t1 s1 n1
      subst t1 s1
      have e : colKey ⟨2, false, n, []⟩ ++ b = 1 :: n :: b := by
        have : n % 256 = n := by omega
        simp [colKey, this]
      rw [e]
      unfold valS
      rw [byteS_of]
      simp only [e2, if_false, if_true, show ¬ ((2 : Int) = 1) by omega]
      rw [byteS_of]
    · obtain ⟨t1, n1⟩ := fitsV_3 hv
      simp only at t1 n1
      subst t1 n1
      have e : colKey ⟨3, false, 0, s⟩ ++ b = 1 :: (Codec.keyT s ++ b) := by simp [colKey]
      rw [e]
      unfold valS
      rw [byteS_of]
      simp only [e2, if_false, show ¬ ((3 : Int) = 1) by omega, show ¬ ((3 : Int) = 2) by omega]
      rw [Codec.tkL_key]
      unfold wentS
      simp only [if_true, decide_true, Bool.not_true, Bool.or_false, Int.toNat_natCast, List.drop_left]
  · have hz := fitsV_null hv hn
    have e : colKey v ++ b = 2 :: b := by unfold colKey; rw [if_pos hn]; rfl
    rw [e]
    unfold valS
    rw [byteS_of]
    simp only [if_true]
    rw [← hz]
/-- a value's bytes are read again -/
theorem valS_plain {v : XV} {k : Int} (hk : 1 ≤ k ∧ k ≤ 3) (hv : fitsV v k = true) (rv : okX v) (b : List Int) (bad : Bool) : valS Codec.takeTextF 0 k (plainB v ++ b, bad) = (v, b, bad) := by
  cases hn : v.null
  · have e2 : ((1 : Int) = 0) = False := by simp
    have hne := fitsV_s hv
    obtain ⟨ty, nu, n, s⟩ := v
    simp only at hn hne
    subst hn
    rcases (by omega : k = 1 ∨ k = 2 ∨ k = 3) with rfl | rfl | rfl
    · obtain ⟨t1, s1⟩ := fitsV_1 hv
      simp only at t1 s1
      subst t1 s1
      have e : plainB ⟨1, false, n, []⟩ ++ b = 1 :: (Codec.keyL n ++ b) := by simp [plainB, colKey]
      rw [e]
      unfold valS
      rw [byteS_of]
      simp only [e2, if_false, if_true]
      rw [keyInt_back rv.1]
      unfold wentS
      simp only [if_true, decide_true, Bool.not_true, Bool.or_false]
      rw [show (8 : Int).toNat = (Codec.keyL n).length from rfl, List.drop_left]
    · obtain ⟨t1, s1, n1⟩ := fitsV_2 hv
      simp only at t1 s1 n1
      subst t1 s1
      have e : plainB ⟨2, false, n, []⟩ ++ b = 1 :: n :: b := by
        have : n % 256 = n := by omega
        simp [plainB, colKey, this]
      rw [e]
      unfold valS
      rw [byteS_of]
      simp only [e2, if_false, if_true, show ¬ ((2 : Int) = 1) by omega]
      rw [byteS_of]
    · obtain ⟨t1, n1⟩ := fitsV_3 hv
      simp only at t1 n1
      subst t1 n1
      have e : plainB ⟨3, false, 0, s⟩ ++ b = 1 :: (textB s ++ b) := by simp [plainB]
      rw [e]
      unfold valS
      rw [byteS_of]
      simp only [e2, if_false, show ¬ ((3 : Int) = 1) by omega, show ¬ ((3 : Int) = 2) by omega]
      rw [text_back s b (by omega)]
      unfold wentS
      simp only [if_true, decide_true, Bool.not_true, Bool.or_false, Int.toNat_natCast, List.drop_left]
  · have hz := fitsV_null hv hn
    have e : plainB v ++ b = 0 :: b := by unfold plainB; rw [if_pos hn]; rfl
    rw [e]
    unfold valS
    rw [byteS_of]
    simp only [if_true]
    rw [← hz]
/-- values at places -/
def putAt (R : List XV) : List Int → List XV → List XV
  | [], R0 => R0
  | i :: l, R0 => putAt R l (R0.set i.toNat (valAt R i))
theorem putAt_len (R : List XV) : ∀ (l : List Int) (R0 : List XV), (putAt R l R0).length = R0.length
  | [], _ => rfl
  | i :: l, R0 => by unfold putAt; rw [putAt_len R l]; simp
theorem putAt_get (R : List XV) (j : Nat) (hj : j < R.length) : ∀ (l : List Int) (R0 : List XV), (∀ i ∈ l, 0 ≤ i) → j < R0.length → ((j : Int) ∈ l ∨ R0[j]? = R[j]?) → (putAt R l R0)[j]? = R[j]?
  | [], R0, _, _, h => by
    rcases h with h | h
    · simp at h
    · exact h
  | i :: l, R0, hp, h0, h => by
    unfold putAt
    refine putAt_get R j hj l _ (fun x hx => hp x (List.mem_cons_of_mem _ hx)) (by simpa using h0) ?_
    have hi := hp i (by simp)
    by_cases he : (j : Int) = i
    · right
      subst he
      rw [Int.toNat_natCast, List.getElem?_set_self h0]
      unfold valAt
      rw [Int.toNat_natCast, List.getD_eq_getElem?_getD, List.getElem?_eq_getElem hj]
      rfl
    · rcases h with h | h
      · rcases List.mem_cons.1 h with h | h
        · exact absurd h he
        · exact .inl h
      · right
        rw [List.getElem?_set_ne (by omega)]
        exact h
theorem col_fit {T : Tb} {R : List XV} (hc : colsOk T.cols = true) (hr : rowFits R T.cols = true) {i : Int} (hi : 0 ≤ i ∧ i < T.cols.length) : (1 ≤ tyAt T i ∧ tyAt T i ≤ 3) ∧ fitsV (valAt R i) (tyAt T i) = true ∧ valAt R i ∈ R := by
  have lA : R.length = T.cols.length := Classical.byContradiction fun e => by rw [rowFits_len e] at hr; cases hr
  obtain ⟨c, hcc⟩ : ∃ c, T.cols[i.toNat]? = some c := ⟨_, List.getElem?_eq_getElem (by omega)⟩
  obtain ⟨v, hv⟩ : ∃ c, R[i.toNat]? = some c := ⟨_, List.getElem?_eq_getElem (by omega)⟩
  have hva : valAt R i = v := by unfold valAt; rw [List.getD_eq_getElem?_getD, hv]; rfl
  have hty : tyAt T i = c.ty := by unfold tyAt; rw [List.getD_eq_getElem?_getD, hcc]; rfl
  rw [hva, hty]
  refine ⟨?_, ?_, List.mem_of_getElem? hv⟩
  · unfold colsOk at hc
    rw [List.all_eq_true] at hc
    simpa using hc c (List.mem_of_getElem? hcc)
  · cases hf : okVC v c
    · rw [rowFits_no hv hcc hf] at hr; cases hr
    · unfold okVC at hf
      simp only [Bool.and_eq_true] at hf
      exact hf.1
theorem keysS_back {T : Tb} {R : List XV} (hc : colsOk T.cols = true) (hr : rowFits R T.cols = true) (ok : ∀ v ∈ R, okX v) (b : List Int) (bad : Bool) : ∀ (l : List Int) (R0 : List XV), (∀ i ∈ l, 0 ≤ i ∧ i < T.cols.length) →
    keysS T l (R0, keysOf R l ++ b, bad) = (putAt R l R0, b, bad)
  | [], R0, _ => rfl
  | i :: l, R0, hl => by
    obtain ⟨h1, h2, h3⟩ := col_fit hc hr (hl i (by simp))
    unfold keysS
    rw [keysOf_cons, List.append_assoc]
    simp only
    rw [valS_key h1 h2 (ok _ h3)]
    simp only
    rw [keysS_back hc hr ok b bad l _ (fun j hj => hl j (List.mem_cons_of_mem _ hj))]
    rfl
theorem restS_back (key : List Int) (bad : Bool) : ∀ (C : List Col) (Rs : List XV) (k : Nat) (R0 : List XV) (b : List Int), colsOk C = true → rowFits Rs C = true → (∀ v ∈ Rs, okX v) →
    ∃ R1, restS key k C (R0, valsFrom key k Rs ++ b, bad) = (R1, b, bad) ∧ R1.length = R0.length ∧ ∀ j, j < R0.length → R1[j]? = if k ≤ j ∧ j < k + Rs.length ∧ key.contains (j : Int) = false then Rs[j - k]? else R0[j]?
  | [], [], k, R0, b, _, _, _ => ⟨R0, rfl, rfl, fun j _ => by
      rw [if_neg (by simp only [List.length_nil]; omega)]⟩
  | [], _ :: _, k, R0, b, _, h, _ => by simp [rowFits] at h
  | _ :: _, [], k, R0, b, _, h, _ => by simp [rowFits] at h
  | c :: C, v :: Rs, k, R0, b, hc, hr, ok => by
    unfold rowFits at hr
    simp only [Bool.and_eq_true] at hr
    unfold colsOk at hc
    simp only [List.all_cons, Bool.and_eq_true, decide_eq_true_eq] at hc
    unfold restS valsFrom
    cases hk : key.contains (k : Int)
    · rw [if_neg (by simp), if_neg (by simp)]
      rw [List.append_assoc]
      simp only
      rw [valS_plain hc.1 hr.1 (ok v (by simp))]
      simp only
      obtain ⟨R1, h1, h2, h3⟩ := restS_back key bad C Rs (k + 1) (R0.set k v) b hc.2 hr.2.2 (fun x hx => ok x (List.mem_cons_of_mem _ hx))
      refine ⟨R1, h1, by rw [h2]; simp, fun j hj => ?_⟩
      rw [h3 j (by simpa using hj)]
      by_cases hjk : j = k
      · subst hjk
        rw [if_neg (by omega), if_pos ⟨Nat.le_refl _, by simp only [List.length_cons]; omega, hk⟩, List.getElem?_set_self hj, Nat.sub_self]
        rfl
      · rw [List.getElem?_set_ne (by omega)]
        by_cases hg : k + 1 ≤ j ∧ j < k + 1 + Rs.length ∧ key.contains (j : Int) = false
        · rw [if_pos hg, if_pos ⟨by omega, by simp only [List.length_cons]; omega, hg.2.2⟩, show j - k = (j - (k + 1)) + 1 by omega, List.getElem?_cons_succ]
        · rw [if_neg hg, if_neg (fun h => hg ⟨by omega, by have := h.2.1; simp only [List.length_cons] at this; omega, h.2.2⟩)]
    · rw [if_pos rfl, if_pos rfl, List.nil_append]
      obtain ⟨R1, h1, h2, h3⟩ := restS_back key bad C Rs (k + 1) R0 b hc.2 hr.2.2 (fun x hx => ok x (List.mem_cons_of_mem _ hx))
      refine ⟨R1, h1, h2, fun j hj => ?_⟩
      rw [h3 j hj]
      by_cases hjk : j = k
      · subst hjk
        rw [if_neg (by omega), if_neg (fun h => by rw [hk] at h; exact absurd h.2.2 (by simp))]
      · by_cases hg : k + 1 ≤ j ∧ j < k + 1 + Rs.length ∧ key.contains (j : Int) = false
        · rw [if_pos hg, if_pos ⟨by omega, by simp only [List.length_cons]; omega, hg.2.2⟩, show j - k = (j - (k + 1)) + 1 by omega, List.getElem?_cons_succ]
        · rw [if_neg hg, if_neg (fun h => hg ⟨by omega, by have := h.2.1; simp only [List.length_cons] at this; omega, h.2.2⟩)]
/-- a row that was laid down is read again -/
theorem read_back {T : Tb} {R : List XV} (h : (rowKV T R).2.2 = 0) (ok : ∀ v ∈ R, okX v) : (read1 T (rowKV T R).1).2.2 = false ∧ (read2 T (rowKV T R).1 (rowKV T R).2.1) = (R, [], false) := by
  obtain ⟨h1, h2, h3⟩ := rowKV_ok h
  have hc := tabled_cols h1
  have hin := (tabled_in h1).1
  have hlen : R.length = T.cols.length := Classical.byContradiction fun e => by rw [rowFits_len e] at h2; cases h2
  have h4 : (rowKV T R).2.1 = valsFrom T.key 0 R := by
    unfold rowKV at h ⊢
    rw [if_neg (by rw [h1]; simp), if_neg (by rw [h2]; simp)] at h ⊢
    split at h
    · simp at h
    · rename_i hn; rw [if_neg hn]
  have hd : (keyB T R).drop 17 = keysOf R T.key ++ [] := by
    rw [List.append_nil]
    unfold keyB
    rw [List.drop_left' (by rw [begB_len]; rfl)]
  have e1 : read1 T (rowKV T R).1 = (putAt R T.key (List.replicate T.cols.length z4), [], false) := by
    unfold read1
    rw [h3, hd]
    exact keysS_back hc h2 ok [] false T.key _ hin
  refine ⟨by rw [e1], ?_⟩
  unfold read2
  rw [e1, h4]
  simp only
  obtain ⟨R1, k1, k2, k3⟩ := restS_back T.key false T.cols R 0 (putAt R T.key (List.replicate T.cols.length z4)) [] hc h2 ok
  rw [List.append_nil] at k1
  rw [k1]
  have hl : (putAt R T.key (List.replicate T.cols.length z4)).length = R.length := by rw [putAt_len, List.length_replicate, hlen]
  refine congrArg (fun x => (x, [], false)) (List.ext_getElem? fun j => ?_)
  by_cases hj : j < R.length
  · rw [k3 j (by omega)]
    by_cases hg : 0 ≤ j ∧ j < 0 + R.length ∧ T.key.contains (j : Int) = false
    · rw [if_pos hg]; rfl
    · rw [if_neg hg]
      have hm : (j : Int) ∈ T.key := by
        cases hcn : T.key.contains (j : Int)
        · exact absurd ⟨Nat.zero_le _, by omega, hcn⟩ hg
        · simpa using hcn
      exact putAt_get R j hj T.key _ (fun i hi => (hin i hi).1) (by rw [List.length_replicate]; omega) (.inl hm)
  · rw [List.getElem?_eq_none (by omega), List.getElem?_eq_none (by omega)]
theorem takeRowS_back {T : Tb} {R : List XV} (h : (rowKV T R).2.2 = 0) (ok : ∀ v ∈ R, okX v) : takeRowS T (rowKV T R).1 (rowKV T R).2.1 = (R, 0) := by
  obtain ⟨h1, h2⟩ := read_back h ok
  obtain ⟨g1, -, -⟩ := rowKV_ok h
  unfold takeRowS
  rw [if_neg (by rw [g1]; simp), h2, h1]
  rw [if_neg]
  simp only [Bool.false_eq_true, false_or, ne_eq, Decidable.not_not]
  rw [← h]
end PM
end Go.Proofs.YtfkemeamimcnjaaDoor
