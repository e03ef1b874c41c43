/- rowkey, plainly: keys of rows stand as the values of their columns do. No program in sight. rowkey in the abstract: RowkeyOrder. -/
import Derived.Test.YtfkemeamimcnjaaDoorRkb
import Derived.Test.YtfkemeamimcnjaaDoorCodecOrd
import Derived.Test.YtfkemeamimcnjaaDoorRkShown
namespace Go.Proofs.YtfkemeamimcnjaaDoor
open Go.RowKit
namespace PM
theorem cmpB_pre : ∀ (l a b : List Int), cmpB (l ++ a) (l ++ b) = cmpB a b
  | [], _, _ => rfl
  | x :: l, a, b => by
    rw [List.cons_append, List.cons_append, Codec.cmpB_same]
    exact cmpB_pre l a b
/-- a value's cells are in their ranges -/
def okX (v : XV) : Prop := (-9223372036854775808 ≤ v.n ∧ v.n ≤ 9223372036854775807) ∧ Rng v.s
theorem fitsV_1 {v : XV} (h : fitsV v 1 = true) : v.ty = 1 ∧ v.s = [] := by
  unfold fitsV at h
  simp only [Bool.and_eq_true, decide_eq_true_eq, show ¬ ((1 : Int) = 3) by omega, show ¬ ((1 : Int) = 2) by omega, if_false] at h
  exact ⟨h.1, h.2.2⟩
theorem fitsV_2 {v : XV} (h : fitsV v 2 = true) : v.ty = 2 ∧ v.s = [] ∧ (v.n = 0 ∨ v.n = 1) := by
  unfold fitsV at h
  simp only [Bool.and_eq_true, Bool.or_eq_true, decide_eq_true_eq, show ¬ ((2 : Int) = 3) by omega, if_false, if_true] at h
  exact ⟨h.1, h.2.2.1, h.2.2.2⟩
theorem fitsV_3 {v : XV} (h : fitsV v 3 = true) : v.ty = 3 ∧ v.n = 0 := by
  unfold fitsV at h
  simp only [Bool.and_eq_true, decide_eq_true_eq, if_true] at h
  exact ⟨h.1, h.2.2.1⟩
theorem cmpB_colKey {v u : XV} {k : Int} (hk : 1 ≤ k ∧ k ≤ 3) (hv : fitsV v k = true) (hu : fitsV u k = true) (rv : okX v) (ru : okX u) (a b : List Int) :
    cmpB (colKey v ++ a) (colKey u ++ b) = if ordV v u = 0 then cmpB a b else ordV v u := by
  cases hnv : v.null <;> cases hnu : u.null
  · rcases (by omega : k = 1 ∨ k = 2 ∨ k = 3) with rfl | rfl | rfl
    · obtain ⟨t1, s1⟩ := fitsV_1 hv
      obtain ⟨t2, s2⟩ := fitsV_1 hu
      have ho : ordV v u = cmpI v.n u.n := by
        unfold ordV
        rw [hnv, hnu, t1, t2, s1, s2, Codec.cmpB_nil_nil, cmpI_zero.2 rfl]
        by_cases h : cmpI v.n u.n = 0
        · simp [h]
        · simp [h]
      unfold colKey
      rw [hnv, hnu, t1, t2, ho]
      simp only [Bool.false_eq_true, if_false, if_true, List.cons_append]
      rw [Codec.cmpB_same]
      by_cases hn : v.n = u.n
      · rw [hn, cmpB_pre, if_pos (cmpI_zero.2 rfl)]
      · rw [Codec.cmpB_app (l := Codec.keyL v.n) (m := Codec.keyL u.n) _ _ rfl (Codec.keyL_ne rv.1 ru.1 hn), Codec.cmpB_keyL rv.1 ru.1, if_neg (fun h => hn (cmpI_zero.1 h))]
        rfl
    · obtain ⟨t1, s1, n1⟩ := fitsV_2 hv
      obtain ⟨t2, s2, n2⟩ := fitsV_2 hu
      have ho : ordV v u = cmpI v.n u.n := by
        unfold ordV
        rw [hnv, hnu, t1, t2, s1, s2, Codec.cmpB_nil_nil, cmpI_zero.2 rfl]
        by_cases h : cmpI v.n u.n = 0
        · simp [h]
        · simp [h]
      unfold colKey
      rw [hnv, hnu, t1, t2, ho]
      simp only [Bool.false_eq_true, if_false, if_true, List.cons_append, List.nil_append, show ¬ ((2 : Int) = 1) by omega]
      rw [Codec.cmpB_same]
      rcases n1 with n1 | n1 <;> rcases n2 with n2 | n2 <;> rw [n1, n2] <;> simp [Codec.cmpB_cons, cmpI]
    · obtain ⟨t1, n1⟩ := fitsV_3 hv
      obtain ⟨t2, n2⟩ := fitsV_3 hu
      have ho : ordV v u = cmpB v.s u.s := by
        unfold ordV
        rw [hnv, hnu, t1, t2, n1, n2]
        simp [cmpI]
      unfold colKey
      rw [hnv, hnu, t1, t2, ho]
      simp only [Bool.false_eq_true, if_false, List.cons_append, show ¬ ((3 : Int) = 1) by omega, show ¬ ((3 : Int) = 2) by omega]
      rw [Codec.cmpB_same]
      by_cases hs : v.s = u.s
      · rw [hs, cmpB_pre, if_pos (cmpB_same _)]
      · rw [Codec.cmpB_key _ _ rv.2 ru.2 hs, if_neg (fun h => hs (cmpB_zero h))]
  · have ho : ordV v u = -1 := by unfold ordV; rw [hnv, hnu]; rfl
    rw [ho, if_neg (by omega)]
    unfold colKey
    rw [hnv, hnu]
    simp only [Bool.false_eq_true, if_false, if_true]
    split
    · rw [List.cons_append, List.cons_append, Codec.cmpB_cons, if_pos (by omega)]
    · split <;> (simp only [List.cons_append]; rw [Codec.cmpB_cons, if_pos (by omega)])
  · have ho : ordV v u = 1 := by unfold ordV; rw [hnv, hnu]; rfl
    rw [ho, if_neg (by omega)]
    unfold colKey
    rw [hnv, hnu]
    simp only [Bool.false_eq_true, if_false, if_true]
    split
    · rw [List.cons_append, List.cons_append, Codec.cmpB_cons, if_neg (by omega), if_pos (by omega)]
    · split <;> (simp only [List.cons_append]; rw [Codec.cmpB_cons, if_neg (by omega), if_pos (by omega)])
  · have ho : ordV v u = 0 := by unfold ordV; rw [hnv, hnu]; rfl
    rw [ho, if_pos rfl]
    unfold colKey
    rw [hnv, hnu]
    simp only [if_true, List.cons_append, List.nil_append]
    exact Codec.cmpB_same _ _ _
theorem keysOf_cons (R : List XV) (i : Int) (l : List Int) : keysOf R (i :: l) = colKey (valAt R i) ++ keysOf R l := by unfold keysOf; simp
theorem cmpB_keysOf (A B : List XV) (C : List Col) (hC : colsOk C = true) (hA : rowFits A C = true) (hB : rowFits B C = true) (oA : ∀ v ∈ A, okX v) (oB : ∀ v ∈ B, okX v) (p q : List Int) :
    ∀ l : List Int, (∀ i ∈ l, 0 ≤ i ∧ i < C.length) → cmpB (keysOf A l ++ p) (keysOf B l ++ q) = if ordR A B l = 0 then cmpB p q else ordR A B l
  | [], _ => by unfold ordR; rw [if_pos rfl]; rfl
  | i :: l, h => by
    have ih := cmpB_keysOf A B C hC hA hB oA oB p q l (fun j hj => h j (List.mem_cons_of_mem _ hj))
    have hi := h i (by simp)
    have lA : A.length = C.length := Classical.byContradiction fun e => by rw [rowFits_len e] at hA; cases hA
    have lB : B.length = C.length := Classical.byContradiction fun e => by rw [rowFits_len e] at hB; cases hB
    obtain ⟨c, hc⟩ : ∃ c, C[i.toNat]? = some c := ⟨_, List.getElem?_eq_getElem (by omega)⟩
    obtain ⟨v, hv⟩ : ∃ c, A[i.toNat]? = some c := ⟨_, List.getElem?_eq_getElem (by omega)⟩
    obtain ⟨u, hu⟩ : ∃ c, B[i.toNat]? = some c := ⟨_, List.getElem?_eq_getElem (by omega)⟩
    have hva : valAt A i = v := by unfold valAt; rw [List.getD_eq_getElem?_getD, hv]; rfl
    have hvb : valAt B i = u := by unfold valAt; rw [List.getD_eq_getElem?_getD, hu]; rfl
    have fit : ∀ {R : List XV} {x : XV}, rowFits R C = true → R[i.toNat]? = some x → fitsV x c.ty = true := fun {R x} hR hx => by
      cases hf : okVC x c
      · rw [rowFits_no hx hc hf] at hR; cases hR
      · unfold okVC at hf
        simp only [Bool.and_eq_true] at hf
        exact hf.1
    have hk : 1 ≤ c.ty ∧ c.ty ≤ 3 := by
      unfold colsOk at hC
      rw [List.all_eq_true] at hC
      have := hC c (List.mem_of_getElem? hc)
      simpa using this
    rw [keysOf_cons, keysOf_cons, List.append_assoc, List.append_assoc, hva, hvb, cmpB_colKey hk (fit hA hv) (fit hB hu) (oA v (List.mem_of_getElem? hv)) (oB u (List.mem_of_getElem? hu)), ih]
    rw [ordR, hva, hvb]
    by_cases h0 : ordV v u = 0
    · rw [if_pos h0, if_pos h0]
    · rw [if_neg h0, if_neg h0, if_neg h0]
theorem cmpB_keyB (T : Tb) (A B : List XV) (hC : tabled T T.key = true) (hA : rowFits A T.cols = true) (hB : rowFits B T.cols = true) (oA : ∀ v ∈ A, okX v) (oB : ∀ v ∈ B, okX v) :
    cmpB (keyB T A) (keyB T B) = ordR A B T.key := by
  have hin := tabled_in hC
  have hc : colsOk T.cols = true := by unfold tabled at hC; simp only [Bool.and_eq_true] at hC; exact hC.1
  have h := cmpB_keysOf A B T.cols hc hA hB oA oB [] [] T.key hin.1
  rw [List.append_nil, List.append_nil, Codec.cmpB_nil_nil] at h
  unfold keyB
  rw [cmpB_pre, h]
  split
  · rename_i e; exact e.symm
  · rfl
theorem cmpB_entB (T : Tb) (X : Idx) (A B : List XV) (hC : tabled T X.cols = true) (hA : rowFits A T.cols = true) (hB : rowFits B T.cols = true) (oA : ∀ v ∈ A, okX v) (oB : ∀ v ∈ B, okX v) :
    cmpB (entB T X A) (entB T X B) = if ordR A B X.cols = 0 then ordR A B T.key else ordR A B X.cols := by
  have hin := tabled_in hC
  have hc : colsOk T.cols = true := by unfold tabled at hC; simp only [Bool.and_eq_true] at hC; exact hC.1
  have h1 := cmpB_keysOf A B T.cols hc hA hB oA oB [] [] T.key hin.1
  rw [List.append_nil, List.append_nil, Codec.cmpB_nil_nil] at h1
  unfold entB
  rw [cmpB_pre, cmpB_keysOf A B T.cols hc hA hB oA oB _ _ X.cols hin.2, h1]
  split
  · split
    · rename_i e; exact e.symm
    · rfl
  · rfl
/-- what a row that was laid down tells of itself -/
theorem rowKV_ok {T : Tb} {R : List XV} (h : (rowKV T R).2.2 = 0) : tabled T T.key = true ∧ rowFits R T.cols = true ∧ (rowKV T R).1 = keyB T R := by
  unfold rowKV at h ⊢
  by_cases h1 : tabled T T.key = false
  · rw [if_pos h1] at h; simp at h
  · rw [if_neg h1] at h ⊢
    by_cases h2 : rowFits R T.cols = false
    · rw [if_pos h2] at h; simp at h
    · rw [if_neg h2] at h ⊢
      by_cases h3 : 256 < (keyB T R).length ∨ 65536 < (valsFrom T.key 0 R).length
      · rw [if_pos h3] at h; simp at h
      · rw [if_neg h3]
        exact ⟨by simpa using h1, by simpa using h2, rfl⟩
theorem entryKV_ok {T : Tb} {X : Idx} {R : List XV} (h : (entryKV T X R).2.2 = 0) : tabled T X.cols = true ∧ rowFits R T.cols = true ∧ (entryKV T X R).1 = entB T X R := by
  unfold entryKV at h ⊢
  by_cases h1 : tabled T X.cols = false
  · rw [if_pos h1] at h; simp at h
  · rw [if_neg h1] at h ⊢
    by_cases h2 : rowFits R T.cols = false
    · rw [if_pos h2] at h; simp at h
    · rw [if_neg h2] at h ⊢
      by_cases h3 : 256 < (entB T X R).length
      · rw [if_pos h3] at h; simp at h
      · rw [if_neg h3]
        exact ⟨by simpa using h1, by simpa using h2, rfl⟩
end PM
end Go.Proofs.YtfkemeamimcnjaaDoor
namespace Go.Proofs.YtfkemeamimcnjaaDoor
open Go.RowKit
set_option maxRecDepth 100000
namespace PM
theorem okX_of {k : Nat} {A : List XV} (h : Has (.d (.sl k (encL XV.cd A)))) : ∀ v ∈ A, okX v := by
  intro v hv
  have h2 := (has_sl h).2 (XV.cd v) (List.mem_map.2 ⟨v, hv, rfl⟩)
  have hn := has_int (h2 (.int .i64 v.n) (by simp [XV.cd]))
  have hs := has_str (h2 (.str v.s) (by simp [XV.cd]))
  rw [wf_i64] at hn
  simp only [Bool.and_eq_true, decide_eq_true_eq] at hn
  exact ⟨hn, hs.1⟩
set_option maxHeartbeats 8000000 in
theorem pRowkeyOrder (T : Tb) (A B : List XV) (hAn : A.length ≤ 1048576) (hBn : B.length ≤ 1048576) (hKn : T.key.length ≤ 1048576) (hXn : ∀ X ∈ T.ix, X.cols.length ≤ 1048576) :
    Pure Tryd.prog 7 [T.v, vl A, vl B] (.d (.bool true)) := by
  refine pure_intro Tryd.func7 rfl rfl rfl 115 rfl (fun hh => ?_)
  have hml : maxLen = 9223372036854775807 := rfl
  have oA := okX_of (hh (vl A) (by simp))
  have oB := okX_of (hh (vl B) (by simp))
  have hT := hh T.v (by simp)
  have hil : T.ix.length ≤ maxLen := by
    have := (has_sl (has_agg hT (.d (.sl 4 (encL Idx.c T.ix))) (by simp [Tb.c]))).1
    rwa [encL_len] at this
  clear hh hT
  have hS := pShown
  have hRA := pRow T A hAn hKn
  have hRB := pRow T B hBn hKn
  have gA := rowKV_ok (T := T) (R := A)
  have gB := rowKV_ok (T := T) (R := B)
  have hEn := fun X hX R h => pEntry T X R h hKn (hXn X hX)
  obtain ⟨⟨ka, va, ea⟩, hra⟩ : ∃ r, rowKV T A = r := ⟨_, rfl⟩
  obtain ⟨⟨kb, vb, eb⟩, hrb⟩ : ∃ r, rowKV T B = r := ⟨_, rfl⟩
  rw [hra] at hRA gA
  rw [hrb] at hRB gB
  simp only at gA gB
  unfold kvR at hRA hRB
  simp only at hRA hRB
  by_cases hea : ea = 0
  case neg =>
    have hea' := eq_false hea
    obtain ⟨tid, tnm, tcols, tkey, tix⟩ := T
    unfold Tb.v Tb.c at hRA hRB
    repeat' (first
      | ((with_reducible (first
       | (refine PW.seq fun K1 hK1 => ?_) | (refine PW.region fun K2 hK2 => ?_) | ((refine hK3 _ ?_; clear hK3)) | ((refine opsP_nil ?_; refine hK2 _ ?_; clear hK2)) 
       | (refine PW.ret ?_) | ((refine hX1 ?_; clear hX1 hY1; try simp only [hb])) )))
      | (((with_reducible refine cC_pure ?_ (hS) (fun _ => ?_)); (focus ((repeat' constructor) <;> (simp only [purAs, purA, Vf, Bool.and_self, Tb.v, Tb.c, hea']; done)))))
      | (((with_reducible refine cC_pure ?_ (hRA) (fun _ => ?_)); (focus ((repeat' constructor) <;> (simp only [purAs, purA, Vf, Bool.and_self, Tb.v, Tb.c, hea']; done)))))
      | (((with_reducible refine cC_pure ?_ (hRB) (fun _ => ?_)); (focus ((repeat' constructor) <;> (simp only [purAs, purA, Vf, Bool.and_self, Tb.v, Tb.c, hea']; done)))))
      | ((simp only [thenP]; (try ((repeat (fail_if_success (with_reducible refine hK1 _ ?_)); clear hK1); (with_reducible refine hK1 _ ?_); clear hK1))))
      | (((first | (((with_reducible refine opsP_cons fun K3 hK3 => ?_); simp only [wantP, opP, valP, Ur, Us])) | ((with_reducible refine PW.condM fun X1 Y1 hX1 hY1 => ?_)) | (skip)); simp (disch := omega) only [wantB_ff, wantB_tf, St.eval, St.put, upd_app, iniT_app, avOf, avOf1, nom, cellsA, AV.okv, loadA, binP, intsP, intP, eqP, nilP, unP, slA, putCells, U7, U8, Ua, Ub, Uc, Ud, Uf, Ug, Uk, Un, Up, Ut, Uu, Uv, Uz, V4, V9, Vr, PmL, simprocAttr, PmT, Tb.v, Tb.c, hea', retQ, resP, tupA, fg, condP, condB_t]; try (with_reducible (first | exact co_refl _ | exact co_own _ _ _ | exact co_nilsB | exact co_nilsL _ _)))))
  by_cases heb : eb = 0
  case neg =>
    have heb' := eq_false heb
    subst hea
    obtain ⟨tid, tnm, tcols, tkey, tix⟩ := T
    unfold Tb.v Tb.c at hRA hRB
    repeat' (first
      | ((with_reducible (first
       | (refine PW.seq fun K1 hK1 => ?_) | (refine PW.region fun K2 hK2 => ?_) | ((refine hK3 _ ?_; clear hK3)) | ((refine opsP_nil ?_; refine hK2 _ ?_; clear hK2)) 
       | (refine PW.ret ?_) | ((refine hX1 ?_; clear hX1 hY1; try simp only [hb])) )))
      | (((with_reducible refine cC_pure ?_ (hS) (fun _ => ?_)); (focus ((repeat' constructor) <;> (simp only [purAs, purA, Vf, Bool.and_self, Tb.v, Tb.c, heb']; done)))))
      | (((with_reducible refine cC_pure ?_ (hRA) (fun _ => ?_)); (focus ((repeat' constructor) <;> (simp only [purAs, purA, Vf, Bool.and_self, Tb.v, Tb.c, heb']; done)))))
      | (((with_reducible refine cC_pure ?_ (hRB) (fun _ => ?_)); (focus ((repeat' constructor) <;> (simp only [purAs, purA, Vf, Bool.and_self, Tb.v, Tb.c, heb']; done)))))
      | ((simp only [thenP]; (try ((repeat (fail_if_success (with_reducible refine hK1 _ ?_)); clear hK1); (with_reducible refine hK1 _ ?_); clear hK1))))
      | (((first | (((with_reducible refine opsP_cons fun K3 hK3 => ?_); simp only [wantP, opP, valP, Ur, Us])) | ((with_reducible refine PW.condM fun X1 Y1 hX1 hY1 => ?_)) | (skip)); simp (disch := omega) only [wantB_ff, St.eval, St.put, upd_app, iniT_app, avOf, avOf1, nom, cellsA, AV.okv, loadA, binP, intsP, intP, nilP, unP, slA, putCells, U7, U8, Ua, Ub, Uc, Ud, Uf, Ug, Uk, Un, Up, Ut, Uu, Uv, Uz, V4, V9, Vr, PmL, simprocAttr, PmT, Tb.v, Tb.c, heb', retQ, resP, tupA, fg, condP, condB_t]; try (with_reducible (first | exact co_refl _ | exact co_own _ _ _ | exact co_nilsB | exact co_nilsL _ _)))))
  obtain ⟨htA, hfA, rfl⟩ := gA hea
  obtain ⟨-, hfB, rfl⟩ := gB heb
  subst hea heb
  have lA : A.length = T.cols.length := Classical.byContradiction fun e => by rw [rowFits_len e] at hfA; cases hfA
  have lB : B.length = T.cols.length := Classical.byContradiction fun e => by rw [rowFits_len e] at hfB; cases hfB
  have hin := (tabled_in htA).1
  have hcm := pRCompare (keyB T A) (keyB T B)
  have hor := pLawOrder A B T.key (by rw [lA]; exact hin) (by rw [lB]; exact hin)
  have hcE := fun (X : Idx) h => cmpB_entB T X A B h hfA hfB oA oB
  rw [cmpB_keyB T A B htA hfA hfB oA oB] at hcm
  obtain ⟨z, hz⟩ : ∃ z, ordR A B T.key = z := ⟨_, rfl⟩
  rw [hz] at hcm hor hcE
  obtain ⟨KA, hKA⟩ : ∃ K, keyB T A = K := ⟨_, rfl⟩
  obtain ⟨KB, hKB⟩ : ∃ K, keyB T B = K := ⟨_, rfl⟩
  rw [hKA] at hcm hRA
  rw [hKB] at hcm hRB
  have hgo := fun (X : Idx) (R : List XV) => entryKV_ok (T := T) (X := X) (R := R)
  have hin2 := fun (X : Idx) (h : tabled T X.cols = true) => (tabled_in h).2
  rw [← lA] at hin2
  have lAB : A.length = B.length := by rw [lA, lB]
  clear hra hrb gA gB hz hKA hKB hfA hfB oA oB htA hin lA lB
  obtain ⟨tid, tnm, tcols, tkey, tix⟩ := T
  simp only at hRA hRB hil hXn hEn hor
  unfold Tb.v Tb.c at hRA hRB
  repeat' (first
    | ((with_reducible (first
     | (refine PW.seq fun K1 hK1 => ?_) | (refine PW.region fun K2 hK2 => ?_) | ((refine hK3 _ ?_; clear hK3)) | ((refine opsP_nil ?_; refine hK2 _ ?_; clear hK2)) | (refine PW.block ?_) | (refine PW.skip ?_)
     | ((refine hY1 ?_; clear hX1 hY1; try simp only [hb])) )))
    | (((with_reducible refine cC_pure ?_ (hS) (fun _ => ?_)); (focus ((repeat' constructor) <;> (simp only [purAs, purA, Vf, Bool.and_self, Tb.v, Tb.c]; done)))))
    | (((with_reducible refine cC_pure ?_ (hRA) (fun _ => ?_)); (focus ((repeat' constructor) <;> (simp only [purAs, purA, Vf, Bool.and_self, Tb.v, Tb.c]; done)))))
    | (((with_reducible refine cC_pure ?_ (hRB) (fun _ => ?_)); (focus ((repeat' constructor) <;> (simp only [purAs, purA, Vf, Bool.and_self, Tb.v, Tb.c]; done)))))
    | (((with_reducible refine cC_pure ?_ (hcm) (fun _ => ?_)); (focus ((repeat' constructor) <;> (simp only [purAs, purA, Vf, Bool.and_self, Tb.v, Tb.c]; done)))))
    | (((with_reducible refine cC_pure ?_ (hor) (fun _ => ?_)); (focus ((repeat' constructor) <;> (simp only [purAs, purA, Vf, Bool.and_self, Tb.v, Tb.c]; done)))))
    | ((simp only [thenP]; (try ((repeat (fail_if_success (with_reducible refine hK1 _ ?_)); clear hK1); (with_reducible refine hK1 _ ?_); clear hK1))))
    | (((first | (((with_reducible refine opsP_cons fun K3 hK3 => ?_); simp only [wantP, opP, valP, Ur, Us])) | ((with_reducible refine PW.condM fun X1 Y1 hX1 hY1 => ?_)) | (skip)); simp (disch := omega) only [wantB_ff, St.eval, St.put, upd_app, iniT_app, avOf, avOf1, nom, cellsA, AV.okv, loadA, binP, intsP, intP, nilP, unP, slA, putCells, U7, U8, Ua, Ub, Uc, Ud, Uf, Ug, Uk, Ul, Un, Up, Ut, Uu, Uv, Uz, V4, V9, Va, Ve, Vr, PmL, simprocAttr, PmT, Tb.v, Tb.c, condP, condB_f]; try (with_reducible (first | exact co_refl _ | exact co_own _ _ _ | exact co_nilsB | exact co_nilsL _ _)))))
  (with_reducible refine PW.loop (fun n s => ∃ (k : Nat), s.t 1 = vl A ∧ s.t 2 = vl B ∧ s.t 3 = .ptr 0 0 ∧ s.t 14 = .d (.int .i64 k) ∧ s.n = 115 ∧ s.m = ⟨[some (26, Tb.c ⟨tid, tnm, tcols, tkey, tix⟩), some (31, [bs KA, bs va]), some (31, [bs KB, bs vb])], []⟩ ∧ k ≤ tix.length ∧ n = tix.length - k) tix.length ?_ ?_)
  · exact ⟨0, rfl, rfl, rfl, rfl, rfl, rfl, Nat.zero_le _, rfl⟩
  rintro n ⟨t, nn, m⟩ ⟨k, h1, h2, h3, h14, hn, hm, hk, hnk⟩ - -
  simp only at h1 h2 h3 h14 hn hm
  subst hn hm hnk
  by_cases hlt : (k : Int) < tix.length
  · have hlt' := eq_true hlt
    obtain ⟨X, hX⟩ : ∃ x, tix[k]? = some x := ⟨_, List.getElem?_eq_getElem (by omega)⟩
    have hXm := List.mem_of_getElem? hX
    have hw : IntKind.i64.wrap ((k : Int) + 1) = k + 1 := IntWalk.i64_in ((k : Int) + 1) (by omega)
    have hEA := hEn X hXm A hAn
    have hEB := hEn X hXm B hBn
    have gA := hgo X A
    have gB := hgo X B
    have hoX := fun h => pLawOrder A B X.cols (hin2 X h) (by rw [← lAB]; exact hin2 X h)
    have hcX := fun h => hcE X h
    obtain ⟨⟨ka, va, ea⟩, hra⟩ : ∃ r, entryKV ⟨tid, tnm, tcols, tkey, tix⟩ X A = r := ⟨_, rfl⟩
    obtain ⟨⟨kb, vb, eb⟩, hrb⟩ : ∃ r, entryKV ⟨tid, tnm, tcols, tkey, tix⟩ X B = r := ⟨_, rfl⟩
    rw [hra] at hEA gA
    rw [hrb] at hEB gB
    simp only at gA gB
    unfold kvR Idx.av at hEA hEB
    unfold Tb.v Tb.c at hEA hEB
    simp only at hEA hEB
    by_cases hea : ea = 0
    case neg =>
      have hea' := eq_false hea
      repeat' (first
        | ((with_reducible (first
         | (refine PW.seq fun K1 hK1 => ?_) | (refine PW.region fun K2 hK2 => ?_) | ((refine hK3 _ ?_; clear hK3)) | ((refine opsP_nil ?_; refine hK2 _ ?_; clear hK2)) | (refine PW.block ?_) | (refine PW.skip ?_)
         | (refine PW.exit ?_) | ((refine hX1 ?_; clear hX1 hY1; try simp only [hb])) | ((refine opsO_nil ?_; refine hK2 _ ?_; clear hK2)) | ((refine keepA_intro ?_ ?_; focus (first | exact keep_same _ _ | exact keep_box _ _ _ _ | exact keep_hd _ _ _ _ _ | exact keep_02 _ _ _ _ _ _ _ | exact keep_1 _ _ _ _ _ _ _))))))
        | (((with_reducible refine fC_call ?_ (hEA) ?_); (focus ((repeat' constructor) <;> (simp only [purAs, purA, Vf, Bool.and_self, Tb.c, Idx.c, h1, h2, h3, h14, hlt', hX, hw, hea']; done)))))
        | (((with_reducible refine fC_call ?_ (hEB) ?_); (focus ((repeat' constructor) <;> (simp only [purAs, purA, Vf, Bool.and_self, Tb.c, Idx.c, h1, h2, h3, h14, hlt', hX, hw, hea']; done)))))
        | (((with_reducible refine PW.draw (id := 13) mixed [0] [] [(0, true), (1, true), (2, true), (3, true), (4, true), (5, true), (6, true), (7, true), (8, true), (9, true), (10, true), (11, false), (12, false), (13, true)] (by kernel_rfl) (by decide) fun K2 hK2 => ?_)))
        | (((with_reducible refine PW.draw (id := 14) mixed [0] [] [(0, true), (1, true), (2, true), (3, true), (4, true), (5, true), (6, true), (7, true), (8, true), (9, true), (10, true), (11, false), (12, false), (13, true)] (by kernel_rfl) (by decide) fun K2 hK2 => ?_)))
        | (((with_reducible refine And.intro ?_ ?_); (focus (first | omega | (simp; done) | assumption))))
        | ((simp only [thenP, blockP, ↓reduceIte]; (try ((repeat (fail_if_success (with_reducible refine hK1 _ ?_)); clear hK1); (with_reducible refine hK1 _ ?_); clear hK1))))
        | (((first | (((with_reducible refine opsP_cons fun K3 hK3 => ?_); simp only [wantP, opP, valP, Ur, Us])) | (((with_reducible refine opsO_first (o := ?_) ?_ fun K3 hK3 => ?_); rotate_left 1; (focus (simp only [Uz, Ub, Ua] <;> rfl)); simp only [wantP, firstP, valP, Ur, Us])) | (((with_reducible refine opsO_only (o := ?_) ?_ fun K3 hK3 => ?_); rotate_left 1; (focus (simp only [Uz, Ub, Ua] <;> rfl)); simp only [wantP, opP, Uw, Ux])) | ((with_reducible refine PW.condM fun X1 Y1 hX1 hY1 => ?_)) | (skip)); simp (disch := omega) only [wantB_tf, St.eval, St.put, upd_app, avOf, avOf1, cellsA, AV.okv, loadA, lenP, binP, intsP, intP, eqP, nilP, builtinP, isMapA, slA, putCells, Ua, Ub, Uc, Ud, Uf, Ug, Uk, Ul, Un, Up, Ur, Us, Ut, Uu, Uv, Uz, V2, V4, V7, V9, Ve, Vr, PmL, simprocAttr, PmT, Tb.c, Idx.c, h1, h2, h3, h14, hlt', hX, hw, hea', condP, condB_t, firstOk, List.mem_cons]; try (with_reducible (first | exact co_refl _ | exact co_own _ _ _ | exact co_nilsB | exact co_nilsL _ _)))))
      refine ⟨tix.length - (k + 1), by omega, k + 1, ?_, ?_, ?_, ?_, ?_, ?_, by omega, rfl⟩
      all_goals (simp only [St.cut, Mem.cut, fg, fgs, upd_app, Nat.reduceEqDiff, ↓reduceIte, List.take_nil, List.map_nil, List.take_succ_cons, List.take_zero, List.map_cons, Option.map_some, Nat.reduceLT, Int.natCast_add, Int.cast_ofNat_Int, h1, h2, h3]; try rfl)
    subst hea
    by_cases heb : eb = 0
    case neg =>
      have heb' := eq_false heb
      repeat' (first
        | ((with_reducible (first
         | (refine PW.seq fun K1 hK1 => ?_) | (refine PW.region fun K2 hK2 => ?_) | ((refine hK3 _ ?_; clear hK3)) | ((refine opsP_nil ?_; refine hK2 _ ?_; clear hK2)) | (refine PW.block ?_) | (refine PW.skip ?_)
         | (refine PW.exit ?_) | ((refine hX1 ?_; clear hX1 hY1; try simp only [hb])) | ((refine opsO_nil ?_; refine hK2 _ ?_; clear hK2)) | ((refine keepA_intro ?_ ?_; focus (first | exact keep_same _ _ | exact keep_box _ _ _ _ | exact keep_hd _ _ _ _ _ | exact keep_02 _ _ _ _ _ _ _ | exact keep_1 _ _ _ _ _ _ _))))))
        | (((with_reducible refine fC_call ?_ (hEA) ?_); (focus ((repeat' constructor) <;> (simp only [purAs, purA, Vf, Bool.and_self, Tb.c, Idx.c, h1, h2, h3, h14, hlt', hX, hw, heb']; done)))))
        | (((with_reducible refine fC_call ?_ (hEB) ?_); (focus ((repeat' constructor) <;> (simp only [purAs, purA, Vf, Bool.and_self, Tb.c, Idx.c, h1, h2, h3, h14, hlt', hX, hw, heb']; done)))))
        | (((with_reducible refine PW.draw (id := 13) mixed [0] [] [(0, true), (1, true), (2, true), (3, true), (4, true), (5, true), (6, true), (7, true), (8, true), (9, true), (10, true), (11, false), (12, false), (13, true)] (by kernel_rfl) (by decide) fun K2 hK2 => ?_)))
        | (((with_reducible refine PW.draw (id := 14) mixed [0] [] [(0, true), (1, true), (2, true), (3, true), (4, true), (5, true), (6, true), (7, true), (8, true), (9, true), (10, true), (11, false), (12, false), (13, true)] (by kernel_rfl) (by decide) fun K2 hK2 => ?_)))
        | (((with_reducible refine And.intro ?_ ?_); (focus (first | omega | (simp; done) | assumption))))
        | ((simp only [thenP, blockP, ↓reduceIte]; (try ((repeat (fail_if_success (with_reducible refine hK1 _ ?_)); clear hK1); (with_reducible refine hK1 _ ?_); clear hK1))))
        | (((first | (((with_reducible refine opsP_cons fun K3 hK3 => ?_); simp only [wantP, opP, valP, Ur, Us])) | (((with_reducible refine opsO_first (o := ?_) ?_ fun K3 hK3 => ?_); rotate_left 1; (focus (simp only [Uz, Ub, Ua] <;> rfl)); simp only [wantP, firstP, valP, Ur, Us])) | (((with_reducible refine opsO_only (o := ?_) ?_ fun K3 hK3 => ?_); rotate_left 1; (focus (simp only [Uz, Ub, Ua] <;> rfl)); simp only [wantP, opP, Uw, Ux])) | ((with_reducible refine PW.condM fun X1 Y1 hX1 hY1 => ?_)) | (skip)); simp (disch := omega) only [wantB_ff, St.eval, St.put, upd_app, avOf, avOf1, cellsA, AV.okv, loadA, lenP, binP, intsP, intP, nilP, builtinP, isMapA, slA, putCells, Ua, Ub, Uc, Ud, Uf, Ug, Uk, Ul, Un, Up, Ur, Us, Ut, Uu, Uv, Uz, V2, V4, V7, V9, Ve, Vr, PmL, simprocAttr, PmT, Tb.c, Idx.c, h1, h2, h3, h14, hlt', hX, hw, heb', condP, condB_t, firstOk, List.mem_cons]; try (with_reducible (first | exact co_refl _ | exact co_own _ _ _ | exact co_nilsB | exact co_nilsL _ _)))))
      refine ⟨tix.length - (k + 1), by omega, k + 1, ?_, ?_, ?_, ?_, ?_, ?_, by omega, rfl⟩
      all_goals (simp only [St.cut, Mem.cut, fg, fgs, upd_app, Nat.reduceEqDiff, ↓reduceIte, List.take_nil, List.map_nil, List.take_succ_cons, List.take_zero, List.map_cons, Option.map_some, Nat.reduceLT, Int.natCast_add, Int.cast_ofNat_Int, h1, h2, h3]; try rfl)
    subst heb
    obtain ⟨ht, -, rfl⟩ := gA rfl
    obtain ⟨-, -, rfl⟩ := gB rfl
    have hc := pRCompare (entB ⟨tid, tnm, tcols, tkey, tix⟩ X A) (entB ⟨tid, tnm, tcols, tkey, tix⟩ X B)
    have ho := hoX ht
    rw [hcX ht] at hc
    obtain ⟨EA, hEAn⟩ : ∃ K, entB ⟨tid, tnm, tcols, tkey, tix⟩ X A = K := ⟨_, rfl⟩
    obtain ⟨EB, hEBn⟩ : ∃ K, entB ⟨tid, tnm, tcols, tkey, tix⟩ X B = K := ⟨_, rfl⟩
    rw [hEAn] at hc hEA
    rw [hEBn] at hc hEB
    obtain ⟨y, hy⟩ : ∃ y, ordR A B X.cols = y := ⟨_, rfl⟩
    rw [hy] at hc ho
    clear hra hrb hEAn hEBn hy hcX hoX gA gB hgo hcE hin2 ht
    by_cases hy0 : y = 0
    · subst hy0
      rw [if_pos rfl] at hc
      repeat' (first
        | ((with_reducible (first
         | (refine PW.seq fun K1 hK1 => ?_) | (refine PW.region fun K2 hK2 => ?_) | ((refine hK3 _ ?_; clear hK3)) | ((refine opsP_nil ?_; refine hK2 _ ?_; clear hK2)) | (refine PW.block ?_) | (refine PW.skip ?_)
         | ((refine hX1 ?_; clear hX1 hY1; try simp only [hb])) | ((refine hY1 ?_; clear hX1 hY1; try simp only [hb])) | ((refine opsO_nil ?_; refine hK2 _ ?_; clear hK2)) | ((refine keepA_intro ?_ ?_; focus (first | exact keep_same _ _ | exact keep_box _ _ _ _ | exact keep_hd _ _ _ _ _ | exact keep_02 _ _ _ _ _ _ _ | exact keep_1 _ _ _ _ _ _ _))))))
        | (((with_reducible refine cC_pure ?_ (hc) (fun _ => ?_)); (focus ((repeat' constructor) <;> (simp only [purAs, purA, Vf, Bool.and_self, Tb.c, Idx.c, h1, h2, h3, h14, hlt', hX, hw]; done)))))
        | (((with_reducible refine cC_pure ?_ (ho) (fun _ => ?_)); (focus ((repeat' constructor) <;> (simp only [purAs, purA, Vf, Bool.and_self, Tb.c, Idx.c, h1, h2, h3, h14, hlt', hX, hw]; done)))))
        | (((with_reducible refine cC_pure ?_ (hor) (fun _ => ?_)); (focus ((repeat' constructor) <;> (simp only [purAs, purA, Vf, Bool.and_self, Tb.c, Idx.c, h1, h2, h3, h14, hlt', hX, hw]; done)))))
        | (((with_reducible refine fC_call ?_ (hEA) ?_); (focus ((repeat' constructor) <;> (simp only [purAs, purA, Vf, Bool.and_self, Tb.c, Idx.c, h1, h2, h3, h14, hlt', hX, hw]; done)))))
        | (((with_reducible refine fC_call ?_ (hEB) ?_); (focus ((repeat' constructor) <;> (simp only [purAs, purA, Vf, Bool.and_self, Tb.c, Idx.c, h1, h2, h3, h14, hlt', hX, hw]; done)))))
        | (((with_reducible refine PW.draw (id := 13) mixed [0] [] [(0, true), (1, true), (2, true), (3, true), (4, true), (5, true), (6, true), (7, true), (8, true), (9, true), (10, true), (11, false), (12, false), (13, true)] (by kernel_rfl) (by decide) fun K2 hK2 => ?_)))
        | (((with_reducible refine PW.draw (id := 14) mixed [0] [] [(0, true), (1, true), (2, true), (3, true), (4, true), (5, true), (6, true), (7, true), (8, true), (9, true), (10, true), (11, false), (12, false), (13, true)] (by kernel_rfl) (by decide) fun K2 hK2 => ?_)))
        | (((with_reducible refine And.intro ?_ ?_); (focus (first | omega | (simp; done) | assumption))))
        | ((simp only [thenP, blockP]; (try ((repeat (fail_if_success (with_reducible refine hK1 _ ?_)); clear hK1); (with_reducible refine hK1 _ ?_); clear hK1))))
        | (((first | (((with_reducible refine opsP_cons fun K3 hK3 => ?_); simp only [wantP, opP, valP, Ur, Us])) | (((with_reducible refine opsO_first (o := ?_) ?_ fun K3 hK3 => ?_); rotate_left 1; (focus (simp only [Uz, Ub, Ua] <;> rfl)); simp only [wantP, firstP, valP, Ur, Us])) | (((with_reducible refine opsO_only (o := ?_) ?_ fun K3 hK3 => ?_); rotate_left 1; (focus (simp only [Uz, Ub, Ua] <;> rfl)); simp only [wantP, opP, Uw, Ux])) | ((with_reducible refine PW.condM fun X1 Y1 hX1 hY1 => ?_)) | (skip)); simp (disch := omega) only [wantB_ff, St.eval, St.put, upd_app, avOf, avOf1, cellsA, AV.okv, loadA, lenP, binP, intsP, intP, nilP, builtinP, isMapA, slA, putCells, Ua, Ub, Uc, Ud, Uf, Ug, Uk, Ul, Un, Up, Ur, Us, Ut, Uu, Uv, Uz, V2, V4, V7, V9, Va, Ve, Vr, PmL, simprocAttr, PmT, Tb.c, Idx.c, h1, h2, h3, h14, hlt', hX, hw, condP, condB_t, condB_f, firstOk, List.mem_cons]; try (with_reducible (first | exact co_refl _ | exact co_own _ _ _ | exact co_nilsB | exact co_nilsL _ _)))))
      refine ⟨tix.length - (k + 1), by omega, k + 1, ?_, ?_, ?_, ?_, ?_, ?_, by omega, rfl⟩
      all_goals (simp only [St.cut, Mem.cut, fg, fgs, upd_app, Nat.reduceEqDiff, ↓reduceIte, List.take_nil, List.map_nil, List.take_succ_cons, List.take_zero, List.map_cons, Option.map_some, Nat.reduceLT, Int.natCast_add, Int.cast_ofNat_Int, h1, h2, h3]; try rfl)
    · have hy0' := eq_false hy0
      rw [if_neg hy0] at hc
      repeat' (first
        | ((with_reducible (first
         | (refine PW.seq fun K1 hK1 => ?_) | (refine PW.region fun K2 hK2 => ?_) | ((refine hK3 _ ?_; clear hK3)) | ((refine opsP_nil ?_; refine hK2 _ ?_; clear hK2)) | (refine PW.block ?_) | (refine PW.skip ?_)
         | ((refine hX1 ?_; clear hX1 hY1; try simp only [hb])) | ((refine hY1 ?_; clear hX1 hY1; try simp only [hb])) | ((refine opsO_nil ?_; refine hK2 _ ?_; clear hK2)) | ((refine keepA_intro ?_ ?_; focus (first | exact keep_same _ _ | exact keep_box _ _ _ _ | exact keep_hd _ _ _ _ _ | exact keep_02 _ _ _ _ _ _ _ | exact keep_1 _ _ _ _ _ _ _))))))
        | (((with_reducible refine cC_pure ?_ (hc) (fun _ => ?_)); (focus ((repeat' constructor) <;> (simp only [purAs, purA, Vf, Bool.and_self, Tb.c, Idx.c, h1, h2, h3, h14, hlt', hX, hw, hy0']; done)))))
        | (((with_reducible refine cC_pure ?_ (ho) (fun _ => ?_)); (focus ((repeat' constructor) <;> (simp only [purAs, purA, Vf, Bool.and_self, Tb.c, Idx.c, h1, h2, h3, h14, hlt', hX, hw, hy0']; done)))))
        | (((with_reducible refine fC_call ?_ (hEA) ?_); (focus ((repeat' constructor) <;> (simp only [purAs, purA, Vf, Bool.and_self, Tb.c, Idx.c, h1, h2, h3, h14, hlt', hX, hw, hy0']; done)))))
        | (((with_reducible refine fC_call ?_ (hEB) ?_); (focus ((repeat' constructor) <;> (simp only [purAs, purA, Vf, Bool.and_self, Tb.c, Idx.c, h1, h2, h3, h14, hlt', hX, hw, hy0']; done)))))
        | (((with_reducible refine PW.draw (id := 13) mixed [0] [] [(0, true), (1, true), (2, true), (3, true), (4, true), (5, true), (6, true), (7, true), (8, true), (9, true), (10, true), (11, false), (12, false), (13, true)] (by kernel_rfl) (by decide) fun K2 hK2 => ?_)))
        | (((with_reducible refine PW.draw (id := 14) mixed [0] [] [(0, true), (1, true), (2, true), (3, true), (4, true), (5, true), (6, true), (7, true), (8, true), (9, true), (10, true), (11, false), (12, false), (13, true)] (by kernel_rfl) (by decide) fun K2 hK2 => ?_)))
        | (((with_reducible refine And.intro ?_ ?_); (focus (first | omega | (simp; done) | assumption))))
        | ((simp only [thenP, blockP]; (try ((repeat (fail_if_success (with_reducible refine hK1 _ ?_)); clear hK1); (with_reducible refine hK1 _ ?_); clear hK1))))
        | (((first | (((with_reducible refine opsP_cons fun K3 hK3 => ?_); simp only [wantP, opP, valP, Ur, Us])) | (((with_reducible refine opsO_first (o := ?_) ?_ fun K3 hK3 => ?_); rotate_left 1; (focus (simp only [Uz, Ub, Ua] <;> rfl)); simp only [wantP, firstP, valP, Ur, Us])) | (((with_reducible refine opsO_only (o := ?_) ?_ fun K3 hK3 => ?_); rotate_left 1; (focus (simp only [Uz, Ub, Ua] <;> rfl)); simp only [wantP, opP, Uw, Ux])) | ((with_reducible refine PW.condM fun X1 Y1 hX1 hY1 => ?_)) | (skip)); simp (disch := omega) only [wantB_ff, St.eval, St.put, upd_app, avOf, avOf1, cellsA, AV.okv, loadA, lenP, binP, intsP, intP, nilP, builtinP, isMapA, slA, putCells, Ua, Ub, Uc, Ud, Uf, Ug, Uk, Ul, Un, Up, Ur, Us, Ut, Uu, Uv, Uz, V2, V4, V7, V9, Va, Ve, Vr, PmL, simprocAttr, PmT, Tb.c, Idx.c, h1, h2, h3, h14, hlt', hX, hw, hy0', condP, condB_t, condB_f, firstOk, List.mem_cons]; try (with_reducible (first | exact co_refl _ | exact co_own _ _ _ | exact co_nilsB | exact co_nilsL _ _)))))
      refine ⟨tix.length - (k + 1), by omega, k + 1, ?_, ?_, ?_, ?_, ?_, ?_, by omega, rfl⟩
      all_goals (simp only [St.cut, Mem.cut, fg, fgs, upd_app, Nat.reduceEqDiff, ↓reduceIte, List.take_nil, List.map_nil, List.take_succ_cons, List.take_zero, List.map_cons, Option.map_some, Nat.reduceLT, Int.natCast_add, Int.cast_ofNat_Int, h1, h2, h3]; try rfl)
  have hkl : k = tix.length := by omega
  subst hkl
  have hlt' := eq_false hlt
  repeat' (first
    | ((with_reducible (first
     | (refine PW.seq fun K1 hK1 => ?_) | (refine PW.region fun K2 hK2 => ?_) | ((refine hK3 _ ?_; clear hK3)) | ((refine opsP_nil ?_; refine hK2 _ ?_; clear hK2)) 
     | (refine PW.exit ?_) | (refine PW.ret ?_) | ((refine hY1 ?_; clear hX1 hY1; try simp only [hb])) )))
    | ((simp only [thenP, blockP, ↓reduceIte]; (try ((repeat (fail_if_success (with_reducible refine hK1 _ ?_)); clear hK1); (with_reducible refine hK1 _ ?_); clear hK1))))
    | (((first | (((with_reducible refine opsP_cons fun K3 hK3 => ?_); simp only [wantP, opP, valP, Ur, Us])) | ((with_reducible refine PW.condM fun X1 Y1 hX1 hY1 => ?_)) | (skip)); simp (disch := omega) only [St.eval, St.put, upd_app, avOf, avOf1, loadA, lenP, binP, intsP, intP, nilP, builtinP, isMapA, slA, Ua, Uk, Ul, V9, Ve, PmL, simprocAttr, PmT, Tb.c, h3, h14, hlt', retQ, resP, tupA, fg, condP, condB_f]; try (with_reducible (first | exact co_refl _ | exact co_own _ _ _ | exact co_nilsB | exact co_nilsL _ _)))))
end PM
end Go.Proofs.YtfkemeamimcnjaaDoor
