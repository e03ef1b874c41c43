/- rowkey's reference in the abstract: Row and Entry. -/
import Derived.Test.YtfkemeamimcnjaaDoorRkr2
import Derived.Test.YtfkemeamimcnjaaDoorRkb
namespace Go.Proofs.YtfkemeamimcnjaaDoor
open Go.RowKit
set_option maxRecDepth 100000
namespace PM
theorem tabMay_nil (T : Tb) : tabMay T [] = tabled T T.key := by
  unfold tabMay tabled
  simp
theorem tabMay_ne (T : Tb) (l : List Int) : (!tabMay T l || decide ((l.length : Int) = 0)) = !tabled T l := by
  unfold tabMay tabled
  cases l with
  | nil => simp [unlike]
  | cons x l => simp; omega
theorem tabled_cols {T : Tb} {l : List Int} (h : tabled T l = true) : colsOk T.cols = true := by
  unfold tabled at h
  simp only [Bool.and_eq_true] at h
  exact h.1
theorem rowFits_ty : ∀ {R : List XV} {C : List Col}, colsOk C = true → rowFits R C = true → ∀ x ∈ R, 1 ≤ x.ty ∧ x.ty ≤ 3
  | [], _, _, _ => fun x hx => by simp at hx
  | a :: R, [], _, h => by simp [rowFits] at h
  | a :: R, b :: C, hc, h => fun x hx => by
    unfold rowFits at h
    simp only [Bool.and_eq_true] at h
    unfold colsOk at hc
    simp only [List.all_cons, Bool.and_eq_true, decide_eq_true_eq] at hc
    rcases List.mem_cons.1 hx with rfl | hx
    · have h1 := h.1
      unfold fitsV at h1
      simp only [Bool.and_eq_true, decide_eq_true_eq] at h1
      rw [h1.1]
      exact hc.1
    · exact rowFits_ty (C := C) hc.2 h.2.2 x hx
set_option maxHeartbeats 4000000 in
theorem pRRow (T : Tb) (R : List XV) (hRn : R.length ≤ 1048576) (hKn : T.key.length ≤ 1048576) : Pure Tryd.prog 10 [T.v, vl R] (kvR (rowKV T R)) := by
  refine pure_intro Tryd.func10 rfl rfl rfl 59 rfl (fun hh => ?_)
  have hC := pRTabled T []
  rw [tabMay_nil] at hC
  cases ht : tabled T T.key
  · have hu : rowKV T R = ([], [], 1) := by unfold rowKV; rw [if_pos ht]
    rw [ht] at hC
    rw [hu]
    obtain ⟨tid, tnm, tcols, tkey, tix⟩ := T
    unfold Tb.v Tb.c il encL at hC
    simp only [List.map_nil] at hC
    repeat' (first
      | ((with_reducible (first
       | (refine PW.seq fun K1 hK1 => ?_) | (refine PW.region fun K2 hK2 => ?_) | ((refine hK3 _ ?_; clear hK3)) | ((refine opsP_nil ?_; refine hK2 _ ?_; clear hK2)) 
       | (refine PW.ret ?_) | ((refine hX1 ?_; clear hX1 hY1; try simp only [hb])) )))
      | (((with_reducible refine cC_pure ?_ (hC) (fun _ => ?_)); (focus ((repeat' constructor) <;> (simp only [purAs, purA, Vf, Bool.and_self, Tb.v, Tb.c, kvR]; done)))))
      | ((simp only [thenP]; (try ((repeat (fail_if_success (with_reducible refine hK1 _ ?_)); clear hK1); (with_reducible refine hK1 _ ?_); clear hK1))))
      | (((first | (((with_reducible refine opsP_cons fun K3 hK3 => ?_); simp only [wantP, opP, valP, Ur, Us])) | ((with_reducible refine PW.condM fun X1 Y1 hX1 hY1 => ?_)) | (skip)); simp (disch := omega) only [St.eval, St.put, upd_app, iniT_app, avOf, avOf1, nom, cellsA, AV.okv, loadA, unP, putCells, fillA, buildA, U7, Ua, Ub, Uc, Ud, Uf, Ug, Uk, Un, Up, Ut, Uu, Uv, V9, Vr, PmL, simprocAttr, PmT, Tb.v, Tb.c, kvR, retQ, resP, tupA, fg, fgs, condP, condB_t]; try (with_reducible (first | exact co_refl _ | exact co_own _ _ _ | exact co_nilsB | exact co_nilsL _ _)))))
    exact co_kv0 _
  have hcols := tabled_cols ht
  have hD := pRIs T R hcols
  rw [ht] at hC
  cases hr : rowFits R T.cols
  · have hu : rowKV T R = ([], [], 200) := by unfold rowKV; rw [if_neg (by rw [ht]; simp), if_pos hr]
    rw [hr] at hD
    rw [hu]
    obtain ⟨tid, tnm, tcols, tkey, tix⟩ := T
    unfold Tb.v Tb.c il encL at hC
    unfold Tb.v Tb.c at hD
    simp only [List.map_nil] at hC
    repeat' (first
      | ((with_reducible (first
       | (refine PW.seq fun K1 hK1 => ?_) | (refine PW.region fun K2 hK2 => ?_) | ((refine hK3 _ ?_; clear hK3)) | ((refine opsP_nil ?_; refine hK2 _ ?_; clear hK2)) | (refine PW.skip ?_)
       | (refine PW.ret ?_) | ((refine hX1 ?_; clear hX1 hY1; try simp only [hb])) | ((refine hY1 ?_; clear hX1 hY1; try simp only [hb])) )))
      | (((with_reducible refine cC_pure ?_ (hC) (fun _ => ?_)); (focus ((repeat' constructor) <;> (simp only [purAs, purA, Vf, Bool.and_self, Tb.v, Tb.c, kvR]; done)))))
      | (((with_reducible refine cC_pure ?_ (hD) (fun _ => ?_)); (focus ((repeat' constructor) <;> (simp only [purAs, purA, Vf, Bool.and_self, Tb.v, Tb.c, kvR]; done)))))
      | ((simp only [thenP]; (try ((repeat (fail_if_success (with_reducible refine hK1 _ ?_)); clear hK1); (with_reducible refine hK1 _ ?_); clear hK1))))
      | (((first | (((with_reducible refine opsP_cons fun K3 hK3 => ?_); simp only [wantP, opP, valP, Ur, Us])) | ((with_reducible refine PW.condM fun X1 Y1 hX1 hY1 => ?_)) | (skip)); simp (disch := omega) only [St.eval, St.put, upd_app, iniT_app, avOf, avOf1, nom, cellsA, AV.okv, loadA, unP, putCells, fillA, buildA, U7, U8, Ua, Ub, Uc, Ud, Uf, Ug, Uk, Un, Up, Ut, Uu, Uv, V9, Vr, PmL, simprocAttr, PmT, Tb.v, Tb.c, kvR, retQ, resP, tupA, fg, fgs, condP, condB_t, condB_f]; try (with_reducible (first | exact co_refl _ | exact co_own _ _ _ | exact co_nilsB | exact co_nilsL _ _)))))
    exact co_kv0 _
  rw [hr] at hD
  have hlen : R.length = T.cols.length := Classical.byContradiction fun h => by rw [rowFits_len h] at hr; cases hr
  have hR := rowFits_s hr
  have hty := rowFits_ty hcols hr
  have hin := (tabled_in ht).1
  rw [← hlen] at hin
  have hE := pRBeginIx T.id 1
  have hkl := keysOf_len R hR T.key hin
  have hbl := begB_len [T.id, 1]
  have hF := pRKeys (begB [T.id, 1]) R T.key hR hin hKn (by rw [hbl]; simp)
  have hkB : begB [T.id, 1] ++ keysOf R T.key = keyB T R := rfl
  have hKl : (keyB T R).length ≤ 100000000000000 := by rw [← hkB, List.length_append, hbl]; simp only [List.length_cons, List.length_nil]; omega
  have hK2 := fun k => pRIsKey T k
  have hu : rowKV T R = if 256 < (keyB T R).length ∨ 65536 < (valsFrom T.key 0 R).length then ([], [], 201) else (keyB T R, valsFrom T.key 0 R, 0) := by
    unfold rowKV
    rw [if_neg (by rw [ht]; simp), if_neg (by rw [hr]; simp)]
  rw [hkB] at hF
  obtain ⟨K, hK⟩ : ∃ K, keyB T R = K := ⟨_, rfl⟩
  obtain ⟨B, hB⟩ : ∃ K, begB [T.id, 1] = K := ⟨_, rfl⟩
  rw [hK] at hu hF hKl
  rw [hB] at hF hE
  clear hkB hK hB hin hbl hkl
  obtain ⟨tid, tnm, tcols, tkey, tix⟩ := T
  unfold Tb.v Tb.c il encL at hC
  unfold Tb.v Tb.c at hD hK2
  simp only [List.map_nil] at hC
  simp only at hF hE hlen hu hKn
  unfold orow rowm at hE hF
  repeat' (first
    | ((with_reducible (first
     | (refine PW.seq fun K1 hK1 => ?_) | (refine PW.region fun K2 hK2 => ?_) | ((refine hK3 _ ?_; clear hK3)) | ((refine opsP_nil ?_; refine hK2 _ ?_; clear hK2)) | (refine PW.block ?_) | (refine PW.skip ?_)
     | ((refine hY1 ?_; clear hX1 hY1; try simp only [hb])) | ((refine opsO_nil ?_; refine hK2 _ ?_; clear hK2)) | ((refine keepA_intro ?_ ?_; focus (first | exact keep_same _ _ | exact keep_box _ _ _ _ | exact keep_hd _ _ _ _ _ | exact keep_02 _ _ _ _ _ _ _ | exact keep_1 _ _ _ _ _ _ _))))))
    | (((with_reducible refine cC_new ?_ (hE) ?_); (focus ((repeat' constructor) <;> (simp only [purAs, purA, Vf, Bool.and_self, Tb.v, Tb.c, eI]; done)))))
    | (((with_reducible refine cC_row ?_ ?_ ?_ (hF) ?_); (with_reducible exact rfl); (focus (simp only [Ua]; try rfl)); (focus ((repeat' constructor) <;> (simp only [purAs, purA, Vf, Bool.and_self, Tb.v, Tb.c, eI]; done)))))
    | (((with_reducible refine cC_pure ?_ (hC) (fun _ => ?_)); (focus ((repeat' constructor) <;> (simp only [purAs, purA, Vf, Bool.and_self, Tb.v, Tb.c, eI]; done)))))
    | (((with_reducible refine cC_pure ?_ (hD) (fun _ => ?_)); (focus ((repeat' constructor) <;> (simp only [purAs, purA, Vf, Bool.and_self, Tb.v, Tb.c, eI]; done)))))
    | (((with_reducible refine PW.draw (id := 7) mixed [0] [] [(0, true), (1, true), (3, true), (4, true), (5, true), (2, false), (6, false), (7, true)] (by kernel_rfl) (by decide) fun K2 hK2 => ?_)))
    | ((simp only [thenP]; (try ((repeat (fail_if_success (with_reducible refine hK1 _ ?_)); clear hK1); (with_reducible refine hK1 _ ?_); clear hK1))))
    | (((first | (((with_reducible refine opsP_cons fun K3 hK3 => ?_); simp only [wantP, opP, valP, Ur, Us])) | (((with_reducible refine opsO_first (o := ?_) ?_ fun K3 hK3 => ?_); rotate_left 1; (focus (simp only [Uz, Ub, Ua] <;> rfl)); simp only [wantP, firstP, valP])) | (((with_reducible refine opsO_only (o := ?_) ?_ fun K3 hK3 => ?_); rotate_left 1; (focus (simp only [Uz, Ub, Ua] <;> rfl)); simp only [wantP, opP, Ur, Us, Uw, Ux])) | ((with_reducible refine PW.condM fun X1 Y1 hX1 hY1 => ?_)) | (skip)); simp (disch := omega) only [St.eval, St.put, upd_app, iniT_app, avOf, avOf1, nom, cellsA, AV.okv, loadA, unP, U7, U8, Ua, Uc, Uf, Ug, Uk, Ul, Un, Up, Ut, Uu, Uv, V9, Va, Ve, Vr, PmL, simprocAttr, PmT, Tb.v, Tb.c, condP, condB_f, firstOk, List.mem_cons]; try (with_reducible (first | exact co_refl _ | exact co_own _ _ _ | exact co_nilsB | exact co_nilsL _ _)))))
  (with_reducible refine PW.nil2own 9 5 1 rfl Nat.one_pos ?_)
  (with_reducible refine PW.loop (fun n s => ∃ (k : Nat), s.t 1 = vl R ∧ s.t 2 = .ptr 0 0 ∧ s.t 4 = .ptr 1 0 ∧ s.t 8 = orow K ∧ s.t 9 = .own 1 1 (encB (valsFrom tkey 0 (R.take k))) ∧ s.t 10 = .d (.int .i64 k) ∧ s.n = 59 ∧ s.m = ⟨[some (26, Tb.c ⟨tid, tnm, tcols, tkey, tix⟩), some (31, [.nils, .nils])], [some ⟨5, 1, K.length⟩, some ⟨5, 1, (valsFrom tkey 0 (R.take k)).length⟩]⟩ ∧ k ≤ R.length ∧ n = R.length - k) R.length ?_ ?_)
  · exact ⟨0, rfl, rfl, rfl, rfl, rfl, rfl, rfl, rfl, Nat.zero_le _, rfl⟩
  rintro n ⟨t, nn, m⟩ ⟨k, h1, h2, h4, h8, h9, h10, hn, hm, hk, hnk⟩ - -
  simp only at h1 h2 h4 h8 h9 h10 hn hm
  subst hn hm hnk
  by_cases hlt : (k : Int) < R.length
  · have hlt' := eq_true hlt
    obtain ⟨v, hv⟩ : ∃ v, R[k]? = some v := ⟨_, List.getElem?_eq_getElem (by omega)⟩
    have hvR := hR v (List.mem_of_getElem? hv)
    have hvt := hty v (List.mem_of_getElem? hv)
    have hw : IntKind.i64.wrap ((k : Int) + 1) = k + 1 := IntWalk.i64_in ((k : Int) + 1) (by omega)
    have hct := hK2 (k : Int)
    have hvl := valsFrom_len tkey (fun x hx => (hR x (List.mem_of_mem_take hx)).1) (fun x hx => (hR x (List.mem_of_mem_take hx)).2) 0 (l := R.take k)
    rw [List.length_take] at hvl
    have hvl' : (valsFrom tkey 0 (R.take k)).length ≤ 1048576 * 1000009 := Nat.le_trans hvl (Nat.mul_le_mul_right _ (by omega))
    have hpl := plainB_len v hvR.1 hvR.2
    have hP := pRValue (valsFrom tkey 0 (R.take k)) v hvt hvR.1 (by omega)
    have hsn : valsFrom tkey 0 (R.take (k + 1)) = valsFrom tkey 0 (R.take k) ++ (if tkey.contains (k : Int) = true then [] else plainB v) := by
      rw [List.take_add_one, hv, Option.toList_some, valsFrom_snoc, List.length_take, Nat.min_eq_left hk, Nat.zero_add]
    obtain ⟨vx, hV⟩ : ∃ V, valsFrom tkey 0 (R.take k) = V := ⟨_, rfl⟩
    obtain ⟨vy, hV2⟩ : ∃ V, valsFrom tkey 0 (R.take (k + 1)) = V := ⟨_, rfl⟩
    rw [hV] at h9 hP hsn ⊢
    rw [hV2] at hsn
    cases hcv : tkey.contains (k : Int)
    · rw [hcv] at hct
      rw [hcv, if_neg (by simp)] at hsn
      rw [← hsn] at hP
      unfold XV.v XV.c orow rowm at hP
      repeat' (first
        | ((with_reducible (first
         | (refine PW.seq fun K1 hK1 => ?_) | (refine PW.region fun K2 hK2 => ?_) | ((refine hK3 _ ?_; clear hK3)) | ((refine opsP_nil ?_; refine hK2 _ ?_; clear hK2)) | (refine PW.block ?_) | (refine PW.skip ?_)
         | ((refine hX1 ?_; clear hX1 hY1; try simp only [hb])) )))
        | (((with_reducible refine cC_row ?_ ?_ ?_ (hP) ?_); (with_reducible exact rfl); (focus (simp only [Ua, Ub]; try rfl)); (focus ((repeat' constructor) <;> (simp only [purAs, purA, Vf, Bool.and_self, Tb.c, h1, h2, h4, h8, h9, h10, hlt', hv, hw, XV.cd]; done)))))
        | (((with_reducible refine cC_pure ?_ (hct) (fun _ => ?_)); (focus ((repeat' constructor) <;> (simp only [purAs, purA, Vf, Bool.and_self, Tb.c, h1, h2, h4, h8, h9, h10, hlt', hv, hw, XV.cd]; done)))))
        | (((with_reducible refine And.intro ?_ ?_); (focus (first | omega | (simp; done) | assumption))))
        | ((simp only [thenP, blockP]; (try ((repeat (fail_if_success (with_reducible refine hK1 _ ?_)); clear hK1); (with_reducible refine hK1 _ ?_); clear hK1))))
        | (((first | (((with_reducible refine opsP_cons fun K3 hK3 => ?_); simp only [wantP, opP, valP, Ur, Us])) | ((with_reducible refine PW.condM fun X1 Y1 hX1 hY1 => ?_)) | (skip)); simp (disch := omega) only [St.eval, St.put, upd_app, avOf, avOf1, loadA, lenP, binP, intsP, intP, nilP, unP, builtinP, isMapA, slA, Ua, Uc, Ud, Uf, Ug, Uk, Un, Up, Ur, Us, Ut, Uu, Uv, V2, V7, V9, Vr, PmL, simprocAttr, PmT, Tb.c, h1, h2, h9, h10, hlt', hv, hw, XV.cd, condP, condB_t]; try (with_reducible (first | exact co_refl _ | exact co_own _ _ _ | exact co_nilsB | exact co_nilsL _ _)))))
      refine ⟨R.length - (k + 1), by omega, k + 1, ?_, ?_, ?_, ?_, ?_, ?_, ?_, ?_, by omega, rfl⟩
      all_goals (simp only [St.cut, Mem.cut, fg, fgs, upd_app, Nat.reduceEqDiff, ↓reduceIte, List.take_nil, List.map_nil, List.take_succ_cons, List.map_cons, Option.map_some, Nat.reduceLT, Int.natCast_add, Int.cast_ofNat_Int, h1, h2, h4, h8, hV2]; try rfl)
    · rw [hcv] at hct
      rw [hcv, if_pos rfl, List.append_nil] at hsn
      repeat' (first
        | ((with_reducible (first
         | (refine PW.seq fun K1 hK1 => ?_) | (refine PW.region fun K2 hK2 => ?_) | ((refine hK3 _ ?_; clear hK3)) | ((refine opsP_nil ?_; refine hK2 _ ?_; clear hK2)) | (refine PW.block ?_) | (refine PW.skip ?_)
         | ((refine hX1 ?_; clear hX1 hY1; try simp only [hb])) | ((refine hY1 ?_; clear hX1 hY1; try simp only [hb])) )))
        | (((with_reducible refine cC_pure ?_ (hct) (fun _ => ?_)); (focus ((repeat' constructor) <;> (simp only [purAs, purA, Vf, Bool.and_self, Tb.c, h1, h2, h4, h8, h9, h10, hlt', hv, hw, XV.cd]; done)))))
        | ((simp only [thenP, blockP]; (try ((repeat (fail_if_success (with_reducible refine hK1 _ ?_)); clear hK1); (with_reducible refine hK1 _ ?_); clear hK1))))
        | (((first | (((with_reducible refine opsP_cons fun K3 hK3 => ?_); simp only [wantP, opP, valP, Ur, Us])) | ((with_reducible refine PW.condM fun X1 Y1 hX1 hY1 => ?_)) | (skip)); simp (disch := omega) only [St.eval, St.put, upd_app, avOf, avOf1, loadA, lenP, binP, intsP, intP, nilP, unP, builtinP, isMapA, slA, Ua, Uf, Ug, Uk, Un, Up, Ut, Uu, Uv, V9, Vr, PmL, simprocAttr, PmT, Tb.c, h1, h2, h10, hlt', hw, condP, condB_t, condB_f]; try (with_reducible (first | exact co_refl _ | exact co_own _ _ _ | exact co_nilsB | exact co_nilsL _ _)))))
      refine ⟨R.length - (k + 1), by omega, k + 1, ?_, ?_, ?_, ?_, ?_, ?_, ?_, ?_, by omega, rfl⟩
      all_goals (simp only [St.cut, Mem.cut, fg, fgs, upd_app, Nat.reduceEqDiff, ↓reduceIte, List.take_nil, List.map_nil, List.take_succ_cons, List.map_cons, Option.map_some, Nat.reduceLT, Int.natCast_add, Int.cast_ofNat_Int, h1, h2, h4, h8, h9, hV2, hsn]; try rfl)
  have hkl' : k = R.length := by omega
  subst hkl'
  have hlt' := eq_false hlt
  rw [List.take_length] at h9 ⊢
  obtain ⟨vx, hV⟩ : ∃ V, valsFrom tkey 0 R = V := ⟨_, rfl⟩
  rw [hV] at hu h9 ⊢
  by_cases hk1 : (256 : Int) < K.length
  · have hk1' := eq_true hk1
    rw [if_pos (.inl (by omega))] at hu
    repeat' (first
      | ((with_reducible (first
       | (refine PW.seq fun K1 hK1 => ?_) | (refine PW.region fun K2 hK2 => ?_) | ((refine hK3 _ ?_; clear hK3)) | ((refine opsP_nil ?_; refine hK2 _ ?_; clear hK2)) 
       | (refine PW.exit ?_) | (refine PW.ret ?_) | ((refine hX1 ?_; clear hX1 hY1; try simp only [hb])) | ((refine hY1 ?_; clear hX1 hY1; try simp only [hb])) )))
      | ((simp only [thenP, blockP, ↓reduceIte]; (try ((repeat (fail_if_success (with_reducible refine hK1 _ ?_)); clear hK1); (with_reducible refine hK1 _ ?_); clear hK1))))
      | (((first | (((with_reducible refine opsP_cons fun K3 hK3 => ?_); simp only [wantP, opP, valP, Ur, Us])) | ((with_reducible refine PW.condM fun X1 Y1 hX1 hY1 => ?_)) | (skip)); simp (disch := omega) only [wantB_tf, St.eval, St.put, upd_app, avOf, avOf1, cellsA, AV.okv, loadA, lenP, binP, intsP, intP, nilP, builtinP, isMapA, slA, putCells, fillA, buildA, Ua, Ub, Uc, Ud, Uf, Ug, Uk, Un, Up, Uz, V4, V9, Vr, PmL, simprocAttr, PmT, Tb.c, h1, h4, h8, h9, h10, hlt', hk1', retQ, resP, tupA, fg, fgs, condP, condB_t, condB_f]; try (with_reducible (first | exact co_refl _ | exact co_own _ _ _ | exact co_nilsB | exact co_nilsL _ _)))))
    rw [hu]
    exact co_kv0 _
  have hk1' := eq_false hk1
  by_cases hk3 : (65536 : Int) < vx.length
  · have hk3' := eq_true hk3
    rw [if_pos (.inr (by omega))] at hu
    repeat' (first
      | ((with_reducible (first
       | (refine PW.seq fun K1 hK1 => ?_) | (refine PW.region fun K2 hK2 => ?_) | ((refine hK3 _ ?_; clear hK3)) | ((refine opsP_nil ?_; refine hK2 _ ?_; clear hK2)) 
       | (refine PW.exit ?_) | (refine PW.ret ?_) | ((refine hX1 ?_; clear hX1 hY1; try simp only [hb])) | ((refine hY1 ?_; clear hX1 hY1; try simp only [hb])) )))
      | ((simp only [thenP, blockP, ↓reduceIte]; (try ((repeat (fail_if_success (with_reducible refine hK1 _ ?_)); clear hK1); (with_reducible refine hK1 _ ?_); clear hK1))))
      | (((first | (((with_reducible refine opsP_cons fun K3 hK3 => ?_); simp only [wantP, opP, valP, Ur, Us])) | ((with_reducible refine PW.condM fun X1 Y1 hX1 hY1 => ?_)) | (skip)); simp (disch := omega) only [wantB_ff, St.eval, St.put, upd_app, avOf, avOf1, cellsA, AV.okv, loadA, lenP, binP, intsP, intP, nilP, builtinP, isMapA, slA, putCells, fillA, buildA, Ua, Ub, Uc, Ud, Uf, Ug, Uk, Un, Up, Uz, V4, V9, Vr, PmL, simprocAttr, PmT, Tb.c, h1, h4, h8, h9, h10, hlt', hk1', hk3', retQ, resP, tupA, fg, fgs, condP, condB_t, condB_f]; try (with_reducible (first | exact co_refl _ | exact co_own _ _ _ | exact co_nilsB | exact co_nilsL _ _)))))
    rw [hu]
    exact co_kv0 _
  have hk3' := eq_false hk3
  rw [if_neg (by omega)] at hu
  repeat' (first
    | ((with_reducible (first
     | (refine PW.seq fun K1 hK1 => ?_) | (refine PW.region fun K2 hK2 => ?_) | ((refine hK3 _ ?_; clear hK3)) | ((refine opsP_nil ?_; refine hK2 _ ?_; clear hK2)) | (refine PW.skip ?_)
     | (refine PW.exit ?_) | (refine PW.ret ?_) | ((refine hY1 ?_; clear hX1 hY1; try simp only [hb])) )))
    | ((simp only [thenP, blockP, ↓reduceIte]; (try ((repeat (fail_if_success (with_reducible refine hK1 _ ?_)); clear hK1); (with_reducible refine hK1 _ ?_); clear hK1))))
    | (((first | (((with_reducible refine opsP_cons fun K3 hK3 => ?_); simp only [wantP, opP, valP, Ur, Us])) | ((with_reducible refine PW.condM fun X1 Y1 hX1 hY1 => ?_)) | (skip)); simp (disch := omega) only [wantB_ff, St.eval, St.put, upd_app, avOf, avOf1, cellsA, AV.okv, loadA, lenP, binP, intsP, intP, nilP, builtinP, isMapA, slA, putCells, fillA, buildA, Ua, Ub, Uc, Ud, Uf, Ug, Uk, Un, Up, Uz, V4, V9, Vc, Vd, Ve, Vt, UU2, UU3, Vr, PmL, simprocAttr, PmT, Tb.c, h1, h4, h8, h9, h10, hlt', hk1', hk3', retQ, resP, tupA, fg, fgs, condP, condB_f]; try (with_reducible (first | exact co_refl _ | exact co_own _ _ _ | exact co_nilsB | exact co_nilsL _ _)))))
  rw [hu]
  exact co_refl _
set_option maxHeartbeats 4000000 in
theorem pREntry (T : Tb) (X : Idx) (R : List XV) (_hRn : R.length ≤ 1048576) (hKn : T.key.length ≤ 1048576) (hXn : X.cols.length ≤ 1048576) : Pure Tryd.prog 16 [T.v, X.av, vl R] (kvR (entryKV T X R)) := by
  refine pure_intro Tryd.func16 rfl rfl rfl 50 rfl (fun hh => ?_)
  have hC := pRTabled T X.cols
  have hmn := tabMay_ne T X.cols
  cases ht : tabled T X.cols
  · have hu : entryKV T X R = ([], [], 1) := by unfold entryKV; rw [if_pos ht]
    rw [hu]
    rw [ht] at hmn
    by_cases hl0 : (X.cols.length : Int) = 0
    · have hl0' := eq_true hl0
      obtain ⟨b, hb⟩ : ∃ b, tabMay T X.cols = b := ⟨_, rfl⟩
      rw [hb] at hC
      obtain ⟨tid, tnm, tcols, tkey, tix⟩ := T
      unfold Tb.v Tb.c at hC
      cases b
      · repeat' (first
          | ((with_reducible (first
           | (refine PW.seq fun K1 hK1 => ?_) | (refine PW.region fun K2 hK2 => ?_) | ((refine hK3 _ ?_; clear hK3)) | ((refine opsP_nil ?_; refine hK2 _ ?_; clear hK2)) 
           | (refine PW.ret ?_) | ((refine hX1 ?_; clear hX1 hY1; try simp only [hb])) )))
          | (((with_reducible refine cC_pure ?_ (hC) (fun _ => ?_)); (focus ((repeat' constructor) <;> (simp only [purAs, purA, Vf, Bool.and_self, Tb.v, Tb.c, Idx.av, kvR, hl0']; done)))))
          | ((simp only [thenP]; (try ((repeat (fail_if_success (with_reducible refine hK1 _ ?_)); clear hK1); (with_reducible refine hK1 _ ?_); clear hK1))))
          | (((first | (((with_reducible refine opsP_cons fun K3 hK3 => ?_); simp only [wantP, opP, valP, Ur, Us])) | ((with_reducible refine PW.condM fun X1 Y1 hX1 hY1 => ?_)) | (skip)); simp (disch := omega) only [wantB_tf, St.eval, St.put, upd_app, iniT_app, avOf, avOf1, nom, cellsA, AV.okv, loadA, lenP, binP, eqP, nilP, unP, builtinP, isMapA, slA, putCells, fillA, buildA, U7, U8, Ua, Ub, Uc, Ud, Uf, Ug, Uk, Ul, Un, Up, Ut, Uu, Uv, Uz, V4, V9, Ve, Vr, PmL, simprocAttr, PmT, Tb.v, Tb.c, Idx.av, kvR, retQ, resP, tupA, fg, fgs, condP, condB_t]; try (with_reducible (first | exact co_refl _ | exact co_own _ _ _ | exact co_nilsB | exact co_nilsL _ _)))))
        exact co_kv0 _
      · repeat' (first
          | ((with_reducible (first
           | (refine PW.seq fun K1 hK1 => ?_) | (refine PW.region fun K2 hK2 => ?_) | ((refine hK3 _ ?_; clear hK3)) | ((refine opsP_nil ?_; refine hK2 _ ?_; clear hK2)) 
           | (refine PW.ret ?_) | ((refine hX1 ?_; clear hX1 hY1; try simp only [hb])) )))
          | (((with_reducible refine cC_pure ?_ (hC) (fun _ => ?_)); (focus ((repeat' constructor) <;> (simp only [purAs, purA, Vf, Bool.and_self, Tb.v, Tb.c, Idx.av, kvR, hl0']; done)))))
          | ((simp only [thenP]; (try ((repeat (fail_if_success (with_reducible refine hK1 _ ?_)); clear hK1); (with_reducible refine hK1 _ ?_); clear hK1))))
          | (((first | (((with_reducible refine opsP_cons fun K3 hK3 => ?_); simp only [wantP, opP, valP, Ur, Us])) | ((with_reducible refine PW.condM fun X1 Y1 hX1 hY1 => ?_)) | (skip)); simp (disch := omega) only [wantB_ff, St.eval, St.put, upd_app, iniT_app, avOf, avOf1, nom, cellsA, AV.okv, loadA, lenP, binP, intsP, intP, nilP, unP, builtinP, isMapA, slA, putCells, fillA, buildA, U7, U8, Ua, Ub, Uc, Ud, Uf, Ug, Uk, Ul, Un, Up, Ut, Uu, Uv, Uz, V4, V9, Ve, Vr, PmL, simprocAttr, PmT, Tb.v, Tb.c, Idx.av, kvR, hl0', retQ, resP, tupA, fg, fgs, condP, condB_t]; try (with_reducible (first | exact co_refl _ | exact co_own _ _ _ | exact co_nilsB | exact co_nilsL _ _)))))
        exact co_kv0 _
    · have hl0' := eq_false hl0
      have hb : tabMay T X.cols = false := by
        cases hb : tabMay T X.cols
        · rfl
        · rw [hb, decide_eq_false hl0] at hmn
          simp at hmn
      rw [hb] at hC
      obtain ⟨tid, tnm, tcols, tkey, tix⟩ := T
      unfold Tb.v Tb.c at hC
      repeat' (first
        | ((with_reducible (first
         | (refine PW.seq fun K1 hK1 => ?_) | (refine PW.region fun K2 hK2 => ?_) | ((refine hK3 _ ?_; clear hK3)) | ((refine opsP_nil ?_; refine hK2 _ ?_; clear hK2)) 
         | (refine PW.ret ?_) | ((refine hX1 ?_; clear hX1 hY1; try simp only [hb])) )))
        | (((with_reducible refine cC_pure ?_ (hC) (fun _ => ?_)); (focus ((repeat' constructor) <;> (simp only [purAs, purA, Vf, Bool.and_self, Tb.v, Tb.c, Idx.av, kvR, hl0']; done)))))
        | ((simp only [thenP]; (try ((repeat (fail_if_success (with_reducible refine hK1 _ ?_)); clear hK1); (with_reducible refine hK1 _ ?_); clear hK1))))
        | (((first | (((with_reducible refine opsP_cons fun K3 hK3 => ?_); simp only [wantP, opP, valP, Ur, Us])) | ((with_reducible refine PW.condM fun X1 Y1 hX1 hY1 => ?_)) | (skip)); simp (disch := omega) only [wantB_tf, St.eval, St.put, upd_app, iniT_app, avOf, avOf1, nom, cellsA, AV.okv, loadA, lenP, binP, eqP, nilP, unP, builtinP, isMapA, slA, putCells, fillA, buildA, U7, U8, Ua, Ub, Uc, Ud, Uf, Ug, Uk, Ul, Un, Up, Ut, Uu, Uv, Uz, V4, V9, Ve, Vr, PmL, simprocAttr, PmT, Tb.v, Tb.c, Idx.av, kvR, retQ, resP, tupA, fg, fgs, condP, condB_t]; try (with_reducible (first | exact co_refl _ | exact co_own _ _ _ | exact co_nilsB | exact co_nilsL _ _)))))
      exact co_kv0 _
  rw [ht] at hmn
  simp only [Bool.not_true, Bool.or_eq_false_iff, Bool.not_eq_false', decide_eq_false_iff_not] at hmn
  obtain ⟨hb, hl0⟩ := hmn
  have hl0' := eq_false hl0
  rw [hb] at hC
  have hcols := tabled_cols ht
  have hD := pRIs T R hcols
  cases hr : rowFits R T.cols
  · have hu : entryKV T X R = ([], [], 200) := by unfold entryKV; rw [if_neg (by rw [ht]; simp), if_pos hr]
    rw [hr] at hD
    rw [hu]
    obtain ⟨tid, tnm, tcols, tkey, tix⟩ := T
    unfold Tb.v Tb.c at hC hD
    repeat' (first
      | ((with_reducible (first
       | (refine PW.seq fun K1 hK1 => ?_) | (refine PW.region fun K2 hK2 => ?_) | ((refine hK3 _ ?_; clear hK3)) | ((refine opsP_nil ?_; refine hK2 _ ?_; clear hK2)) | (refine PW.skip ?_)
       | (refine PW.ret ?_) | ((refine hX1 ?_; clear hX1 hY1; try simp only [hb])) | ((refine hY1 ?_; clear hX1 hY1; try simp only [hb])) )))
      | (((with_reducible refine cC_pure ?_ (hC) (fun _ => ?_)); (focus ((repeat' constructor) <;> (simp only [purAs, purA, Vf, Bool.and_self, Tb.v, Tb.c, Idx.av, kvR, hl0']; done)))))
      | (((with_reducible refine cC_pure ?_ (hD) (fun _ => ?_)); (focus ((repeat' constructor) <;> (simp only [purAs, purA, Vf, Bool.and_self, Tb.v, Tb.c, Idx.av, kvR, hl0']; done)))))
      | ((simp only [thenP]; (try ((repeat (fail_if_success (with_reducible refine hK1 _ ?_)); clear hK1); (with_reducible refine hK1 _ ?_); clear hK1))))
      | (((first | (((with_reducible refine opsP_cons fun K3 hK3 => ?_); simp only [wantP, opP, valP, Ur, Us])) | ((with_reducible refine PW.condM fun X1 Y1 hX1 hY1 => ?_)) | (skip)); simp (disch := omega) only [wantB_ff, St.eval, St.put, upd_app, iniT_app, avOf, avOf1, nom, cellsA, AV.okv, loadA, lenP, binP, intsP, intP, nilP, unP, builtinP, isMapA, slA, putCells, fillA, buildA, U7, U8, Ua, Ub, Uc, Ud, Uf, Ug, Uk, Ul, Un, Up, Ut, Uu, Uv, Uz, V4, V9, Ve, Vr, PmL, simprocAttr, PmT, Tb.v, Tb.c, Idx.av, kvR, hl0', retQ, resP, tupA, fg, fgs, condP, condB_t, condB_f]; try (with_reducible (first | exact co_refl _ | exact co_own _ _ _ | exact co_nilsB | exact co_nilsL _ _)))))
    exact co_kv0 _
  rw [hr] at hD
  have hlen : R.length = T.cols.length := Classical.byContradiction fun h => by rw [rowFits_len h] at hr; cases hr
  have hR := rowFits_s hr
  have hin := tabled_in ht
  rw [← hlen] at hin
  have hE := pRBeginIx T.id X.id
  have hkl := keysOf_len R hR T.key hin.1
  have hxl := keysOf_len R hR X.cols hin.2
  have hbl := begB_len [T.id, X.id]
  simp only [List.length_cons, List.length_nil] at hbl
  have hF := pRKeys (begB [T.id, X.id]) R X.cols hR hin.2 hXn (by omega)
  have hG := pRKeys (begB [T.id, X.id] ++ keysOf R X.cols) R T.key hR hin.1 hKn (by rw [List.length_append]; omega)
  have hkB : begB [T.id, X.id] ++ keysOf R X.cols ++ keysOf R T.key = entB T X R := by unfold entB; rw [List.append_assoc]
  have hu : entryKV T X R = if 256 < (entB T X R).length then ([], [], 201) else (entB T X R, [], 0) := by
    unfold entryKV
    rw [if_neg (by rw [ht]; simp), if_neg (by rw [hr]; simp)]
  rw [hkB] at hG
  obtain ⟨ka, hK⟩ : ∃ K, entB T X R = K := ⟨_, rfl⟩
  obtain ⟨kb, hB⟩ : ∃ K, begB [T.id, X.id] = K := ⟨_, rfl⟩
  rw [hB] at hF hE hG
  obtain ⟨kc, hBc⟩ : ∃ K, kb ++ keysOf R X.cols = K := ⟨_, rfl⟩
  rw [hBc] at hF hG
  rw [hK] at hu hG
  clear hkB hK hB hBc hin hbl hkl hxl
  obtain ⟨tid, tnm, tcols, tkey, tix⟩ := T
  unfold Tb.v Tb.c at hC hD
  simp only at hF hE hlen hu hKn hG
  unfold orow rowm at hE hF hG
  by_cases h1 : (256 : Int) < ka.length
  · have h1' := eq_true h1
    rw [if_pos (by omega)] at hu
    rw [hu]
    repeat' (first
      | ((with_reducible (first
       | (refine PW.seq fun K1 hK1 => ?_) | (refine PW.region fun K2 hK2 => ?_) | ((refine hK3 _ ?_; clear hK3)) | ((refine opsP_nil ?_; refine hK2 _ ?_; clear hK2)) | (refine PW.skip ?_)
       | (refine PW.ret ?_) | ((refine hX1 ?_; clear hX1 hY1; try simp only [hb])) | ((refine hY1 ?_; clear hX1 hY1; try simp only [hb])) | ((refine opsO_nil ?_; refine hK2 _ ?_; clear hK2)) | ((refine keepA_intro ?_ ?_; focus (first | exact keep_same _ _ | exact keep_box _ _ _ _ | exact keep_hd _ _ _ _ _ | exact keep_02 _ _ _ _ _ _ _ | exact keep_1 _ _ _ _ _ _ _))))))
      | (((with_reducible refine cC_new ?_ (hE) ?_); (focus ((repeat' constructor) <;> (simp only [purAs, purA, Vf, Bool.and_self, Tb.v, Tb.c, Idx.av, kvR, eI, hl0', h1']; done)))))
      | (((with_reducible refine cC_row ?_ ?_ ?_ (hF) ?_); (with_reducible exact rfl); (focus (simp only [Ua]; try rfl)); (focus ((repeat' constructor) <;> (simp only [purAs, purA, Vf, Bool.and_self, Tb.v, Tb.c, Idx.av, kvR, eI, hl0', h1']; done)))))
      | (((with_reducible refine cC_row ?_ ?_ ?_ (hG) ?_); (with_reducible exact rfl); (focus (simp only [Ua]; try rfl)); (focus ((repeat' constructor) <;> (simp only [purAs, purA, Vf, Bool.and_self, Tb.v, Tb.c, Idx.av, kvR, eI, hl0', h1']; done)))))
      | (((with_reducible refine cC_pure ?_ (hC) (fun _ => ?_)); (focus ((repeat' constructor) <;> (simp only [purAs, purA, Vf, Bool.and_self, Tb.v, Tb.c, Idx.av, kvR, eI, hl0', h1']; done)))))
      | (((with_reducible refine cC_pure ?_ (hD) (fun _ => ?_)); (focus ((repeat' constructor) <;> (simp only [purAs, purA, Vf, Bool.and_self, Tb.v, Tb.c, Idx.av, kvR, eI, hl0', h1']; done)))))
      | (((with_reducible refine PW.draw (id := 7) mixed [0,1] [] [(0, true), (1, true), (2, true), (3, true), (5, true), (6, true), (7, true), (4, false), (8, false), (9, true)] (by kernel_rfl) (by decide) fun K2 hK2 => ?_)))
      | ((simp only [thenP]; (try ((repeat (fail_if_success (with_reducible refine hK1 _ ?_)); clear hK1); (with_reducible refine hK1 _ ?_); clear hK1))))
      | (((first | (((with_reducible refine opsP_cons fun K3 hK3 => ?_); simp only [wantP, opP, valP, Ur, Us])) | (((with_reducible refine opsO_first (o := ?_) ?_ fun K3 hK3 => ?_); rotate_left 1; (focus (simp only [Uz, Ub, Ua] <;> rfl)); simp only [wantP, firstP, valP])) | (((with_reducible refine opsO_only (o := ?_) ?_ fun K3 hK3 => ?_); rotate_left 1; (focus (simp only [Uz, Ub, Ua] <;> rfl)); simp only [wantP, opP, Ur, Us, Uw, Ux])) | ((with_reducible refine PW.condM fun X1 Y1 hX1 hY1 => ?_)) | (skip)); simp (disch := omega) only [wantB_ff, St.eval, St.put, upd_app, iniT_app, avOf, avOf1, nom, cellsA, AV.okv, loadA, lenP, binP, intsP, intP, nilP, unP, builtinP, isMapA, slA, putCells, fillA, buildA, U7, U8, Ua, Ub, Uc, Ud, Uf, Ug, Uk, Ul, Un, Up, Ut, Uu, Uv, Uz, V4, V9, Va, Ve, Vr, PmL, simprocAttr, PmT, Tb.v, Tb.c, Idx.av, kvR, hl0', h1', retQ, resP, tupA, fg, fgs, condP, condB_t, condB_f, firstOk, List.mem_cons]; try (with_reducible (first | exact co_refl _ | exact co_own _ _ _ | exact co_nilsB | exact co_nilsL _ _)))))
    exact co_kv0 _
  have h1' := eq_false h1
  rw [if_neg (by omega)] at hu
  rw [hu]
  repeat' (first
    | ((with_reducible (first
     | (refine PW.seq fun K1 hK1 => ?_) | (refine PW.region fun K2 hK2 => ?_) | ((refine hK3 _ ?_; clear hK3)) | ((refine opsP_nil ?_; refine hK2 _ ?_; clear hK2)) | (refine PW.skip ?_)
     | (refine PW.ret ?_) | ((refine hY1 ?_; clear hX1 hY1; try simp only [hb])) | ((refine opsO_nil ?_; refine hK2 _ ?_; clear hK2)) | ((refine keepA_intro ?_ ?_; focus (first | exact keep_same _ _ | exact keep_box _ _ _ _ | exact keep_hd _ _ _ _ _ | exact keep_02 _ _ _ _ _ _ _ | exact keep_1 _ _ _ _ _ _ _))))))
    | (((with_reducible refine cC_new ?_ (hE) ?_); (focus ((repeat' constructor) <;> (simp only [purAs, purA, Vf, Bool.and_self, Tb.v, Tb.c, Idx.av, kvR, eI, hl0', h1']; done)))))
    | (((with_reducible refine cC_row ?_ ?_ ?_ (hF) ?_); (with_reducible exact rfl); (focus (simp only [Ua]; try rfl)); (focus ((repeat' constructor) <;> (simp only [purAs, purA, Vf, Bool.and_self, Tb.v, Tb.c, Idx.av, kvR, eI, hl0', h1']; done)))))
    | (((with_reducible refine cC_row ?_ ?_ ?_ (hG) ?_); (with_reducible exact rfl); (focus (simp only [Ua]; try rfl)); (focus ((repeat' constructor) <;> (simp only [purAs, purA, Vf, Bool.and_self, Tb.v, Tb.c, Idx.av, kvR, eI, hl0', h1']; done)))))
    | (((with_reducible refine cC_pure ?_ (hC) (fun _ => ?_)); (focus ((repeat' constructor) <;> (simp only [purAs, purA, Vf, Bool.and_self, Tb.v, Tb.c, Idx.av, kvR, eI, hl0', h1']; done)))))
    | (((with_reducible refine cC_pure ?_ (hD) (fun _ => ?_)); (focus ((repeat' constructor) <;> (simp only [purAs, purA, Vf, Bool.and_self, Tb.v, Tb.c, Idx.av, kvR, eI, hl0', h1']; done)))))
    | (((with_reducible refine PW.draw (id := 7) mixed [0,1] [] [(0, true), (1, true), (2, true), (3, true), (5, true), (6, true), (7, true), (4, false), (8, false), (9, true)] (by kernel_rfl) (by decide) fun K2 hK2 => ?_)))
    | ((simp only [thenP]; (try ((repeat (fail_if_success (with_reducible refine hK1 _ ?_)); clear hK1); (with_reducible refine hK1 _ ?_); clear hK1))))
    | (((first | (((with_reducible refine opsP_cons fun K3 hK3 => ?_); simp only [wantP, opP, valP, Ur, Us])) | (((with_reducible refine opsO_first (o := ?_) ?_ fun K3 hK3 => ?_); rotate_left 1; (focus (simp only [Uz, Ub, Ua] <;> rfl)); simp only [wantP, firstP, valP])) | (((with_reducible refine opsO_only (o := ?_) ?_ fun K3 hK3 => ?_); rotate_left 1; (focus (simp only [Uz, Ub, Ua] <;> rfl)); simp only [wantP, opP, Ur, Us, Uw, Ux])) | ((with_reducible refine PW.condM fun X1 Y1 hX1 hY1 => ?_)) | (skip)); simp (disch := omega) only [wantB_ff, St.eval, St.put, upd_app, iniT_app, avOf, avOf1, nom, cellsA, AV.okv, loadA, lenP, binP, intsP, intP, nilP, unP, builtinP, isMapA, slA, putCells, fillA, buildA, U7, U8, Ua, Ub, Uc, Ud, Uf, Ug, Uk, Ul, Un, Up, Ut, Uu, Uv, Uz, V4, V9, Va, Vd, Ve, Vt, UU2, UU3, Vr, PmL, simprocAttr, PmT, Tb.v, Tb.c, Idx.av, kvR, hl0', h1', retQ, resP, tupA, fg, fgs, condP, condB_f, firstOk, List.mem_cons]; try (with_reducible (first | exact co_refl _ | exact co_own _ _ _ | exact co_nilsB | exact co_nilsL _ _)))))
  exact co_kv1 _ _
end PM
end Go.Proofs.YtfkemeamimcnjaaDoor
