/- rowkey's reference in the abstract: Entry. -/
import Derived.Test.YtfkemeamimcnjaaDoorRkr2
import Derived.Test.YtfkemeamimcnjaaDoorRkb
namespace Go.Proofs.YtfkemeamimcnjaaDoor
open Go.RowKit
set_option maxRecDepth 100000
namespace PM
theorem tabMay_nil (T : Tb) : tabMay T [] = tabled T T.key := by
  unfold tabMay tabled
  simp
theorem tabMay_ne (T : Tb) (l : List Int) : (!tabMay T l || decide ((l.length : Int) = 0)) = !tabled T l := by
  unfold tabMay tabled
  cases l with
  | nil => simp [unlike]
  | cons x l => simp; omega
theorem tabled_cols {T : Tb} {l : List Int} (h : tabled T l = true) : colsOk T.cols = true := by
  unfold tabled at h
  simp only [Bool.and_eq_true] at h
  exact h.1
theorem rowFits_ty : ∀ {R : List XV} {C : List Col}, colsOk C = true → rowFits R C = true → ∀ x ∈ R, 1 ≤ x.ty ∧ x.ty ≤ 3
  | [], _, _, _ => fun x hx => by simp at hx
  | a :: R, [], _, h => by simp [rowFits] at h
  | a :: R, b :: C, hc, h => fun x hx => by
    unfold rowFits at h
    simp only [Bool.and_eq_true] at h
    unfold colsOk at hc
    simp only [List.all_cons, Bool.and_eq_true, decide_eq_true_eq] at hc
    rcases List.mem_cons.1 hx with rfl | hx
    · have h1 := h.1
      unfold fitsV at h1
      simp only [Bool.and_eq_true, decide_eq_true_eq] at h1
      rw [h1.1]
      exact hc.1
    · exact rowFits_ty (C := C) hc.2 h.2.2 x hx
set_option maxHeartbeats 4000000 in
theorem pREntry (T : Tb) (X : Idx) (R : List XV) (_hRn : R.length ≤ 1048576) (hKn : T.key.length ≤ 1048576) (hXn : X.cols.length ≤ 1048576) : Pure Tryd.prog 16 [T.v, X.av, vl R] (kvR (entryKV T X R)) := by
  refine pure_intro Tryd.func16 rfl rfl rfl 50 rfl (fun hh => ?_)
  have hC := pRTabled T X.cols
  have hmn := tabMay_ne T X.cols
  cases ht : tabled T X.cols
  · have hu : entryKV T X R = ([], [], 1) := by unfold entryKV; rw [if_pos ht]
    rw [hu]
    rw [ht] at hmn
    by_cases hl0 : (X.cols.length : Int) = 0
    · have hl0' := eq_true hl0
      obtain ⟨b, hb⟩ : ∃ b, tabMay T X.cols = b := ⟨_, rfl⟩
      rw [hb] at hC
      obtain ⟨tid, tnm, tcols, tkey, tix⟩ := T
      unfold Tb.v Tb.c at hC
      cases b
      · repeat' (first
          | ((with_reducible (first
           | (refine PW.seq fun K1 hK1 => ?_) | (refine PW.region fun K2 hK2 => ?_) | ((refine hK3 _ ?_; clear hK3)) | ((refine opsP_nil ?_; refine hK2 _ ?_; clear hK2)) 
           | (refine PW.ret ?_) | ((refine hX1 ?_; clear hX1 hY1; try simp only [hb])) )))
          | (((with_reducible refine cC_pure ?_ (hC) (fun _ => ?_)); (focus ((repeat' constructor) <;> (simp only [purAs, purA, Vf, Bool.and_self, Tb.v, Tb.c, Idx.av, kvR, hl0']; done)))))
          | ((simp only [thenP]; (try ((repeat (fail_if_success (with_reducible refine hK1 _ ?_)); clear hK1); (with_reducible refine hK1 _ ?_); clear hK1))))
          | (((first | (((with_reducible refine opsP_cons fun K3 hK3 => ?_); simp only [wantP, opP, valP, Ur, Us])) | ((with_reducible refine PW.condM fun X1 Y1 hX1 hY1 => ?_)) | (skip)); simp (disch := omega) only [wantB_tf, St.eval, St.put, upd_app, iniT_app, avOf, avOf1, nom, cellsA, AV.okv, loadA, lenP, binP, eqP, nilP, unP, builtinP, isMapA, slA, putCells, fillA, buildA, U7, U8, Ua, Ub, Uc, Ud, Uf, Ug, Uk, Ul, Un, Up, Ut, Uu, Uv, Uz, V4, V9, Ve, Vr, PmL, simprocAttr, PmT, Tb.v, Tb.c, Idx.av, kvR, retQ, resP, tupA, fg, fgs, condP, condB_t]; try (with_reducible (first | exact co_refl _ | exact co_own _ _ _ | exact co_nilsB | exact co_nilsL _ _)))))
        exact co_kv0 _
      · repeat' (first
          | ((with_reducible (first
           | (refine PW.seq fun K1 hK1 => ?_) | (refine PW.region fun K2 hK2 => ?_) | ((refine hK3 _ ?_; clear hK3)) | ((refine opsP_nil ?_; refine hK2 _ ?_; clear hK2)) 
           | (refine PW.ret ?_) | ((refine hX1 ?_; clear hX1 hY1; try simp only [hb])) )))
          | (((with_reducible refine cC_pure ?_ (hC) (fun _ => ?_)); (focus ((repeat' constructor) <;> (simp only [purAs, purA, Vf, Bool.and_self, Tb.v, Tb.c, Idx.av, kvR, hl0']; done)))))
          | ((simp only [thenP]; (try ((repeat (fail_if_success (with_reducible refine hK1 _ ?_)); clear hK1); (with_reducible refine hK1 _ ?_); clear hK1))))
          | (((first | (((with_reducible refine opsP_cons fun K3 hK3 => ?_); simp only [wantP, opP, valP, Ur, Us])) | ((with_reducible refine PW.condM fun X1 Y1 hX1 hY1 => ?_)) | (skip)); simp (disch := omega) only [wantB_ff, St.eval, St.put, upd_app, iniT_app, avOf, avOf1, nom, cellsA, AV.okv, loadA, lenP, binP, intsP, intP, nilP, unP, builtinP, isMapA, slA, putCells, fillA, buildA, U7, U8, Ua, Ub, Uc, Ud, Uf, Ug, Uk, Ul, Un, Up, Ut, Uu, Uv, Uz, V4, V9, Ve, Vr, PmL, simprocAttr, PmT, Tb.v, Tb.c, Idx.av, kvR, hl0', retQ, resP, tupA, fg, fgs, condP, condB_t]; try (with_reducible (first | exact co_refl _ | exact co_own _ _ _ | exact co_nilsB | exact co_nilsL _ _)))))
        exact co_kv0 _
    · have hl0' := eq_false hl0
      have hb : tabMay T X.cols = false := by
        cases hb : tabMay T X.cols
        · rfl
        · rw [hb, decide_eq_false hl0] at hmn
          simp at hmn
      rw [hb] at hC
      obtain ⟨tid, tnm, tcols, tkey, tix⟩ := T
      unfold Tb.v Tb.c at hC
      repeat' (first
        | ((with_reducible (first
         | (refine PW.seq fun K1 hK1 => ?_) | (refine PW.region fun K2 hK2 => ?_) | ((refine hK3 _ ?_; clear hK3)) | ((refine opsP_nil ?_; refine hK2 _ ?_; clear hK2)) 
         | (refine PW.ret ?_) | ((refine hX1 ?_; clear hX1 hY1; try simp only [hb])) )))
        | (((with_reducible refine cC_pure ?_ (hC) (fun _ => ?_)); (focus ((repeat' constructor) <;> (simp only [purAs, purA, Vf, Bool.and_self, Tb.v, Tb.c, Idx.av, kvR, hl0']; done)))))
        | ((simp only [thenP]; (try ((repeat (fail_if_success (with_reducible refine hK1 _ ?_)); clear hK1); (with_reducible refine hK1 _ ?_); clear hK1))))
        | (((first | (((with_reducible refine opsP_cons fun K3 hK3 => ?_); simp only [wantP, opP, valP, Ur, Us])) | ((with_reducible refine PW.condM fun X1 Y1 hX1 hY1 => ?_)) | (skip)); simp (disch := omega) only [wantB_tf, St.eval, St.put, upd_app, iniT_app, avOf, avOf1, nom, cellsA, AV.okv, loadA, lenP, binP, eqP, nilP, unP, builtinP, isMapA, slA, putCells, fillA, buildA, U7, U8, Ua, Ub, Uc, Ud, Uf, Ug, Uk, Ul, Un, Up, Ut, Uu, Uv, Uz, V4, V9, Ve, Vr, PmL, simprocAttr, PmT, Tb.v, Tb.c, Idx.av, kvR, retQ, resP, tupA, fg, fgs, condP, condB_t]; try (with_reducible (first | exact co_refl _ | exact co_own _ _ _ | exact co_nilsB | exact co_nilsL _ _)))))
      exact co_kv0 _
  rw [ht] at hmn
  simp only [Bool.not_true, Bool.or_eq_false_iff, Bool.not_eq_false', decide_eq_false_iff_not] at hmn
  obtain ⟨hb, hl0⟩ := hmn
  have hl0' := eq_false hl0
  rw [hb] at hC
  have hcols := tabled_cols ht
  have hD := pRIs T R hcols
  cases hr : rowFits R T.cols
  · have hu : entryKV T X R = ([], [], 200) := by unfold entryKV; rw [if_neg (by rw [ht]; simp), if_pos hr]
    rw [hr] at hD
    rw [hu]
    obtain ⟨tid, tnm, tcols, tkey, tix⟩ := T
    unfold Tb.v Tb.c at hC hD
    repeat' (first
      | ((with_reducible (first
       | (refine PW.seq fun K1 hK1 => ?_) | (refine PW.region fun K2 hK2 => ?_) | ((refine hK3 _ ?_; clear hK3)) | ((refine opsP_nil ?_; refine hK2 _ ?_; clear hK2)) | (refine PW.skip ?_)
       | (refine PW.ret ?_) | ((refine hX1 ?_; clear hX1 hY1; try simp only [hb])) | ((refine hY1 ?_; clear hX1 hY1; try simp only [hb])) )))
      | (((with_reducible refine cC_pure ?_ (hC) (fun _ => ?_)); (focus ((repeat' constructor) <;> (simp only [purAs, purA, Vf, Bool.and_self, Tb.v, Tb.c, Idx.av, kvR, hl0']; done)))))
      | (((with_reducible refine cC_pure ?_ (hD) (fun _ => ?_)); (focus ((repeat' constructor) <;> (simp only [purAs, purA, Vf, Bool.and_self, Tb.v, Tb.c, Idx.av, kvR, hl0']; done)))))
      | ((simp only [thenP]; (try ((repeat (fail_if_success (with_reducible refine hK1 _ ?_)); clear hK1); (with_reducible refine hK1 _ ?_); clear hK1))))
      | (((first | (((with_reducible refine opsP_cons fun K3 hK3 => ?_); simp only [wantP, opP, valP, Ur, Us])) | ((with_reducible refine PW.condM fun X1 Y1 hX1 hY1 => ?_)) | (skip)); simp (disch := omega) only [wantB_ff, St.eval, St.put, upd_app, iniT_app, avOf, avOf1, nom, cellsA, AV.okv, loadA, lenP, binP, intsP, intP, nilP, unP, builtinP, isMapA, slA, putCells, fillA, buildA, U7, U8, Ua, Ub, Uc, Ud, Uf, Ug, Uk, Ul, Un, Up, Ut, Uu, Uv, Uz, V4, V9, Ve, Vr, PmL, simprocAttr, PmT, Tb.v, Tb.c, Idx.av, kvR, hl0', retQ, resP, tupA, fg, fgs, condP, condB_t, condB_f]; try (with_reducible (first | exact co_refl _ | exact co_own _ _ _ | exact co_nilsB | exact co_nilsL _ _)))))
    exact co_kv0 _
  rw [hr] at hD
  have hlen : R.length = T.cols.length := Classical.byContradiction fun h => by rw [rowFits_len h] at hr; cases hr
  have hR := rowFits_s hr
  have hin := tabled_in ht
  rw [← hlen] at hin
  have hE := pRBeginIx T.id X.id
  have hkl := keysOf_len R hR T.key hin.1
  have hxl := keysOf_len R hR X.cols hin.2
  have hbl := begB_len [T.id, X.id]
  simp only [List.length_cons, List.length_nil] at hbl
  have hF := pRKeys (begB [T.id, X.id]) R X.cols hR hin.2 hXn (by omega)
  have hG := pRKeys (begB [T.id, X.id] ++ keysOf R X.cols) R T.key hR hin.1 hKn (by rw [List.length_append]; omega)
  have hkB : begB [T.id, X.id] ++ keysOf R X.cols ++ keysOf R T.key = entB T X R := by unfold entB; rw [List.append_assoc]
  have hu : entryKV T X R = if 256 < (entB T X R).length then ([], [], 201) else (entB T X R, [], 0) := by
    unfold entryKV
    rw [if_neg (by rw [ht]; simp), if_neg (by rw [hr]; simp)]
  rw [hkB] at hG
  obtain ⟨ka, hK⟩ : ∃ K, entB T X R = K := ⟨_, rfl⟩
  obtain ⟨kb, hB⟩ : ∃ K, begB [T.id, X.id] = K := ⟨_, rfl⟩
  rw [hB] at hF hE hG
  obtain ⟨kc, hBc⟩ : ∃ K, kb ++ keysOf R X.cols = K := ⟨_, rfl⟩
  rw [hBc] at hF hG
  rw [hK] at hu hG
  clear hkB hK hB hBc hin hbl hkl hxl
  obtain ⟨tid, tnm, tcols, tkey, tix⟩ := T
  unfold Tb.v Tb.c at hC hD
  simp only at hF hE hlen hu hKn hG
  unfold orow rowm at hE hF hG
  by_cases h1 : (256 : Int) < ka.length
  · have h1' := eq_true h1
    rw [if_pos (by omega)] at hu
    rw [hu]
    repeat' (first
      | ((with_reducible (first
       | (refine PW.seq fun K1 hK1 => ?_) | (refine PW.region fun K2 hK2 => ?_) | ((refine hK3 _ ?_; clear hK3)) | ((refine opsP_nil ?_; refine hK2 _ ?_; clear hK2)) | (refine PW.skip ?_)
       | (refine PW.ret ?_) | ((refine hX1 ?_; clear hX1 hY1; try simp only [hb])) | ((refine hY1 ?_; clear hX1 hY1; try simp only [hb])) | ((refine opsO_nil ?_; refine hK2 _ ?_; clear hK2)) | ((refine keepA_intro ?_ ?_; focus (first | exact keep_same _ _ | exact keep_box _ _ _ _ | exact keep_hd _ _ _ _ _ | exact keep_02 _ _ _ _ _ _ _ | exact keep_1 _ _ _ _ _ _ _))))))
      | (((with_reducible refine cC_new ?_ (hE) ?_); (focus ((repeat' constructor) <;> (simp only [purAs, purA, Vf, Bool.and_self, Tb.v, Tb.c, Idx.av, kvR, eI, hl0', h1']; done)))))
      | (((with_reducible refine cC_row ?_ ?_ ?_ (hF) ?_); (with_reducible exact rfl); (focus (simp only [Ua]; try rfl)); (focus ((repeat' constructor) <;> (simp only [purAs, purA, Vf, Bool.and_self, Tb.v, Tb.c, Idx.av, kvR, eI, hl0', h1']; done)))))
      | (((with_reducible refine cC_row ?_ ?_ ?_ (hG) ?_); (with_reducible exact rfl); (focus (simp only [Ua]; try rfl)); (focus ((repeat' constructor) <;> (simp only [purAs, purA, Vf, Bool.and_self, Tb.v, Tb.c, Idx.av, kvR, eI, hl0', h1']; done)))))
      | (((with_reducible refine cC_pure ?_ (hC) (fun _ => ?_)); (focus ((repeat' constructor) <;> (simp only [purAs, purA, Vf, Bool.and_self, Tb.v, Tb.c, Idx.av, kvR, eI, hl0', h1']; done)))))
      | (((with_reducible refine cC_pure ?_ (hD) (fun _ => ?_)); (focus ((repeat' constructor) <;> (simp only [purAs, purA, Vf, Bool.and_self, Tb.v, Tb.c, Idx.av, kvR, eI, hl0', h1']; done)))))
      | (((with_reducible refine PW.draw (id := 7) mixed [0,1] [] [(0, true), (1, true), (2, true), (3, true), (5, true), (6, true), (7, true), (4, false), (8, false), (9, true)] (by kernel_rfl) (by decide) fun K2 hK2 => ?_)))
      | ((simp only [thenP]; (try ((repeat (fail_if_success (with_reducible refine hK1 _ ?_)); clear hK1); (with_reducible refine hK1 _ ?_); clear hK1))))
      | (((first | (((with_reducible refine opsP_cons fun K3 hK3 => ?_); simp only [wantP, opP, valP, Ur, Us])) | (((with_reducible refine opsO_first (o := ?_) ?_ fun K3 hK3 => ?_); rotate_left 1; (focus (simp only [Uz, Ub, Ua] <;> rfl)); simp only [wantP, firstP, valP])) | (((with_reducible refine opsO_only (o := ?_) ?_ fun K3 hK3 => ?_); rotate_left 1; (focus (simp only [Uz, Ub, Ua] <;> rfl)); simp only [wantP, opP, Ur, Us, Uw, Ux])) | ((with_reducible refine PW.condM fun X1 Y1 hX1 hY1 => ?_)) | (skip)); simp (disch := omega) only [wantB_ff, St.eval, St.put, upd_app, iniT_app, avOf, avOf1, nom, cellsA, AV.okv, loadA, lenP, binP, intsP, intP, nilP, unP, builtinP, isMapA, slA, putCells, fillA, buildA, U7, U8, Ua, Ub, Uc, Ud, Uf, Ug, Uk, Ul, Un, Up, Ut, Uu, Uv, Uz, V4, V9, Va, Ve, Vr, PmL, simprocAttr, PmT, Tb.v, Tb.c, Idx.av, kvR, hl0', h1', retQ, resP, tupA, fg, fgs, condP, condB_t, condB_f, firstOk, List.mem_cons]; try (with_reducible (first | exact co_refl _ | exact co_own _ _ _ | exact co_nilsB | exact co_nilsL _ _)))))
    exact co_kv0 _
  have h1' := eq_false h1
  rw [if_neg (by omega)] at hu
  rw [hu]
  repeat' (first
    | ((with_reducible (first
     | (refine PW.seq fun K1 hK1 => ?_) | (refine PW.region fun K2 hK2 => ?_) | ((refine hK3 _ ?_; clear hK3)) | ((refine opsP_nil ?_; refine hK2 _ ?_; clear hK2)) | (refine PW.skip ?_)
     | (refine PW.ret ?_) | ((refine hY1 ?_; clear hX1 hY1; try simp only [hb])) | ((refine opsO_nil ?_; refine hK2 _ ?_; clear hK2)) | ((refine keepA_intro ?_ ?_; focus (first | exact keep_same _ _ | exact keep_box _ _ _ _ | exact keep_hd _ _ _ _ _ | exact keep_02 _ _ _ _ _ _ _ | exact keep_1 _ _ _ _ _ _ _))))))
    | (((with_reducible refine cC_new ?_ (hE) ?_); (focus ((repeat' constructor) <;> (simp only [purAs, purA, Vf, Bool.and_self, Tb.v, Tb.c, Idx.av, kvR, eI, hl0', h1']; done)))))
    | (((with_reducible refine cC_row ?_ ?_ ?_ (hF) ?_); (with_reducible exact rfl); (focus (simp only [Ua]; try rfl)); (focus ((repeat' constructor) <;> (simp only [purAs, purA, Vf, Bool.and_self, Tb.v, Tb.c, Idx.av, kvR, eI, hl0', h1']; done)))))
    | (((with_reducible refine cC_row ?_ ?_ ?_ (hG) ?_); (with_reducible exact rfl); (focus (simp only [Ua]; try rfl)); (focus ((repeat' constructor) <;> (simp only [purAs, purA, Vf, Bool.and_self, Tb.v, Tb.c, Idx.av, kvR, eI, hl0', h1']; done)))))
    | (((with_reducible refine cC_pure ?_ (hC) (fun _ => ?_)); (focus ((repeat' constructor) <;> (simp only [purAs, purA, Vf, Bool.and_self, Tb.v, Tb.c, Idx.av, kvR, eI, hl0', h1']; done)))))
    | (((with_reducible refine cC_pure ?_ (hD) (fun _ => ?_)); (focus ((repeat' constructor) <;> (simp only [purAs, purA, Vf, Bool.and_self, Tb.v, Tb.c, Idx.av, kvR, eI, hl0', h1']; done)))))
    | (((with_reducible refine PW.draw (id := 7) mixed [0,1] [] [(0, true), (1, true), (2, true), (3, true), (5, true), (6, true), (7, true), (4, false), (8, false), (9, true)] (by kernel_rfl) (by decide) fun K2 hK2 => ?_)))
    | ((simp only [thenP]; (try ((repeat (fail_if_success (with_reducible refine hK1 _ ?_)); clear hK1); (with_reducible refine hK1 _ ?_); clear hK1))))
    | (((first | (((with_reducible refine opsP_cons fun K3 hK3 => ?_); simp only [wantP, opP, valP, Ur, Us])) | (((with_reducible refine opsO_first (o := ?_) ?_ fun K3 hK3 => ?_); rotate_left 1; (focus (simp only [Uz, Ub, Ua] <;> rfl)); simp only [wantP, firstP, valP])) | (((with_reducible refine opsO_only (o := ?_) ?_ fun K3 hK3 => ?_); rotate_left 1; (focus (simp only [Uz, Ub, Ua] <;> rfl)); simp only [wantP, opP, Ur, Us, Uw, Ux])) | ((with_reducible refine PW.condM fun X1 Y1 hX1 hY1 => ?_)) | (skip)); simp (disch := omega) only [wantB_ff, St.eval, St.put, upd_app, iniT_app, avOf, avOf1, nom, cellsA, AV.okv, loadA, lenP, binP, intsP, intP, nilP, unP, builtinP, isMapA, slA, putCells, fillA, buildA, U7, U8, Ua, Ub, Uc, Ud, Uf, Ug, Uk, Ul, Un, Up, Ut, Uu, Uv, Uz, V4, V9, Va, Vd, Ve, Vt, UU2, UU3, Vr, PmL, simprocAttr, PmT, Tb.v, Tb.c, Idx.av, kvR, hl0', h1', retQ, resP, tupA, fg, fgs, condP, condB_f, firstOk, List.mem_cons]; try (with_reducible (first | exact co_refl _ | exact co_own _ _ _ | exact co_nilsB | exact co_nilsL _ _)))))
  exact co_kv1 _ _
end PM
end Go.Proofs.YtfkemeamimcnjaaDoor
