/- rowkey in the abstract: Entry, whatever is handed in (of at most 1048576 columns). rowkey in the abstract: the order of columns of two rows. -/
import Derived.Test.YtfkemeamimcnjaaDoorRk9
namespace Go.Proofs.YtfkemeamimcnjaaDoor
open Go.RowKit
set_option maxRecDepth 100000
namespace PM
def Idx.av (x : Idx) : AV := .agg [.d (.int .i64 x.id), .d (.str x.nm), .d (.sl 1 (encL eI x.cols)), .d (.bool x.u)]
def entB (T : Tb) (X : Idx) (R : List XV) : List Int := begB [T.id, X.id] ++ (keysOf R X.cols ++ keysOf R T.key)
def entryKV (T : Tb) (X : Idx) (R : List XV) : List Int × List Int × Int :=
  if tabled T X.cols = false then ([], [], 1) else if rowFits R T.cols = false then ([], [], 200)
  else if 256 < (entB T X R).length then ([], [], 201) else (entB T X R, [], 0)
theorem co_kv1 (n : Int) (k : List Int) : Co (.tup [.agg [bs k, .nils], .d (.int .i64 n)]) (.tup [.agg [bs k, bs []], .d (.int .i64 n)]) := by
  have h : Co .nils (bs []) := co_nilsB
  unfold Co Cos
  refine ⟨_, rfl, _, _, rfl, ?_, ?_⟩
  · unfold Co Cos
    refine ⟨_, rfl, _, _, rfl, co_refl _, ?_⟩
    unfold Cos
    refine ⟨_, _, rfl, h, ?_⟩
    unfold Cos
    rfl
  · unfold Cos
    refine ⟨_, _, rfl, co_refl _, ?_⟩
    unfold Cos
    rfl
set_option maxHeartbeats 4000000 in
theorem pEntry (T : Tb) (X : Idx) (R : List XV) (_hRn : R.length ≤ 1048576) (hKn : T.key.length ≤ 1048576) (hXn : X.cols.length ≤ 1048576) : Pure Tryd.prog 17 [T.v, X.av, vl R] (kvR (entryKV T X R)) := by
  refine pure_intro Tryd.func17 rfl rfl rfl 44 rfl (fun hh => ?_)
  have hC := pTabled T X.cols
  have hD := pRowed T R
  cases ht : tabled T X.cols
  · have hu : entryKV T X R = ([], [], 1) := by unfold entryKV; rw [if_pos ht]
    rw [ht] at hC
    rw [hu]
    obtain ⟨tid, tnm, tcols, tkey, tix⟩ := T
    unfold Tb.v Tb.c at hC
    repeat' (first
      | ((with_reducible (first
       | (refine PW.seq fun K1 hK1 => ?_) | (refine PW.region fun K2 hK2 => ?_) | ((refine hK3 _ ?_; clear hK3)) | ((refine opsP_nil ?_; refine hK2 _ ?_; clear hK2)) | (refine PW.block ?_) 
       | (refine PW.ret ?_) | ((refine hX1 ?_; clear hX1 hY1; try simp only [hb])) )))
      | (((with_reducible refine cC_pure ?_ (hC) (fun _ => ?_)); (focus ((repeat' constructor) <;> (simp only [purAs, purA, Vf, Bool.and_self, Tb.v, Tb.c, Idx.av, kvR]; done)))))
      | ((simp only [thenP, blockP]; (try ((repeat (fail_if_success (with_reducible refine hK1 _ ?_)); clear hK1); (with_reducible refine hK1 _ ?_); clear hK1))))
      | (((first | (((with_reducible refine opsP_cons fun K3 hK3 => ?_); simp only [wantP, opP, valP, Ur, Us])) | ((with_reducible refine PW.condM fun X1 Y1 hX1 hY1 => ?_)) | (skip)); simp (disch := omega) only [St.eval, St.put, upd_app, iniT_app, avOf, avOf1, nom, cellsA, AV.okv, loadA, unP, putCells, fillA, buildA, U7, U8, Ua, Ub, Uc, Ud, Uf, Ug, Uk, Ul, Un, Up, Ut, Uu, Uv, V9, Ve, Vr, PmL, simprocAttr, PmT, Tb.v, Tb.c, Idx.av, kvR, retQ, resP, tupA, fg, fgs, condP, condB_t]; try (with_reducible (first | exact co_refl _ | exact co_own _ _ _ | exact co_nilsB | exact co_nilsL _ _)))))
    exact co_kv0 _
  cases hr : rowFits R T.cols
  · have hu : entryKV T X R = ([], [], 200) := by unfold entryKV; rw [if_neg (by rw [ht]; simp), if_pos hr]
    rw [ht] at hC
    rw [hr] at hD
    rw [hu]
    obtain ⟨tid, tnm, tcols, tkey, tix⟩ := T
    unfold Tb.v Tb.c at hC hD
    repeat' (first
      | ((with_reducible (first
       | (refine PW.seq fun K1 hK1 => ?_) | (refine PW.region fun K2 hK2 => ?_) | ((refine hK3 _ ?_; clear hK3)) | ((refine opsP_nil ?_; refine hK2 _ ?_; clear hK2)) | (refine PW.block ?_) 
       | (refine PW.ret ?_) | ((refine hX1 ?_; clear hX1 hY1; try simp only [hb])) | ((refine hY1 ?_; clear hX1 hY1; try simp only [hb])) )))
      | (((with_reducible refine cC_pure ?_ (hC) (fun _ => ?_)); (focus ((repeat' constructor) <;> (simp only [purAs, purA, Vf, Bool.and_self, Tb.v, Tb.c, Idx.av, kvR]; done)))))
      | (((with_reducible refine cC_pure ?_ (hD) (fun _ => ?_)); (focus ((repeat' constructor) <;> (simp only [purAs, purA, Vf, Bool.and_self, Tb.v, Tb.c, Idx.av, kvR]; done)))))
      | ((simp only [thenP, blockP]; (try ((repeat (fail_if_success (with_reducible refine hK1 _ ?_)); clear hK1); (with_reducible refine hK1 _ ?_); clear hK1))))
      | (((first | (((with_reducible refine opsP_cons fun K3 hK3 => ?_); simp only [wantP, opP, valP, Ur, Us])) | ((with_reducible refine PW.condM fun X1 Y1 hX1 hY1 => ?_)) | (skip)); simp (disch := omega) only [St.eval, St.put, upd_app, iniT_app, avOf, avOf1, nom, cellsA, AV.okv, loadA, unP, putCells, fillA, buildA, U7, U8, Ua, Ub, Uc, Ud, Uf, Ug, Uk, Ul, Un, Up, Ut, Uu, Uv, V9, Ve, Vr, PmL, simprocAttr, PmT, Tb.v, Tb.c, Idx.av, kvR, retQ, resP, tupA, fg, fgs, condP, condB_t, condB_f]; try (with_reducible (first | exact co_refl _ | exact co_own _ _ _ | exact co_nilsB | exact co_nilsL _ _)))))
    exact co_kv0 _
  have hlen : R.length = T.cols.length := Classical.byContradiction fun h => by rw [rowFits_len h] at hr; cases hr
  have hR := rowFits_s hr
  have hin := tabled_in ht
  rw [← hlen] at hin
  have hE := pBegin [T.id, X.id] (by simp)
  have hF := pColumns R T.key hR hin.1 hKn
  have hX := pColumns R X.cols hR hin.2 hXn
  have hkl := keysOf_len R hR T.key hin.1
  have hxl := keysOf_len R hR X.cols hin.2
  have hbl := begB_len [T.id, X.id]
  have hG := pConcatD [begB [T.id, X.id], keysOf R X.cols, keysOf R T.key] (by simp only [catLen, List.map_cons, List.map_nil, List.sum_cons, List.sum_nil, hbl, List.length_cons, List.length_nil]; omega)
  simp only [List.map_cons, List.map_nil, bbC, List.flatten_cons, List.flatten_nil, List.append_nil] at hG
  have hu : entryKV T X R = if 256 < (entB T X R).length then ([], [], 201) else (entB T X R, [], 0) := by
    unfold entryKV
    rw [if_neg (by rw [ht]; simp), if_neg (by rw [hr]; simp)]
  rw [show begB [T.id, X.id] ++ (keysOf R X.cols ++ keysOf R T.key) = entB T X R from rfl] at hG
  rw [ht] at hC
  rw [hr] at hD
  obtain ⟨tid, tnm, tcols, tkey, tix⟩ := T
  obtain ⟨K, hK⟩ : ∃ K, entB ⟨tid, tnm, tcols, tkey, tix⟩ X R = K := ⟨_, rfl⟩
  rw [hK] at hu hG
  unfold Tb.v Tb.c at hC hD
  by_cases h1 : (256 : Int) < K.length
  · have h1' := eq_true h1
    rw [if_pos (by omega)] at hu
    rw [hu]
    repeat' (first
      | ((with_reducible (first
       | (refine PW.seq fun K1 hK1 => ?_) | (refine PW.region fun K2 hK2 => ?_) | ((refine hK3 _ ?_; clear hK3)) | ((refine opsP_nil ?_; refine hK2 _ ?_; clear hK2)) | (refine litX_old ?_) | (refine litC_data ?_) | (refine PW.block ?_) | (refine PW.skip ?_)
       | (refine PW.ret ?_) | ((refine hX1 ?_; clear hX1 hY1; try simp only [hb])) | ((refine hY1 ?_; clear hX1 hY1; try simp only [hb])) | ((refine opsO_nil ?_; refine hK2 _ ?_; clear hK2)) | ((refine keepA_intro ?_ ?_; focus (first | exact keep_same _ _ | exact keep_box _ _ _ _ | exact keep_hd _ _ _ _ _ | exact keep_02 _ _ _ _ _ _ _ | exact keep_1 _ _ _ _ _ _ _))))))
      | (((with_reducible refine cC_pure ?_ (hC) (fun _ => ?_)); (focus ((repeat' constructor) <;> (simp only [purAs, purA, Vf, Bool.and_self, Tb.v, Tb.c, Idx.av, kvR, eI, h1']; done)))))
      | (((with_reducible refine cC_pure ?_ (hD) (fun _ => ?_)); (focus ((repeat' constructor) <;> (simp only [purAs, purA, Vf, Bool.and_self, Tb.v, Tb.c, Idx.av, kvR, eI, h1']; done)))))
      | (((with_reducible refine cC_pure ?_ (hE) (fun _ => ?_)); (focus ((repeat' constructor) <;> (simp only [purAs, purA, Vf, Bool.and_self, Tb.v, Tb.c, Idx.av, kvR, eI, h1']; done)))))
      | (((with_reducible refine cC_pure ?_ (hF) (fun _ => ?_)); (focus ((repeat' constructor) <;> (simp only; done)))))
      | (((with_reducible refine cC_pure ?_ (hX) (fun _ => ?_)); (focus ((repeat' constructor) <;> (simp only [purAs, purA, Vf, Bool.and_self, Tb.v, Tb.c, Idx.av, kvR, eI, h1']; done)))))
      | (((with_reducible refine cC_pure ?_ (hG) (fun _ => ?_)); (focus ((repeat' constructor) <;> (simp only [purAs, purA, Vf, Bool.and_self, Tb.v, Tb.c, Idx.av, kvR, eI, h1']; done)))))
      | (((with_reducible refine PW.draw (id := 5) mixed [0,1] [] [(0, true), (1, true), (2, true), (3, true), (6, true), (7, true), (8, true), (10, true), (11, true), (12, true), (4, false), (5, false), (9, false), (13, false), (14, false), (15, false), (16, true)] (by kernel_rfl) (by decide) fun K2 hK2 => ?_)))
      | ((simp only [thenP, blockP]; (try ((repeat (fail_if_success (with_reducible refine hK1 _ ?_)); clear hK1); (with_reducible refine hK1 _ ?_); clear hK1))))
      | (((first | (((with_reducible refine opsP_cons fun K3 hK3 => ?_); simp only [wantP, opP, valP, Ur, Us])) | (((with_reducible refine opsO_first (o := ?_) ?_ fun K3 hK3 => ?_); rotate_left 1; (focus (simp only [Uz, Ub, Ua] <;> rfl)); simp only [wantP, firstP, valP])) | (((with_reducible refine opsO_only (o := ?_) ?_ fun K3 hK3 => ?_); rotate_left 1; (focus (simp only [Uz, Ub, Ua] <;> rfl)); simp only [wantP, opP, Ur, Us, List.mapM_cons, List.mapM_nil, Uw, Ux])) | ((with_reducible refine PW.condM fun X1 Y1 hX1 hY1 => ?_)) | (skip)); simp (disch := omega) only [St.eval, St.put, upd_app, iniT_app, avOf, avOf1, nom, cellsA, AV.okv, loadA, lenP, binP, intsP, intP, nilP, unP, builtinP, isMapA, U3, U4, U5, slA, putCells, fillA, buildA, elA, dv1, U7, U8, Ua, Ub, Uc, Ud, Uf, Ug, Uk, Ul, Un, Up, Ut, Uu, Uv, List.mapM_cons, List.mapM_nil, Uw, Ux, V0, V1, V4, Option.bind_eq_bind, Option.pure_def, V9, Va, Ve, UU9, Vr, PmL, simprocAttr, PmT, Tb.v, Tb.c, Idx.av, kvR, h1', retQ, resP, tupA, fg, fgs, condP, condB_t, condB_f, firstOk, List.mem_cons]; try (with_reducible (first | exact co_refl _ | exact co_own _ _ _ | exact co_nilsB | exact co_nilsL _ _)))))
    exact co_kv0 _
  have h1' := eq_false h1
  rw [if_neg (by omega)] at hu
  rw [hu]
  repeat' (first
    | ((with_reducible (first
     | (refine PW.seq fun K1 hK1 => ?_) | (refine PW.region fun K2 hK2 => ?_) | ((refine hK3 _ ?_; clear hK3)) | ((refine opsP_nil ?_; refine hK2 _ ?_; clear hK2)) | (refine litX_old ?_) | (refine litC_data ?_) | (refine PW.block ?_) | (refine PW.skip ?_)
     | (refine PW.ret ?_) | ((refine hY1 ?_; clear hX1 hY1; try simp only [hb])) | ((refine opsO_nil ?_; refine hK2 _ ?_; clear hK2)) | ((refine keepA_intro ?_ ?_; focus (first | exact keep_same _ _ | exact keep_box _ _ _ _ | exact keep_hd _ _ _ _ _ | exact keep_02 _ _ _ _ _ _ _ | exact keep_1 _ _ _ _ _ _ _))))))
    | (((with_reducible refine cC_pure ?_ (hC) (fun _ => ?_)); (focus ((repeat' constructor) <;> (simp only [purAs, purA, Vf, Bool.and_self, Tb.v, Tb.c, Idx.av, kvR, eI, h1']; done)))))
    | (((with_reducible refine cC_pure ?_ (hD) (fun _ => ?_)); (focus ((repeat' constructor) <;> (simp only [purAs, purA, Vf, Bool.and_self, Tb.v, Tb.c, Idx.av, kvR, eI, h1']; done)))))
    | (((with_reducible refine cC_pure ?_ (hE) (fun _ => ?_)); (focus ((repeat' constructor) <;> (simp only [purAs, purA, Vf, Bool.and_self, Tb.v, Tb.c, Idx.av, kvR, eI, h1']; done)))))
    | (((with_reducible refine cC_pure ?_ (hF) (fun _ => ?_)); (focus ((repeat' constructor) <;> (simp only; done)))))
    | (((with_reducible refine cC_pure ?_ (hX) (fun _ => ?_)); (focus ((repeat' constructor) <;> (simp only [purAs, purA, Vf, Bool.and_self, Tb.v, Tb.c, Idx.av, kvR, eI, h1']; done)))))
    | (((with_reducible refine cC_pure ?_ (hG) (fun _ => ?_)); (focus ((repeat' constructor) <;> (simp only [purAs, purA, Vf, Bool.and_self, Tb.v, Tb.c, Idx.av, kvR, eI, h1']; done)))))
    | (((with_reducible refine PW.draw (id := 5) mixed [0,1] [] [(0, true), (1, true), (2, true), (3, true), (6, true), (7, true), (8, true), (10, true), (11, true), (12, true), (4, false), (5, false), (9, false), (13, false), (14, false), (15, false), (16, true)] (by kernel_rfl) (by decide) fun K2 hK2 => ?_)))
    | ((simp only [thenP, blockP]; (try ((repeat (fail_if_success (with_reducible refine hK1 _ ?_)); clear hK1); (with_reducible refine hK1 _ ?_); clear hK1))))
    | (((first | (((with_reducible refine opsP_cons fun K3 hK3 => ?_); simp only [wantP, opP, valP, Ur, Us])) | (((with_reducible refine opsO_first (o := ?_) ?_ fun K3 hK3 => ?_); rotate_left 1; (focus (simp only [Uz, Ub, Ua] <;> rfl)); simp only [wantP, firstP, valP])) | (((with_reducible refine opsO_only (o := ?_) ?_ fun K3 hK3 => ?_); rotate_left 1; (focus (simp only [Uz, Ub, Ua] <;> rfl)); simp only [wantP, opP, Ur, Us, List.mapM_cons, List.mapM_nil, Uw, Ux])) | ((with_reducible refine PW.condM fun X1 Y1 hX1 hY1 => ?_)) | (skip)); simp (disch := omega) only [St.eval, St.put, upd_app, iniT_app, avOf, avOf1, nom, cellsA, AV.okv, loadA, lenP, binP, intsP, intP, nilP, unP, builtinP, isMapA, U3, U4, U5, slA, putCells, fillA, buildA, elA, dv1, U7, U8, Ua, Ub, Uc, Ud, Uf, Ug, Uk, Ul, Un, Up, Ut, Uu, Uv, List.mapM_cons, List.mapM_nil, Uw, Ux, V0, V1, V4, Option.bind_eq_bind, Option.pure_def, V9, Va, Ve, Vt, UU2, UU3, UU9, Vr, PmL, simprocAttr, PmT, Tb.v, Tb.c, Idx.av, kvR, h1', retQ, resP, tupA, fg, fgs, condP, condB_f, firstOk, List.mem_cons]; try (with_reducible (first | exact co_refl _ | exact co_own _ _ _ | exact co_nilsB | exact co_nilsL _ _)))))
  exact co_kv1 _ _
end PM
end Go.Proofs.YtfkemeamimcnjaaDoor
