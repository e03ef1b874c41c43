/- rowkey in the abstract: Entry, whatever is handed in (of at most 1048576 columns). rowkey in the abstract: the order of columns of two rows. -/
import Derived.Test.YtfkemeamimcnjaaDoorRk9
import Derived.Test.YtfkemeamimcnjaaDoorExC
namespace Go.Proofs.YtfkemeamimcnjaaDoor
open Go.RowKit
set_option maxRecDepth 100000
namespace PM
def Idx.av (x : Idx) : AV := .agg [.d (.int .i64 x.id), .d (.str x.nm), .d (.sl 1 (encL eI x.cols)), .d (.bool x.u)]
def entB (T : Tb) (X : Idx) (R : List XV) : List Int := begB [T.id, X.id] ++ (keysOf R X.cols ++ keysOf R T.key)
def entryKV (T : Tb) (X : Idx) (R : List XV) : List Int × List Int × Int :=
  if tabled T X.cols = false then ([], [], 1) else if rowFits R T.cols = false then ([], [], 200)
  else if 256 < (entB T X R).length then ([], [], 201) else (entB T X R, [], 0)
theorem co_kv1 (n : Int) (k : List Int) : Co (.tup [.agg [bs k, .nils], .d (.int .i64 n)]) (.tup [.agg [bs k, bs []], .d (.int .i64 n)]) := by
  have h : Co .nils (bs []) := co_nilsB
  unfold Co Cos
  refine ⟨_, rfl, _, _, rfl, ?_, ?_⟩
  · unfold Co Cos
    refine ⟨_, rfl, _, _, rfl, co_refl _, ?_⟩
    unfold Cos
    refine ⟨_, _, rfl, h, ?_⟩
    unfold Cos
    rfl
  · unfold Cos
    refine ⟨_, _, rfl, co_refl _, ?_⟩
    unfold Cos
    rfl
set_option maxHeartbeats 4000000 in
theorem pEntry (T : Tb) (X : Idx) (R : List XV) (_hRn : R.length ≤ 1048576) (hKn : T.key.length ≤ 1048576) (hXn : X.cols.length ≤ 1048576) : Pure Tryd.prog 17 [T.v, X.av, vl R] (kvR (entryKV T X R)) := by
  refine pure_intro Tryd.func17 rfl rfl rfl 44 rfl (fun hh => ?_)
  have hC := pTabled T X.cols
  have hD := pRowed T R
  cases ht : tabled T X.cols
  · have hu : entryKV T X R = ([], [], 1) := by unfold entryKV; rw [if_pos ht]
    rw [ht] at hC
    rw [hu]
    obtain ⟨tid, tnm, tcols, tkey, tix⟩ := T
    unfold Tb.v Tb.c at hC
    repeat' (first
      | ((with_reducible (first
       | (refine PW.seq fun K1 hK1 => ?_) | (refine PW.region fun K2 hK2 => ?_) | ((refine hK3 _ ?_; clear hK3)) | ((refine opsP_nil ?_; refine hK2 _ ?_; clear hK2)) | (refine PW.block ?_) 
       | (refine PW.ret ?_) | ((refine hX1 ?_; clear hX1 hY1; try simp only [hb])) )))
      | (((with_reducible refine cC_pure ?_ (hC) (fun _ => ?_)); (focus ((repeat' constructor) <;> (simp only [purAs, purA, Vf, Bool.and_self, Tb.v, Tb.c, Idx.av, kvR]; done)))))
      | ((simp only [thenP, blockP]; (try ((repeat (fail_if_success (with_reducible refine hK1 _ ?_)); clear hK1); (with_reducible refine hK1 _ ?_); clear hK1))))
      | (((first | (((with_reducible refine opsP_cons fun K3 hK3 => ?_); simp only [wantP, opP, valP, Ur, Us])) | ((with_reducible refine PW.condM fun X1 Y1 hX1 hY1 => ?_)) | (skip)); simp (disch := omega) only [St.eval, St.put, upd_app, iniT_app, avOf, avOf1, nom, cellsA, AV.okv, loadA, unP, putCells, fillA, buildA, U7, U8, Ua, Ub, Uc, Ud, Uf, Ug, Uk, Ul, Un, Up, Ut, Uu, Uv, V9, Ve, Vr, PmL, simprocAttr, PmT, Tb.v, Tb.c, Idx.av, kvR, retQ, resP, tupA, fg, fgs, condP, condB_t]; try (with_reducible (first | exact co_refl _ | exact co_own _ _ _ | exact co_nilsB | exact co_nilsL _ _)))))
    exact co_kv0 _
  cases hr : rowFits R T.cols
  · have hu : entryKV T X R = ([], [], 200) := by unfold entryKV; rw [if_neg (by rw [ht]; simp), if_pos hr]
    rw [ht] at hC
    rw [hr] at hD
    rw [hu]
    obtain ⟨tid, tnm, tcols, tkey, tix⟩ := T
    unfold Tb.v Tb.c at hC hD
    repeat' (first
      | ((with_reducible (first
       | (refine PW.seq fun K1 hK1 => ?_) | (refine PW.region fun K2 hK2 => ?_) | ((refine hK3 _ ?_; clear hK3)) | ((refine opsP_nil ?_; refine hK2 _ ?_; clear hK2)) | (refine PW.block ?_) 
       | (refine PW.ret ?_) | ((refine hX1 ?_; clear hX1 hY1; try simp only [hb])) | ((refine hY1 ?_; clear hX1 hY1; try simp only [hb])) )))
      | (((with_reducible refine cC_pure ?_ (hC) (fun _ => ?_)); (focus ((repeat' constructor) <;> (simp only [purAs, purA, Vf, Bool.and_self, Tb.v, Tb.c, Idx.av, kvR]; done)))))
      | (((with_reducible refine cC_pure ?_ (hD) (fun _ => ?_)); (focus ((repeat' constructor) <;> (simp only [purAs, purA, Vf, Bool.and_self, Tb.v, Tb.c, Idx.av, kvR]; done)))))
      | ((simp only [thenP, blockP]; (try ((repeat (fail_if_success (with_reducible refine hK1 _ ?_)); clear hK1); (with_reducible refine hK1 _ ?_); clear hK1))))
      | (((first | (((with_reducible refine opsP_cons fun K3 hK3 => ?_); simp only [wantP, opP, valP, Ur, Us])) | ((with_reducible refine PW.condM fun X1 Y1 hX1 hY1 => ?_)) | (skip)); simp (disch := omega) only [St.eval, St.put, upd_app, iniT_app, avOf, avOf1, nom, cellsA, AV.okv, loadA, unP, putCells, fillA, buildA, U7, U8, Ua, Ub, Uc, Ud, Uf, Ug, Uk, Ul, Un, Up, Ut, Uu, Uv, V9, Ve, Vr, PmL, simprocAttr, PmT, Tb.v, Tb.c, Idx.av, kvR, retQ, resP, tupA, fg, fgs, condP, condB_t, condB_f]; try (with_reducible (first | exact co_refl _ | exact co_own _ _ _ | exact co_nilsB | exact co_nilsL _ _)))))
    exact co_kv0 _
  have hlen : R.length = T.cols.length := Classical.byContradiction fun h => by rw [rowFits_len h] at hr; cases hr
  have hR := rowFits_s hr
  have hin := tabled_in ht
  rw [← hlen] at hin
  have hE := pBegin [T.id, X.id] (by simp)
  have hF := pColumns R T.key hR hin.1 hKn
  have hX := pColumns R X.cols hR hin.2 hXn
  have hkl := keysOf_len R hR T.key hin.1
  have hxl := keysOf_len R hR X.cols hin.2
  have hbl := begB_len [T.id, X.id]
  have hG := pConcatD [begB [T.id, X.id], keysOf R X.cols, keysOf R T.key] (by simp only [catLen, List.map_cons, List.map_nil, List.sum_cons, List.sum_nil, hbl, List.length_cons, List.length_nil]; omega)
  simp only [List.map_cons, List.map_nil, bbC, List.flatten_cons, List.flatten_nil, List.append_nil] at hG
  have hu : entryKV T X R = if 256 < (entB T X R).length then ([], [], 201) else (entB T X R, [], 0) := by
    unfold entryKV
    rw [if_neg (by rw [ht]; simp), if_neg (by rw [hr]; simp)]
  rw [show begB [T.id, X.id] ++ (keysOf R X.cols ++ keysOf R T.key) = entB T X R from rfl] at hG
  rw [ht] at hC
  rw [hr] at hD
  obtain ⟨tid, tnm, tcols, tkey, tix⟩ := T
  obtain ⟨K, hK⟩ : ∃ K, entB ⟨tid, tnm, tcols, tkey, tix⟩ X R = K := ⟨_, rfl⟩
  rw [hK] at hu hG
  unfold Tb.v Tb.c at hC hD
  by_cases h1 : (256 : Int) < K.length
  · have h1' := eq_true h1
    rw [if_pos (by omega)] at hu
    rw [hu]
    repeat' (first
      | ((with_reducible (first
       | (refine PW.seq fun K1 hK1 => ?_) | (refine PW.region fun K2 hK2 => ?_) | ((refine hK3 _ ?_; clear hK3)) | ((refine opsP_nil ?_; refine hK2 _ ?_; clear hK2)) | (refine litX_old ?_) | (refine litC_data ?_) | (refine PW.block ?_) | (refine PW.skip ?_)
       | (refine PW.ret ?_) | ((refine hX1 ?_; clear hX1 hY1; try simp only [hb])) | ((refine hY1 ?_; clear hX1 hY1; try simp only [hb])) | ((refine opsO_nil ?_; refine hK2 _ ?_; clear hK2)) | ((refine keepA_intro ?_ ?_; focus (first | exact keep_same _ _ | exact keep_box _ _ _ _ | exact keep_hd _ _ _ _ _ | exact keep_02 _ _ _ _ _ _ _ | exact keep_1 _ _ _ _ _ _ _))))))
      | (((with_reducible refine cC_pure ?_ (hC) (fun _ => ?_)); (focus ((repeat' constructor) <;> (simp only [purAs, purA, Vf, Bool.and_self, Tb.v, Tb.c, Idx.av, kvR, eI, h1']; done)))))
      | (((with_reducible refine cC_pure ?_ (hD) (fun _ => ?_)); (focus ((repeat' constructor) <;> (simp only [purAs, purA, Vf, Bool.and_self, Tb.v, Tb.c, Idx.av, kvR, eI, h1']; done)))))
      | (((with_reducible refine cC_pure ?_ (hE) (fun _ => ?_)); (focus ((repeat' constructor) <;> (simp only [purAs, purA, Vf, Bool.and_self, Tb.v, Tb.c, Idx.av, kvR, eI, h1']; done)))))
      | (((with_reducible refine cC_pure ?_ (hF) (fun _ => ?_)); (focus ((repeat' constructor) <;> (simp only; done)))))
      | (((with_reducible refine cC_pure ?_ (hX) (fun _ => ?_)); (focus ((repeat' constructor) <;> (simp only [purAs, purA, Vf, Bool.and_self, Tb.v, Tb.c, Idx.av, kvR, eI, h1']; done)))))
      | (((with_reducible refine cC_pure ?_ (hG) (fun _ => ?_)); (focus ((repeat' constructor) <;> (simp only [purAs, purA, Vf, Bool.and_self, Tb.v, Tb.c, Idx.av, kvR, eI, h1']; done)))))
      | (((with_reducible refine PW.draw (id := 5) mixed [0,1] [] [(0, true), (1, true), (2, true), (3, true), (6, true), (7, true), (8, true), (10, true), (11, true), (12, true), (4, false), (5, false), (9, false), (13, false), (14, false), (15, false), (16, true)] (by kernel_rfl) (by decide) fun K2 hK2 => ?_)))
      | ((simp only [thenP, blockP]; (try ((repeat (fail_if_success (with_reducible refine hK1 _ ?_)); clear hK1); (with_reducible refine hK1 _ ?_); clear hK1))))
      | (((first | (((with_reducible refine opsP_cons fun K3 hK3 => ?_); simp only [wantP, opP, valP, Ur, Us])) | (((with_reducible refine opsO_first (o := ?_) ?_ fun K3 hK3 => ?_); rotate_left 1; (focus (simp only [Uz, Ub, Ua] <;> rfl)); simp only [wantP, firstP, valP])) | (((with_reducible refine opsO_only (o := ?_) ?_ fun K3 hK3 => ?_); rotate_left 1; (focus (simp only [Uz, Ub, Ua] <;> rfl)); simp only [wantP, opP, Ur, Us, List.mapM_cons, List.mapM_nil, Uw, Ux])) | ((with_reducible refine PW.condM fun X1 Y1 hX1 hY1 => ?_)) | (skip)); simp (disch := omega) only [St.eval, St.put, upd_app, iniT_app, avOf, avOf1, nom, cellsA, AV.okv, loadA, lenP, binP, intsP, intP, nilP, unP, builtinP, isMapA, U3, U4, U5, slA, putCells, fillA, buildA, elA, dv1, U7, U8, Ua, Ub, Uc, Ud, Uf, Ug, Uk, Ul, Un, Up, Ut, Uu, Uv, List.mapM_cons, List.mapM_nil, Uw, Ux, V0, V1, V4, Option.bind_eq_bind, Option.pure_def, V9, Va, Ve, UU9, Vr, PmL, simprocAttr, PmT, Tb.v, Tb.c, Idx.av, kvR, h1', retQ, resP, tupA, fg, fgs, condP, condB_t, condB_f, firstOk, List.mem_cons]; try (with_reducible (first | exact co_refl _ | exact co_own _ _ _ | exact co_nilsB | exact co_nilsL _ _)))))
    exact co_kv0 _
  have h1' := eq_false h1
  rw [if_neg (by omega)] at hu
  rw [hu]
  repeat' (first
    | ((with_reducible (first
     | (refine PW.seq fun K1 hK1 => ?_) | (refine PW.region fun K2 hK2 => ?_) | ((refine hK3 _ ?_; clear hK3)) | ((refine opsP_nil ?_; refine hK2 _ ?_; clear hK2)) | (refine litX_old ?_) | (refine litC_data ?_) | (refine PW.block ?_) | (refine PW.skip ?_)
     | (refine PW.ret ?_) | ((refine hY1 ?_; clear hX1 hY1; try simp only [hb])) | ((refine opsO_nil ?_; refine hK2 _ ?_; clear hK2)) | ((refine keepA_intro ?_ ?_; focus (first | exact keep_same _ _ | exact keep_box _ _ _ _ | exact keep_hd _ _ _ _ _ | exact keep_02 _ _ _ _ _ _ _ | exact keep_1 _ _ _ _ _ _ _))))))
    | (((with_reducible refine cC_pure ?_ (hC) (fun _ => ?_)); (focus ((repeat' constructor) <;> (simp only [purAs, purA, Vf, Bool.and_self, Tb.v, Tb.c, Idx.av, kvR, eI, h1']; done)))))
    | (((with_reducible refine cC_pure ?_ (hD) (fun _ => ?_)); (focus ((repeat' constructor) <;> (simp only [purAs, purA, Vf, Bool.and_self, Tb.v, Tb.c, Idx.av, kvR, eI, h1']; done)))))
    | (((with_reducible refine cC_pure ?_ (hE) (fun _ => ?_)); (focus ((repeat' constructor) <;> (simp only [purAs, purA, Vf, Bool.and_self, Tb.v, Tb.c, Idx.av, kvR, eI, h1']; done)))))
    | (((with_reducible refine cC_pure ?_ (hF) (fun _ => ?_)); (focus ((repeat' constructor) <;> (simp only; done)))))
    | (((with_reducible refine cC_pure ?_ (hX) (fun _ => ?_)); (focus ((repeat' constructor) <;> (simp only [purAs, purA, Vf, Bool.and_self, Tb.v, Tb.c, Idx.av, kvR, eI, h1']; done)))))
    | (((with_reducible refine cC_pure ?_ (hG) (fun _ => ?_)); (focus ((repeat' constructor) <;> (simp only [purAs, purA, Vf, Bool.and_self, Tb.v, Tb.c, Idx.av, kvR, eI, h1']; done)))))
    | (((with_reducible refine PW.draw (id := 5) mixed [0,1] [] [(0, true), (1, true), (2, true), (3, true), (6, true), (7, true), (8, true), (10, true), (11, true), (12, true), (4, false), (5, false), (9, false), (13, false), (14, false), (15, false), (16, true)] (by kernel_rfl) (by decide) fun K2 hK2 => ?_)))
    | ((simp only [thenP, blockP]; (try ((repeat (fail_if_success (with_reducible refine hK1 _ ?_)); clear hK1); (with_reducible refine hK1 _ ?_); clear hK1))))
    | (((first | (((with_reducible refine opsP_cons fun K3 hK3 => ?_); simp only [wantP, opP, valP, Ur, Us])) | (((with_reducible refine opsO_first (o := ?_) ?_ fun K3 hK3 => ?_); rotate_left 1; (focus (simp only [Uz, Ub, Ua] <;> rfl)); simp only [wantP, firstP, valP])) | (((with_reducible refine opsO_only (o := ?_) ?_ fun K3 hK3 => ?_); rotate_left 1; (focus (simp only [Uz, Ub, Ua] <;> rfl)); simp only [wantP, opP, Ur, Us, List.mapM_cons, List.mapM_nil, Uw, Ux])) | ((with_reducible refine PW.condM fun X1 Y1 hX1 hY1 => ?_)) | (skip)); simp (disch := omega) only [St.eval, St.put, upd_app, iniT_app, avOf, avOf1, nom, cellsA, AV.okv, loadA, lenP, binP, intsP, intP, nilP, unP, builtinP, isMapA, U3, U4, U5, slA, putCells, fillA, buildA, elA, dv1, U7, U8, Ua, Ub, Uc, Ud, Uf, Ug, Uk, Ul, Un, Up, Ut, Uu, Uv, List.mapM_cons, List.mapM_nil, Uw, Ux, V0, V1, V4, Option.bind_eq_bind, Option.pure_def, V9, Va, Ve, Vt, UU2, UU3, UU9, Vr, PmL, simprocAttr, PmT, Tb.v, Tb.c, Idx.av, kvR, h1', retQ, resP, tupA, fg, fgs, condP, condB_f, firstOk, List.mem_cons]; try (with_reducible (first | exact co_refl _ | exact co_own _ _ _ | exact co_nilsB | exact co_nilsL _ _)))))
  exact co_kv1 _ _
end PM
end Go.Proofs.YtfkemeamimcnjaaDoor
namespace Go.Proofs.YtfkemeamimcnjaaDoor
open Go.RowKit
set_option maxRecDepth 100000
namespace PM
def ordR (A B : List XV) : List Int → Int
  | [] => 0
  | i :: l => if ordV (valAt A i) (valAt B i) = 0 then ordR A B l else ordV (valAt A i) (valAt B i)
set_option maxHeartbeats 4000000 in
theorem pLawOrder (A B : List XV) (l : List Int) (hA : ∀ i ∈ l, 0 ≤ i ∧ i < A.length) (hB : ∀ i ∈ l, 0 ≤ i ∧ i < B.length) : Pure Tryd.prog 21 [vl A, vl B, il l] (.d (.int .i64 (ordR A B l))) := by
  refine pure_intro Tryd.func21 rfl rfl rfl 33 rfl (fun hh => ?_)
  have hml : maxLen = 9223372036854775807 := rfl
  have hl := (has_sl (hh (il l) (by simp))).1
  rw [encL_len] at hl
  repeat' (first
    | ((with_reducible (first
     | (refine PW.seq fun K1 hK1 => ?_) | (refine PW.region fun K2 hK2 => ?_) | ((refine hK3 _ ?_; clear hK3)) | ((refine opsP_nil ?_; refine hK2 _ ?_; clear hK2)) | (refine PW.block ?_) 
     )))
    | ((simp only [thenP]; (try ((repeat (fail_if_success (with_reducible refine hK1 _ ?_)); clear hK1); (with_reducible refine hK1 _ ?_); clear hK1))))
    | (((first | (((with_reducible refine opsP_cons fun K3 hK3 => ?_); simp only [wantP, opP, valP])) | (skip)); simp (disch := omega) only [St.eval, St.put, avOf, avOf1, nom, PmL, simprocAttr]; try (with_reducible (first | exact co_refl _ | exact co_own _ _ _ | exact co_nilsB | exact co_nilsL _ _)))))
  (with_reducible refine PW.loop (fun n s => ∃ (k : Nat), s.t 0 = vl A ∧ s.t 1 = vl B ∧ s.t 2 = il l ∧ s.t 7 = .d (.int .i64 k) ∧ s.n = 33 ∧ s.m = nom ∧ k ≤ l.length ∧ ordR A B l = ordR A B (l.drop k) ∧ n = l.length - k) l.length ?_ ?_)
  · exact ⟨0, rfl, rfl, rfl, rfl, rfl, rfl, Nat.zero_le _, rfl, rfl⟩
  rintro n ⟨t, nn, m⟩ ⟨k, h0, h1, h2, h7, hn, hm, hk, hor, hnk⟩ - -
  simp only at h0 h1 h2 h7 hn hm
  subst hn hm hnk
  by_cases hlt : (k : Int) < l.length
  · have hlt' := eq_true hlt
    obtain ⟨x, hx⟩ : ∃ x, l[k]? = some x := ⟨_, List.getElem?_eq_getElem (by omega)⟩
    have hxa := hA x (List.mem_of_getElem? hx)
    have hxb := hB x (List.mem_of_getElem? hx)
    have hw : IntKind.i64.wrap ((k : Int) + 1) = k + 1 := IntWalk.i64_in ((k : Int) + 1) (by omega)
    obtain ⟨i, rfl⟩ : ∃ i : Nat, x = i := ⟨x.toNat, by omega⟩
    obtain ⟨a, ha⟩ : ∃ a, A[i]? = some a := ⟨_, List.getElem?_eq_getElem (by omega)⟩
    obtain ⟨b, hb⟩ : ∃ b, B[i]? = some b := ⟨_, List.getElem?_eq_getElem (by omega)⟩
    have hva : valAt A i = a := by unfold valAt; rw [List.getD_eq_getElem?_getD, Int.toNat_natCast, ha]; rfl
    have hvb : valAt B i = b := by unfold valAt; rw [List.getD_eq_getElem?_getD, Int.toNat_natCast, hb]; rfl
    have hC := pROrder a b
    unfold XV.v XV.c at hC
    rw [dropG hx, ordR, hva, hvb] at hor
    obtain ⟨c, hc⟩ : ∃ c, ordV a b = c := ⟨_, rfl⟩
    rw [hc] at hC hor
    by_cases hc0 : c = 0
    · have hc0' := eq_true hc0
      rw [if_pos hc0] at hor
      repeat' (first
        | ((with_reducible (first
         | (refine PW.seq fun K1 hK1 => ?_) | (refine PW.region fun K2 hK2 => ?_) | ((refine hK3 _ ?_; clear hK3)) | ((refine opsP_nil ?_; refine hK2 _ ?_; clear hK2)) | (refine PW.block ?_) | (refine PW.skip ?_)
         | ((refine hX1 ?_; clear hX1 hY1; try simp only [hb])) | ((refine hY1 ?_; clear hX1 hY1; try simp only [hb])) | ((refine opsO_nil ?_; refine hK2 _ ?_; clear hK2)) | ((refine keepA_intro ?_ ?_; focus (first | exact keep_same _ _ | exact keep_box _ _ _ _ | exact keep_hd _ _ _ _ _ | exact keep_02 _ _ _ _ _ _ _ | exact keep_1 _ _ _ _ _ _ _))))))
        | (((with_reducible refine cC_pure ?_ (hC) (fun _ => ?_)); (focus ((repeat' constructor) <;> (simp only [purAs, purA, Vf, Bool.and_self, h0, h1, h2, h7, hlt', hx, ha, hb, hw, eI, XV.cd, hc0']; done)))))
        | (((with_reducible refine PW.drawR (id := 4) mixed [] [(0, true), (1, true), (2, true), (3, true), (4, true), (5, true), (6, true), (7, true), (8, true), (9, true), (10, true), (11, true), (12, true), (13, true), (14, false), (15, true)] (by kernel_rfl) (by decide) fun K2 hK2 => ?_)))
        | (((with_reducible refine And.intro ?_ ?_); (focus (first | omega | (simp; done) | assumption))))
        | ((simp only [thenP, blockP]; (try ((repeat (fail_if_success (with_reducible refine hK1 _ ?_)); clear hK1); (with_reducible refine hK1 _ ?_); clear hK1))))
        | (((first | (((with_reducible refine opsP_cons fun K3 hK3 => ?_); simp only [wantP, opP, valP, Ur, Us])) | (((with_reducible refine opsO_first (o := ?_) ?_ fun K3 hK3 => ?_); rotate_left 1; (focus (simp only [Uz, Ub, Ua] <;> rfl)); simp only [wantP, firstP, valP])) | (((with_reducible refine opsO_only (o := ?_) ?_ fun K3 hK3 => ?_); rotate_left 1; (focus (simp only [Uz, Ub, Ua] <;> rfl)); simp only [wantP, opP, Ur, Us, Uw, Ux])) | ((with_reducible refine PW.condM fun X1 Y1 hX1 hY1 => ?_)) | (skip)); simp (disch := omega) only [St.eval, St.put, upd_app, avOf, avOf1, nom, loadA, lenP, binP, intsP, intP, nilP, builtinP, isMapA, slA, Uf, Ug, Un, Up, Ur, Us, Uv, V1, V2, V7, V9, Vr, PmL, simprocAttr, PmT, h0, h1, h2, h7, hlt', hx, ha, hb, hw, eI, XV.cd, hc0', condP, condB_t, condB_f, firstOk]; try (with_reducible (first | exact co_refl _ | exact co_own _ _ _ | exact co_nilsB | exact co_nilsL _ _)))))
      refine ⟨l.length - (k + 1), by omega, k + 1, ?_, ?_, ?_, ?_, ?_, ?_, by omega, hor, rfl⟩
      all_goals (simp only [St.cut, Mem.cut, fg, upd_app, Nat.reduceEqDiff, ↓reduceIte, List.take_nil, List.map_nil, Int.natCast_add, Int.cast_ofNat_Int, h0, h1, h2]; try rfl)
    · have hc0' := eq_false hc0
      rw [if_neg hc0] at hor
      rw [hor]
      repeat' (first
        | ((with_reducible (first
         | (refine PW.seq fun K1 hK1 => ?_) | (refine PW.region fun K2 hK2 => ?_) | ((refine hK3 _ ?_; clear hK3)) | ((refine opsP_nil ?_; refine hK2 _ ?_; clear hK2)) | (refine PW.block ?_) | (refine PW.skip ?_)
         | (refine PW.ret ?_) | ((refine hX1 ?_; clear hX1 hY1; try simp only [hb])) | ((refine opsO_nil ?_; refine hK2 _ ?_; clear hK2)) | ((refine keepA_intro ?_ ?_; focus (first | exact keep_same _ _ | exact keep_box _ _ _ _ | exact keep_hd _ _ _ _ _ | exact keep_02 _ _ _ _ _ _ _ | exact keep_1 _ _ _ _ _ _ _))))))
        | (((with_reducible refine cC_pure ?_ (hC) (fun _ => ?_)); (focus ((repeat' constructor) <;> (simp only [purAs, purA, Vf, Bool.and_self, h0, h1, h2, h7, hlt', hx, ha, hb, hw, eI, XV.cd, hc0']; done)))))
        | (((with_reducible refine PW.drawR (id := 4) mixed [] [(0, true), (1, true), (2, true), (3, true), (4, true), (5, true), (6, true), (7, true), (8, true), (9, true), (10, true), (11, true), (12, true), (13, true), (14, false), (15, true)] (by kernel_rfl) (by decide) fun K2 hK2 => ?_)))
        | (((with_reducible refine And.intro ?_ ?_); (focus (first | omega | (simp; done) | assumption))))
        | ((simp only [thenP, blockP]; (try ((repeat (fail_if_success (with_reducible refine hK1 _ ?_)); clear hK1); (with_reducible refine hK1 _ ?_); clear hK1))))
        | (((first | (((with_reducible refine opsP_cons fun K3 hK3 => ?_); simp only [wantP, opP, valP, Ur, Us])) | (((with_reducible refine opsO_first (o := ?_) ?_ fun K3 hK3 => ?_); rotate_left 1; (focus (simp only [Uz, Ub, Ua] <;> rfl)); simp only [wantP, firstP, valP])) | (((with_reducible refine opsO_only (o := ?_) ?_ fun K3 hK3 => ?_); rotate_left 1; (focus (simp only [Uz, Ub, Ua] <;> rfl)); simp only [wantP, opP, Ur, Us, Uw, Ux])) | ((with_reducible refine PW.condM fun X1 Y1 hX1 hY1 => ?_)) | (skip)); simp (disch := omega) only [St.eval, St.put, upd_app, avOf, avOf1, nom, loadA, lenP, binP, intsP, intP, nilP, builtinP, isMapA, slA, Uf, Ug, Un, Up, Ur, Us, Uv, V1, V2, V7, V9, Ve, Vr, PmL, simprocAttr, PmT, h0, h1, h2, h7, hlt', hx, ha, hb, eI, XV.cd, hc0', retQ, resP, tupA, fg, condP, condB_t, firstOk]; try (with_reducible (first | exact co_refl _ | exact co_own _ _ _ | exact co_nilsB | exact co_nilsL _ _)))))
  have hkl : k = l.length := by omega
  subst hkl
  have hlt' := eq_false hlt
  rw [List.drop_eq_nil_of_le (Nat.le_refl _), ordR] at hor
  repeat' (first
    | ((with_reducible (first
     | (refine PW.seq fun K1 hK1 => ?_) | (refine PW.region fun K2 hK2 => ?_) | ((refine hK3 _ ?_; clear hK3)) | ((refine opsP_nil ?_; refine hK2 _ ?_; clear hK2)) 
     | (refine PW.exit ?_) | (refine PW.ret ?_) | ((refine hY1 ?_; clear hX1 hY1; try simp only [hb])) )))
    | ((simp only [thenP, blockP, ↓reduceIte]; (try ((repeat (fail_if_success (with_reducible refine hK1 _ ?_)); clear hK1); (with_reducible refine hK1 _ ?_); clear hK1))))
    | (((first | (((with_reducible refine opsP_cons fun K3 hK3 => ?_); simp only [wantP, opP, valP, Ur, Us])) | ((with_reducible refine PW.condM fun X1 Y1 hX1 hY1 => ?_)) | (skip)); simp (disch := omega) only [St.eval, St.put, upd_app, avOf, avOf1, nom, lenP, binP, intsP, intP, nilP, builtinP, isMapA, slA, PmL, simprocAttr, PmT, h2, h7, hlt', retQ, resP, tupA, fg, condP, condB_f]; try (with_reducible (first | exact co_refl _ | exact co_own _ _ _ | exact co_nilsB | exact co_nilsL _ _)))))
  rw [hor]
  exact co_refl _
end PM
end Go.Proofs.YtfkemeamimcnjaaDoor
