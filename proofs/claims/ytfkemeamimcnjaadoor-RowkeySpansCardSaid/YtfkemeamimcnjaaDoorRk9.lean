/- rowkey in the abstract: a row as a key and a value. rowkey in the abstract: a row that may be handed in. rowkey in the abstract: Row, whatever is handed in (of at most 1048576 columns). -/
import Derived.Test.YtfkemeamimcnjaaDoorRk6
namespace Go.Proofs.YtfkemeamimcnjaaDoor
open Go.RowKit
set_option maxRecDepth 100000
namespace PM
/-- what a row's value is, of the columns from number k on -/
def valsFrom (key : List Int) (k : Nat) : List XV → List Int
  | [] => []
  | v :: R => (if key.contains (k : Int) = true then [] else plainB v) ++ valsFrom key (k + 1) R
def keyB (T : Tb) (R : List XV) : List Int := begB [T.id, 1] ++ keysOf R T.key
def rowKV (T : Tb) (R : List XV) : List Int × List Int × Int :=
  if tabled T T.key = false then ([], [], 1) else if rowFits R T.cols = false then ([], [], 200)
  else if 256 < (keyB T R).length ∨ 65536 < (valsFrom T.key 0 R).length then ([], [], 201) else (keyB T R, valsFrom T.key 0 R, 0)
def kvR (x : List Int × List Int × Int) : AV := .tup [.agg [bs x.1, bs x.2.1], .d (.int .i64 x.2.2)]
theorem co_kv0 (n : Int) : Co (.tup [.agg [.nils, .nils], .d (.int .i64 n)]) (.tup [.agg [bs [], bs []], .d (.int .i64 n)]) := by
  have h : Co .nils (bs []) := co_nilsB
  unfold Co Cos
  refine ⟨_, rfl, _, _, rfl, ?_, ?_⟩
  · unfold Co Cos
    refine ⟨_, rfl, _, _, rfl, h, ?_⟩
    unfold Cos
    refine ⟨_, _, rfl, h, ?_⟩
    unfold Cos
    rfl
  · unfold Cos
    refine ⟨_, _, rfl, co_refl _, ?_⟩
    unfold Cos
    rfl
set_option maxHeartbeats 4000000 in
theorem pRowNo (T : Tb) (R : List XV) (h : tabled T T.key = false ∨ rowFits R T.cols = false) : Pure Tryd.prog 11 [T.v, vl R] (kvR (rowKV T R)) := by
  refine pure_intro Tryd.func11 rfl rfl rfl 68 rfl (fun hh => ?_)
  have hC := pTabled T T.key
  have hD := pRowed T R
  obtain ⟨tid, tnm, tcols, tkey, tix⟩ := T
  simp only at h hC hD
  cases ht : tabled ⟨tid, tnm, tcols, tkey, tix⟩ tkey
  · have hu : rowKV ⟨tid, tnm, tcols, tkey, tix⟩ R = ([], [], 1) := by unfold rowKV; rw [if_pos ht]
    rw [ht] at hC
    rw [hu]
    unfold Tb.v Tb.c at hC
    repeat' (first
      | ((with_reducible (first
       | (refine PW.seq fun K1 hK1 => ?_) | (refine PW.region fun K2 hK2 => ?_) | ((refine hK3 _ ?_; clear hK3)) | ((refine opsP_nil ?_; refine hK2 _ ?_; clear hK2)) | (refine PW.block ?_) 
       | (refine PW.ret ?_) | ((refine hX1 ?_; clear hX1 hY1; try simp only [hb])) )))
      | (((with_reducible refine cC_pure ?_ (hC) (fun _ => ?_)); (focus ((repeat' constructor) <;> (simp only [purAs, purA, Vf, Bool.and_self, Tb.v, Tb.c, kvR]; done)))))
      | ((simp only [thenP, blockP]; (try ((repeat (fail_if_success (with_reducible refine hK1 _ ?_)); clear hK1); (with_reducible refine hK1 _ ?_); clear hK1))))
      | (((first | (((with_reducible refine opsP_cons fun K3 hK3 => ?_); simp only [wantP, opP, valP, Ur, Us])) | ((with_reducible refine PW.condM fun X1 Y1 hX1 hY1 => ?_)) | (skip)); simp (disch := omega) only [St.eval, St.put, upd_app, iniT_app, avOf, avOf1, nom, cellsA, AV.okv, loadA, unP, putCells, fillA, buildA, U7, Ua, Ub, Uc, Ud, Uf, Ug, Uk, Ul, Un, Up, Ut, Uu, Uv, V9, Ve, Vr, PmL, simprocAttr, PmT, Tb.v, Tb.c, kvR, retQ, resP, tupA, fg, fgs, condP, condB_t]; try (with_reducible (first | exact co_refl _ | exact co_own _ _ _ | exact co_nilsB | exact co_nilsL _ _)))))
    exact co_kv0 _
  · have hr : rowFits R tcols = false := h.resolve_left (by rw [ht]; simp)
    have hu : rowKV ⟨tid, tnm, tcols, tkey, tix⟩ R = ([], [], 200) := by unfold rowKV; rw [if_neg (by rw [ht]; simp), if_pos hr]
    rw [ht] at hC
    rw [hr] at hD
    rw [hu]
    unfold Tb.v Tb.c at hC hD
    repeat' (first
      | ((with_reducible (first
       | (refine PW.seq fun K1 hK1 => ?_) | (refine PW.region fun K2 hK2 => ?_) | ((refine hK3 _ ?_; clear hK3)) | ((refine opsP_nil ?_; refine hK2 _ ?_; clear hK2)) | (refine PW.block ?_) 
       | (refine PW.ret ?_) | ((refine hX1 ?_; clear hX1 hY1; try simp only [hb])) | ((refine hY1 ?_; clear hX1 hY1; try simp only [hb])) )))
      | (((with_reducible refine cC_pure ?_ (hC) (fun _ => ?_)); (focus ((repeat' constructor) <;> (simp only [purAs, purA, Vf, Bool.and_self, Tb.v, Tb.c, kvR]; done)))))
      | (((with_reducible refine cC_pure ?_ (hD) (fun _ => ?_)); (focus ((repeat' constructor) <;> (simp only [purAs, purA, Vf, Bool.and_self, Tb.v, Tb.c, kvR]; done)))))
      | ((simp only [thenP, blockP]; (try ((repeat (fail_if_success (with_reducible refine hK1 _ ?_)); clear hK1); (with_reducible refine hK1 _ ?_); clear hK1))))
      | (((first | (((with_reducible refine opsP_cons fun K3 hK3 => ?_); simp only [wantP, opP, valP, Ur, Us])) | ((with_reducible refine PW.condM fun X1 Y1 hX1 hY1 => ?_)) | (skip)); simp (disch := omega) only [St.eval, St.put, upd_app, iniT_app, avOf, avOf1, nom, cellsA, AV.okv, loadA, unP, putCells, fillA, buildA, U7, U8, Ua, Ub, Uc, Ud, Uf, Ug, Uk, Ul, Un, Up, Ut, Uu, Uv, V9, Ve, Vr, PmL, simprocAttr, PmT, Tb.v, Tb.c, kvR, retQ, resP, tupA, fg, fgs, condP, condB_t, condB_f]; try (with_reducible (first | exact co_refl _ | exact co_own _ _ _ | exact co_nilsB | exact co_nilsL _ _)))))
    exact co_kv0 _
end PM
end Go.Proofs.YtfkemeamimcnjaaDoor
namespace Go.Proofs.YtfkemeamimcnjaaDoor
open Go.RowKit
set_option maxRecDepth 100000
namespace PM
theorem plainB_len (x : XV) (hs : x.s.length ≤ 65536) (hk : (Codec.keyT x.s).length ≤ 1000000) : (plainB x).length ≤ 1000009 := by
  have h1 := textB_len x.s hs
  have h2 := colKey_len x hk
  unfold plainB
  split
  · simp
  · split
    · simp; omega
    · exact h2
theorem valsFrom_len (key : List Int) : ∀ {l : List XV}, (∀ x ∈ l, x.s.length ≤ 65536) → (∀ x ∈ l, (Codec.keyT x.s).length ≤ 1000000) → ∀ k : Nat, (valsFrom key k l).length ≤ l.length * 1000009
  | [], _, _, _ => by simp [valsFrom]
  | v :: l, h, g, k => by
    have h1 := valsFrom_len key (fun x hx => h x (List.mem_cons_of_mem _ hx)) (fun x hx => g x (List.mem_cons_of_mem _ hx)) (k + 1)
    have h2 := plainB_len v (h v (by simp)) (g v (by simp))
    unfold valsFrom
    rw [List.length_append, List.length_cons]
    split
    · simp only [List.length_nil]; omega
    · omega
theorem valsFrom_snoc (key : List Int) : ∀ (l : List XV) (v : XV) (k : Nat), valsFrom key k (l ++ [v]) = valsFrom key k l ++ (if key.contains ((k + l.length : Nat) : Int) = true then [] else plainB v)
  | [], v, k => by simp [valsFrom]
  | a :: l, v, k => by
    rw [List.cons_append]
    unfold valsFrom
    rw [valsFrom_snoc key l v (k + 1), List.append_assoc, List.length_cons, show k + 1 + l.length = k + (l.length + 1) by omega]
set_option maxHeartbeats 4000000 in
theorem pRowOk (T : Tb) (R : List XV) (ht : tabled T T.key = true) (hr : rowFits R T.cols = true) (hRn : R.length ≤ 1048576) (hKn : T.key.length ≤ 1048576)
    (hR : ∀ x ∈ R, x.s.length ≤ 65536 ∧ (Codec.keyT x.s).length ≤ 1000000) (hl : ∀ i ∈ T.key, 0 ≤ i ∧ i < R.length) : Pure Tryd.prog 11 [T.v, vl R] (kvR (rowKV T R)) := by
  refine pure_intro Tryd.func11 rfl rfl rfl 68 rfl (fun hh => ?_)
  have hC := pTabled T T.key
  have hD := pRowed T R
  have hE := pBegin [T.id, 1] (by simp)
  have hF := pColumns R T.key hR hl hKn
  have hkl := keysOf_len R hR T.key hl
  have hbl := begB_len [T.id, 1]
  have hG := pConcatD [begB [T.id, 1], keysOf R T.key] (by simp only [catLen, List.map_cons, List.map_nil, List.sum_cons, List.sum_nil, hbl, List.length_cons, List.length_nil]; omega)
  simp only [List.map_cons, List.map_nil, bbC, List.flatten_cons, List.flatten_nil, List.append_nil] at hG
  rw [ht] at hC
  rw [hr] at hD
  obtain ⟨tid, tnm, tcols, tkey, tix⟩ := T
  simp only at *
  unfold Tb.v Tb.c at hC hD
  have hkB : begB [tid, 1] ++ keysOf R tkey = keyB ⟨tid, tnm, tcols, tkey, tix⟩ R := rfl
  repeat' (first
    | ((with_reducible (first
     | (refine PW.seq fun K1 hK1 => ?_) | (refine PW.region fun K2 hK2 => ?_) | ((refine hK3 _ ?_; clear hK3)) | ((refine opsP_nil ?_; refine hK2 _ ?_; clear hK2)) | (refine PW.block ?_) | (refine PW.skip ?_)
     | ((refine hY1 ?_; clear hX1 hY1; try simp only [hb])) | ((refine opsO_nil ?_; refine hK2 _ ?_; clear hK2)) | ((refine keepO_intro ?_ ?_; focus (first | exact .inl (keep_same _ _) | exact .inl (keep_box _ _ _ _) | exact .inl (keep_hd _ _ _ _ _) | exact .inl (keep_02 _ _ _ _ _ _ _) | exact .inl (keep_1 _ _ _ _ _ _ _) | exact .inr ⟨rfl, rfl⟩))) )))
    | (((with_reducible refine cC_pure ?_ (hC) (fun _ => ?_)); (focus ((repeat' constructor) <;> (simp only [purAs, purA, Vf, Bool.and_self, Tb.v, Tb.c, eI]; done)))))
    | (((with_reducible refine cC_pure ?_ (hD) (fun _ => ?_)); (focus ((repeat' constructor) <;> (simp only [purAs, purA, Vf, Bool.and_self, Tb.v, Tb.c, eI]; done)))))
    | (((with_reducible refine fC_call ?_ (hE) ?_); (focus ((repeat' constructor) <;> (simp only [purAs, purA, Vf, Bool.and_self, Tb.v, Tb.c, eI]; done)))))
    | (((with_reducible refine fC_call ?_ (hF) ?_); (focus ((repeat' constructor) <;> (simp only [purAs, purA, Vf, Bool.and_self, Tb.v, Tb.c, eI]; done)))))
    | (((with_reducible refine fC_call ?_ (hG) ?_); (focus ((repeat' constructor) <;> (simp only [purAs, purA, Vf, Bool.and_self, Tb.v, Tb.c, eI]; done)))))
    | (((with_reducible refine PW.draw (id := 5) mixed [0] [12] [(0, true), (1, true), (4, true), (5, true), (6, true), (2, true), (3, true), (7, true), (8, true), (9, true), (10, true), (11, false), (12, false)] (by kernel_rfl) (by decide) fun K2 hK2 => ?_)))
    | ((simp only [thenP, blockP]; (try ((repeat (fail_if_success (with_reducible refine hK1 _ ?_)); clear hK1); (with_reducible refine hK1 _ ?_); clear hK1))))
    | (((first | (((with_reducible refine opsP_cons fun K3 hK3 => ?_); simp only [wantP, opP, valP, Ur, Us])) | (((with_reducible refine opsO_first (o := ?_) ?_ fun K3 hK3 => ?_); rotate_left 1; (focus (simp only [Uz, Ub, Ua] <;> rfl)); simp only [wantP, firstP, valP, Ur, Us, List.mapM_cons, List.mapM_nil])) | (((with_reducible refine opsO_only (o := ?_) ?_ fun K3 hK3 => ?_); rotate_left 1; (focus (simp only [Uz, Ub, Ua] <;> rfl)); simp only [wantP, opP, Uw, Ux])) | ((with_reducible refine PW.condM fun X1 Y1 hX1 hY1 => ?_)) | (skip)); simp (disch := omega) only [St.eval, St.put, upd_app, iniT_app, avOf, avOf1, nom, cellsA, AV.okv, loadA, lenP, unP, builtinP, isMapA, U3, putCells, fillA, buildA, elA, dv1, U7, U8, Ua, Ub, Uc, Ud, Uf, Ug, Uk, Ul, Un, Up, Ut, Uu, Uv, List.mapM_cons, List.mapM_nil, Uw, Ux, V0, V1, V4, Option.bind_eq_bind, Option.pure_def, V9, Va, Ve, Vt, UU2, UU3, UU9, Vr, PmL, simprocAttr, PmT, Tb.v, Tb.c, condP, condB_f, firstOk, List.mem_cons]; try (with_reducible (first | exact co_refl _ | exact co_own _ _ _ | exact co_nilsB | exact co_nilsL _ _)))))
  (with_reducible refine PW.nil2box 2 1 5 1 rfl rfl Nat.one_pos ?_)
  (with_reducible refine PW.loop (fun n s => ∃ (k : Nat), s.t 2 = .ptr 0 0 ∧ s.t 4 = .ptr 1 0 ∧ s.t 6 = .ptr 2 0 ∧ s.t 33 = vl R ∧ s.t 34 = .d (.int .i64 R.length) ∧ s.t 35 = .d (.int .i64 k) ∧ s.n = 68 ∧ s.m = ⟨[some (26, Tb.c ⟨tid, tnm, tcols, tkey, tix⟩), some (31, [.nils, .nils]), some (31, [bs (begB [tid, 1] ++ keysOf R tkey), .own 0 1 (encB (valsFrom tkey 0 (R.take k)))])], [some ⟨5, 1, (valsFrom tkey 0 (R.take k)).length⟩]⟩ ∧ k ≤ R.length ∧ n = R.length - k) R.length ?_ ?_)
  · exact ⟨0, rfl, rfl, rfl, rfl, rfl, rfl, rfl, rfl, Nat.zero_le _, rfl⟩
  rintro n ⟨t, nn, m⟩ ⟨k, h2, h4, h6, h33, h34, h35, hn, hm, hk, hnk⟩ - -
  simp only at h2 h4 h6 h33 h34 h35 hn hm
  subst hn hm hnk
  by_cases hlt : (k : Int) < R.length
  · have hlt' := eq_true hlt
    obtain ⟨v, hv⟩ : ∃ v, R[k]? = some v := ⟨_, List.getElem?_eq_getElem (by omega)⟩
    have hvR := hR v (List.mem_of_getElem? hv)
    have hw : IntKind.i64.wrap ((k : Int) + 1) = k + 1 := IntWalk.i64_in ((k : Int) + 1) (by omega)
    have hct := pContains tkey k
    have hP := pPlain v hvR.1 hvR.2
    unfold XV.v XV.c at hP
    have hvl := valsFrom_len tkey (fun x hx => (hR x (List.mem_of_mem_take hx)).1) (fun x hx => (hR x (List.mem_of_mem_take hx)).2) 0 (l := R.take k)
    rw [List.length_take] at hvl
    have hvl' : (valsFrom tkey 0 (R.take k)).length ≤ 1048576 * 1000009 := Nat.le_trans hvl (Nat.mul_le_mul_right _ (by omega))
    have hpl := plainB_len v hvR.1 hvR.2
    have hsn : valsFrom tkey 0 (R.take (k + 1)) = valsFrom tkey 0 (R.take k) ++ (if tkey.contains (k : Int) = true then [] else plainB v) := by
      rw [List.take_add_one, hv, Option.toList_some, valsFrom_snoc, List.length_take, Nat.min_eq_left hk, Nat.zero_add]
    cases hcv : tkey.contains (k : Int)
    · rw [hcv] at hct
      rw [hcv, if_neg (by simp)] at hsn
      repeat' (first
        | ((with_reducible (first
         | (refine PW.seq fun K1 hK1 => ?_) | (refine PW.region fun K2 hK2 => ?_) | ((refine hK3 _ ?_; clear hK3)) | ((refine opsP_nil ?_; refine hK2 _ ?_; clear hK2)) | (refine PW.block ?_) | (refine PW.skip ?_)
         | ((refine hX1 ?_; clear hX1 hY1; try simp only [hb])) | ((refine opsO_nil ?_; refine hK2 _ ?_; clear hK2)) | ((refine keepA_intro ?_ ?_; focus (first | exact keep_same _ _ | exact keep_box _ _ _ _ | exact keep_hd _ _ _ _ _ | exact keep_02 _ _ _ _ _ _ _ | exact keep_1 _ _ _ _ _ _ _))))))
        | (((with_reducible refine cC_pure ?_ (hct) (fun _ => ?_)); (focus ((repeat' constructor) <;> (simp only [purAs, purA, Vf, Bool.and_self, Tb.c, h2, h4, h6, h33, h34, h35, hlt', hv, hw, XV.cd]; done)))))
        | (((with_reducible refine cC_pure ?_ (hP) (fun _ => ?_)); (focus ((repeat' constructor) <;> (simp only [purAs, purA, Vf, Bool.and_self, Tb.c, h2, h4, h6, h33, h34, h35, hlt', hv, hw, XV.cd]; done)))))
        | (((with_reducible refine PW.drawR (id := 10) mixed [6] [(0, true), (1, true), (2, true), (3, false), (4, false), (5, true), (6, false)] (by kernel_rfl) (by decide) fun K2 hK2 => ?_)))
        | (((with_reducible refine And.intro ?_ ?_); (focus (first | omega | (simp; done) | assumption))))
        | ((simp only [thenP, blockP]; (try ((repeat (fail_if_success (with_reducible refine hK1 _ ?_)); clear hK1); (with_reducible refine hK1 _ ?_); clear hK1))))
        | (((first | (((with_reducible refine opsP_cons fun K3 hK3 => ?_); simp only [wantP, opP, valP, Ur, Us])) | (((with_reducible refine opsO_first (o := ?_) ?_ fun K3 hK3 => ?_); rotate_left 1; (focus (simp only [Uz, Ub, Ua] <;> rfl)); simp only [wantP, firstP, valP])) | (((with_reducible refine opsO_only (o := ?_) ?_ fun K3 hK3 => ?_); rotate_left 1; (focus (simp only [Uz, Ub, Ua] <;> rfl)); simp only [wantP, opP, Ur, Us, Uw, Ux])) | ((with_reducible refine PW.condM fun X1 Y1 hX1 hY1 => ?_)) | (skip)); simp (disch := omega) only [St.eval, St.put, upd_app, avOf, avOf1, cellsA, AV.okv, loadA, binP, intsP, intP, nilP, unP, builtinP, appP, srcA, srcTy, isBsl, slA, putCells, Ua, Ub, Uc, Ud, Uf, Ug, Uk, Ul, Un, Up, Ur, Us, Ut, Uu, Uv, V0, V1, V2, V7, V9, Ve, Vr, PmL, simprocAttr, PmT, Tb.c, h2, h6, h33, h34, h35, hlt', hv, hw, XV.cd, condP, condB_t, firstOk, List.mem_cons]; try (with_reducible (first | exact co_refl _ | exact co_own _ _ _ | exact co_nilsB | exact co_nilsL _ _)))))
      refine ⟨R.length - (k + 1), by omega, k + 1, ?_, ?_, ?_, ?_, ?_, ?_, ?_, ?_, by omega, rfl⟩
      all_goals (simp only [St.cut, Mem.cut, fg, fgs, upd_app, Nat.reduceEqDiff, ↓reduceIte, List.take_nil, List.map_nil, List.take_succ_cons, List.take_zero, List.map_cons, Option.map_some, Nat.reduceLT, Nat.zero_lt_one, List.length_append, Int.natCast_add, Int.cast_ofNat_Int, h2, h4, h6, h33, h34, hsn]; try rfl)
    · rw [hcv] at hct
      rw [hcv, if_pos rfl, List.append_nil] at hsn
      repeat' (first
        | ((with_reducible (first
         | (refine PW.seq fun K1 hK1 => ?_) | (refine PW.region fun K2 hK2 => ?_) | ((refine hK3 _ ?_; clear hK3)) | ((refine opsP_nil ?_; refine hK2 _ ?_; clear hK2)) | (refine PW.block ?_) | (refine PW.skip ?_)
         | ((refine hX1 ?_; clear hX1 hY1; try simp only [hb])) | ((refine hY1 ?_; clear hX1 hY1; try simp only [hb])) )))
        | (((with_reducible refine cC_pure ?_ (hct) (fun _ => ?_)); (focus ((repeat' constructor) <;> (simp only [purAs, purA, Vf, Bool.and_self, Tb.c, h2, h4, h6, h33, h34, h35, hlt', hv, hw, XV.cd]; done)))))
        | (((with_reducible refine And.intro ?_ ?_); (focus (first | omega | (simp; done) | assumption))))
        | ((simp only [thenP, blockP]; (try ((repeat (fail_if_success (with_reducible refine hK1 _ ?_)); clear hK1); (with_reducible refine hK1 _ ?_); clear hK1))))
        | (((first | (((with_reducible refine opsP_cons fun K3 hK3 => ?_); simp only [wantP, opP, valP, Ur, Us])) | ((with_reducible refine PW.condM fun X1 Y1 hX1 hY1 => ?_)) | (skip)); simp (disch := omega) only [St.eval, St.put, upd_app, avOf, avOf1, cellsA, AV.okv, loadA, binP, intsP, intP, nilP, unP, slA, putCells, Ua, Ub, Uc, Ud, Uf, Ug, Uk, Ul, Un, Up, Ur, Us, Ut, Uu, Uv, V2, V7, V9, Ve, Vr, PmL, simprocAttr, PmT, Tb.c, h2, h33, h34, h35, hlt', hv, hw, XV.cd, condP, condB_t, condB_f]; try (with_reducible (first | exact co_refl _ | exact co_own _ _ _ | exact co_nilsB | exact co_nilsL _ _)))))
      refine ⟨R.length - (k + 1), by omega, k + 1, ?_, ?_, ?_, ?_, ?_, ?_, ?_, ?_, by omega, rfl⟩
      all_goals (simp only [St.cut, Mem.cut, fg, fgs, upd_app, Nat.reduceEqDiff, ↓reduceIte, List.take_nil, List.map_nil, List.take_succ_cons, List.take_zero, List.map_cons, Option.map_some, Nat.reduceLT, Nat.zero_lt_one, Int.natCast_add, Int.cast_ofNat_Int, h2, h4, h6, h33, h34, hsn]; try rfl)
  have hkl' : k = R.length := by omega
  subst hkl'
  have hlt' := eq_false hlt
  rw [List.take_length]
  have hu : rowKV ⟨tid, tnm, tcols, tkey, tix⟩ R = if 256 < (keyB ⟨tid, tnm, tcols, tkey, tix⟩ R).length ∨ 65536 < (valsFrom tkey 0 R).length then ([], [], 201) else (keyB ⟨tid, tnm, tcols, tkey, tix⟩ R, valsFrom tkey 0 R, 0) := by
    unfold rowKV
    rw [if_neg (by rw [ht]; simp), if_neg (by rw [hr]; simp)]
  rw [hkB]
  obtain ⟨K, hK⟩ : ∃ K, keyB ⟨tid, tnm, tcols, tkey, tix⟩ R = K := ⟨_, rfl⟩
  obtain ⟨V, hV⟩ : ∃ V, valsFrom tkey 0 R = V := ⟨_, rfl⟩
  rw [hK, hV] at hu
  rw [hK, hV]
  have hL := pClipB V
  by_cases h1 : (256 : Int) < K.length
  · have h1' := eq_true h1
    rw [if_pos (.inl (by omega))] at hu
    repeat' (first
      | ((with_reducible (first
       | (refine PW.seq fun K1 hK1 => ?_) | (refine PW.region fun K2 hK2 => ?_) | ((refine hK3 _ ?_; clear hK3)) | ((refine opsP_nil ?_; refine hK2 _ ?_; clear hK2)) 
       | (refine PW.exit ?_) | (refine PW.ret ?_) | ((refine hX1 ?_; clear hX1 hY1; try simp only [hb])) | ((refine hY1 ?_; clear hX1 hY1; try simp only [hb])) )))
      | ((simp only [thenP, blockP, ↓reduceIte]; (try ((repeat (fail_if_success (with_reducible refine hK1 _ ?_)); clear hK1); (with_reducible refine hK1 _ ?_); clear hK1))))
      | (((first | (((with_reducible refine opsP_cons fun K3 hK3 => ?_); simp only [wantP, opP, valP, Ur, Us])) | ((with_reducible refine PW.condM fun X1 Y1 hX1 hY1 => ?_)) | (skip)); simp (disch := omega) only [wantB_tf, St.eval, St.put, upd_app, avOf, avOf1, cellsA, AV.okv, loadA, lenP, binP, intsP, intP, nilP, builtinP, isMapA, slA, putCells, fillA, buildA, Ua, Ub, Uc, Ud, Uf, Ug, Uk, Un, Up, Uz, V4, V9, Va, Ve, Vr, PmL, simprocAttr, PmT, Tb.c, h4, h6, h34, h35, hlt', h1', retQ, resP, tupA, fg, fgs, condP, condB_t, condB_f]; try (with_reducible (first | exact co_refl _ | exact co_own _ _ _ | exact co_nilsB | exact co_nilsL _ _)))))
    rw [hu]
    exact co_kv0 _
  have h1' := eq_false h1
  by_cases h3 : (65536 : Int) < V.length
  · have h3' := eq_true h3
    rw [if_pos (.inr (by omega))] at hu
    repeat' (first
      | ((with_reducible (first
       | (refine PW.seq fun K1 hK1 => ?_) | (refine PW.region fun K2 hK2 => ?_) | ((refine hK3 _ ?_; clear hK3)) | ((refine opsP_nil ?_; refine hK2 _ ?_; clear hK2)) 
       | (refine PW.exit ?_) | (refine PW.ret ?_) | ((refine hX1 ?_; clear hX1 hY1; try simp only [hb])) | ((refine hY1 ?_; clear hX1 hY1; try simp only [hb])) )))
      | ((simp only [thenP, blockP, ↓reduceIte]; (try ((repeat (fail_if_success (with_reducible refine hK1 _ ?_)); clear hK1); (with_reducible refine hK1 _ ?_); clear hK1))))
      | (((first | (((with_reducible refine opsP_cons fun K3 hK3 => ?_); simp only [wantP, opP, valP, Ur, Us])) | ((with_reducible refine PW.condM fun X1 Y1 hX1 hY1 => ?_)) | (skip)); simp (disch := omega) only [wantB_ff, St.eval, St.put, upd_app, avOf, avOf1, cellsA, AV.okv, loadA, lenP, binP, intsP, intP, nilP, builtinP, isMapA, slA, putCells, fillA, buildA, Ua, Ub, Uc, Ud, Uf, Ug, Uk, Ul, Un, Up, Uz, V4, V9, Va, Ve, Vr, PmL, simprocAttr, PmT, Tb.c, h4, h6, h34, h35, hlt', h1', h3', retQ, resP, tupA, fg, fgs, condP, condB_t, condB_f]; try (with_reducible (first | exact co_refl _ | exact co_own _ _ _ | exact co_nilsB | exact co_nilsL _ _)))))
    rw [hu]
    exact co_kv0 _
  have h3' := eq_false h3
  rw [if_neg (by omega)] at hu
  repeat' (first
    | ((with_reducible (first
     | (refine PW.seq fun K1 hK1 => ?_) | (refine PW.region fun K2 hK2 => ?_) | ((refine hK3 _ ?_; clear hK3)) | ((refine opsP_nil ?_; refine hK2 _ ?_; clear hK2)) | (refine PW.skip ?_)
     | (refine PW.exit ?_) | (refine PW.ret ?_) | ((refine hY1 ?_; clear hX1 hY1; try simp only [hb])) )))
    | (((with_reducible refine cC_pure ?_ (hL) (fun _ => ?_)); (focus ((repeat' constructor) <;> (simp only [purAs, purA, Vf, Bool.and_self, Tb.c, h2, h4, h6, h33, h34, h35, hlt', h1', h3']; done)))))
    | ((simp only [thenP, blockP, ↓reduceIte]; (try ((repeat (fail_if_success (with_reducible refine hK1 _ ?_)); clear hK1); (with_reducible refine hK1 _ ?_); clear hK1))))
    | (((first | (((with_reducible refine opsP_cons fun K3 hK3 => ?_); simp only [wantP, opP, valP, Ur, Us])) | ((with_reducible refine PW.condM fun X1 Y1 hX1 hY1 => ?_)) | (skip)); simp (disch := omega) only [wantB_ff, St.eval, St.put, upd_app, avOf, avOf1, cellsA, AV.okv, loadA, lenP, binP, intsP, intP, nilP, builtinP, isMapA, slA, putCells, Ua, Ub, Uc, Ud, Uf, Ug, Uk, Ul, Un, Up, Uv, Uz, V4, V9, Va, Ve, Vr, PmL, simprocAttr, PmT, Tb.c, h4, h6, h34, h35, hlt', h1', h3', retQ, resP, tupA, fg, fgs, condP, condB_f]; try (with_reducible (first | exact co_refl _ | exact co_own _ _ _ | exact co_nilsB | exact co_nilsL _ _)))))
  rw [hu]
  exact co_refl _
end PM
end Go.Proofs.YtfkemeamimcnjaaDoor
namespace Go.Proofs.YtfkemeamimcnjaaDoor
open Go.RowKit
set_option maxRecDepth 100000
namespace PM
theorem keyT_le (l : List Int) (hl : l.length ≤ 65536) : (Codec.keyT l).length ≤ 1000000 := by
  unfold Codec.keyT
  rw [List.length_append, repl_len]
  have : l.count 0 ≤ l.length := List.count_le_length
  simp
  omega
theorem fitsV_s {v : XV} {k : Int} (h : fitsV v k = true) : v.s.length ≤ 65536 := by
  unfold fitsV at h
  simp only [Bool.and_eq_true] at h
  obtain ⟨-, -, h⟩ := h
  split at h
  · simp only [Bool.and_eq_true, decide_eq_true_eq] at h; exact h.2.1
  · split at h
    · simp only [Bool.and_eq_true, decide_eq_true_eq] at h; rw [h.1]; simp
    · simp only [decide_eq_true_eq] at h; rw [h]; simp
theorem rowFits_s : ∀ {R : List XV} {C : List Col}, rowFits R C = true → ∀ x ∈ R, x.s.length ≤ 65536 ∧ (Codec.keyT x.s).length ≤ 1000000
  | [], _, _ => fun x hx => by simp at hx
  | a :: R, [], h => by simp [rowFits] at h
  | a :: R, b :: C, h => fun x hx => by
    unfold rowFits at h
    simp only [Bool.and_eq_true] at h
    rcases List.mem_cons.1 hx with rfl | hx
    · exact ⟨fitsV_s h.1, keyT_le _ (fitsV_s h.1)⟩
    · exact rowFits_s h.2.2 x hx
theorem tabled_in {T : Tb} {l : List Int} (h : tabled T l = true) : (∀ i ∈ T.key, 0 ≤ i ∧ i < T.cols.length) ∧ ∀ i ∈ l, 0 ≤ i ∧ i < T.cols.length := by
  unfold tabled unlike at h
  simp only [Bool.and_eq_true, List.all_eq_true, decide_eq_true_eq] at h
  exact ⟨h.2.1.2.1, h.2.2.2.1⟩
theorem pRow (T : Tb) (R : List XV) (hRn : R.length ≤ 1048576) (hKn : T.key.length ≤ 1048576) : Pure Tryd.prog 11 [T.v, vl R] (kvR (rowKV T R)) := by
  by_cases ht : tabled T T.key = true
  · by_cases hr : rowFits R T.cols = true
    · have hlen : R.length = T.cols.length := Classical.byContradiction fun h => by rw [rowFits_len h] at hr; cases hr
      exact pRowOk T R ht hr hRn hKn (rowFits_s hr) (by rw [hlen]; exact (tabled_in ht).1)
    · exact pRowNo T R (.inr (by simpa using hr))
  · exact pRowNo T R (.inl (by simpa using ht))
end PM
end Go.Proofs.YtfkemeamimcnjaaDoor
