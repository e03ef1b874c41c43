/- pgwire in the abstract: a server's message as bytes: the kind 6. -/
import Derived.Test.YthaekefdadccaaaDoorPgB1
import Derived.Test.YthaekefdadccaaaDoorPgBc
namespace Go.Proofs.YthaekefdadccaaaDoor
open Go.RowKit
namespace PM
set_option maxRecDepth 100000 in
set_option maxHeartbeats 4000000 in
theorem pPut6 (m : Back) (hk : m.kind = 6) (hz : celsN m.cells ≤ 100000000000) : Pure Tryd.prog 16 [m.v] (putV (putBackS m)) := by
  have e0 : putBackS m = putEnd m (celsMay m.cells) (celsLong m.cells) (celsBody m.cells) := by simp only [putBackS, backMay, backLong, backBody, hk, Int.reduceEq, ↓reduceIte]
  rw [e0]
  refine pure_intro Tryd.func16 rfl rfl rfl 177 rfl (fun hh => ?_)
  obtain ⟨xk, xn, xt, xp, xs, xu, xf, xc, xa, xg⟩ := m
  simp only at hk hz
  subst hk
  have hmx : maxLen = 9223372036854775807 := rfl
  have hT := pTags 6 (by omega)
  have hS := pSame ⟨6, [], [], 0, 0, 0, [], xc, [], false⟩ ⟨6, xn, xt, xp, xs, xu, xf, xc, xa, xg⟩
  obtain ⟨L, hL⟩ : ∃ L, Back.like ⟨6, [], [], 0, 0, 0, [], xc, [], false⟩ ⟨6, xn, xt, xp, xs, xu, xf, xc, xa, xg⟩ = L := ⟨_, rfl⟩
  have hO : Back.like (Back.only ⟨6, xn, xt, xp, xs, xu, xf, xc, xa, xg⟩) ⟨6, xn, xt, xp, xs, xu, xf, xc, xa, xg⟩ = L := hL
  rw [hL] at hS
  have hF := pCells xc hz
  have hbl : (celsBody xc).length ≤ 100000000000 ∧ celsLong xc ≤ 100000000000 ∧ 0 ≤ celsLong xc ∧ ((celsBody xc).length : Int) ≤ celsLong xc := by
    unfold celsBody celsLong
    by_cases ha : xc.all celOk = true
    · rw [if_pos ha, ha, Bool.true_and]
      split
      · rw [celsB_len _ ha]; omega
      · simp; omega
    · rw [Bool.not_eq_true] at ha
      rw [ha]; simp
  obtain ⟨B, hB⟩ : ∃ B, celsMay xc = B := ⟨_, rfl⟩
  obtain ⟨b, hbb⟩ : ∃ b, celsBody xc = b := ⟨_, rfl⟩
  obtain ⟨n, hnn⟩ : ∃ b, celsLong xc = b := ⟨_, rfl⟩
  rw [hB, hbb, hnn] at hF
  rw [hbb, hnn] at hbl
  simp only [hB, hbb, hnn]
  clear hB hbb hnn hz
  cases B
  all_goals cases L
  all_goals
    repeat' (first
      | (with_reducible (first
        | refine PW.seq fun K1 hK1 => ?_
        | refine PW.region fun K2 hK2 => ?_
        | (refine hK3 _ ?_; clear hK3)
        | (refine opsP_nil ?_; refine hK2 _ ?_; clear hK2)
        | refine litX_old ?_
        | refine litC_data ?_
        | (refine Exists.intro _ (Exists.intro _ (And.intro rfl (And.intro rfl (And.intro ?_ ?_)))); focus omega)
        | (refine hK1 _ ?_; clear hK1)
        | refine nilC_intro (fun hz => ?_) ?_
        | refine PW.block ?_
        | refine PW.skip ?_
        | refine PW.exit ?_
        | refine PW.ret ?_
        | (refine hX1 ?_; clear hX1 hY1; try simp only [hb])
        | (refine hY1 ?_; clear hX1 hY1; try simp only [hb])
        | exact co_refl _
        | exact co_own _ _ _
        | exact co_nilsB
        | exact co_nilsL _ _
        | (refine opsO_nil ?_; refine hK2 _ ?_; clear hK2)
        | (refine keepO_intro ?_ ?_; focus (first | exact .inl (keep_same _ _) | exact .inl (keep_box _ _ _ _) | exact .inl (keep_hd _ _ _ _ _) | exact .inl (keep_02 _ _ _ _ _ _ _) | exact .inr ⟨rfl, rfl⟩))
        | (refine keepA_intro ?_ ?_; focus (first | exact keep_same _ _ | exact keep_box _ _ _ _ | exact keep_hd _ _ _ _ _ | exact keep_02 _ _ _ _ _ _ _))))
      | ((first | (with_reducible refine wantB_intro (fun hb => ?_) (fun hb => ?_)) | (with_reducible refine condB_intro (fun hb => ?_) (fun hb => ?_))) <;> ((try (have hp := hb; simp only [decide_eq_true_eq, decide_eq_false_iff_not, Int.not_lt] at hp)); try simp only [hb, Bool.not_true, Bool.not_false]))
      | ((with_reducible refine callP_row ?_ ?_ ?_ ?_ (pBig4t ?_ ?_) ?_); (with_reducible exact rfl); (focus (simp only [List.getElem?_cons_zero]; try rfl)); (focus (repeat' (first | exact cos_refl _ | (refine cos_cons ?_ ?_) | exact co_refl _ | exact co_own _ _ _ | exact co_nilsB | exact co_nilsL _ _ | exact co_nils _ | (refine co_agg ?_) | (refine co_fn ?_)))); (focus (simp only [purAs, purA, Bool.and_self])))
      | ((with_reducible refine callP_new ?_ ?_ (pConcat2 ?_ ?_ ?_) ?_); (focus (repeat' (first | exact cos_refl _ | (refine cos_cons ?_ ?_) | exact co_refl _ | exact co_own _ _ _ | exact co_nilsB | exact co_nilsL _ _ | exact co_nils _ | (refine co_agg ?_) | (refine co_fn ?_)))); (focus (simp only [purAs, purA, Bool.and_self])))
      | ((with_reducible refine callP_pure ?_ ?_ (hT) (fun _ => ?_)); (focus (repeat' (first | exact cos_refl _ | (refine cos_cons ?_ ?_) | exact co_refl _ | exact co_own _ _ _ | exact co_nilsB | exact co_nilsL _ _ | exact co_nils _ | (refine co_agg ?_) | (refine co_fn ?_)))); (focus (simp only [purAs, purA, Bool.and_self])))
      | ((with_reducible refine callP_pure ?_ ?_ (hS) (fun _ => ?_)); (focus (repeat' (first | exact cos_refl _ | (refine cos_cons ?_ ?_) | exact co_refl _ | exact co_own _ _ _ | exact co_nilsB | exact co_nilsL _ _ | exact co_nils _ | (refine co_agg ?_) | (refine co_fn ?_)))); (focus (simp only [purAs, purA, Bool.and_self, Bool.and_true, Back.v, Back.c, zB, big4_len])))
      | ((with_reducible refine callP_pure ?_ ?_ (hF) (fun _ => ?_)); (focus (repeat' (first | exact cos_refl _ | (refine cos_cons ?_ ?_) | exact co_refl _ | exact co_own _ _ _ | exact co_nilsB | exact co_nilsL _ _ | exact co_nils _ | (refine co_agg ?_) | (refine co_fn ?_)))); (focus (simp only [purAs, purA, Bool.and_self])))
      | ((with_reducible refine firstP_call ?_ ?_ (hT) ?_); (focus (repeat' (first | exact cos_refl _ | (refine cos_cons ?_ ?_) | exact co_refl _ | exact co_own _ _ _ | exact co_nilsB | exact co_nilsL _ _ | exact co_nils _ | (refine co_agg ?_) | (refine co_fn ?_)))); (focus (simp only [purAs, purA, Bool.and_self, Bool.and_true, Back.v, Back.c, zB, big4_len])))
      | ((with_reducible refine firstP_call ?_ ?_ (hS) ?_); (focus (repeat' (first | exact cos_refl _ | (refine cos_cons ?_ ?_) | exact co_refl _ | exact co_own _ _ _ | exact co_nilsB | exact co_nilsL _ _ | exact co_nils _ | (refine co_agg ?_) | (refine co_fn ?_)))); (focus (simp only [purAs, purA, Bool.and_self, Bool.and_true, Back.v, Back.c, zB, big4_len])))
      | ((with_reducible refine firstP_call ?_ ?_ (hF) ?_); (focus (repeat' (first | exact cos_refl _ | (refine cos_cons ?_ ?_) | exact co_refl _ | exact co_own _ _ _ | exact co_nilsB | exact co_nilsL _ _ | exact co_nils _ | (refine co_agg ?_) | (refine co_fn ?_)))); (focus (simp only [purAs, purA, Bool.and_self, Bool.and_true, Back.v, Back.c, zB, big4_len])))
      | ((with_reducible refine PW.drawR (id := 16) mixed [7] [(0, true), (1, true), (2, true), (3, true), (4, true), (5, false), (6, true), (7, false)] (by kernel_rfl) (by decide) fun K2 hK2 => ?_))
      | ((with_reducible refine PW.drawR (id := 17) mixed [] [(0, true), (1, true), (2, true), (3, true), (6, true), (7, true), (9, true), (10, true), (4, false), (5, false), (8, false), (11, false), (12, true), (13, true)] (by kernel_rfl) (by decide) fun K2 hK2 => ?_))
      | ((with_reducible refine PW.drawR (id := 19) mixed [] [(0, true), (1, true), (2, true), (3, true), (4, true), (5, true), (6, true), (7, true), (8, true), (9, true), (10, true), (11, true), (12, true), (13, true), (14, true), (16, true), (15, false), (17, true)] (by kernel_rfl) (by decide) fun K2 hK2 => ?_))
      | ((with_reducible refine PW.drawR (id := 27) mixed [] [(0, true), (1, true), (2, true), (3, true), (6, true), (7, true), (8, true), (4, true), (9, true), (5, false), (10, false), (11, true), (12, true)] (by kernel_rfl) (by decide) fun K2 hK2 => ?_))
      | ((with_reducible refine PW.drawR (id := 28) mixed [11] [(0, true), (1, true), (2, true), (3, true), (4, true), (5, true), (6, true), (7, false), (8, true), (9, false), (10, true), (11, false)] (by kernel_rfl) (by decide) fun K2 hK2 => ?_))
      | ((with_reducible refine PW.drawR (id := 32) mixed [] [(0, true), (1, true), (9, true), (10, true), (11, true), (12, true), (13, true), (14, true), (15, true), (16, true), (17, true), (18, true), (19, true), (21, true), (2, false), (3, true), (4, true), (5, true), (6, false), (7, false), (8, true), (20, false), (22, false), (23, true), (24, true)] (by kernel_rfl) (by decide) fun K2 hK2 => ?_))
      | ((with_reducible refine And.intro ?_ ?_); (focus (first | omega | (simp; done) | assumption)))
      | (simp only [thenP, blockP, Nat.reduceEqDiff, ↓reduceIte]; (try ((repeat (fail_if_success (with_reducible refine hK1 _ ?_)); clear hK1); (with_reducible refine hK1 _ ?_); clear hK1)))
      | (with_reducible omega)
      | (assumption)
      | ((with_reducible refine opsP_consD (d := 169) fun K3 hK3 => ?_); simp only [wantP, opP, List.map_cons, List.map_nil, List.mapM_cons, List.mapM_nil, List.all_cons, List.all_nil]; simp (disch := omega) only [St.eval, St.put, upd_app, cellsA, AV.okv, U3, U4, U5, elA, dv1, Uf, Ug, Ut, Uu, Uv, List.mapM_cons, List.mapM_nil, Uw, Ux, V0, V1, V4, Option.bind_eq_bind, Option.pure_def, Nat.reduceLT, Nat.reduceLeDiff, Nat.reduceAdd, Nat.reduceMul, V9, Ve, Vf, ↓reduceIte, Vw, UU9, ze5, el22]; (with_reducible refine litX_old ?_); (with_reducible refine litC_own ?_))
      | ((first | ((with_reducible refine opsP_consMt (d := ?_) (dj := ?_) (b := ?_) (r := ?_) ?_ ?_ (fun hb => ?_) (fun K3 hK3 => ?_)); rotate_left 3; (focus exact rfl); (focus (simp only [St.put, upd_app, iniT_app, Nat.reduceEqDiff, ↓reduceIte, mrg_t, mrg_f]; exact rfl))) | ((with_reducible refine opsP_consMf (d := ?_) (dj := ?_) (b := ?_) (r := ?_) ?_ ?_ (fun hb => ?_) (fun K3 hK3 => ?_)); rotate_left 3; (focus exact rfl); (focus (simp only [upd_app, Nat.reduceEqDiff, ↓reduceIte]; exact rfl))) | ((with_reducible refine opsP_consNt (d := ?_) (dj := ?_) (b := ?_) (r := ?_) (c := ?_) ?_ ?_ (fun hb => ?_) (fun K3 hK3 => ?_)); rotate_left 4; (focus exact rfl); (focus (simp only [St.put, upd_app, iniT_app, Nat.reduceEqDiff, ↓reduceIte, mrg_t, mrg_f]; exact rfl))) | ((with_reducible refine opsP_consNf (d := ?_) (dj := ?_) (b := ?_) (r := ?_) (c := ?_) ?_ ?_ (fun hb => ?_) (fun K3 hK3 => ?_)); rotate_left 4; (focus exact rfl); (focus (simp only [St.put, upd_app, iniT_app, Nat.reduceEqDiff, ↓reduceIte, mrg_t, mrg_f]; exact rfl)))); (focus (simp only [opP, valP, List.map_cons, List.map_nil]; (try (simp only [Bool.not_eq_true'] at hb)); (try (have hp := hb; simp only [Bool.and_eq_true, Bool.or_eq_true, Bool.not_eq_true', Bool.not_eq_false', Bool.and_eq_false_iff, Bool.or_eq_false_iff, Bool.not_eq_eq_eq_not, Bool.not_true, Bool.not_false, decide_eq_true_eq, decide_eq_false_iff_not, Int.not_lt, Int.not_le, beq_iff_eq, beq_eq_false_iff_ne, ne_eq] at hp)); simp (disch := omega) only [St.eval, upd_app, loadA, unP, Ua, Ub, Uf, Ug, Uk, Un, Up, Uv, Nat.reduceLT, Nat.reduceAdd, Nat.reduceEqDiff, V9, Vn, Vo, ↓reduceIte, Vw, Vx, Vr, sz35, hb]; (repeat' (first | (exact rfl) | ((refine And.intro ?_ ?_); (focus (exact rfl)); (exact rfl)) | (refine And.intro (by first | omega | (simp; done) | assumption) ?_) | ((with_reducible refine callP_pure ?_ ?_ (hT) (fun _ => ?_)); (focus (repeat' (first | exact cos_refl _ | (refine cos_cons ?_ ?_) | exact co_refl _ | exact co_own _ _ _ | exact co_nilsB | exact co_nilsL _ _ | exact co_nils _ | (refine co_agg ?_) | (refine co_fn ?_)))); (focus (simp only [purAs, purA, Bool.and_self, Bool.and_true, Back.v, Back.c, zB, big4_len]))) | ((with_reducible refine callP_pure ?_ ?_ (hS) (fun _ => ?_)); (focus (repeat' (first | exact cos_refl _ | (refine cos_cons ?_ ?_) | exact co_refl _ | exact co_own _ _ _ | exact co_nilsB | exact co_nilsL _ _ | exact co_nils _ | (refine co_agg ?_) | (refine co_fn ?_)))); (focus (simp only [purAs, purA, Bool.and_true, Back.v, Back.c]))) | ((with_reducible refine callP_pure ?_ ?_ (hF) (fun _ => ?_)); (focus (repeat' (first | exact cos_refl _ | (refine cos_cons ?_ ?_) | exact co_refl _ | exact co_own _ _ _ | exact co_nilsB | exact co_nilsL _ _ | exact co_nils _ | (refine co_agg ?_) | (refine co_fn ?_)))); (focus (simp only [purAs, purA, Bool.and_self, Bool.and_true, Back.v, Back.c, zB, big4_len]))))); done)); (try simp only [St.put, Nat.reduceLT, ↓reduceIte, mrg_t, mrg_f, Bool.not_true, Bool.not_false]))
      | ((first | ((with_reducible refine opsP_cons fun K3 hK3 => ?_); simp only [wantP, opP, valP, List.map_cons, List.map_nil, List.mapM_cons, List.mapM_nil, List.all_cons, List.all_nil]) | ((with_reducible refine opsO_first (o := ?_) ?_ fun K3 hK3 => ?_); rotate_left 1; (focus (simp only [List.getElem?_toArray, List.getElem?_cons_succ, List.getElem?_cons_zero] <;> rfl)); simp only [wantP, firstP, valP, List.toList_toArray, Array.toList_empty, List.map_cons, List.map_nil, List.mapM_cons, List.mapM_nil, List.all_cons, List.all_nil]) | ((with_reducible refine opsO_only (o := ?_) ?_ fun K3 hK3 => ?_); rotate_left 1; (focus (simp only [List.getElem?_toArray, List.getElem?_cons_succ, List.getElem?_cons_zero] <;> rfl)); simp only [wantP, opP, valP, List.toList_toArray, Array.toList_empty, List.map_cons, List.map_nil, List.mapM_cons, List.mapM_nil, List.all_cons, List.all_nil]) | (with_reducible refine PW.condM fun X1 Y1 hX1 hY1 => ?_) | skip); simp (disch := omega) only [wantB_tf, St.eval, St.put, upd_app, iniT_app, avOf, avOf1, wf_i64, nom, cellsA, AV.okv, loadA, lenP, binP, intsP, intP, nilP, unP, builtinP, wi_i64, isMapA, U3, U4, U5, slA, max2, putCells, fillA, buildA, elA, dv1, encB_len, U7, Ua, Ub, Uc, Ud, Uf, Ug, Ui, Uk, Ul, Ur, Us, Ut, Uu, Uv, List.mapM_cons, List.mapM_nil, Uw, Ux, Uz, V0, V1, V4, Option.bind_eq_bind, Option.pure_def, Nat.reduceLT, Nat.reduceLeDiff, Nat.reduceAdd, Nat.reduceMul, Nat.reduceEqDiff, V9, Va, Vc, Ve, Vt, Int.reduceLE, Int.reduceNeg, Vu, Vf, Vn, Vo, ↓reduceIte, Vp, reduceCtorEq, Vw, Vz, UU0, UU2, UU3, UU9, Vr, sz3, ze22, Tryd.underlying22, sz33, sz35, ze35, pl35, fi35_0, fi35_7, el118, Back.v, Back.c, big4_len, retQ, resP, tupA, fg, fgs, condP, condB_t, condB_f]; try (with_reducible (first | exact co_refl _ | exact co_own _ _ _ | exact co_nilsB | exact co_nilsL _ _))))
  all_goals first
    | exact end_bad rfl
    | exact end_bad (by rw [hO]; first | rfl | exact Bool.and_false _)
    | exact end_long (by rw [hO]; rfl) (by have h9 := of_decide_eq_true hb; split at h9 <;> split <;> omega)
    | (rw [end_ok (by rw [hO]; rfl) (by have h9 := of_decide_eq_false hb; split at h9 <;> split <;> omega)]; exact co_refl _)
    | (rw [end_ok (by rw [hO]; rfl) (by decide)]; exact co_refl _)
end PM
end Go.Proofs.YthaekefdadccaaaDoor
