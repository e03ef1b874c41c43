/- pgwire in the abstract: a client's message as bytes: kind 3. -/
import Derived.Test.YthaekefdadccaaaDoorPgFB
namespace Go.Proofs.YthaekefdadccaaaDoor
open Go.RowKit
namespace PM
set_option maxRecDepth 100000 in
set_option maxHeartbeats 4000000 in
theorem pPutFront3 (f : Front) (hk : f.kind = 3) : Pure Tryd.prog 18 [f.v] (.tup [bs (putFrontS f).1, .d (.int .i64 (putFrontS f).2)]) := by
  refine pure_intro Tryd.func18 rfl rfl rfl 184 rfl (fun hh => ?_)
  obtain ⟨xk, xp, xt, xi, xs, xg⟩ := f
  simp only at hk
  subst hk
  have hmx : maxLen = 9223372036854775807 := rfl
  cases hlk : (Front.only ⟨3, xp, xt, xi, xs, xg⟩).like ⟨3, xp, xt, xi, xs, xg⟩
  · have hL := hlk
    simp only [Front.only, Front.like, zF, Int.reduceEq, ↓reduceIte, List.length_nil] at hL
    rw [← assoc5] at hL
    simp only [decide_true, Bool.and_true, decide_true, Int.cast_ofNat_Int] at hL
    have hbad := fput_bad (f := ⟨3, xp, xt, xi, xs, xg⟩) (by rw [hlk, Bool.and_false])
    repeat' (first
      | (with_reducible (first
        | refine PW.seq fun K1 hK1 => ?_
        | refine PW.region fun K2 hK2 => ?_
        | (refine hK3 _ ?_; clear hK3)
        | (refine opsP_nil ?_; refine hK2 _ ?_; clear hK2)
        | refine litX_old ?_
        | refine litC_data ?_
        | (refine Exists.intro _ (Exists.intro _ (And.intro rfl (And.intro rfl (And.intro ?_ ?_)))); focus omega)
        | (refine hK1 _ ?_; clear hK1)
        | refine nilC_intro (fun hz => ?_) ?_
        | refine PW.block ?_
        | refine PW.skip ?_
        | refine PW.exit ?_
        | refine PW.ret ?_
        | (refine hX1 ?_; clear hX1 hY1; try simp only [hb])
        | (refine hY1 ?_; clear hX1 hY1; try simp only [hb])
        | exact co_refl _
        | exact co_own _ _ _
        | exact co_nilsB
        | exact co_nilsL _ _
        | (refine opsO_nil ?_; refine hK2 _ ?_; clear hK2)
        | (refine keepO_intro ?_ ?_; focus (first | exact .inl (keep_same _ _) | exact .inl (keep_box _ _ _ _) | exact .inl (keep_hd _ _ _ _ _) | exact .inl (keep_02 _ _ _ _ _ _ _) | exact .inr ⟨rfl, rfl⟩))
        | (refine keepA_intro ?_ ?_; focus (first | exact keep_same _ _ | exact keep_box _ _ _ _ | exact keep_hd _ _ _ _ _ | exact keep_02 _ _ _ _ _ _ _))))
      | ((first | (with_reducible refine wantB_intro (fun hb => ?_) (fun hb => ?_)) | (with_reducible refine condB_intro (fun hb => ?_) (fun hb => ?_))) <;> ((try (have hp := hb; simp only [decide_eq_true_eq, decide_eq_false_iff_not] at hp)); try simp only [hb, Bool.not_true, Bool.not_false]))
      | ((with_reducible refine callP_new ?_ ?_ (pBig4 ?_) ?_); (focus (repeat' (first | exact cos_refl _ | (refine cos_cons ?_ ?_) | exact co_refl _ | exact co_own _ _ _ | exact co_nilsB | exact co_nilsL _ _ | exact co_nils _ | (refine co_agg ?_) | (refine co_fn ?_)))); (focus (simp only [purAs, purA, Bool.and_self])))
      | ((with_reducible refine callP_row ?_ ?_ ?_ ?_ (pBig4o ?_ ?_ ?_) ?_); (with_reducible exact rfl); (focus (simp only [List.getElem?_cons_zero, List.length_append]; try rfl)); (focus (repeat' (first | exact cos_refl _ | (refine cos_cons ?_ ?_) | exact co_refl _ | exact co_own _ _ _ | exact co_nilsB | exact co_nilsL _ _ | exact co_nils _ | (refine co_agg ?_) | (refine co_fn ?_)))); (focus (simp only [purAs, purA, Bool.and_self])))
      | ((with_reducible refine callP_pure ?_ ?_ (pSmall ?_ ?_) (fun _ => ?_)); (focus (repeat' (first | exact cos_refl _ | (refine cos_cons ?_ ?_) | exact co_refl _ | exact co_own _ _ _ | exact co_nilsB | exact co_nilsL _ _ | exact co_nils _ | (refine co_agg ?_) | (refine co_fn ?_)))); (focus (simp only [purAs, purA, Bool.and_self])))
      | ((with_reducible refine firstP_call ?_ ?_ (pSmall ?_ ?_) ?_); (focus (repeat' (first | exact cos_refl _ | (refine cos_cons ?_ ?_) | exact co_refl _ | exact co_own _ _ _ | exact co_nilsB | exact co_nilsL _ _ | exact co_nils _ | (refine co_agg ?_) | (refine co_fn ?_)))); (focus (simp only [purAs, purA, Bool.and_self, Bool.and_true, Front.v, Front.c, zF, big4_l, hL])))
      | ((with_reducible refine PW.draw (id := 19) mixed [0] [7] [(0, true), (1, true), (2, true), (3, true), (4, true), (5, false), (6, true), (7, false)] (by kernel_rfl) (by decide) fun K2 hK2 => ?_))
      | ((with_reducible refine PW.drawR (id := 21) mixed [] [(1, true), (2, true), (4, true), (5, true), (0, false), (3, false), (6, false), (7, true)] (by kernel_rfl) (by decide) fun K2 hK2 => ?_))
      | ((with_reducible refine PW.drawR (id := 24) mixed [] [(0, true), (1, true), (4, true), (5, true), (2, true), (6, true), (3, false), (7, false), (8, true), (9, true), (10, true)] (by kernel_rfl) (by decide) fun K2 hK2 => ?_))
      | ((with_reducible refine PW.drawR (id := 29) mixed [] [(0, true), (1, true), (2, true), (3, true), (4, true), (5, true), (6, true), (7, true), (8, true), (9, true), (10, true), (11, true), (12, true), (13, true), (14, true), (15, true), (16, true), (17, true), (18, true), (19, true), (20, true), (21, true)] (by kernel_rfl) (by decide) fun K2 hK2 => ?_))
      | ((with_reducible refine And.intro ?_ ?_); (focus (first | omega | (simp; done) | assumption)))
      | (simp only [thenP, blockP]; (try ((repeat (fail_if_success (with_reducible refine hK1 _ ?_)); clear hK1); (with_reducible refine hK1 _ ?_); clear hK1)))
      | (with_reducible omega)
      | (assumption)
      | ((fail_if_success (with_reducible (first | refine opsP_consD (d := 38) fun K3 hK3 => ?_ | refine opsP_consD (d := 39) fun K3 hK3 => ?_ | refine opsP_consD (d := 40) fun K3 hK3 => ?_ | refine opsP_consD (d := 41) fun K3 hK3 => ?_ | refine opsP_consD (d := 42) fun K3 hK3 => ?_ | refine opsP_consD (d := 43) fun K3 hK3 => ?_))); (first | ((with_reducible refine opsP_consMt (d := ?_) (dj := ?_) (b := ?_) (r := ?_) ?_ ?_ (fun hb => ?_) (fun K3 hK3 => ?_)); rotate_left 3; (focus exact rfl); (focus (simp only [upd_app, Nat.reduceEqDiff, ↓reduceIte]; exact rfl))) | ((with_reducible refine opsP_consMf (d := ?_) (dj := ?_) (b := ?_) (r := ?_) ?_ ?_ (fun hb => ?_) (fun K3 hK3 => ?_)); rotate_left 3; (focus exact rfl); (focus (simp only [upd_app, Nat.reduceEqDiff, ↓reduceIte]; exact rfl))) | ((with_reducible refine opsP_consNt (d := ?_) (dj := ?_) (b := ?_) (r := ?_) (c := ?_) ?_ ?_ (fun hb => ?_) (fun K3 hK3 => ?_)); rotate_left 4; (focus exact rfl); (focus (simp only [St.put, upd_app, iniT_app, Nat.reduceEqDiff, ↓reduceIte, mrg_t, mrg_f]; exact rfl))) | ((with_reducible refine opsP_consNf (d := ?_) (dj := ?_) (b := ?_) (r := ?_) (c := ?_) ?_ ?_ (fun hb => ?_) (fun K3 hK3 => ?_)); rotate_left 4; (focus exact rfl); (focus (simp only [St.put, upd_app, iniT_app, Nat.reduceEqDiff, ↓reduceIte, mrg_t, mrg_f]; exact rfl)))); (focus (simp only [opP, valP, List.map_cons, List.map_nil]; (try (simp only [Bool.and_eq_true, Bool.not_eq_true'] at hb)); (try (have hp := hb; simp only [Bool.and_eq_true, Bool.not_eq_eq_eq_not, Bool.not_false, decide_eq_true_eq] at hp)); simp (disch := omega) only [St.eval, upd_app, loadA, lenP, binP, intsP, intP, nilP, unP, builtinP, isMapA, slA, encL_len, Ua, Ub, Uk, Ul, Nat.reduceLT, Nat.reduceEqDiff, V9, Ve, Vu, Vf, Vo, ↓reduceIte, Vp, Vw, Vx, Vz, UU0, sz3, sz5, sz24, Tryd.underlying24, fi26_1, fi26_3, fi26_4, fi26_5, mrg_t, hb]; (repeat' (first | (exact rfl) | ((refine And.intro ?_ ?_); (focus (exact rfl)); (exact rfl)) | (refine And.intro (by first | omega | (simp; done) | assumption) ?_) | ((with_reducible refine callP_pure ?_ ?_ (pSmall ?_ ?_) (fun _ => ?_)); (focus (repeat' (first | exact cos_refl _ | (refine cos_cons ?_ ?_) | exact co_refl _ | exact co_own _ _ _ | exact co_nilsB | exact co_nilsL _ _ | exact co_nils _ | (refine co_agg ?_) | (refine co_fn ?_)))); (focus (simp only [purAs, purA, Bool.and_self, Bool.and_true, Front.v, Front.c, zF, big4_l, hL]))))); done)); (try simp only [St.put, Nat.reduceLT, ↓reduceIte]))
      | ((first | ((with_reducible (first | refine opsP_consD (d := 38) fun K3 hK3 => ?_ | refine opsP_consD (d := 39) fun K3 hK3 => ?_ | refine opsP_consD (d := 40) fun K3 hK3 => ?_ | refine opsP_consD (d := 41) fun K3 hK3 => ?_ | refine opsP_consD (d := 42) fun K3 hK3 => ?_ | refine opsP_consD (d := 43) fun K3 hK3 => ?_)); simp only [wantP, opP, valP, List.toList_toArray, Array.toList_empty, List.map_cons, List.map_nil, List.mapM_cons, List.mapM_nil, List.all_cons, List.all_nil]) | ((with_reducible refine opsP_cons fun K3 hK3 => ?_); simp only [wantP, opP, valP, List.map_cons, List.map_nil, List.mapM_cons, List.mapM_nil, List.all_cons, List.all_nil]) | ((with_reducible refine opsO_first (o := ?_) ?_ fun K3 hK3 => ?_); rotate_left 1; (focus (simp only [List.getElem?_toArray, List.getElem?_cons_succ, List.getElem?_cons_zero] <;> rfl)); simp only [wantP, firstP, valP]) | ((with_reducible refine opsO_only (o := ?_) ?_ fun K3 hK3 => ?_); rotate_left 1; (focus (simp only [List.getElem?_toArray, List.getElem?_cons_succ, List.getElem?_cons_zero] <;> rfl)); simp only [wantP, opP, List.map_cons, List.map_nil, List.all_cons, List.all_nil]) | (with_reducible refine PW.condM fun X1 Y1 hX1 hY1 => ?_) | skip); simp (disch := omega) only [St.eval, St.put, upd_app, iniT_app, avOf, avOf1, wf_i64, wf_u8, nom, cellsA, AV.okv, loadA, binP, intsP, intP, strP, nilP, unP, U3, U4, U5, slA, putCells, fillA, buildA, elA, dv1, U7, Ua, Ub, Uc, Ud, Uf, Ug, Ui, Uk, Ul, Ur, Us, Ut, Uu, Uv, List.mapM_cons, List.mapM_nil, Uw, Ux, V0, V1, V4, Option.bind_eq_bind, Option.pure_def, Nat.reduceLT, Nat.reduceLeDiff, Nat.reduceAdd, Nat.reduceMul, Nat.reduceEqDiff, V9, Va, Ve, Vt, Int.reduceLE, Int.reduceNeg, Vu, Vf, Vg, Vj, Vn, Vo, ↓reduceIte, Vp, reduceCtorEq, Vw, Vx, Vz, UU0, UU1, UU2, UU3, UU6, UU9, Vr, Vs, sz3, ze3, sz9, sz26, ze26, pl26, fi26_0, fi26_2, fi26_3, fi26_4, el108, Front.v, Front.c, big4_l, hL, pick_or, pick_and, condP, condB_t, firstOk, List.mem_cons]; try (with_reducible (first | exact co_refl _ | exact co_own _ _ _ | exact co_nilsB | exact co_nilsL _ _))))
    all_goals exact hbad
  · have hL := hlk
    simp only [Front.only, Front.like, zF, Int.reduceEq, ↓reduceIte, Bool.and_eq_true, decide_eq_true_eq, List.length_nil, true_and] at hL
    obtain ⟨rfl, rfl, h0⟩ := hL
    obtain rfl := List.eq_nil_of_length_eq_zero h0.symm
    repeat' (first
      | (with_reducible (first
        | refine PW.seq fun K1 hK1 => ?_
        | refine PW.region fun K2 hK2 => ?_
        | (refine hK3 _ ?_; clear hK3)
        | (refine opsP_nil ?_; refine hK2 _ ?_; clear hK2)
        | refine litX_old ?_
        | refine litC_data ?_
        | (refine Exists.intro _ (Exists.intro _ (And.intro rfl (And.intro rfl (And.intro ?_ ?_)))); focus omega)
        | (refine hK1 _ ?_; clear hK1)
        | refine nilC_intro (fun hz => ?_) ?_
        | refine PW.block ?_
        | refine PW.skip ?_
        | refine PW.exit ?_
        | refine PW.ret ?_
        | (refine hX1 ?_; clear hX1 hY1; try simp only [hb])
        | (refine hY1 ?_; clear hX1 hY1; try simp only [hb])
        | exact co_refl _
        | exact co_own _ _ _
        | exact co_nilsB
        | exact co_nilsL _ _
        | (refine opsO_nil ?_; refine hK2 _ ?_; clear hK2)
        | (refine keepO_intro ?_ ?_; focus (first | exact .inl (keep_same _ _) | exact .inl (keep_box _ _ _ _) | exact .inl (keep_hd _ _ _ _ _) | exact .inl (keep_02 _ _ _ _ _ _ _) | exact .inr ⟨rfl, rfl⟩))
        | (refine keepA_intro ?_ ?_; focus (first | exact keep_same _ _ | exact keep_box _ _ _ _ | exact keep_hd _ _ _ _ _ | exact keep_02 _ _ _ _ _ _ _))))
      | ((first | (with_reducible refine wantB_intro (fun hb => ?_) (fun hb => ?_)) | (with_reducible refine condB_intro (fun hb => ?_) (fun hb => ?_))) <;> ((try (have hp := hb; simp only [Bool.and_eq_true, Bool.and_eq_false_iff, Bool.not_eq_eq_eq_not, Bool.not_true, Bool.not_false, decide_eq_true_eq, decide_eq_false_iff_not] at hp)); try simp only [hb, Bool.not_true, Bool.not_false]))
      | ((with_reducible refine callP_new ?_ ?_ (pBig4 ?_) ?_); (focus (repeat' (first | exact cos_refl _ | (refine cos_cons ?_ ?_) | exact co_refl _ | exact co_own _ _ _ | exact co_nilsB | exact co_nilsL _ _ | exact co_nils _ | (refine co_agg ?_) | (refine co_fn ?_)))); (focus (simp only [purAs, purA, Bool.and_self])))
      | ((with_reducible refine callP_row ?_ ?_ ?_ ?_ (pBig4t ?_ ?_) ?_); (with_reducible exact rfl); (focus (simp only [List.getElem?_cons_zero, List.getElem?_cons_succ, List.length_append, List.length_cons, List.length_nil, Nat.zero_add]; try rfl)); (focus (repeat' (first | exact cos_refl _ | (refine cos_cons ?_ ?_) | exact co_refl _ | exact co_own _ _ _ | exact co_nilsB | exact co_nilsL _ _ | exact co_nils _ | (refine co_agg ?_) | (refine co_fn ?_)))); (focus (simp only [purAs, purA, Bool.and_self, Bool.and_true, Front.v, Front.c, zF, big4_l])))
      | ((with_reducible refine callP_new ?_ ?_ (pConcat2 ?_ ?_ ?_) ?_); (focus (repeat' (first | exact cos_refl _ | (refine cos_cons ?_ ?_) | exact co_refl _ | exact co_own _ _ _ | exact co_nilsB | exact co_nilsL _ _ | exact co_nils _ | (refine co_agg ?_) | (refine co_fn ?_)))); (focus (simp only [purAs, purA, Bool.and_self])))
      | ((with_reducible refine callP_new ?_ ?_ (pConcatN ?_ ?_) ?_); (focus (repeat' (first | exact cos_refl _ | (refine cos_cons ?_ ?_) | exact co_refl _ | exact co_own _ _ _ | exact co_nilsB | exact co_nilsL _ _ | exact co_nils _ | (refine co_agg ?_) | (refine co_fn ?_)))); (focus (simp only [purAs, purA, Bool.and_self, Bool.and_true, Front.v, Front.c, zF, big4_l])))
      | ((with_reducible refine callP_row ?_ ?_ ?_ ?_ (pBig4o ?_ ?_ ?_) ?_); (with_reducible exact rfl); (focus (simp only [List.getElem?_cons_zero, List.length_append]; try rfl)); (focus (repeat' (first | exact cos_refl _ | (refine cos_cons ?_ ?_) | exact co_refl _ | exact co_own _ _ _ | exact co_nilsB | exact co_nilsL _ _ | exact co_nils _ | (refine co_agg ?_) | (refine co_fn ?_)))); (focus (simp only [purAs, purA, Bool.and_self])))
      | ((with_reducible refine callP_pure ?_ ?_ (pSmall ?_ ?_) (fun _ => ?_)); (focus (repeat' (first | exact cos_refl _ | (refine cos_cons ?_ ?_) | exact co_refl _ | exact co_own _ _ _ | exact co_nilsB | exact co_nilsL _ _ | exact co_nils _ | (refine co_agg ?_) | (refine co_fn ?_)))); (focus (simp only [purAs, purA, Bool.and_self])))
      | ((with_reducible refine firstP_call ?_ ?_ (pSmall ?_ ?_) ?_); (focus (repeat' (first | exact cos_refl _ | (refine cos_cons ?_ ?_) | exact co_refl _ | exact co_own _ _ _ | exact co_nilsB | exact co_nilsL _ _ | exact co_nils _ | (refine co_agg ?_) | (refine co_fn ?_)))); (focus (simp only [purAs, purA, Bool.and_self, Bool.and_true, Front.v, Front.c, zF, big4_l])))
      | ((with_reducible refine PW.draw (id := 19) mixed [0] [7] [(0, true), (1, true), (2, true), (3, true), (4, true), (5, false), (6, true), (7, false)] (by kernel_rfl) (by decide) fun K2 hK2 => ?_))
      | ((with_reducible refine PW.drawR (id := 21) mixed [] [(1, true), (2, true), (4, true), (5, true), (0, false), (3, false), (6, false), (7, true)] (by kernel_rfl) (by decide) fun K2 hK2 => ?_))
      | ((with_reducible refine PW.drawR (id := 24) mixed [] [(0, true), (1, true), (4, true), (5, true), (2, true), (6, true), (3, false), (7, false), (8, true), (9, true), (10, true)] (by kernel_rfl) (by decide) fun K2 hK2 => ?_))
      | ((with_reducible refine PW.drawR (id := 29) mixed [] [(0, true), (1, true), (2, true), (3, true), (4, true), (5, true), (6, true), (7, true), (8, true), (9, true), (10, true), (11, true), (12, true), (13, true), (14, true), (15, true), (16, true), (17, true), (18, true), (19, true), (20, true), (21, true)] (by kernel_rfl) (by decide) fun K2 hK2 => ?_))
      | ((with_reducible refine And.intro ?_ ?_); (focus (first | omega | (simp; done) | assumption)))
      | (simp only [thenP, blockP]; (try ((repeat (fail_if_success (with_reducible refine hK1 _ ?_)); clear hK1); (with_reducible refine hK1 _ ?_); clear hK1)))
      | (with_reducible omega)
      | (assumption)
      | ((fail_if_success (with_reducible (first | refine opsP_consD (d := 38) fun K3 hK3 => ?_ | refine opsP_consD (d := 39) fun K3 hK3 => ?_ | refine opsP_consD (d := 40) fun K3 hK3 => ?_ | refine opsP_consD (d := 41) fun K3 hK3 => ?_ | refine opsP_consD (d := 42) fun K3 hK3 => ?_ | refine opsP_consD (d := 43) fun K3 hK3 => ?_))); (first | ((with_reducible refine opsP_consMt (d := ?_) (dj := ?_) (b := ?_) (r := ?_) ?_ ?_ (fun hb => ?_) (fun K3 hK3 => ?_)); rotate_left 3; (focus exact rfl); (focus (simp only [upd_app, Nat.reduceEqDiff, ↓reduceIte]; exact rfl))) | ((with_reducible refine opsP_consMf (d := ?_) (dj := ?_) (b := ?_) (r := ?_) ?_ ?_ (fun hb => ?_) (fun K3 hK3 => ?_)); rotate_left 3; (focus exact rfl); (focus (simp only [upd_app, Nat.reduceEqDiff, ↓reduceIte]; exact rfl))) | ((with_reducible refine opsP_consNt (d := ?_) (dj := ?_) (b := ?_) (r := ?_) (c := ?_) ?_ ?_ (fun hb => ?_) (fun K3 hK3 => ?_)); rotate_left 4; (focus exact rfl); (focus (simp only [St.put, upd_app, iniT_app, Nat.reduceEqDiff, ↓reduceIte, mrg_t, mrg_f]; exact rfl))) | ((with_reducible refine opsP_consNf (d := ?_) (dj := ?_) (b := ?_) (r := ?_) (c := ?_) ?_ ?_ (fun hb => ?_) (fun K3 hK3 => ?_)); rotate_left 4; (focus exact rfl); (focus (simp only [St.put, upd_app, iniT_app, Nat.reduceEqDiff, ↓reduceIte, mrg_t, mrg_f]; exact rfl)))); (focus (simp only [opP, valP, List.map_cons, List.map_nil]; (try (simp only [Bool.not_eq_true'] at hb)); (try (have hp := hb; simp only [Bool.and_eq_true, Bool.not_eq_eq_eq_not, Bool.not_false] at hp)); simp (disch := omega) only [St.eval, upd_app, avOf, avOf1, wf_i64, loadA, lenP, binP, intsP, intP, nilP, unP, builtinP, isMapA, slA, encL_len, Ua, Ub, Ug, Uk, Ul, Nat.reduceLT, Nat.reduceEqDiff, V9, Ve, Int.reduceLE, Int.reduceLT, Int.reduceNeg, Int.cast_ofNat_Int, Vu, Vv, Vf, Vn, Vo, ↓reduceIte, Vp, Vw, Vx, Vz, UU0, sz3, sz5, sz24, Tryd.underlying24, fi26_1, fi26_3, fi26_4, fi26_5, mrg_t, hb]; (repeat' (first | (exact rfl) | ((refine And.intro ?_ ?_); (focus (exact rfl)); (exact rfl)) | (refine And.intro (by first | omega | (simp; done) | assumption) ?_) | ((with_reducible refine callP_pure ?_ ?_ (pSmall ?_ ?_) (fun _ => ?_)); (focus (repeat' (first | exact cos_refl _ | (refine cos_cons ?_ ?_) | exact co_refl _ | exact co_own _ _ _ | exact co_nilsB | exact co_nilsL _ _ | exact co_nils _ | (refine co_agg ?_) | (refine co_fn ?_)))); (focus (simp only [purAs, purA, Bool.and_self, Bool.and_true, Front.v, Front.c, zF, big4_l]))))); done)); (try simp only [St.put, Nat.reduceLT, ↓reduceIte, mrg_t, Bool.not_false]))
      | ((first | ((with_reducible (first | refine opsP_consD (d := 38) fun K3 hK3 => ?_ | refine opsP_consD (d := 39) fun K3 hK3 => ?_ | refine opsP_consD (d := 40) fun K3 hK3 => ?_ | refine opsP_consD (d := 41) fun K3 hK3 => ?_ | refine opsP_consD (d := 42) fun K3 hK3 => ?_ | refine opsP_consD (d := 43) fun K3 hK3 => ?_)); simp only [wantP, opP, valP, List.toList_toArray, Array.toList_empty, List.map_cons, List.map_nil, List.mapM_cons, List.mapM_nil, List.all_cons, List.all_nil]) | ((with_reducible refine opsP_cons fun K3 hK3 => ?_); simp only [wantP, opP, valP, List.map_cons, List.map_nil, List.mapM_cons, List.mapM_nil, List.all_cons, List.all_nil]) | ((with_reducible refine opsO_first (o := ?_) ?_ fun K3 hK3 => ?_); rotate_left 1; (focus (simp only [List.getElem?_toArray, List.getElem?_cons_succ, List.getElem?_cons_zero] <;> rfl)); simp only [wantP, firstP, valP]) | ((with_reducible refine opsO_only (o := ?_) ?_ fun K3 hK3 => ?_); rotate_left 1; (focus (simp only [List.getElem?_toArray, List.getElem?_cons_succ, List.getElem?_cons_zero] <;> rfl)); simp only [wantP, opP, List.map_cons, List.map_nil, List.all_cons, List.all_nil]) | (with_reducible refine PW.condM fun X1 Y1 hX1 hY1 => ?_) | skip); simp (disch := omega) only [St.eval, St.put, upd_app, iniT_app, avOf, avOf1, wf_i64, wf_u8, nom, cellsA, AV.okv, loadA, lenP, binP, intsP, intP, strP, nilP, unP, builtinP, wi_i64, isMapA, U3, U4, U5, slA, putCells, fillA, buildA, elA, dv1, encB_len, U7, Ua, Ub, Uc, Ud, Uf, Ug, Ui, Uk, Ul, Ur, Us, Ut, Uu, Uv, List.mapM_cons, List.mapM_nil, Uw, Ux, V0, V1, V4, Option.bind_eq_bind, Option.pure_def, Nat.reduceLT, Nat.reduceLeDiff, Nat.reduceAdd, Nat.reduceMul, Nat.reduceEqDiff, V9, Va, Vc, Ve, Vt, Int.reduceLE, Int.reduceLT, Int.reduceNeg, Int.reduceAdd, Int.cast_ofNat_Int, Vu, Vv, Vf, Vg, Vk, Vn, Vo, ↓reduceIte, Vp, reduceCtorEq, Vw, Vx, Vz, UU0, UU1, UU2, UU3, UU6, UU9, Vr, Vs, sz3, ze3, sz9, ze22, Tryd.underlying22, sz26, ze26, pl26, fi26_0, fi26_2, fi26_3, fi26_4, el108, el118, Front.v, Front.c, big4_l, mrg_t, mrg_f, pick_or, retQ, resP, tupA, fg, fgs, condP, condB_t, condB_f, firstOk, List.mem_cons]; try (with_reducible (first | exact co_refl _ | exact co_own _ _ _ | exact co_nilsB | exact co_nilsL _ _))))
    all_goals first
      | (refine fput_bad ?_; simp only [frontMay, Int.reduceEq, ↓reduceIte]; rw [Bool.and_eq_false_iff]; left; first | (simpa only [Bool.not_eq_true'] using hb) | (simp_all; done))
      | (refine fput_long (by rw [hlk, Bool.and_true]; simp only [frontMay, Int.reduceEq, ↓reduceIte]; simp_all; done) ?_; simp only [frontMost, frontTag, frontBody, Int.reduceEq, ↓reduceIte]; simp at hb ⊢; omega; done)
      | (rw [fput_ok (by rw [hlk, Bool.and_true]; simp only [frontMay, Int.reduceEq, ↓reduceIte]; simp_all; done) (by simp only [frontMost, frontTag, frontBody, Int.reduceEq, ↓reduceIte]; simp [big4_l] at hb ⊢; try omega)]; first | exact co_refl _ | (refine co_eq ?_; simp [frontTag, frontBody, big4_l]; done))
end PM
end Go.Proofs.YthaekefdadccaaaDoor
