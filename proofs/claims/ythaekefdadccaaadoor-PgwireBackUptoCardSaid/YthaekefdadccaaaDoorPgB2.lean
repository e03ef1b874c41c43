/- pgwire in the abstract: a server's message as bytes: the kinds 2 and 7. -/
import Derived.Test.YthaekefdadccaaaDoorPgB1
namespace Go.Proofs.YthaekefdadccaaaDoor
open Go.RowKit
namespace PM
set_option maxRecDepth 100000 in
set_option maxHeartbeats 4000000 in
theorem pPut2 (m : Back) (hk : m.kind = 2) (hz : m.name.length ≤ 100000000000 ∧ m.text.length ≤ 100000000000) : Pure Tryd.prog 16 [m.v] (putV (putBackS m)) := by
  have e0 : putBackS m = putEnd m (!has0 m.name && !has0 m.text) 0 (m.name ++ [0] ++ m.text ++ [0]) := by simp only [putBackS, backMay, backLong, backBody, hk, Int.reduceEq, ↓reduceIte]
  rw [e0]
  refine pure_intro Tryd.func16 rfl rfl rfl 177 rfl (fun hh => ?_)
  obtain ⟨xk, xn, xt, xp, xs, xu, xf, xc, xa, xg⟩ := m
  simp only at hk hz
  subst hk
  have hmx : maxLen = 9223372036854775807 := rfl
  have hT := pTags 2 (by omega)
  have hS := pSame ⟨2, xn, xt, 0, 0, 0, [], [], [], false⟩ ⟨2, xn, xt, xp, xs, xu, xf, xc, xa, xg⟩
  obtain ⟨L, hL⟩ : ∃ L, Back.like ⟨2, xn, xt, 0, 0, 0, [], [], [], false⟩ ⟨2, xn, xt, xp, xs, xu, xf, xc, xa, xg⟩ = L := ⟨_, rfl⟩
  have hO : Back.like (Back.only ⟨2, xn, xt, xp, xs, xu, xf, xc, xa, xg⟩) ⟨2, xn, xt, xp, xs, xu, xf, xc, xa, xg⟩ = L := hL
  rw [hL] at hS
  have hX1 := pText1 xn (by omega)
  have hX2 := pText1o (xn ++ [0]) xt (by simp only [List.length_append, List.length_cons, List.length_nil]; omega)
  have hCl := pClean2 xn xt
  obtain ⟨b, hbb⟩ : ∃ b, xn ++ [0] ++ xt ++ [0] = b := ⟨_, rfl⟩
  have hbl : b.length ≤ 200000000002 := by rw [← hbb]; simp only [List.length_append, List.length_cons, List.length_nil]; omega
  rw [hbb] at hX2
  simp only [hbb]
  obtain ⟨B, hB⟩ : ∃ B, (!has0 xn && !has0 xt) = B := ⟨_, rfl⟩
  rw [hB] at hCl
  simp only [hB]
  clear hB
  cases B
  all_goals cases L
  all_goals
    repeat' (first
      | ((with_reducible (first
       | (refine PW.seq fun K1 hK1 => ?_) | (refine PW.region fun K2 hK2 => ?_) | ((refine hK3 _ ?_; clear hK3)) | ((refine opsP_nil ?_; refine hK2 _ ?_; clear hK2)) | (refine litX_old ?_) | (refine litC_data ?_) | (refine PW.block ?_) | (refine PW.skip ?_)
       | (refine PW.exit ?_) | (refine PW.ret ?_) | ((refine hX1 ?_; clear hX1 hY1; try simp only [hb])) | ((refine hY1 ?_; clear hX1 hY1; try simp only [hb])) | ((refine opsO_nil ?_; refine hK2 _ ?_; clear hK2)) | ((refine keepA_intro ?_ ?_; focus (first | exact keep_same _ _ | exact keep_box _ _ _ _ | exact keep_hd _ _ _ _ _ | exact keep_02 _ _ _ _ _ _ _ | exact keep_1 _ _ _ _ _ _ _))))))
      | (((first | (with_reducible refine wantB_intro (fun hb => ?_) (fun hb => ?_)) | (with_reducible refine condB_intro (fun hb => ?_) (fun hb => ?_))) <;> ((try (have hp := hb; simp only [PmH] at hp)); try simp only [hb, Bool.not_true, Bool.not_false])))
      | (((with_reducible refine cC_new ?_ (hX1) ?_); (focus ((repeat' constructor) <;> (simp only [purAs, purA, Vf, Bool.and_self, Back.v, Back.c, zB, big4_len]; done)))))
      | (((with_reducible refine cC_row ?_ ?_ ?_ (hX2) ?_); (with_reducible exact rfl); (focus (simp only [Ua, Ui, Uf, Ug, V9]; try rfl)); (focus ((repeat' constructor) <;> (simp only [purAs, purA, Vf, Bool.and_self, Back.v, Back.c, zB, big4_len]; done)))))
      | (((with_reducible refine cC_row ?_ ?_ ?_ (pBig4t ?_ ?_) ?_); (with_reducible exact rfl); (focus (simp only [Ua, Ub]; try rfl)); (focus ((repeat' (first | (refine .cons ?_ ?_) | (exact .nil) | (exact .d _) )) <;> (simp only [purAs, purA, Vf, Bool.and_self, Back.v, Back.c, zB, big4_len]; done)))))
      | (((with_reducible refine cC_new ?_ (pConcat2 ?_ ?_ ?_) ?_); (focus ((repeat' (first | (refine .cons ?_ ?_) | (exact .nil) | (exact .d _) )) <;> (simp only [purAs, purA, Vf, Bool.and_self, Back.v, Back.c, zB, big4_len]; done)))))
      | (((with_reducible refine cC_pure ?_ (hT) (fun _ => ?_)); (focus ((repeat' constructor) <;> (simp only [purAs, purA, Vf, Bool.and_self, Back.v, Back.c, zB, big4_len]; done)))))
      | (((with_reducible refine cC_pure ?_ (hCl) (fun _ => ?_)); (focus ((repeat' constructor) <;> (simp only [purAs, purA, Vf, Bool.and_self, Back.v, Back.c, zB, big4_len]; done)))))
      | (((with_reducible refine PW.draw (id := 27) mixed [0] [] [(0, true), (1, true), (2, true), (3, true), (6, true), (7, true), (8, true), (4, true), (9, true), (5, false), (10, false), (11, true), (12, true)] (by kernel_rfl) (by decide) fun K2 hK2 => ?_)))
      | ((simp only [thenP, blockP, Nat.reduceEqDiff, ↓reduceIte]; (try ((repeat (fail_if_success (with_reducible refine hK1 _ ?_)); clear hK1); (with_reducible refine hK1 _ ?_); clear hK1))))
      | ((with_reducible omega))
      | (((with_reducible refine opsP_consD (d := 169) fun K3 hK3 => ?_); simp only [wantP, opP, Ur, Us, List.mapM_cons, List.mapM_nil, Uw, Ux]; simp (disch := omega) only [St.eval, St.put, upd_app, cellsA, AV.okv, U3, U4, U5, elA, dv1, Uf, Ug, Ut, Uu, Uv, List.mapM_cons, List.mapM_nil, Uw, Ux, V0, V1, V4, Option.bind_eq_bind, Option.pure_def, V9, Ve, UU9, PmL, simprocAttr, PmT]; (with_reducible refine litX_old ?_); (with_reducible refine litC_own ?_)))
      | (((first | ((with_reducible (first | refine opsP_consMt (d := ?_) (dj := ?_) (b := ?_) (r := ?_) ?_ ?_ (fun hb => ?_) (fun K3 hK3 => ?_) | refine opsP_consMf (d := ?_) (dj := ?_) (b := ?_) (r := ?_) ?_ ?_ (fun hb => ?_) (fun K3 hK3 => ?_))); rotate_left 3; (focus exact rfl); (focus (simp only [upd_app, simprocAttr]; exact rfl))) | ((with_reducible (first | refine opsP_consNt (d := ?_) (dj := ?_) (b := ?_) (r := ?_) (c := ?_) ?_ ?_ (fun hb => ?_) (fun K3 hK3 => ?_) | refine opsP_consNf (d := ?_) (dj := ?_) (b := ?_) (r := ?_) (c := ?_) ?_ ?_ (fun hb => ?_) (fun K3 hK3 => ?_))); rotate_left 4; (focus exact rfl); (focus (simp only [St.put, upd_app, iniT_app, simprocAttr, mrg_t, mrg_f]; exact rfl)))); (focus (simp only [opP, valP, Ur, Us]; (try (simp only [Bool.not_eq_true'] at hb)); (try (have hp := hb; simp only [PmH, beq_iff_eq, beq_eq_false_iff_ne, ne_eq] at hp)); simp (disch := omega) only [St.eval, upd_app, loadA, unP, Ua, Ub, Uf, Ug, Uk, Un, Up, Uv, V9, Vr, PmL, simprocAttr, PmT, hb]; (repeat' (first | (exact rfl) | ((refine And.intro ?_ ?_); (focus (exact rfl)); (exact rfl)) | (refine And.intro (by first | omega | (simp; done) | assumption) ?_) | ((with_reducible refine cC_pure ?_ (hT) (fun _ => ?_)); (focus ((repeat' constructor) <;> (simp only [purAs, purA, Vf, Bool.and_self, Back.v, Back.c, zB, big4_len]; done)))) | ((with_reducible refine cC_pure ?_ (hS) (fun _ => ?_)); (focus ((repeat' constructor) <;> (simp only [Back.v, Back.c]; done)))) | ((with_reducible refine cC_pure ?_ (hCl) (fun _ => ?_)); (focus ((repeat' constructor) <;> (simp only [purAs, purA, Vf, Bool.and_self, Back.v, Back.c, zB, big4_len]; done)))))); done)); (try simp only [St.put, Nat.reduceLT, ↓reduceIte, mrg_t, mrg_f, Bool.not_true, Bool.not_false])))
      | (((first | (((with_reducible refine opsP_cons fun K3 hK3 => ?_); simp only [wantP, opP, valP, Ur, Us, List.mapM_cons, List.mapM_nil, Uw, Ux])) | (((with_reducible refine opsO_first (o := ?_) ?_ fun K3 hK3 => ?_); rotate_left 1; (focus (simp only [Uz, Ub, Ua] <;> rfl)); simp only [wantP, firstP, valP, Ur, Us, List.mapM_cons, List.mapM_nil])) | (((with_reducible refine opsO_only (o := ?_) ?_ fun K3 hK3 => ?_); rotate_left 1; (focus (simp only [Uz, Ub, Ua] <;> rfl)); simp only [wantP, opP, Ur, Us, Uw, Ux])) | ((with_reducible refine PW.condM fun X1 Y1 hX1 hY1 => ?_)) | (skip)); simp (disch := omega) only [wantB_tf, St.eval, St.put, upd_app, iniT_app, avOf, avOf1, nom, cellsA, AV.okv, loadA, lenP, binP, intsP, intP, nilP, unP, builtinP, isMapA, U3, U4, U5, slA, max2, putCells, fillA, buildA, elA, dv1, U7, Ua, Ub, Uc, Ud, Uf, Ug, Ui, Uk, Ul, Ur, Us, Ut, Uu, Uv, List.mapM_cons, List.mapM_nil, Uw, Ux, Uz, V0, V1, V4, Option.bind_eq_bind, Option.pure_def, V9, Va, Vc, Ve, Vt, UU2, UU3, UU9, Vr, PmL, simprocAttr, PmT, Back.v, Back.c, big4_len, retQ, resP, tupA, fg, fgs, condP, condB_t, condB_f, firstOk, List.mem_cons]; try (with_reducible (first | exact co_refl _ | exact co_own _ _ _ | exact co_nilsB | exact co_nilsL _ _)))))
  all_goals first
    | exact end_bad rfl
    | exact end_bad (by rw [hO]; first | rfl | exact Bool.and_false _)
    | exact end_long (by rw [hO]; rfl) (by have h9 := of_decide_eq_true hb; split at h9 <;> split <;> omega)
    | (rw [end_ok (by rw [hO]; rfl) (by have h9 := of_decide_eq_false hb; split at h9 <;> split <;> omega)]; exact co_refl _)
    | (rw [end_ok (by rw [hO]; rfl) (by decide)]; exact co_refl _)
set_option maxRecDepth 100000 in
set_option maxHeartbeats 4000000 in
theorem pPut7 (m : Back) (hk : m.kind = 7) (hz : m.text.length ≤ 100000000000) : Pure Tryd.prog 16 [m.v] (putV (putBackS m)) := by
  have e0 : putBackS m = putEnd m (!has0 m.text) 0 (m.text ++ [0]) := by simp only [putBackS, backMay, backLong, backBody, hk, Int.reduceEq, ↓reduceIte]
  rw [e0]
  refine pure_intro Tryd.func16 rfl rfl rfl 177 rfl (fun hh => ?_)
  obtain ⟨xk, xn, xt, xp, xs, xu, xf, xc, xa, xg⟩ := m
  simp only at hk hz
  subst hk
  have hmx : maxLen = 9223372036854775807 := rfl
  have hT := pTags 7 (by omega)
  have hS := pSame ⟨7, [], xt, 0, 0, 0, [], [], [], false⟩ ⟨7, xn, xt, xp, xs, xu, xf, xc, xa, xg⟩
  obtain ⟨L, hL⟩ : ∃ L, Back.like ⟨7, [], xt, 0, 0, 0, [], [], [], false⟩ ⟨7, xn, xt, xp, xs, xu, xf, xc, xa, xg⟩ = L := ⟨_, rfl⟩
  have hO : Back.like (Back.only ⟨7, xn, xt, xp, xs, xu, xf, xc, xa, xg⟩) ⟨7, xn, xt, xp, xs, xu, xf, xc, xa, xg⟩ = L := hL
  rw [hL] at hS
  have hX1 := pText1 xt (by omega)
  obtain ⟨b, hbb⟩ : ∃ b, xt ++ [0] = b := ⟨_, rfl⟩
  have hbl : b.length ≤ 200000000002 := by rw [← hbb]; simp only [List.length_append, List.length_cons, List.length_nil]; omega
  rw [hbb] at hX1
  simp only [hbb]
  have hCl := pClean2 xn xt
  have hnL : L = true → xn = [] := fun h => by
    rw [h] at hL
    simp only [Back.like, Bool.and_eq_true, decide_eq_true_eq] at hL
    exact hL.2.1.symm
  obtain ⟨B, hB⟩ : ∃ B, (!has0 xt) = B := ⟨_, rfl⟩
  rw [hB] at hCl
  simp only [hB]
  clear hB
  cases L
  case' true =>
    obtain rfl := hnL rfl
    have e9 : (!has0 [] && B) = B := rfl
    rw [e9] at hCl
    cases B
  all_goals
    repeat' (first
      | ((with_reducible (first
       | (refine PW.seq fun K1 hK1 => ?_) | (refine PW.region fun K2 hK2 => ?_) | ((refine hK3 _ ?_; clear hK3)) | ((refine opsP_nil ?_; refine hK2 _ ?_; clear hK2)) | (refine litX_old ?_) | (refine litC_data ?_) | (refine PW.block ?_) | (refine PW.skip ?_)
       | (refine PW.exit ?_) | (refine PW.ret ?_) | ((refine hX1 ?_; clear hX1 hY1; try simp only [hb])) | ((refine hY1 ?_; clear hX1 hY1; try simp only [hb])) | ((refine opsO_nil ?_; refine hK2 _ ?_; clear hK2)) | ((refine keepA_intro ?_ ?_; focus (first | exact keep_same _ _ | exact keep_box _ _ _ _ | exact keep_hd _ _ _ _ _ | exact keep_02 _ _ _ _ _ _ _ | exact keep_1 _ _ _ _ _ _ _))))))
      | (((first | (with_reducible refine wantB_intro (fun hb => ?_) (fun hb => ?_)) | (with_reducible refine condB_intro (fun hb => ?_) (fun hb => ?_))) <;> ((try (have hp := hb; simp only [PmH] at hp)); try simp only [hb, Bool.not_true, Bool.not_false])))
      | (((with_reducible refine cC_new ?_ (hX1) ?_); (focus ((repeat' constructor) <;> (simp only [purAs, purA, Vf, Bool.and_self, Back.v, Back.c, zB, big4_len]; done)))))
      | (((with_reducible refine cC_row ?_ ?_ ?_ (pBig4t ?_ ?_) ?_); (with_reducible exact rfl); (focus (simp only [Ua, Ub]; try rfl)); (focus ((repeat' (first | (refine .cons ?_ ?_) | (exact .nil) | (exact .d _) )) <;> (simp only [purAs, purA, Vf, Bool.and_self, Back.v, Back.c, zB, big4_len]; done)))))
      | (((with_reducible refine cC_new ?_ (pConcat2 ?_ ?_ ?_) ?_); (focus ((repeat' (first | (refine .cons ?_ ?_) | (exact .nil) | (exact .d _) )) <;> (simp only [purAs, purA, Vf, Bool.and_self, Back.v, Back.c, zB, big4_len]; done)))))
      | (((with_reducible refine cC_pure ?_ (hT) (fun _ => ?_)); (focus ((repeat' constructor) <;> (simp only [purAs, purA, Vf, Bool.and_self, Back.v, Back.c, zB, big4_len]; done)))))
      | (((with_reducible refine cC_pure ?_ (hCl) (fun _ => ?_)); (focus ((repeat' constructor) <;> (simp only [purAs, purA, Vf, Bool.and_self, Back.v, Back.c, zB, big4_len]; done)))))
      | (((with_reducible refine PW.draw (id := 27) mixed [0] [] [(0, true), (1, true), (2, true), (3, true), (6, true), (7, true), (8, true), (4, true), (9, true), (5, false), (10, false), (11, true), (12, true)] (by kernel_rfl) (by decide) fun K2 hK2 => ?_)))
      | ((simp only [thenP, blockP, Nat.reduceEqDiff, ↓reduceIte]; (try ((repeat (fail_if_success (with_reducible refine hK1 _ ?_)); clear hK1); (with_reducible refine hK1 _ ?_); clear hK1))))
      | ((with_reducible omega))
      | (((with_reducible refine opsP_consD (d := 169) fun K3 hK3 => ?_); simp only [wantP, opP, Ur, Us, List.mapM_cons, List.mapM_nil, Uw, Ux]; simp (disch := omega) only [St.eval, St.put, upd_app, cellsA, AV.okv, U3, U4, U5, elA, dv1, Uf, Ug, Ut, Uu, Uv, List.mapM_cons, List.mapM_nil, Uw, Ux, V0, V1, V4, Option.bind_eq_bind, Option.pure_def, V9, Ve, UU9, PmL, simprocAttr, PmT]; (with_reducible refine litX_old ?_); (with_reducible refine litC_own ?_)))
      | (((first | ((with_reducible (first | refine opsP_consMt (d := ?_) (dj := ?_) (b := ?_) (r := ?_) ?_ ?_ (fun hb => ?_) (fun K3 hK3 => ?_) | refine opsP_consMf (d := ?_) (dj := ?_) (b := ?_) (r := ?_) ?_ ?_ (fun hb => ?_) (fun K3 hK3 => ?_))); rotate_left 3; (focus exact rfl); (focus (simp only [upd_app, simprocAttr]; exact rfl))) | ((with_reducible (first | refine opsP_consNt (d := ?_) (dj := ?_) (b := ?_) (r := ?_) (c := ?_) ?_ ?_ (fun hb => ?_) (fun K3 hK3 => ?_) | refine opsP_consNf (d := ?_) (dj := ?_) (b := ?_) (r := ?_) (c := ?_) ?_ ?_ (fun hb => ?_) (fun K3 hK3 => ?_))); rotate_left 4; (focus exact rfl); (focus (simp only [St.put, upd_app, iniT_app, simprocAttr, mrg_t, mrg_f]; exact rfl)))); (focus (simp only [opP, valP, Ur, Us]; (try (simp only [Bool.not_eq_true'] at hb)); (try (have hp := hb; simp only [PmH] at hp)); simp (disch := omega) only [St.eval, upd_app, loadA, unP, Ua, Ub, Uf, Ug, Uk, Un, Up, Uv, V9, Vr, PmL, simprocAttr, PmT, mrg_t, hb]; (repeat' (first | (exact rfl) | ((refine And.intro ?_ ?_); (focus (exact rfl)); (exact rfl)) | (refine And.intro (by first | omega | (simp; done) | assumption) ?_) | ((with_reducible refine cC_pure ?_ (hT) (fun _ => ?_)); (focus ((repeat' constructor) <;> (simp only [purAs, purA, Vf, Bool.and_self, Back.v, Back.c, zB, big4_len]; done)))) | ((with_reducible refine cC_pure ?_ (hS) (fun _ => ?_)); (focus ((repeat' constructor) <;> (simp only [Back.v, Back.c]; done)))) | ((with_reducible refine cC_pure ?_ (hCl) (fun _ => ?_)); (focus ((repeat' constructor) <;> (simp only [purAs, purA, Vf, Bool.and_self, Back.v, Back.c, zB, big4_len]; done)))))); done)); (try simp only [St.put, Nat.reduceLT, ↓reduceIte, mrg_t, mrg_f, Bool.not_true, Bool.not_false])))
      | (((first | (((with_reducible refine opsP_cons fun K3 hK3 => ?_); simp only [wantP, opP, valP, Ur, Us, List.mapM_cons, List.mapM_nil, Uw, Ux])) | (((with_reducible refine opsO_first (o := ?_) ?_ fun K3 hK3 => ?_); rotate_left 1; (focus (simp only [Uz, Ub, Ua] <;> rfl)); simp only [wantP, firstP, valP, Ur, Us, List.mapM_cons, List.mapM_nil])) | (((with_reducible refine opsO_only (o := ?_) ?_ fun K3 hK3 => ?_); rotate_left 1; (focus (simp only [Uz, Ub, Ua] <;> rfl)); simp only [wantP, opP, Ur, Us, Uw, Ux])) | ((with_reducible refine PW.condM fun X1 Y1 hX1 hY1 => ?_)) | (skip)); simp (disch := omega) only [wantB_tf, St.eval, St.put, upd_app, iniT_app, avOf, avOf1, nom, cellsA, AV.okv, loadA, lenP, binP, intsP, intP, nilP, unP, builtinP, isMapA, U3, U4, U5, slA, max2, putCells, fillA, buildA, elA, dv1, U7, Ua, Ub, Uc, Ud, Uf, Ug, Ui, Uk, Ul, Ur, Us, Ut, Uu, Uv, List.mapM_cons, List.mapM_nil, Uw, Ux, Uz, V0, V1, V4, Option.bind_eq_bind, Option.pure_def, V9, Va, Vc, Ve, Vt, UU2, UU3, UU9, Vr, PmL, simprocAttr, PmT, Back.v, Back.c, big4_len, pick_or, retQ, resP, tupA, fg, fgs, condP, condB_t, condB_f, firstOk, List.mem_cons]; try (with_reducible (first | exact co_refl _ | exact co_own _ _ _ | exact co_nilsB | exact co_nilsL _ _)))))
  all_goals first
    | exact end_bad rfl
    | exact end_bad (by rw [hO]; first | rfl | exact Bool.and_false _)
    | exact end_long (by rw [hO]; rfl) (by have h9 := of_decide_eq_true hb; split at h9 <;> split <;> omega)
    | (rw [end_ok (by rw [hO]; rfl) (by have h9 := of_decide_eq_false hb; split at h9 <;> split <;> omega)]; exact co_refl _)
    | (rw [end_ok (by rw [hO]; rfl) (by decide)]; exact co_refl _)
end PM
end Go.Proofs.YthaekefdadccaaaDoor
