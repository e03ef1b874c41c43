/- pgwire in the abstract: a server's message as bytes: the kinds 1, 8, 10, and those that are none. -/
import Derived.Test.YthaekefdadccaaaDoorPgBf
import Derived.Test.YthaekefdadccaaaDoorPg14
import Derived.Test.YthaekefdadccaaaDoorPgFB
namespace Go.Proofs.YthaekefdadccaaaDoor
open Go.RowKit
namespace PM
def putV (r : List Int × Int) : AV := .tup [bs r.1, .d (.int .i64 r.2)]
theorem end_bad {m : Back} {may : Bool} {long : Int} {body : List Int} (h : (may && m.only.like m) = false) : Co (.tup [.nils, .d (.int .i64 230)]) (putV (putEnd m may long body)) := put_bad h
theorem end_long {m : Back} {may : Bool} {long : Int} {body : List Int} (h : (may && m.only.like m) = true) (hl : 1073741824 < (if long ≤ body.length then (body.length : Int) else long) + 4) : Co (.tup [.nils, .d (.int .i64 231)]) (putV (putEnd m may long body)) := by
  have e : putEnd m may long body = ([], 231) := by
    unfold putEnd
    rw [h, if_neg (by decide), if_pos hl]
  rw [e]
  exact co_tup (cos_cons co_nilsB (cos_cons (co_refl _) cos_nil))
theorem end_ok {m : Back} {may : Bool} {long : Int} {body : List Int} (h : (may && m.only.like m) = true) (hl : ¬ 1073741824 < (if long ≤ body.length then (body.length : Int) else long) + 4) : putEnd m may long body = (tagOf m.kind :: (big4 (body.length + 4) ++ body), 0) := by
  unfold putEnd
  rw [h, if_neg (by decide), if_neg hl]
set_option maxRecDepth 100000 in
set_option maxHeartbeats 4000000 in
theorem pPut1 (m : Back) (hk : m.kind = 1) : Pure Tryd.prog 16 [m.v] (putV (putBackS m)) := by
  have e0 : putBackS m = putEnd m true 0 (big4 0) := by simp only [putBackS, backMay, backLong, backBody, hk, Int.reduceEq, ↓reduceIte]
  rw [e0]
  refine pure_intro Tryd.func16 rfl rfl rfl 177 rfl (fun hh => ?_)
  obtain ⟨xk, xn, xt, xp, xs, xu, xf, xc, xa, xg⟩ := m
  simp only at hk
  subst hk
  have hT := pTags 1 (by omega)
  have hS := pSame ⟨1, [], [], 0, 0, 0, [], [], [], false⟩ ⟨1, xn, xt, xp, xs, xu, xf, xc, xa, xg⟩
  obtain ⟨L, hL⟩ : ∃ L, Back.like ⟨1, [], [], 0, 0, 0, [], [], [], false⟩ ⟨1, xn, xt, xp, xs, xu, xf, xc, xa, xg⟩ = L := ⟨_, rfl⟩
  have hO : Back.like (Back.only ⟨1, xn, xt, xp, xs, xu, xf, xc, xa, xg⟩) ⟨1, xn, xt, xp, xs, xu, xf, xc, xa, xg⟩ = L := hL
  rw [hL] at hS
  cases L
  all_goals
    repeat' (first
      | ((with_reducible (first
       | (refine PW.seq fun K1 hK1 => ?_) | (refine PW.region fun K2 hK2 => ?_) | ((refine hK3 _ ?_; clear hK3)) | ((refine opsP_nil ?_; refine hK2 _ ?_; clear hK2)) | (refine litX_old ?_) | (refine litC_data ?_) | (refine PW.block ?_) | (refine PW.skip ?_)
       | (refine PW.exit ?_) | (refine PW.ret ?_) | ((refine hX1 ?_; clear hX1 hY1; try simp only [hb])) | ((refine hY1 ?_; clear hX1 hY1; try simp only [hb])) )))
      | (((with_reducible refine cC_new ?_ (pBig4 ?_) ?_); (focus ((repeat' (first | (refine .cons ?_ ?_) | (exact .nil) | (exact .d _) | (exact .nl) )) <;> (simp only [purAs, purA, Vf, Bool.and_self, Back.v, Back.c, zB, big4_len]; done)))))
      | (((with_reducible refine cC_row ?_ ?_ ?_ (pBig4t ?_ ?_) ?_); (with_reducible exact rfl); (focus (simp only [Ua, Ub]; try rfl)); (focus ((repeat' (first | (refine .cons ?_ ?_) | (exact .nil) | (exact .d _) )) <;> (simp only [purAs, purA, Vf, Bool.and_self, Back.v, Back.c, zB, big4_len]; done)))))
      | (((with_reducible refine cC_new ?_ (pConcat2 ?_ ?_ ?_) ?_); (focus ((repeat' (first | (refine .cons ?_ ?_) | (exact .nil) | (exact .d _) )) <;> (simp only [purAs, purA, Vf, Bool.and_self, Back.v, Back.c, zB, big4_len]; done)))))
      | (((with_reducible refine cC_pure ?_ (hT) (fun _ => ?_)); (focus ((repeat' constructor) <;> (simp only [purAs, purA, Vf, Bool.and_self, Back.v, Back.c, zB, big4_len]; done)))))
      | ((simp only [thenP, blockP, Nat.reduceEqDiff, ↓reduceIte]; (try ((repeat (fail_if_success (with_reducible refine hK1 _ ?_)); clear hK1); (with_reducible refine hK1 _ ?_); clear hK1))))
      | (((with_reducible refine opsP_consD (d := 169) fun K3 hK3 => ?_); simp only [wantP, opP, Ur, Us, List.mapM_cons, List.mapM_nil, Uw, Ux]; simp (disch := omega) only [St.eval, St.put, upd_app, cellsA, AV.okv, U3, U4, U5, elA, dv1, Uf, Ug, Ut, Uu, Uv, List.mapM_cons, List.mapM_nil, Uw, Ux, V0, V1, V4, Option.bind_eq_bind, Option.pure_def, V9, Ve, UU9, PmL, simprocAttr, PmT]; (with_reducible refine litX_old ?_); (with_reducible refine litC_own ?_)))
      | (((first | ((with_reducible (first | refine opsP_consMt (d := ?_) (dj := ?_) (b := ?_) (r := ?_) ?_ ?_ (fun hb => ?_) (fun K3 hK3 => ?_) | refine opsP_consMf (d := ?_) (dj := ?_) (b := ?_) (r := ?_) ?_ ?_ (fun hb => ?_) (fun K3 hK3 => ?_))); rotate_left 3; (focus exact rfl); (focus (simp only [upd_app, simprocAttr]; exact rfl))) | ((with_reducible (first | refine opsP_consNt (d := ?_) (dj := ?_) (b := ?_) (r := ?_) (c := ?_) ?_ ?_ (fun hb => ?_) (fun K3 hK3 => ?_) | refine opsP_consNf (d := ?_) (dj := ?_) (b := ?_) (r := ?_) (c := ?_) ?_ ?_ (fun hb => ?_) (fun K3 hK3 => ?_))); rotate_left 4; (focus exact rfl); (focus (simp only [St.put, upd_app, iniT_app, simprocAttr, mrg_t, mrg_f]; exact rfl)))); (focus (simp only [opP, valP, Ur, Us]; (try (simp only [Bool.not_eq_true'] at hb)); (try (have hp := hb; simp only [PmH, beq_iff_eq, beq_eq_false_iff_ne, ne_eq] at hp)); simp (disch := omega) only [St.eval, upd_app, loadA, unP, Ua, Ub, Uf, Ug, Uk, Un, Up, Uv, V9, Vr, PmL, simprocAttr, PmT]; (repeat' (first | (exact rfl) | ((refine And.intro ?_ ?_); (focus (exact rfl)); (exact rfl)) | (refine And.intro (by first | omega | (simp; done) | assumption) ?_) | ((with_reducible refine cC_pure ?_ (hT) (fun _ => ?_)); (focus ((repeat' constructor) <;> (simp only [purAs, purA, Vf, Bool.and_self, Back.v, Back.c, zB, big4_len]; done)))) | ((with_reducible refine cC_pure ?_ (hS) (fun _ => ?_)); (focus ((repeat' constructor) <;> (simp only [purAs, purA, Vf, Bool.and_self, Back.v, Back.c, zB, big4_len]; done)))))); done)); (try simp only [St.put, Nat.reduceLT, ↓reduceIte, mrg_t, Bool.not_false])))
      | (((first | (((with_reducible refine opsP_cons fun K3 hK3 => ?_); simp only [wantP, opP, valP, Ur, Us, List.mapM_cons, List.mapM_nil, Uw, Ux])) | ((with_reducible refine PW.condM fun X1 Y1 hX1 hY1 => ?_)) | (skip)); simp (disch := omega) only [St.eval, St.put, upd_app, iniT_app, avOf, avOf1, nom, cellsA, AV.okv, loadA, lenP, binP, intsP, intP, nilP, unP, builtinP, isMapA, U3, U4, U5, slA, max2, putCells, fillA, buildA, elA, dv1, U7, Ua, Ub, Uc, Ud, Uf, Ug, Ui, Uk, Ur, Us, Ut, Uu, Uv, List.mapM_cons, List.mapM_nil, Uw, Ux, V0, V1, V4, Option.bind_eq_bind, Option.pure_def, V9, Va, Vc, Ve, Vt, Int.cast_ofNat_Int, UU2, UU3, UU9, Vr, PmL, simprocAttr, PmT, Back.v, Back.c, big4_len, retQ, resP, tupA, fg, fgs, condP, condB_t, condB_f]; try (with_reducible (first | exact co_refl _ | exact co_own _ _ _ | exact co_nilsB | exact co_nilsL _ _)))))
  · exact end_bad hO
  · rw [end_ok (by rw [hO]; rfl) (by decide)]
    exact co_refl _
set_option maxRecDepth 100000 in
set_option maxHeartbeats 4000000 in
theorem pPut8 (m : Back) (hk : m.kind = 8) : Pure Tryd.prog 16 [m.v] (putV (putBackS m)) := by
  have e0 : putBackS m = putEnd m true 0 [] := by simp only [putBackS, backMay, backLong, backBody, hk, Int.reduceEq, ↓reduceIte]
  rw [e0]
  refine pure_intro Tryd.func16 rfl rfl rfl 177 rfl (fun hh => ?_)
  obtain ⟨xk, xn, xt, xp, xs, xu, xf, xc, xa, xg⟩ := m
  simp only at hk
  subst hk
  have hT := pTags 8 (by omega)
  have hS := pSame ⟨8, [], [], 0, 0, 0, [], [], [], false⟩ ⟨8, xn, xt, xp, xs, xu, xf, xc, xa, xg⟩
  obtain ⟨L, hL⟩ : ∃ L, Back.like ⟨8, [], [], 0, 0, 0, [], [], [], false⟩ ⟨8, xn, xt, xp, xs, xu, xf, xc, xa, xg⟩ = L := ⟨_, rfl⟩
  have hO : Back.like (Back.only ⟨8, xn, xt, xp, xs, xu, xf, xc, xa, xg⟩) ⟨8, xn, xt, xp, xs, xu, xf, xc, xa, xg⟩ = L := hL
  rw [hL] at hS
  cases L
  all_goals
    repeat' (first
      | ((with_reducible (first
       | (refine PW.seq fun K1 hK1 => ?_) | (refine PW.region fun K2 hK2 => ?_) | ((refine hK3 _ ?_; clear hK3)) | ((refine opsP_nil ?_; refine hK2 _ ?_; clear hK2)) | (refine litX_old ?_) | (refine litC_data ?_) | (refine PW.block ?_) | (refine PW.skip ?_)
       | (refine PW.exit ?_) | (refine PW.ret ?_) | ((refine hX1 ?_; clear hX1 hY1; try simp only [hb])) | ((refine hY1 ?_; clear hX1 hY1; try simp only [hb])) )))
      | (((with_reducible refine cC_row ?_ ?_ ?_ (pBig4t ?_ ?_) ?_); (with_reducible exact rfl); (focus (simp only [Ua]; try rfl)); (focus ((repeat' (first | (refine .cons ?_ ?_) | (exact .nil) | (exact .d _) )) <;> (simp only [purAs, purA, Vf, Bool.and_self, Back.v, Back.c, zB, big4_len]; done)))))
      | (((with_reducible refine cC_new ?_ (pConcatN ?_ ?_) ?_); (focus ((repeat' (first | (refine .cons ?_ ?_) | (exact .nil) | (exact .d _) )) <;> (simp only [purAs, purA, Vf, Bool.and_self, Back.v, Back.c, zB, big4_len]; done)))))
      | (((with_reducible refine cC_pure ?_ (hT) (fun _ => ?_)); (focus ((repeat' constructor) <;> (simp only [purAs, purA, Vf, Bool.and_self, Back.v, Back.c, zB, big4_len]; done)))))
      | ((simp only [thenP, blockP, Nat.reduceEqDiff, ↓reduceIte]; (try ((repeat (fail_if_success (with_reducible refine hK1 _ ?_)); clear hK1); (with_reducible refine hK1 _ ?_); clear hK1))))
      | (((with_reducible refine opsP_consD (d := 169) fun K3 hK3 => ?_); simp only [wantP, opP, Ur, Us, List.mapM_cons, List.mapM_nil, Uw, Ux]; simp (disch := omega) only [St.eval, St.put, upd_app, cellsA, AV.okv, U3, U4, U5, elA, dv1, Uf, Ug, Ut, Uu, Uv, List.mapM_cons, List.mapM_nil, Uw, Ux, V0, V1, V4, Option.bind_eq_bind, Option.pure_def, V9, Ve, UU9, PmL, simprocAttr, PmT]; (with_reducible refine litX_old ?_); (with_reducible refine litC_own ?_)))
      | (((first | ((with_reducible (first | refine opsP_consMt (d := ?_) (dj := ?_) (b := ?_) (r := ?_) ?_ ?_ (fun hb => ?_) (fun K3 hK3 => ?_) | refine opsP_consMf (d := ?_) (dj := ?_) (b := ?_) (r := ?_) ?_ ?_ (fun hb => ?_) (fun K3 hK3 => ?_))); rotate_left 3; (focus exact rfl); (focus (simp only [upd_app, simprocAttr]; exact rfl))) | ((with_reducible (first | refine opsP_consNt (d := ?_) (dj := ?_) (b := ?_) (r := ?_) (c := ?_) ?_ ?_ (fun hb => ?_) (fun K3 hK3 => ?_) | refine opsP_consNf (d := ?_) (dj := ?_) (b := ?_) (r := ?_) (c := ?_) ?_ ?_ (fun hb => ?_) (fun K3 hK3 => ?_))); rotate_left 4; (focus exact rfl); (focus (simp only [St.put, upd_app, iniT_app, simprocAttr, mrg_t, mrg_f]; exact rfl)))); (focus (simp only [opP, valP, Ur, Us]; (try (simp only [Bool.not_eq_true'] at hb)); (try (have hp := hb; simp only [PmH, beq_iff_eq, beq_eq_false_iff_ne, ne_eq] at hp)); simp (disch := omega) only [St.eval, upd_app, loadA, unP, Ua, Ub, Uf, Ug, Uk, Un, Up, Uv, V9, Vr, PmL, simprocAttr, PmT]; (repeat' (first | (exact rfl) | ((refine And.intro ?_ ?_); (focus (exact rfl)); (exact rfl)) | (refine And.intro (by first | omega | (simp; done) | assumption) ?_) | ((with_reducible refine cC_pure ?_ (hT) (fun _ => ?_)); (focus ((repeat' constructor) <;> (simp only [purAs, purA, Vf, Bool.and_self, Back.v, Back.c, zB, big4_len]; done)))) | ((with_reducible refine cC_pure ?_ (hS) (fun _ => ?_)); (focus ((repeat' constructor) <;> (simp only [purAs, purA, Vf, Bool.and_self, Back.v, Back.c, zB, big4_len]; done)))))); done)); (try simp only [St.put, Nat.reduceLT, ↓reduceIte, mrg_t, Bool.not_false])))
      | (((first | (((with_reducible refine opsP_cons fun K3 hK3 => ?_); simp only [wantP, opP, valP, Ur, Us, List.mapM_cons, List.mapM_nil, Uw, Ux])) | ((with_reducible refine PW.condM fun X1 Y1 hX1 hY1 => ?_)) | (skip)); simp (disch := omega) only [St.eval, St.put, upd_app, iniT_app, avOf, avOf1, nom, cellsA, AV.okv, loadA, lenP, binP, intsP, intP, nilP, unP, builtinP, isMapA, U3, U4, U5, slA, max2, putCells, fillA, buildA, elA, dv1, U7, Ua, Ub, Uc, Ud, Uf, Ug, Uk, Ur, Us, Ut, Uu, Uv, List.mapM_cons, List.mapM_nil, Uw, Ux, V0, V1, V4, Option.bind_eq_bind, Option.pure_def, V9, Va, Vc, Ve, Vt, UU2, UU3, UU9, Vr, PmL, simprocAttr, PmT, Back.v, Back.c, big4_len, retQ, resP, tupA, fg, fgs, condP, condB_t, condB_f]; try (with_reducible (first | exact co_refl _ | exact co_own _ _ _ | exact co_nilsB | exact co_nilsL _ _)))))
  · exact end_bad hO
  · rw [end_ok (by rw [hO]; rfl) (by decide)]
    exact co_refl _
set_option maxRecDepth 100000 in
set_option maxHeartbeats 4000000 in
theorem pPut10 (m : Back) (hk : m.kind = 10) : Pure Tryd.prog 16 [m.v] (putV (putBackS m)) := by
  have e0 : putBackS m = if m.only.like m = true then ([78], 0) else ([], 230) := if_pos hk
  rw [e0]
  refine pure_intro Tryd.func16 rfl rfl rfl 177 rfl (fun hh => ?_)
  obtain ⟨xk, xn, xt, xp, xs, xu, xf, xc, xa, xg⟩ := m
  simp only at hk
  subst hk
  have hS := pSame ⟨10, [], [], 0, 0, 0, [], [], [], false⟩ ⟨10, xn, xt, xp, xs, xu, xf, xc, xa, xg⟩
  obtain ⟨L, hL⟩ : ∃ L, Back.like ⟨10, [], [], 0, 0, 0, [], [], [], false⟩ ⟨10, xn, xt, xp, xs, xu, xf, xc, xa, xg⟩ = L := ⟨_, rfl⟩
  have hO : Back.like (Back.only ⟨10, xn, xt, xp, xs, xu, xf, xc, xa, xg⟩) ⟨10, xn, xt, xp, xs, xu, xf, xc, xa, xg⟩ = L := hL
  rw [hL] at hS
  rw [hO]
  cases L
  all_goals
    repeat' (first
      | ((with_reducible (first
       | (refine PW.seq fun K1 hK1 => ?_) | (refine PW.region fun K2 hK2 => ?_) | ((refine hK3 _ ?_; clear hK3)) | ((refine opsP_nil ?_; refine hK2 _ ?_; clear hK2)) | (refine litX_old ?_) | (refine litC_data ?_) | (refine PW.block ?_) | (refine PW.skip ?_)
       | (refine PW.exit ?_) | (refine PW.ret ?_) | ((refine hX1 ?_; clear hX1 hY1; try simp only [hb])) | ((refine hY1 ?_; clear hX1 hY1; try simp only [hb])) )))
      | ((simp only [thenP, blockP, Nat.reduceEqDiff, ↓reduceIte]; (try ((repeat (fail_if_success (with_reducible refine hK1 _ ?_)); clear hK1); (with_reducible refine hK1 _ ?_); clear hK1))))
      | (((first | ((with_reducible (first | refine opsP_consMt (d := ?_) (dj := ?_) (b := ?_) (r := ?_) ?_ ?_ (fun hb => ?_) (fun K3 hK3 => ?_) | refine opsP_consMf (d := ?_) (dj := ?_) (b := ?_) (r := ?_) ?_ ?_ (fun hb => ?_) (fun K3 hK3 => ?_))); rotate_left 3; (focus exact rfl); (focus (simp only [upd_app, simprocAttr]; exact rfl))) | ((with_reducible (first | refine opsP_consNt (d := ?_) (dj := ?_) (b := ?_) (r := ?_) (c := ?_) ?_ ?_ (fun hb => ?_) (fun K3 hK3 => ?_) | refine opsP_consNf (d := ?_) (dj := ?_) (b := ?_) (r := ?_) (c := ?_) ?_ ?_ (fun hb => ?_) (fun K3 hK3 => ?_))); rotate_left 4; (focus exact rfl); (focus (simp only [St.put, upd_app, iniT_app, simprocAttr, mrg_t, mrg_f]; exact rfl)))); (focus (simp only [opP, valP, Ur, Us]; (try (simp only [Bool.not_eq_true'] at hb)); (try (have hp := hb; simp only [PmH, beq_iff_eq, beq_eq_false_iff_ne, ne_eq] at hp)); simp (disch := omega) only [St.eval, upd_app, loadA, unP, Ua, Ub, Uf, Ug, Uk, Un, Up, Uv, V9, Vr, PmL, simprocAttr, PmT]; (repeat' (first | (exact rfl) | ((refine And.intro ?_ ?_); (focus (exact rfl)); (exact rfl)) | (refine And.intro (by first | omega | (simp; done) | assumption) ?_) | ((with_reducible refine cC_pure ?_ (hS) (fun _ => ?_)); (focus ((repeat' constructor) <;> (simp only [purAs, purA, Vf, Bool.and_self, Back.v, Back.c, zB, big4_len]; done)))))); done)); (try simp only [St.put, Nat.reduceLT, ↓reduceIte, mrg_t, Bool.not_false])))
      | (((first | (((with_reducible refine opsP_cons fun K3 hK3 => ?_); simp only [wantP, opP, valP, Ur, Us, List.mapM_cons, List.mapM_nil, Uw, Ux])) | ((with_reducible refine PW.condM fun X1 Y1 hX1 hY1 => ?_)) | (skip)); simp (disch := omega) only [St.eval, St.put, upd_app, iniT_app, avOf, avOf1, nom, cellsA, AV.okv, loadA, binP, intsP, intP, nilP, unP, U3, U4, U5, slA, putCells, fillA, buildA, elA, dv1, U7, Ua, Ub, Uc, Ud, Uf, Ug, Uk, Ur, Us, Ut, Uu, Uv, List.mapM_cons, List.mapM_nil, Uw, Ux, V0, V1, V4, Option.bind_eq_bind, Option.pure_def, V9, Va, Ve, Vt, UU2, UU3, UU9, Vr, PmL, simprocAttr, PmT, Back.v, Back.c, retQ, resP, tupA, fg, fgs, condP, condB_t, condB_f]; try (with_reducible (first | exact co_refl _ | exact co_own _ _ _ | exact co_nilsB | exact co_nilsL _ _)))))
  · exact co_tup (cos_cons co_nilsB (cos_cons (co_refl _) cos_nil))
  · exact co_refl _
set_option maxRecDepth 100000 in
set_option maxHeartbeats 4000000 in
theorem pPut0 (m : Back) (hk : m.kind < 1 ∨ 10 < m.kind) : Pure Tryd.prog 16 [m.v] (putV (putBackS m)) := by
  have e0 : putBackS m = ([], 230) := by
    unfold putBackS
    rw [if_neg (by omega)]
    have : backMay m = false := by
      unfold backMay
      repeat rw [if_neg (by omega)]
    unfold putEnd
    rw [this]
    rfl
  rw [e0]
  refine pure_intro Tryd.func16 rfl rfl rfl 177 rfl (fun hh => ?_)
  obtain ⟨xk, xn, xt, xp, xs, xu, xf, xc, xa, xg⟩ := m
  simp only at hk
  have k1 := eq_false (show ¬ xk = 1 by omega); have k2 := eq_false (show ¬ xk = 2 by omega); have k3 := eq_false (show ¬ xk = 3 by omega); have k4 := eq_false (show ¬ xk = 4 by omega); have k5 := eq_false (show ¬ xk = 5 by omega)
  have k6 := eq_false (show ¬ xk = 6 by omega); have k7 := eq_false (show ¬ xk = 7 by omega); have k8 := eq_false (show ¬ xk = 8 by omega); have k9 := eq_false (show ¬ xk = 9 by omega); have k10 := eq_false (show ¬ xk = 10 by omega)
  repeat' (first
    | ((with_reducible (first
     | (refine PW.seq fun K1 hK1 => ?_) | (refine PW.region fun K2 hK2 => ?_) | ((refine hK3 _ ?_; clear hK3)) | ((refine opsP_nil ?_; refine hK2 _ ?_; clear hK2)) | (refine PW.block ?_) | (refine PW.skip ?_)
     | (refine PW.exit ?_) | (refine PW.ret ?_) | ((refine hX1 ?_; clear hX1 hY1; try simp only [hb])) | ((refine hY1 ?_; clear hX1 hY1; try simp only [hb])) )))
    | ((simp only [thenP, blockP, Nat.reduceEqDiff, ↓reduceIte]; (try ((repeat (fail_if_success (with_reducible refine hK1 _ ?_)); clear hK1); (with_reducible refine hK1 _ ?_); clear hK1))))
    | (((first | ((with_reducible (first | refine opsP_consMt (d := ?_) (dj := ?_) (b := ?_) (r := ?_) ?_ ?_ (fun hb => ?_) (fun K3 hK3 => ?_) | refine opsP_consMf (d := ?_) (dj := ?_) (b := ?_) (r := ?_) ?_ ?_ (fun hb => ?_) (fun K3 hK3 => ?_))); rotate_left 3; (focus exact rfl); (focus (simp only [upd_app, simprocAttr]; exact rfl))) | ((with_reducible (first | refine opsP_consNt (d := ?_) (dj := ?_) (b := ?_) (r := ?_) (c := ?_) ?_ ?_ (fun hb => ?_) (fun K3 hK3 => ?_) | refine opsP_consNf (d := ?_) (dj := ?_) (b := ?_) (r := ?_) (c := ?_) ?_ ?_ (fun hb => ?_) (fun K3 hK3 => ?_))); rotate_left 4; (focus exact rfl); (focus (simp only [St.put, upd_app, iniT_app, simprocAttr, mrg_t, mrg_f]; exact rfl)))); (focus (simp only [opP, valP, Ur, Us]; (try (simp only [Bool.not_eq_true'] at hb)); (try (have hp := hb; simp only [PmH, beq_iff_eq, beq_eq_false_iff_ne, ne_eq] at hp)); simp (disch := omega) only [St.eval, upd_app, loadA, unP, Ua, Ub, Uk, Uv, PmL, simprocAttr, PmT, hb]; (repeat' (first | (exact rfl) | ((refine And.intro ?_ ?_); (focus (exact rfl)); (exact rfl)) | (refine And.intro (by first | omega | (simp; done) | assumption) ?_))); done)); (try simp only [St.put, Nat.reduceLT, ↓reduceIte, mrg_f, Bool.not_true])))
    | (((first | (((with_reducible refine opsP_cons fun K3 hK3 => ?_); simp only [wantP, opP, valP, Ur, Us])) | ((with_reducible refine PW.condM fun X1 Y1 hX1 hY1 => ?_)) | (skip)); simp (disch := omega) only [wantB_tf, St.eval, St.put, upd_app, iniT_app, avOf, avOf1, nom, cellsA, AV.okv, loadA, binP, intsP, intP, nilP, unP, slA, putCells, fillA, buildA, U7, Ua, Ub, Uc, Ud, Uf, Ug, Uk, Ur, Us, Ut, Uu, Uv, Uz, V4, V9, Va, Ve, Vt, UU2, UU3, Vr, PmL, simprocAttr, PmT, Back.v, Back.c, k1, k2, k3, k4, k5, k6, k7, k8, k9, k10, retQ, resP, tupA, fg, fgs, condP, condB_t, condB_f]; try (with_reducible (first | exact co_refl _ | exact co_own _ _ _ | exact co_nilsB | exact co_nilsL _ _)))))
  exact co_tup (cos_cons co_nilsB (cos_cons (co_refl _) cos_nil))
end PM
end Go.Proofs.YthaekefdadccaaaDoor
