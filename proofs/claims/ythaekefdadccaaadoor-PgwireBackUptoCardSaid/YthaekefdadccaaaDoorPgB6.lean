/- pgwire in the abstract: a server's message as bytes: the kind 6. pgwire in the abstract: a server's message as bytes: the kind 9. -/
import Derived.Test.YthaekefdadccaaaDoorPgB1
import Derived.Test.YthaekefdadccaaaDoorPgBf
namespace Go.Proofs.YthaekefdadccaaaDoor
open Go.RowKit
namespace PM
set_option maxRecDepth 100000 in
set_option maxHeartbeats 4000000 in
theorem pPut6 (m : Back) (hk : m.kind = 6) (hz : celsN m.cells ≤ 100000000000) : Pure Tryd.prog 16 [m.v] (putV (putBackS m)) := by
  have e0 : putBackS m = putEnd m (celsMay m.cells) (celsLong m.cells) (celsBody m.cells) := by simp only [putBackS, backMay, backLong, backBody, hk, Int.reduceEq, ↓reduceIte]
  rw [e0]
  refine pure_intro Tryd.func16 rfl rfl rfl 177 rfl (fun hh => ?_)
  obtain ⟨xk, xn, xt, xp, xs, xu, xf, xc, xa, xg⟩ := m
  simp only at hk hz
  subst hk
  have hmx : maxLen = 9223372036854775807 := rfl
  have hT := pTags 6 (by omega)
  have hS := pSame ⟨6, [], [], 0, 0, 0, [], xc, [], false⟩ ⟨6, xn, xt, xp, xs, xu, xf, xc, xa, xg⟩
  obtain ⟨L, hL⟩ : ∃ L, Back.like ⟨6, [], [], 0, 0, 0, [], xc, [], false⟩ ⟨6, xn, xt, xp, xs, xu, xf, xc, xa, xg⟩ = L := ⟨_, rfl⟩
  have hO : Back.like (Back.only ⟨6, xn, xt, xp, xs, xu, xf, xc, xa, xg⟩) ⟨6, xn, xt, xp, xs, xu, xf, xc, xa, xg⟩ = L := hL
  rw [hL] at hS
  have hF := pCells xc hz
  have hbl : (celsBody xc).length ≤ 100000000000 ∧ celsLong xc ≤ 100000000000 ∧ 0 ≤ celsLong xc ∧ ((celsBody xc).length : Int) ≤ celsLong xc := by
    unfold celsBody celsLong
    by_cases ha : xc.all celOk = true
    · rw [if_pos ha, ha, Bool.true_and]
      split
      · rw [celsB_len _ ha]; omega
      · simp; omega
    · rw [Bool.not_eq_true] at ha
      rw [ha]; simp
  obtain ⟨B, hB⟩ : ∃ B, celsMay xc = B := ⟨_, rfl⟩
  obtain ⟨b, hbb⟩ : ∃ b, celsBody xc = b := ⟨_, rfl⟩
  obtain ⟨n, hnn⟩ : ∃ b, celsLong xc = b := ⟨_, rfl⟩
  rw [hB, hbb, hnn] at hF
  rw [hbb, hnn] at hbl
  simp only [hB, hbb, hnn]
  clear hB hbb hnn hz
  cases B
  all_goals cases L
  all_goals
    repeat' (first
      | ((with_reducible (first
       | (refine PW.seq fun K1 hK1 => ?_) | (refine PW.region fun K2 hK2 => ?_) | ((refine hK3 _ ?_; clear hK3)) | ((refine opsP_nil ?_; refine hK2 _ ?_; clear hK2)) | (refine litX_old ?_) | (refine litC_data ?_) | (refine PW.block ?_) | (refine PW.skip ?_)
       | (refine PW.exit ?_) | (refine PW.ret ?_) | ((refine hX1 ?_; clear hX1 hY1; try simp only [hb])) | ((refine hY1 ?_; clear hX1 hY1; try simp only [hb])) )))
      | (((first | (with_reducible refine wantB_intro (fun hb => ?_) (fun hb => ?_)) | (with_reducible refine condB_intro (fun hb => ?_) (fun hb => ?_))) <;> ((try (have hp := hb; simp only [PmH] at hp)); try simp only [hb, Bool.not_true, Bool.not_false])))
      | (((with_reducible refine cC_row ?_ ?_ ?_ (pBig4t ?_ ?_) ?_); (with_reducible exact rfl); (focus (simp only [Ua]; try rfl)); (focus ((repeat' (first | (refine .cons ?_ ?_) | (exact .nil) | (exact .d _) )) <;> (simp only [purAs, purA, Vf, Bool.and_self, Back.v, Back.c, zB, big4_len]; done)))))
      | (((with_reducible refine cC_new ?_ (pConcat2 ?_ ?_ ?_) ?_); (focus ((repeat' (first | (refine .cons ?_ ?_) | (exact .nil) | (exact .d _) )) <;> (simp only [purAs, purA, Vf, Bool.and_self, Back.v, Back.c, zB, big4_len]; done)))))
      | (((with_reducible refine cC_pure ?_ (hT) (fun _ => ?_)); (focus ((repeat' constructor) <;> (simp only [purAs, purA, Vf, Bool.and_self, Back.v, Back.c, zB, big4_len]; done)))))
      | (((with_reducible refine cC_pure ?_ (hF) (fun _ => ?_)); (focus ((repeat' constructor) <;> (simp only [purAs, purA, Vf, Bool.and_self, Back.v, Back.c, zB, big4_len]; done)))))
      | ((simp only [thenP, blockP, Nat.reduceEqDiff, ↓reduceIte]; (try ((repeat (fail_if_success (with_reducible refine hK1 _ ?_)); clear hK1); (with_reducible refine hK1 _ ?_); clear hK1))))
      | ((with_reducible omega))
      | (((with_reducible refine opsP_consD (d := 169) fun K3 hK3 => ?_); simp only [wantP, opP, Ur, Us, List.mapM_cons, List.mapM_nil, Uw, Ux]; simp (disch := omega) only [St.eval, St.put, upd_app, cellsA, AV.okv, U3, U4, U5, elA, dv1, Uf, Ug, Ut, Uu, Uv, List.mapM_cons, List.mapM_nil, Uw, Ux, V0, V1, V4, Option.bind_eq_bind, Option.pure_def, V9, Ve, UU9, PmL, simprocAttr, PmT]; (with_reducible refine litX_old ?_); (with_reducible refine litC_own ?_)))
      | (((first | ((with_reducible (first | refine opsP_consMt (d := ?_) (dj := ?_) (b := ?_) (r := ?_) ?_ ?_ (fun hb => ?_) (fun K3 hK3 => ?_) | refine opsP_consMf (d := ?_) (dj := ?_) (b := ?_) (r := ?_) ?_ ?_ (fun hb => ?_) (fun K3 hK3 => ?_))); rotate_left 3; (focus exact rfl); (focus (simp only [upd_app, simprocAttr]; exact rfl))) | ((with_reducible (first | refine opsP_consNt (d := ?_) (dj := ?_) (b := ?_) (r := ?_) (c := ?_) ?_ ?_ (fun hb => ?_) (fun K3 hK3 => ?_) | refine opsP_consNf (d := ?_) (dj := ?_) (b := ?_) (r := ?_) (c := ?_) ?_ ?_ (fun hb => ?_) (fun K3 hK3 => ?_))); rotate_left 4; (focus exact rfl); (focus (simp only [St.put, upd_app, iniT_app, simprocAttr, mrg_t, mrg_f]; exact rfl)))); (focus (simp only [opP, valP, Ur, Us]; (try (simp only [Bool.not_eq_true'] at hb)); (try (have hp := hb; simp only [PmH, beq_iff_eq, beq_eq_false_iff_ne, ne_eq] at hp)); simp (disch := omega) only [St.eval, upd_app, loadA, unP, Ua, Ub, Uf, Ug, Uk, Un, Up, Uv, V9, Vr, PmL, simprocAttr, PmT, hb]; (repeat' (first | (exact rfl) | ((refine And.intro ?_ ?_); (focus (exact rfl)); (exact rfl)) | (refine And.intro (by first | omega | (simp; done) | assumption) ?_) | ((with_reducible refine cC_pure ?_ (hT) (fun _ => ?_)); (focus ((repeat' constructor) <;> (simp only [purAs, purA, Vf, Bool.and_self, Back.v, Back.c, zB, big4_len]; done)))) | ((with_reducible refine cC_pure ?_ (hS) (fun _ => ?_)); (focus ((repeat' constructor) <;> (simp only [Back.v, Back.c]; done)))) | ((with_reducible refine cC_pure ?_ (hF) (fun _ => ?_)); (focus ((repeat' constructor) <;> (simp only [purAs, purA, Vf, Bool.and_self, Back.v, Back.c, zB, big4_len]; done)))))); done)); (try simp only [St.put, Nat.reduceLT, ↓reduceIte, mrg_t, mrg_f, Bool.not_true, Bool.not_false])))
      | (((first | (((with_reducible refine opsP_cons fun K3 hK3 => ?_); simp only [wantP, opP, valP, Ur, Us, List.mapM_cons, List.mapM_nil, Uw, Ux])) | ((with_reducible refine PW.condM fun X1 Y1 hX1 hY1 => ?_)) | (skip)); simp (disch := omega) only [wantB_tf, St.eval, St.put, upd_app, iniT_app, avOf, avOf1, nom, cellsA, AV.okv, loadA, lenP, binP, intsP, intP, nilP, unP, builtinP, isMapA, U3, U4, U5, slA, max2, putCells, fillA, buildA, elA, dv1, U7, Ua, Ub, Uc, Ud, Uf, Ug, Ui, Uk, Ul, Ur, Us, Ut, Uu, Uv, List.mapM_cons, List.mapM_nil, Uw, Ux, Uz, V0, V1, V4, Option.bind_eq_bind, Option.pure_def, V9, Va, Vc, Ve, Vt, UU2, UU3, UU9, Vr, PmL, simprocAttr, PmT, Back.v, Back.c, big4_len, retQ, resP, tupA, fg, fgs, condP, condB_t, condB_f]; try (with_reducible (first | exact co_refl _ | exact co_own _ _ _ | exact co_nilsB | exact co_nilsL _ _)))))
  all_goals first
    | exact end_bad rfl
    | exact end_bad (by rw [hO]; first | rfl | exact Bool.and_false _)
    | exact end_long (by rw [hO]; rfl) (by have h9 := of_decide_eq_true hb; split at h9 <;> split <;> omega)
    | (rw [end_ok (by rw [hO]; rfl) (by have h9 := of_decide_eq_false hb; split at h9 <;> split <;> omega)]; exact co_refl _)
    | (rw [end_ok (by rw [hO]; rfl) (by decide)]; exact co_refl _)
end PM
end Go.Proofs.YthaekefdadccaaaDoor
namespace Go.Proofs.YthaekefdadccaaaDoor
open Go.RowKit
namespace PM
set_option maxRecDepth 100000 in
set_option maxHeartbeats 4000000 in
theorem pPut9 (m : Back) (hk : m.kind = 9) (hz : m.state.length ≤ 100000000000 ∧ m.text.length ≤ 100000000000) : Pure Tryd.prog 16 [m.v] (putV (putBackS m)) := by
  have e0 : putBackS m = putEnd m (stated m.state && !has0 m.text) 0 (errBody m) := by simp only [putBackS, backMay, backLong, backBody, hk, Int.reduceEq, ↓reduceIte]
  rw [e0]
  refine pure_intro Tryd.func16 rfl rfl rfl 177 rfl (fun hh => ?_)
  obtain ⟨xk, xn, xt, xp, xs, xu, xf, xc, xa, xg⟩ := m
  simp only at hk hz
  subst hk
  have hmx : maxLen = 9223372036854775807 := rfl
  have hT := pTags 9 (by omega)
  have hX0 := fun sv h => pText4 (83 :: sv) (86 :: sv) (67 :: xa) (77 :: xt) h
  obtain ⟨sv, hsv⟩ : ∃ sv, sevOf xg = sv := ⟨_, rfl⟩
  have hsl : sv.length = 5 := by rw [← hsv]; unfold sevOf; split <;> rfl
  have hX1 := hX0 sv (by simp only [List.length_cons]; omega)
  obtain ⟨c, hc⟩ : ∃ c, 83 :: sv ++ [0] ++ 86 :: sv ++ [0] ++ 67 :: xa ++ [0] ++ 77 :: xt ++ [0] = c := ⟨_, rfl⟩
  have hcl : c.length ≤ 200000000100 := by rw [← hc]; simp only [List.length_append, List.length_cons, List.length_nil]; omega
  have hE : errBody ⟨9, xn, xt, xp, xs, xu, xf, xc, xa, xg⟩ = c ++ [0] := by
    rw [← hc, ← hsv]
    simp [errBody]
  rw [hc] at hX1
  rw [hE]
  clear hE hc hX0
  have hS := pSame ⟨9, [], xt, 0, 0, 0, [], [], xa, xg⟩ ⟨9, xn, xt, xp, xs, xu, xf, xc, xa, xg⟩
  obtain ⟨L, hL⟩ : ∃ L, Back.like ⟨9, [], xt, 0, 0, 0, [], [], xa, xg⟩ ⟨9, xn, xt, xp, xs, xu, xf, xc, xa, xg⟩ = L := ⟨_, rfl⟩
  have hO : Back.like (Back.only ⟨9, xn, xt, xp, xs, xu, xf, xc, xa, xg⟩) ⟨9, xn, xt, xp, xs, xu, xf, xc, xa, xg⟩ = L := hL
  rw [hL] at hS
  clear hL
  have hSt := pStated xa
  have hCl := pClean1 xt
  obtain ⟨B, hB⟩ : ∃ B, stated xa = B := ⟨_, rfl⟩
  obtain ⟨D, hD⟩ : ∃ D, (!has0 xt) = D := ⟨_, rfl⟩
  rw [hB] at hSt
  rw [hD] at hCl
  simp only [hB, hD]
  clear hB hD
  have hsv2 := hsv.symm
  have key : ∀ B D L : Bool, B = true → (!D || !L) = false → ((B && D) && L) = true := by decide
  cases xg
  all_goals
    simp only [sevOf, Bool.false_eq_true, ↓reduceIte] at hsv2
    subst hsv2
    clear hsv hsl
    repeat' (first
      | ((with_reducible (first
       | (refine PW.seq fun K1 hK1 => ?_) | (refine PW.region fun K2 hK2 => ?_) | ((refine hK3 _ ?_; clear hK3)) | ((refine opsP_nil ?_; refine hK2 _ ?_; clear hK2)) | (refine litX_old ?_) | (refine litC_data ?_) | (refine PW.block ?_) | (refine PW.skip ?_)
       | (refine PW.exit ?_) | (refine PW.ret ?_) | ((refine hX1 ?_; clear hX1 hY1; try simp only [hb])) | ((refine hY1 ?_; clear hX1 hY1; try simp only [hb])) | ((refine opsO_nil ?_; refine hK2 _ ?_; clear hK2)) | ((refine keepO_intro ?_ ?_; focus (first | exact .inl (keep_same _ _) | exact .inl (keep_box _ _ _ _) | exact .inl (keep_hd _ _ _ _ _) | exact .inl (keep_02 _ _ _ _ _ _ _) | exact .inl (keep_1 _ _ _ _ _ _ _) | exact .inr ⟨rfl, rfl⟩))) | ((refine keepA_intro ?_ ?_; focus (first | exact keep_same _ _ | exact keep_box _ _ _ _ | exact keep_hd _ _ _ _ _ | exact keep_02 _ _ _ _ _ _ _ | exact keep_1 _ _ _ _ _ _ _))))))
      | (((first | (with_reducible refine wantB_intro (fun hb => ?_) (fun hb => ?_)) | (with_reducible refine condB_intro (fun hb => ?_) (fun hb => ?_))) <;> ((try (have hp := hb; simp only [PmH] at hp)); try simp only [hb, Bool.not_true])))
      | (((with_reducible refine cC_new ?_ (hX1) ?_); (focus ((repeat' constructor) <;> (simp only [purAs, purA, Vf, Bool.and_self, Back.v, Back.c, zB, big4_len]; done)))))
      | (((with_reducible refine cC_row ?_ ?_ ?_ (pBig4t ?_ ?_) ?_); (with_reducible exact rfl); (focus (simp only [Ua, Ub]; try rfl)); (focus ((repeat' (first | (refine .cons ?_ ?_) | (exact .nil) | (exact .d _) )) <;> (simp only [purAs, purA, Vf, Bool.and_self, Back.v, Back.c, zB, big4_len]; done)))))
      | (((with_reducible refine cC_new ?_ (pConcat2 ?_ ?_ ?_) ?_); (focus ((repeat' (first | (refine .cons ?_ ?_) | (exact .nil) | (exact .d _) )) <;> (simp only [purAs, purA, Vf, Bool.and_self, Back.v, Back.c, zB, big4_len]; done)))))
      | (((with_reducible refine cC_pure ?_ (hT) (fun _ => ?_)); (focus ((repeat' constructor) <;> (simp only [purAs, purA, Vf, Bool.and_self, Back.v, Back.c, zB, big4_len]; done)))))
      | (((with_reducible refine cC_pure ?_ (hSt) (fun _ => ?_)); (focus ((repeat' constructor) <;> (simp only [purAs, purA, Vf, Bool.and_self, Back.v, Back.c, zB, big4_len]; done)))))
      | (((with_reducible refine cC_pure ?_ (hCl) (fun _ => ?_)); (focus ((repeat' constructor) <;> (simp only [purAs, purA, Vf, Bool.and_self, Back.v, Back.c, zB, big4_len]; done)))))
      | (((with_reducible refine PW.draw (id := 28) mixed [0] [11] [(0, true), (1, true), (2, true), (3, true), (4, true), (5, true), (6, true), (7, false), (8, true), (9, false), (10, true), (11, false)] (by kernel_rfl) (by decide) fun K2 hK2 => ?_)))
      | (((with_reducible refine PW.drawR (id := 32) mixed [] [(0, true), (1, true), (9, true), (10, true), (11, true), (12, true), (13, true), (14, true), (15, true), (16, true), (17, true), (18, true), (19, true), (21, true), (2, false), (3, true), (4, true), (5, true), (6, false), (7, false), (8, true), (20, false), (22, false), (23, true), (24, true)] (by kernel_rfl) (by decide) fun K2 hK2 => ?_)))
      | (((with_reducible refine And.intro ?_ ?_); (focus (first | omega | (simp; done) | assumption))))
      | ((simp only [thenP, blockP, Nat.reduceEqDiff, ↓reduceIte]; (try ((repeat (fail_if_success (with_reducible refine hK1 _ ?_)); clear hK1); (with_reducible refine hK1 _ ?_); clear hK1))))
      | ((with_reducible omega))
      | (((with_reducible refine opsP_consD (d := 169) fun K3 hK3 => ?_); simp only [wantP, opP, Ur, Us, List.mapM_cons, List.mapM_nil, Uw, Ux]; simp (disch := omega) only [St.eval, St.put, upd_app, cellsA, AV.okv, U3, U4, U5, elA, dv1, Uf, Ug, Ut, Uu, Uv, List.mapM_cons, List.mapM_nil, Uw, Ux, V0, V1, V4, Option.bind_eq_bind, Option.pure_def, V9, Ve, UU9, PmL, simprocAttr, PmT]; (with_reducible refine litX_old ?_); (with_reducible refine litC_own ?_)))
      | (((first | ((with_reducible (first | refine opsP_consMt (d := ?_) (dj := ?_) (b := ?_) (r := ?_) ?_ ?_ (fun hb => ?_) (fun K3 hK3 => ?_) | refine opsP_consMf (d := ?_) (dj := ?_) (b := ?_) (r := ?_) ?_ ?_ (fun hb => ?_) (fun K3 hK3 => ?_))); rotate_left 3; (focus exact rfl); (focus (simp only [upd_app, simprocAttr]; exact rfl))) | ((with_reducible (first | refine opsP_consNt (d := ?_) (dj := ?_) (b := ?_) (r := ?_) (c := ?_) ?_ ?_ (fun hb => ?_) (fun K3 hK3 => ?_) | refine opsP_consNf (d := ?_) (dj := ?_) (b := ?_) (r := ?_) (c := ?_) ?_ ?_ (fun hb => ?_) (fun K3 hK3 => ?_))); rotate_left 4; (focus exact rfl); (focus (simp only [St.put, upd_app, iniT_app, simprocAttr, mrg_t, mrg_f]; exact rfl)))); (focus (simp only [opP, valP, Ur, Us]; (try (simp only [Bool.not_eq_true'] at hb)); (try (have hp := hb; simp only [PmH] at hp)); simp (disch := omega) only [St.eval, upd_app, loadA, unP, Ua, Ub, Uf, Ug, Uk, Un, Up, Uv, V9, Vr, PmL, simprocAttr, PmT, mrg_t, hb]; (repeat' (first | (exact rfl) | ((refine And.intro ?_ ?_); (focus (exact rfl)); (exact rfl)) | (refine And.intro (by first | omega | (simp; done) | assumption) ?_) | ((with_reducible refine cC_pure ?_ (hT) (fun _ => ?_)); (focus ((repeat' constructor) <;> (simp only [purAs, purA, Vf, Bool.and_self, Back.v, Back.c, zB, big4_len]; done)))) | ((with_reducible refine cC_pure ?_ (hS) (fun _ => ?_)); (focus ((repeat' constructor) <;> (simp only [Back.v, Back.c]; done)))) | ((with_reducible refine cC_pure ?_ (hSt) (fun _ => ?_)); (focus ((repeat' constructor) <;> (simp only [purAs, purA, Vf, Bool.and_self, Back.v, Back.c, zB, big4_len]; done)))) | ((with_reducible refine cC_pure ?_ (hCl) (fun _ => ?_)); (focus ((repeat' constructor) <;> (simp only [purAs, purA, Vf, Bool.and_self, Back.v, Back.c, zB, big4_len]; done)))))); done)); (try simp only [St.put, Nat.reduceLT, ↓reduceIte, mrg_f, Bool.not_true])))
      | (((first | (((with_reducible refine opsP_cons fun K3 hK3 => ?_); simp only [wantP, opP, valP, Ur, Us, List.mapM_cons, List.mapM_nil, Uw, Ux])) | (((with_reducible refine opsO_first (o := ?_) ?_ fun K3 hK3 => ?_); rotate_left 1; (focus (simp only [Uz, Ub, Ua] <;> rfl)); simp only [wantP, firstP, valP, Ur, Us, List.mapM_cons, List.mapM_nil])) | (((with_reducible refine opsO_only (o := ?_) ?_ fun K3 hK3 => ?_); rotate_left 1; (focus (simp only [Uz, Ub, Ua] <;> rfl)); simp only [wantP, opP, Ur, Us, List.mapM_cons, List.mapM_nil, Uw, Ux])) | ((with_reducible refine PW.condM fun X1 Y1 hX1 hY1 => ?_)) | (skip)); simp (disch := omega) only [wantB_tt, wantB_tf, wantB_ft, St.eval, St.put, upd_app, iniT_app, avOf, avOf1, nom, cellsA, AV.okv, loadA, lenP, binP, intsP, intP, strP, nilP, unP, builtinP, appP, srcA, srcTy, bsz, U1, isMapA, isBsl, U3, U4, U5, slA, max2, putCells, fillA, buildA, elA, dv1, U7, Ua, Ub, Uc, Ud, Uf, Ug, Ui, Uk, Ul, Ur, Us, Ut, Uu, Uv, List.mapM_cons, List.mapM_nil, Uw, Ux, Uz, V0, V1, V2, V4, V5, Option.bind_eq_bind, Option.pure_def, V9, Va, Vc, Ve, Vt, Int.cast_ofNat_Int, UU2, UU3, Vq, UU9, Vr, Vs, PmL, simprocAttr, PmT, Back.v, Back.c, big4_len, pick_or, retQ, resP, tupA, fg, fgs, condP, condB_t, condB_f, firstOk, List.mem_cons]; try (with_reducible (first | exact co_refl _ | exact co_own _ _ _ | exact co_nilsB | exact co_nilsL _ _)))))
  all_goals first
    | exact end_bad (by rw [hO]; revert hb; cases B <;> cases D <;> cases L <;> simp)
    | exact end_long (by rw [hO]; exact key B D L (by assumption) (by assumption)) (by have h9 := of_decide_eq_true hb; simp only [List.length_append, List.length_cons, List.length_nil]; split at h9 <;> split <;> omega)
    | (rw [end_ok (by rw [hO]; exact key B D L (by assumption) (by assumption)) (by have h9 := of_decide_eq_false hb; simp only [List.length_append, List.length_cons, List.length_nil]; split at h9 <;> split <;> omega)]; refine co_eq ?_; unfold putV; simp only [List.length_append, List.length_cons, List.length_nil, Int.natCast_add, Nat.zero_add]; rfl)
    | trace_state
end PM
end Go.Proofs.YthaekefdadccaaaDoor
