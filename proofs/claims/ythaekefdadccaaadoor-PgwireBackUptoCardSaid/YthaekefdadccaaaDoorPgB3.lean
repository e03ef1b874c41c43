/- pgwire in the abstract: a server's message as bytes: the kind 3. pgwire in the abstract: a server's message as bytes: the kind 5. -/
import Derived.Test.YthaekefdadccaaaDoorPgB1
import Derived.Test.YthaekefdadccaaaDoorPgFB
namespace Go.Proofs.YthaekefdadccaaaDoor
open Go.RowKit
namespace PM
set_option maxRecDepth 100000 in
set_option maxHeartbeats 4000000 in
theorem pPut3 (m : Back) (hk : m.kind = 3) : Pure Tryd.prog 16 [m.v] (putV (putBackS m)) := by
  have e0 : putBackS m = putEnd m (i32ok m.pid && i32ok m.secret) 0 (big4 m.pid ++ big4 m.secret) := by simp only [putBackS, backMay, backLong, backBody, hk, Int.reduceEq, ↓reduceIte]
  rw [e0]
  refine pure_intro Tryd.func16 rfl rfl rfl 177 rfl (fun hh => ?_)
  obtain ⟨xk, xn, xt, xp, xs, xu, xf, xc, xa, xg⟩ := m
  simp only at hk
  subst hk
  have hmx : maxLen = 9223372036854775807 := rfl
  have hT := pTags 3 (by omega)
  have hS := pSame ⟨3, [], [], xp, xs, 0, [], [], [], false⟩ ⟨3, xn, xt, xp, xs, xu, xf, xc, xa, xg⟩
  obtain ⟨L, hL⟩ : ∃ L, Back.like ⟨3, [], [], xp, xs, 0, [], [], [], false⟩ ⟨3, xn, xt, xp, xs, xu, xf, xc, xa, xg⟩ = L := ⟨_, rfl⟩
  have hO : Back.like (Back.only ⟨3, xn, xt, xp, xs, xu, xf, xc, xa, xg⟩) ⟨3, xn, xt, xp, xs, xu, xf, xc, xa, xg⟩ = L := hL
  rw [hL] at hS
  have hSm := pSmall xp xs
  obtain ⟨B, hB⟩ : ∃ B, (i32ok xp && i32ok xs) = B := ⟨_, rfl⟩
  rw [hB] at hSm
  simp only [hB]
  have hr := pBig4o (big4 xp) xs (by simp [big4])
  cases B
  all_goals cases L
  all_goals
    repeat' (first
      | ((with_reducible (first
       | (refine PW.seq fun K1 hK1 => ?_) | (refine PW.region fun K2 hK2 => ?_) | ((refine hK3 _ ?_; clear hK3)) | ((refine opsP_nil ?_; refine hK2 _ ?_; clear hK2)) | (refine litX_old ?_) | (refine litC_data ?_) | (refine PW.block ?_) | (refine PW.skip ?_)
       | (refine PW.exit ?_) | (refine PW.ret ?_) | ((refine hX1 ?_; clear hX1 hY1; try simp only [hb])) | ((refine hY1 ?_; clear hX1 hY1; try simp only [hb])) | ((refine opsO_nil ?_; refine hK2 _ ?_; clear hK2)) | ((refine keepO_intro ?_ ?_; focus (first | exact .inl (keep_same _ _) | exact .inl (keep_box _ _ _ _) | exact .inl (keep_hd _ _ _ _ _) | exact .inl (keep_02 _ _ _ _ _ _ _) | exact .inl (keep_1 _ _ _ _ _ _ _) | exact .inr ⟨rfl, rfl⟩))) | ((refine keepA_intro ?_ ?_; focus (first | exact keep_same _ _ | exact keep_box _ _ _ _ | exact keep_hd _ _ _ _ _ | exact keep_02 _ _ _ _ _ _ _ | exact keep_1 _ _ _ _ _ _ _))))))
      | (((with_reducible refine cC_new ?_ (pBig4 ?_) ?_); (focus ((repeat' (first | (refine .cons ?_ ?_) | (exact .nil) | (exact .d _) | (exact .nl) )) <;> (simp only [purAs, purA, Vf, Bool.and_self, Back.v, Back.c, zB, big4_len]; done)))))
      | (((with_reducible refine cC_row ?_ ?_ ?_ (hr) ?_); (with_reducible exact rfl); (focus (simp only [Ua]; try rfl)); (focus ((repeat' constructor) <;> (simp only [purAs, purA, Vf, Bool.and_self, Back.v, Back.c, zB, big4_len]; done)))))
      | (((with_reducible refine cC_row ?_ ?_ ?_ (pBig4t ?_ ?_) ?_); (with_reducible exact rfl); (focus (simp only [Ua, Ub]; try rfl)); (focus ((repeat' (first | (refine .cons ?_ ?_) | (exact .nil) | (exact .d _) )) <;> (simp only [purAs, purA, Vf, Bool.and_self, Back.v, Back.c, zB, big4_len]; done)))))
      | (((with_reducible refine cC_new ?_ (pConcat2 ?_ ?_ ?_) ?_); (focus ((repeat' (first | (refine .cons ?_ ?_) | (exact .nil) | (exact .d _) )) <;> (simp only [purAs, purA, Vf, Bool.and_self, Back.v, Back.c, zB, big4_len]; done)))))
      | (((with_reducible refine cC_pure ?_ (hT) (fun _ => ?_)); (focus ((repeat' constructor) <;> (simp only [purAs, purA, Vf, Bool.and_self, Back.v, Back.c, zB, big4_len]; done)))))
      | (((with_reducible refine cC_pure ?_ (hSm) (fun _ => ?_)); (focus ((repeat' constructor) <;> (simp only [purAs, purA, Vf, Bool.and_self, Back.v, Back.c, zB, big4_len]; done)))))
      | (((with_reducible refine PW.draw (id := 16) mixed [0] [7] [(0, true), (1, true), (2, true), (3, true), (4, true), (5, false), (6, true), (7, false)] (by kernel_rfl) (by decide) fun K2 hK2 => ?_)))
      | (((with_reducible refine PW.draw (id := 17) mixed [0] [] [(0, true), (1, true), (2, true), (3, true), (6, true), (7, true), (9, true), (10, true), (4, false), (5, false), (8, false), (11, false), (12, true), (13, true)] (by kernel_rfl) (by decide) fun K2 hK2 => ?_)))
      | ((simp only [thenP, blockP, Nat.reduceEqDiff, ↓reduceIte]; (try ((repeat (fail_if_success (with_reducible refine hK1 _ ?_)); clear hK1); (with_reducible refine hK1 _ ?_); clear hK1))))
      | (((with_reducible refine opsP_consD (d := 169) fun K3 hK3 => ?_); simp only [wantP, opP, Ur, Us, List.mapM_cons, List.mapM_nil, Uw, Ux]; simp (disch := omega) only [St.eval, St.put, upd_app, cellsA, AV.okv, U3, U4, U5, elA, dv1, Uf, Ug, Ut, Uu, Uv, List.mapM_cons, List.mapM_nil, Uw, Ux, V0, V1, V4, Option.bind_eq_bind, Option.pure_def, V9, Ve, UU9, PmL, simprocAttr, PmT]; (with_reducible refine litX_old ?_); (with_reducible refine litC_own ?_)))
      | (((first | ((with_reducible (first | refine opsP_consMt (d := ?_) (dj := ?_) (b := ?_) (r := ?_) ?_ ?_ (fun hb => ?_) (fun K3 hK3 => ?_) | refine opsP_consMf (d := ?_) (dj := ?_) (b := ?_) (r := ?_) ?_ ?_ (fun hb => ?_) (fun K3 hK3 => ?_))); rotate_left 3; (focus exact rfl); (focus (simp only [upd_app, simprocAttr]; exact rfl))) | ((with_reducible (first | refine opsP_consNt (d := ?_) (dj := ?_) (b := ?_) (r := ?_) (c := ?_) ?_ ?_ (fun hb => ?_) (fun K3 hK3 => ?_) | refine opsP_consNf (d := ?_) (dj := ?_) (b := ?_) (r := ?_) (c := ?_) ?_ ?_ (fun hb => ?_) (fun K3 hK3 => ?_))); rotate_left 4; (focus exact rfl); (focus (simp only [St.put, upd_app, iniT_app, simprocAttr, mrg_t, mrg_f]; exact rfl)))); (focus (simp only [opP, valP, Ur, Us]; (try (simp only [Bool.not_eq_true'] at hb)); (try (have hp := hb; simp only [PmH, beq_iff_eq, beq_eq_false_iff_ne, ne_eq] at hp)); simp (disch := omega) only [St.eval, upd_app, loadA, unP, Ua, Ub, Uf, Ug, Uk, Un, Up, Uv, V9, Vr, PmL, simprocAttr, PmT, hb]; (repeat' (first | (exact rfl) | ((refine And.intro ?_ ?_); (focus (exact rfl)); (exact rfl)) | (refine And.intro (by first | omega | (simp; done) | assumption) ?_) | ((with_reducible refine cC_pure ?_ (hT) (fun _ => ?_)); (focus ((repeat' constructor) <;> (simp only [purAs, purA, Vf, Bool.and_self, Back.v, Back.c, zB, big4_len]; done)))) | ((with_reducible refine cC_pure ?_ (hS) (fun _ => ?_)); (focus ((repeat' constructor) <;> (simp only [Back.v, Back.c]; done)))) | ((with_reducible refine cC_pure ?_ (hSm) (fun _ => ?_)); (focus ((repeat' constructor) <;> (simp only [purAs, purA, Vf, Bool.and_self, Back.v, Back.c, zB, big4_len]; done)))))); done)); (try simp only [St.put, Nat.reduceLT, ↓reduceIte, mrg_t, mrg_f, Bool.not_true, Bool.not_false])))
      | (((first | (((with_reducible refine opsP_cons fun K3 hK3 => ?_); simp only [wantP, opP, valP, Ur, Us, List.mapM_cons, List.mapM_nil, Uw, Ux])) | (((with_reducible refine opsO_first (o := ?_) ?_ fun K3 hK3 => ?_); rotate_left 1; (focus (simp only [Uz, Ub, Ua] <;> rfl)); simp only [wantP, firstP, valP])) | (((with_reducible refine opsO_only (o := ?_) ?_ fun K3 hK3 => ?_); rotate_left 1; (focus (simp only [Uz, Ub, Ua] <;> rfl)); simp only [wantP, opP, Ur, Us, List.mapM_cons, List.mapM_nil, Uw, Ux])) | ((with_reducible refine PW.condM fun X1 Y1 hX1 hY1 => ?_)) | (skip)); simp (disch := omega) only [wantB_tf, St.eval, St.put, upd_app, iniT_app, avOf, avOf1, nom, cellsA, AV.okv, loadA, lenP, binP, intsP, intP, nilP, unP, builtinP, isMapA, U3, U4, U5, slA, max2, putCells, fillA, buildA, elA, dv1, U7, Ua, Ub, Uc, Ud, Uf, Ug, Ui, Uk, Ul, Ur, Us, Ut, Uu, Uv, List.mapM_cons, List.mapM_nil, Uw, Ux, Uz, V0, V1, V4, Option.bind_eq_bind, Option.pure_def, V9, Va, Vc, Ve, Vt, Int.cast_ofNat_Int, UU2, UU3, UU9, Vr, PmL, simprocAttr, PmT, Back.v, Back.c, big4_len, retQ, resP, tupA, fg, fgs, condP, condB_t, condB_f, firstOk, List.mem_cons]; try (with_reducible (first | exact co_refl _ | exact co_own _ _ _ | exact co_nilsB | exact co_nilsL _ _)))))
  all_goals first
    | exact end_bad rfl
    | exact end_bad (by rw [hO]; first | rfl | exact Bool.and_false _)
    | exact end_long (by rw [hO]; rfl) (by have h9 := of_decide_eq_true hb; split at h9 <;> split <;> omega)
    | (rw [end_ok (by rw [hO]; rfl) (by have h9 := of_decide_eq_false hb; split at h9 <;> split <;> omega)]; exact co_refl _)
    | (rw [end_ok (by rw [hO]; rfl) (by simp [big4])]; exact co_refl _)
end PM
end Go.Proofs.YthaekefdadccaaaDoor
namespace Go.Proofs.YthaekefdadccaaaDoor
open Go.RowKit
namespace PM
set_option maxRecDepth 100000 in
set_option maxHeartbeats 4000000 in
theorem pPut5 (m : Back) (hk : m.kind = 5) (hz : (fldsF m.fields).length ≤ 100000000000) : Pure Tryd.prog 16 [m.v] (putV (putBackS m)) := by
  have e0 : putBackS m = putEnd m (fldsMay m.fields) 0 (fldsBody m.fields) := by simp only [putBackS, backMay, backLong, backBody, hk, Int.reduceEq, ↓reduceIte]
  rw [e0]
  refine pure_intro Tryd.func16 rfl rfl rfl 177 rfl (fun hh => ?_)
  obtain ⟨xk, xn, xt, xp, xs, xu, xf, xc, xa, xg⟩ := m
  simp only at hk hz
  subst hk
  have hmx : maxLen = 9223372036854775807 := rfl
  have hT := pTags 5 (by omega)
  have hS := pSame ⟨5, [], [], 0, 0, 0, xf, [], [], false⟩ ⟨5, xn, xt, xp, xs, xu, xf, xc, xa, xg⟩
  obtain ⟨L, hL⟩ : ∃ L, Back.like ⟨5, [], [], 0, 0, 0, xf, [], [], false⟩ ⟨5, xn, xt, xp, xs, xu, xf, xc, xa, xg⟩ = L := ⟨_, rfl⟩
  have hO : Back.like (Back.only ⟨5, xn, xt, xp, xs, xu, xf, xc, xa, xg⟩) ⟨5, xn, xt, xp, xs, xu, xf, xc, xa, xg⟩ = L := hL
  rw [hL] at hS
  have hF := pFields xf hz
  have hbl : (fldsBody xf).length ≤ 100000000002 := by
    unfold fldsBody fldsB
    split
    · rw [List.length_append, show (big2 (xf.length : Int)).length = 2 from rfl]; omega
    · simp
  obtain ⟨B, hB⟩ : ∃ B, fldsMay xf = B := ⟨_, rfl⟩
  obtain ⟨b, hbb⟩ : ∃ b, fldsBody xf = b := ⟨_, rfl⟩
  rw [hB, hbb] at hF
  rw [hbb] at hbl
  simp only [hB, hbb]
  clear hB hbb hz
  cases B
  all_goals cases L
  all_goals
    repeat' (first
      | ((with_reducible (first
       | (refine PW.seq fun K1 hK1 => ?_) | (refine PW.region fun K2 hK2 => ?_) | ((refine hK3 _ ?_; clear hK3)) | ((refine opsP_nil ?_; refine hK2 _ ?_; clear hK2)) | (refine litX_old ?_) | (refine litC_data ?_) | (refine PW.block ?_) | (refine PW.skip ?_)
       | (refine PW.exit ?_) | (refine PW.ret ?_) | ((refine hX1 ?_; clear hX1 hY1; try simp only [hb])) | ((refine hY1 ?_; clear hX1 hY1; try simp only [hb])) )))
      | (((first | (with_reducible refine wantB_intro (fun hb => ?_) (fun hb => ?_)) | (with_reducible refine condB_intro (fun hb => ?_) (fun hb => ?_))) <;> ((try (have hp := hb; simp only [PmH] at hp)); try simp only [hb, Bool.not_true, Bool.not_false])))
      | (((with_reducible refine cC_row ?_ ?_ ?_ (pBig4t ?_ ?_) ?_); (with_reducible exact rfl); (focus (simp only [Ua]; try rfl)); (focus ((repeat' (first | (refine .cons ?_ ?_) | (exact .nil) | (exact .d _) )) <;> (simp only [purAs, purA, Vf, Bool.and_self, Back.v, Back.c, zB, big4_len]; done)))))
      | (((with_reducible refine cC_new ?_ (pConcat2 ?_ ?_ ?_) ?_); (focus ((repeat' (first | (refine .cons ?_ ?_) | (exact .nil) | (exact .d _) )) <;> (simp only [purAs, purA, Vf, Bool.and_self, Back.v, Back.c, zB, big4_len]; done)))))
      | (((with_reducible refine cC_pure ?_ (hT) (fun _ => ?_)); (focus ((repeat' constructor) <;> (simp only [purAs, purA, Vf, Bool.and_self, Back.v, Back.c, zB, big4_len]; done)))))
      | (((with_reducible refine cC_pure ?_ (hF) (fun _ => ?_)); (focus ((repeat' constructor) <;> (simp only [purAs, purA, Vf, Bool.and_self, Back.v, Back.c, zB, big4_len]; done)))))
      | ((simp only [thenP, blockP, Nat.reduceEqDiff, ↓reduceIte]; (try ((repeat (fail_if_success (with_reducible refine hK1 _ ?_)); clear hK1); (with_reducible refine hK1 _ ?_); clear hK1))))
      | ((with_reducible omega))
      | (((with_reducible refine opsP_consD (d := 169) fun K3 hK3 => ?_); simp only [wantP, opP, Ur, Us, List.mapM_cons, List.mapM_nil, Uw, Ux]; simp (disch := omega) only [St.eval, St.put, upd_app, cellsA, AV.okv, U3, U4, U5, elA, dv1, Uf, Ug, Ut, Uu, Uv, List.mapM_cons, List.mapM_nil, Uw, Ux, V0, V1, V4, Option.bind_eq_bind, Option.pure_def, V9, Ve, UU9, PmL, simprocAttr, PmT]; (with_reducible refine litX_old ?_); (with_reducible refine litC_own ?_)))
      | (((first | ((with_reducible (first | refine opsP_consMt (d := ?_) (dj := ?_) (b := ?_) (r := ?_) ?_ ?_ (fun hb => ?_) (fun K3 hK3 => ?_) | refine opsP_consMf (d := ?_) (dj := ?_) (b := ?_) (r := ?_) ?_ ?_ (fun hb => ?_) (fun K3 hK3 => ?_))); rotate_left 3; (focus exact rfl); (focus (simp only [upd_app, simprocAttr]; exact rfl))) | ((with_reducible (first | refine opsP_consNt (d := ?_) (dj := ?_) (b := ?_) (r := ?_) (c := ?_) ?_ ?_ (fun hb => ?_) (fun K3 hK3 => ?_) | refine opsP_consNf (d := ?_) (dj := ?_) (b := ?_) (r := ?_) (c := ?_) ?_ ?_ (fun hb => ?_) (fun K3 hK3 => ?_))); rotate_left 4; (focus exact rfl); (focus (simp only [St.put, upd_app, iniT_app, simprocAttr, mrg_t, mrg_f]; exact rfl)))); (focus (simp only [opP, valP, Ur, Us]; (try (simp only [Bool.not_eq_true'] at hb)); (try (have hp := hb; simp only [PmH, beq_iff_eq, beq_eq_false_iff_ne, ne_eq] at hp)); simp (disch := omega) only [St.eval, upd_app, loadA, unP, Ua, Ub, Uf, Ug, Uk, Un, Up, Uv, V9, Vr, PmL, simprocAttr, PmT, hb]; (repeat' (first | (exact rfl) | ((refine And.intro ?_ ?_); (focus (exact rfl)); (exact rfl)) | (refine And.intro (by first | omega | (simp; done) | assumption) ?_) | ((with_reducible refine cC_pure ?_ (hT) (fun _ => ?_)); (focus ((repeat' constructor) <;> (simp only [purAs, purA, Vf, Bool.and_self, Back.v, Back.c, zB, big4_len]; done)))) | ((with_reducible refine cC_pure ?_ (hS) (fun _ => ?_)); (focus ((repeat' constructor) <;> (simp only [Back.v, Back.c]; done)))) | ((with_reducible refine cC_pure ?_ (hF) (fun _ => ?_)); (focus ((repeat' constructor) <;> (simp only [purAs, purA, Vf, Bool.and_self, Back.v, Back.c, zB, big4_len]; done)))))); done)); (try simp only [St.put, Nat.reduceLT, ↓reduceIte, mrg_t, mrg_f, Bool.not_true, Bool.not_false])))
      | (((first | (((with_reducible refine opsP_cons fun K3 hK3 => ?_); simp only [wantP, opP, valP, Ur, Us, List.mapM_cons, List.mapM_nil, Uw, Ux])) | ((with_reducible refine PW.condM fun X1 Y1 hX1 hY1 => ?_)) | (skip)); simp (disch := omega) only [wantB_tf, St.eval, St.put, upd_app, iniT_app, avOf, avOf1, nom, cellsA, AV.okv, loadA, lenP, binP, intsP, intP, nilP, unP, builtinP, isMapA, U3, U4, U5, slA, max2, putCells, fillA, buildA, elA, dv1, U7, Ua, Ub, Uc, Ud, Uf, Ug, Ui, Uk, Ul, Ur, Us, Ut, Uu, Uv, List.mapM_cons, List.mapM_nil, Uw, Ux, Uz, V0, V1, V4, Option.bind_eq_bind, Option.pure_def, V9, Va, Vc, Ve, Vt, UU2, UU3, UU9, Vr, PmL, simprocAttr, PmT, Back.v, Back.c, big4_len, retQ, resP, tupA, fg, fgs, condP, condB_t, condB_f]; try (with_reducible (first | exact co_refl _ | exact co_own _ _ _ | exact co_nilsB | exact co_nilsL _ _)))))
  all_goals first
    | exact end_bad rfl
    | exact end_bad (by rw [hO]; first | rfl | exact Bool.and_false _)
    | exact end_long (by rw [hO]; rfl) (by have h9 := of_decide_eq_true hb; split at h9 <;> split <;> omega)
    | (rw [end_ok (by rw [hO]; rfl) (by have h9 := of_decide_eq_false hb; split at h9 <;> split <;> omega)]; exact co_refl _)
    | (rw [end_ok (by rw [hO]; rfl) (by decide)]; exact co_refl _)
end PM
end Go.Proofs.YthaekefdadccaaaDoor
