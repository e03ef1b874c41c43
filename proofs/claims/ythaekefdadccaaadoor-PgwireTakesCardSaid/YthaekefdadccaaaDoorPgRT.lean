/- pgwire's reference in the abstract: what of a server's message is laid. -/
import Derived.Test.YthaekefdadccaaaDoorPgRB
namespace Go.Proofs.YthaekefdadccaaaDoor
open Go.RowKit
namespace PM
def rBody (m : Back) : List Int := if m.kind = 6 then rCelsBody m.cells else backBody m
def rTag (m : Back) : Int := if 1 ≤ m.kind ∧ m.kind ≤ 9 then tagOf m.kind else 0
def rMay (m : Back) : Bool := if m.kind = 10 then false else backMay m
def toldV (m : Back) : AV := .tup [m.only.v, bs (rBody m), .d (.int .u8 (rTag m)), .d (.bool (rMay m))]
set_option maxRecDepth 100000 in
set_option maxHeartbeats 4000000 in
theorem pRTold1 (m : Back) (hk : m.kind = 1) : Pure Tryd.prog 34 [m.v] (toldV m) := by
  refine pure_intro Tryd.func34 rfl rfl rfl 167 rfl (fun hh => ?_)
  obtain ⟨xk, xn, xt, xp, xs, xu, xf, xc, xa, xg⟩ := m
  simp only at hk
  subst hk
  have hmx : maxLen = 9223372036854775807 := rfl
  have e0 : toldV ⟨1, xn, xt, xp, xs, xu, xf, xc, xa, xg⟩ = .tup [Back.v ⟨1, [], [], 0, 0, 0, [], [], [], false⟩, bs (big4 0), .d (.int .u8 (tagOf 1)), .d (.bool (true))] := rfl
  rw [e0]
  repeat' (first
    | ((with_reducible (first
     | (refine PW.seq fun K1 hK1 => ?_) | (refine PW.region fun K2 hK2 => ?_) | ((refine hK3 _ ?_; clear hK3)) | ((refine opsP_nil ?_; refine hK2 _ ?_; clear hK2)) | (refine PW.block ?_) 
     | (refine PW.ret ?_) | ((refine hX1 ?_; clear hX1 hY1; try simp only [hb])) | ((refine opsO_nil ?_; refine hK2 _ ?_; clear hK2)) | ((refine keepA_intro ?_ ?_; focus (first | exact keep_same _ _ | exact keep_box _ _ _ _ | exact keep_hd _ _ _ _ _ | exact keep_02 _ _ _ _ _ _ _ | exact keep_1 _ _ _ _ _ _ _))))))
    | (((with_reducible refine cC_new ?_ (pRBig4 ?_) ?_); (focus ((repeat' (first | (refine .cons ?_ ?_) | (exact .nil) | (exact .d _) )) <;> (simp only [purAs, purA, Vf, Bool.and_self, Back.v, Back.c, zB, big4_l]; done)))))
    | (((with_reducible refine PW.draw (id := 4) mixed [0, 2] [] [(0, true), (1, false), (2, false), (3, true), (4, true), (5, true)] (by kernel_rfl) (by decide) fun K2 hK2 => ?_)))
    | ((simp only [thenP, blockP]; (try ((repeat (fail_if_success (with_reducible refine hK1 _ ?_)); clear hK1); (with_reducible refine hK1 _ ?_); clear hK1))))
    | (((first | (((with_reducible refine opsP_cons fun K3 hK3 => ?_); simp only [wantP, opP, valP, Ur, Us])) | (((with_reducible refine opsO_first (o := ?_) ?_ fun K3 hK3 => ?_); rotate_left 1; (focus (simp only [Uz, Ub, Ua] <;> rfl)); simp only [wantP, firstP, valP])) | (((with_reducible refine opsO_only (o := ?_) ?_ fun K3 hK3 => ?_); rotate_left 1; (focus (simp only [Uz, Ub, Ua] <;> rfl)); simp only [wantP, opP, Ur, Us, Uw, Ux])) | ((with_reducible refine PW.condM fun X1 Y1 hX1 hY1 => ?_)) | (skip)); simp (disch := omega) only [St.eval, St.put, upd_app, iniT_app, avOf, avOf1, nom, cellsA, AV.okv, loadA, binP, intsP, intP, nilP, slA, putCells, fillA, buildA, U7, Ua, Ub, Uc, Ud, Uf, Ug, Uk, Un, Up, Ur, Us, Ut, Uu, Uv, V9, Va, Vd, Ve, Vt, UU2, UU3, Vr, Vs, PmL, simprocAttr, PmT, Back.v, Back.c, big4_l, retQ, resP, tupA, fg, fgs, condP, condB_t, firstOk, List.mem_cons]; try (with_reducible (first | exact co_refl _ | exact co_own _ _ _ | exact co_nilsB | exact co_nilsL _ _)))))
  all_goals exact co_tup (cos_cons (co_agg (by repeat' (first | exact cos_refl _ | (refine cos_cons ?_ ?_) | exact co_refl _ | exact co_nilsB | exact co_nilsL _ _ | exact co_nils _))) (cos_cons (by first | exact co_own _ _ _ | exact co_nilsB | exact co_refl _) (cos_cons (co_refl _) (cos_cons (by first | exact co_refl _ | exact co_eq (congrArg (fun b => AV.d (.bool b)) (by simp_all [statusOk]))) cos_nil))))
set_option maxRecDepth 100000 in
set_option maxHeartbeats 4000000 in
theorem pRTold8 (m : Back) (hk : m.kind = 8) : Pure Tryd.prog 34 [m.v] (toldV m) := by
  refine pure_intro Tryd.func34 rfl rfl rfl 167 rfl (fun hh => ?_)
  obtain ⟨xk, xn, xt, xp, xs, xu, xf, xc, xa, xg⟩ := m
  simp only at hk
  subst hk
  have hmx : maxLen = 9223372036854775807 := rfl
  have e0 : toldV ⟨8, xn, xt, xp, xs, xu, xf, xc, xa, xg⟩ = .tup [Back.v ⟨8, [], [], 0, 0, 0, [], [], [], false⟩, bs ([]), .d (.int .u8 (tagOf 8)), .d (.bool (true))] := rfl
  rw [e0]
  repeat' (first
    | ((with_reducible (first
     | (refine PW.seq fun K1 hK1 => ?_) | (refine PW.region fun K2 hK2 => ?_) | ((refine hK3 _ ?_; clear hK3)) | ((refine opsP_nil ?_; refine hK2 _ ?_; clear hK2)) | (refine PW.block ?_) 
     | (refine PW.ret ?_) | ((refine hX1 ?_; clear hX1 hY1; try simp only [hb])) | ((refine hY1 ?_; clear hX1 hY1; try simp only [hb])) )))
    | ((simp only [thenP, blockP]; (try ((repeat (fail_if_success (with_reducible refine hK1 _ ?_)); clear hK1); (with_reducible refine hK1 _ ?_); clear hK1))))
    | (((first | (((with_reducible refine opsP_cons fun K3 hK3 => ?_); simp only [wantP, opP, valP, Ur, Us])) | ((with_reducible refine PW.condM fun X1 Y1 hX1 hY1 => ?_)) | (skip)); simp (disch := omega) only [St.eval, St.put, upd_app, iniT_app, avOf, avOf1, nom, cellsA, AV.okv, loadA, binP, intsP, intP, nilP, slA, putCells, fillA, buildA, U7, Ua, Ub, Uc, Ud, Uf, Ug, Uk, Un, Up, Ur, Us, Ut, Uu, V9, Va, Ve, Vt, UU2, UU3, Vr, Vs, PmL, simprocAttr, PmT, Back.v, Back.c, retQ, resP, tupA, fg, fgs, condP, condB_t, condB_f]; try (with_reducible (first | exact co_refl _ | exact co_own _ _ _ | exact co_nilsB | exact co_nilsL _ _)))))
  all_goals exact co_tup (cos_cons (co_agg (by repeat' (first | exact cos_refl _ | (refine cos_cons ?_ ?_) | exact co_refl _ | exact co_nilsB | exact co_nilsL _ _ | exact co_nils _))) (cos_cons (by first | exact co_own _ _ _ | exact co_nilsB | exact co_refl _) (cos_cons (co_refl _) (cos_cons (by first | exact co_refl _ | exact co_eq (congrArg (fun b => AV.d (.bool b)) (by simp_all [statusOk]))) cos_nil))))
set_option maxRecDepth 100000 in
set_option maxHeartbeats 4000000 in
theorem pRTold7 (m : Back) (hk : m.kind = 7) (hz : m.text.length ≤ 100000000000) : Pure Tryd.prog 34 [m.v] (toldV m) := by
  refine pure_intro Tryd.func34 rfl rfl rfl 167 rfl (fun hh => ?_)
  obtain ⟨xk, xn, xt, xp, xs, xu, xf, xc, xa, xg⟩ := m
  simp only at hk hz
  subst hk
  have hmx : maxLen = 9223372036854775807 := rfl
  have e0 : toldV ⟨7, xn, xt, xp, xs, xu, xf, xc, xa, xg⟩ = .tup [Back.v ⟨7, [], xt, 0, 0, 0, [], [], [], false⟩, bs (xt ++ [0]), .d (.int .u8 (tagOf 7)), .d (.bool (!has0 xt))] := rfl
  rw [e0]
  have hA := pRHas0 xt
  have hX1 := pRStr xt (by omega)
  repeat' (first
    | ((with_reducible (first
     | (refine PW.seq fun K1 hK1 => ?_) | (refine PW.region fun K2 hK2 => ?_) | ((refine hK3 _ ?_; clear hK3)) | ((refine opsP_nil ?_; refine hK2 _ ?_; clear hK2)) | (refine PW.block ?_) 
     | (refine PW.ret ?_) | ((refine hX1 ?_; clear hX1 hY1; try simp only [hb])) | ((refine hY1 ?_; clear hX1 hY1; try simp only [hb])) | ((refine opsO_nil ?_; refine hK2 _ ?_; clear hK2)) | ((refine keepA_intro ?_ ?_; focus (first | exact keep_same _ _ | exact keep_box _ _ _ _ | exact keep_hd _ _ _ _ _ | exact keep_02 _ _ _ _ _ _ _ | exact keep_1 _ _ _ _ _ _ _))))))
    | (((with_reducible refine cC_new ?_ (hX1) ?_); (focus ((repeat' constructor) <;> (simp only [purAs, purA, Vf, Bool.and_self, Back.v, Back.c, zB, big4_l]; done)))))
    | (((with_reducible refine cC_pure ?_ (hA) (fun _ => ?_)); (focus ((repeat' constructor) <;> (simp only [purAs, purA, Vf, Bool.and_self, Back.v, Back.c, zB, big4_l]; done)))))
    | (((with_reducible refine PW.draw (id := 31) mixed [0, 2] [] [(0, true), (1, true), (2, true), (4, true), (5, true), (3, false), (6, false), (7, true), (8, true), (9, true)] (by kernel_rfl) (by decide) fun K2 hK2 => ?_)))
    | ((simp only [thenP, blockP]; (try ((repeat (fail_if_success (with_reducible refine hK1 _ ?_)); clear hK1); (with_reducible refine hK1 _ ?_); clear hK1))))
    | (((first | (((with_reducible refine opsP_cons fun K3 hK3 => ?_); simp only [wantP, opP, valP, Ur, Us])) | (((with_reducible refine opsO_first (o := ?_) ?_ fun K3 hK3 => ?_); rotate_left 1; (focus (simp only [Uz, Ub, Ua] <;> rfl)); simp only [wantP, firstP, valP])) | (((with_reducible refine opsO_only (o := ?_) ?_ fun K3 hK3 => ?_); rotate_left 1; (focus (simp only [Uz, Ub, Ua] <;> rfl)); simp only [wantP, opP, Ur, Us, Uw, Ux])) | ((with_reducible refine PW.condM fun X1 Y1 hX1 hY1 => ?_)) | (skip)); simp (disch := omega) only [St.eval, St.put, upd_app, iniT_app, avOf, avOf1, nom, cellsA, AV.okv, loadA, binP, intsP, intP, nilP, unP, slA, putCells, fillA, buildA, U7, Ua, Ub, Uc, Ud, Uf, Ug, Ui, Uk, Ul, Un, Up, Ur, Us, Ut, Uu, Uv, V9, Va, Vd, Ve, Vt, UU2, UU3, Vr, Vs, PmL, simprocAttr, PmT, Back.v, Back.c, retQ, resP, tupA, fg, fgs, condP, condB_t, condB_f, firstOk, List.mem_cons]; try (with_reducible (first | exact co_refl _ | exact co_own _ _ _ | exact co_nilsB | exact co_nilsL _ _)))))
  all_goals exact co_tup (cos_cons (co_agg (by repeat' (first | exact cos_refl _ | (refine cos_cons ?_ ?_) | exact co_refl _ | exact co_nilsB | exact co_nilsL _ _ | exact co_nils _))) (cos_cons (by first | exact co_own _ _ _ | exact co_nilsB | exact co_refl _) (cos_cons (co_refl _) (cos_cons (by first | exact co_refl _ | exact co_eq (congrArg (fun b => AV.d (.bool b)) (by simp_all [statusOk]))) cos_nil))))
set_option maxRecDepth 100000 in
set_option maxHeartbeats 4000000 in
theorem pRTold2 (m : Back) (hk : m.kind = 2) (hz : m.name.length ≤ 100000000000 ∧ m.text.length ≤ 100000000000) : Pure Tryd.prog 34 [m.v] (toldV m) := by
  refine pure_intro Tryd.func34 rfl rfl rfl 167 rfl (fun hh => ?_)
  obtain ⟨xk, xn, xt, xp, xs, xu, xf, xc, xa, xg⟩ := m
  simp only at hk hz
  subst hk
  have hmx : maxLen = 9223372036854775807 := rfl
  have e0 : toldV ⟨2, xn, xt, xp, xs, xu, xf, xc, xa, xg⟩ = .tup [Back.v ⟨2, xn, xt, 0, 0, 0, [], [], [], false⟩, bs (xn ++ [0] ++ xt ++ [0]), .d (.int .u8 (tagOf 2)), .d (.bool (!has0 xn && !has0 xt))] := rfl
  rw [e0]
  have hA := pRHas0 xn
  have hB := pRHas0 xt
  have hX1 := pRStr xn (by omega)
  have hX2 := pRStro (xn ++ [0]) xt (by simp only [List.length_append, List.length_cons, List.length_nil]; omega)
  repeat' (first
    | ((with_reducible (first
     | (refine PW.seq fun K1 hK1 => ?_) | (refine PW.region fun K2 hK2 => ?_) | ((refine hK3 _ ?_; clear hK3)) | ((refine opsP_nil ?_; refine hK2 _ ?_; clear hK2)) | (refine PW.block ?_) 
     | (refine PW.ret ?_) | ((refine hX1 ?_; clear hX1 hY1; try simp only [hb])) | ((refine hY1 ?_; clear hX1 hY1; try simp only [hb])) | ((refine opsO_nil ?_; refine hK2 _ ?_; clear hK2)) | ((refine keepA_intro ?_ ?_; focus (first | exact keep_same _ _ | exact keep_box _ _ _ _ | exact keep_hd _ _ _ _ _ | exact keep_02 _ _ _ _ _ _ _ | exact keep_1 _ _ _ _ _ _ _))))))
    | (((first | (with_reducible refine wantB_intro (fun hb => ?_) (fun hb => ?_)) | (with_reducible refine condB_intro (fun hb => ?_) (fun hb => ?_))) <;> ((try (have hp := hb; simp only [PmH] at hp)); try simp only [hb, Bool.not_true])))
    | (((with_reducible refine cC_new ?_ (hX1) ?_); (focus ((repeat' constructor) <;> (simp only [purAs, purA, Vf, Bool.and_self, Back.v, Back.c, zB, big4_l]; done)))))
    | (((with_reducible refine cC_row ?_ ?_ ?_ (hX2) ?_); (with_reducible exact rfl); (focus (simp only [Ua, Ui, Uf, Ug, V9]; try rfl)); (focus ((repeat' constructor) <;> (simp only [purAs, purA, Vf, Bool.and_self, Back.v, Back.c, zB, big4_l]; done)))))
    | (((with_reducible refine cC_pure ?_ (hA) (fun _ => ?_)); (focus ((repeat' constructor) <;> (simp only [purAs, purA, Vf, Bool.and_self, Back.v, Back.c, zB, big4_l]; done)))))
    | (((with_reducible refine cC_pure ?_ (hB) (fun _ => ?_)); (focus ((repeat' constructor) <;> (simp only [purAs, purA, Vf, Bool.and_self, Back.v, Back.c, zB, big4_l]; done)))))
    | (((with_reducible refine PW.draw (id := 10) mixed [0, 2] [] [(0, true), (1, true), (2, true), (4, true), (5, true), (7, true), (8, true), (3, false), (6, false), (9, true), (10, true), (11, true), (12, true), (13, false), (14, true), (15, true), (16, true)] (by kernel_rfl) (by decide) fun K2 hK2 => ?_)))
    | ((simp only [thenP, blockP]; (try ((repeat (fail_if_success (with_reducible refine hK1 _ ?_)); clear hK1); (with_reducible refine hK1 _ ?_); clear hK1))))
    | (((first | (((with_reducible refine opsP_cons fun K3 hK3 => ?_); simp only [wantP, opP, valP, Ur, Us])) | (((with_reducible refine opsO_first (o := ?_) ?_ fun K3 hK3 => ?_); rotate_left 1; (focus (simp only [Uz, Ub, Ua] <;> rfl)); simp only [wantP, firstP, valP])) | (((with_reducible refine opsO_only (o := ?_) ?_ fun K3 hK3 => ?_); rotate_left 1; (focus (simp only [Uz, Ub, Ua] <;> rfl)); simp only [wantP, opP, Ur, Us, Uw, Ux])) | ((with_reducible refine PW.condM fun X1 Y1 hX1 hY1 => ?_)) | (skip)); simp (disch := omega) only [wantB_tt, wantB_ft, St.eval, St.put, upd_app, iniT_app, avOf, avOf1, nom, cellsA, AV.okv, loadA, binP, intsP, intP, nilP, unP, slA, putCells, fillA, buildA, U7, Ua, Ub, Uc, Ud, Uf, Ug, Ui, Uk, Ul, Un, Up, Ur, Us, Ut, Uu, Uv, Uz, V4, V9, Va, Vd, Ve, Vt, UU2, UU3, Vr, Vs, PmL, simprocAttr, PmT, Back.v, Back.c, retQ, resP, tupA, fg, fgs, condP, condB_t, condB_f, firstOk, List.mem_cons]; try (with_reducible (first | exact co_refl _ | exact co_own _ _ _ | exact co_nilsB | exact co_nilsL _ _)))))
  all_goals exact co_tup (cos_cons (co_agg (by repeat' (first | exact cos_refl _ | (refine cos_cons ?_ ?_) | exact co_refl _ | exact co_nilsB | exact co_nilsL _ _ | exact co_nils _))) (cos_cons (by first | exact co_own _ _ _ | exact co_nilsB | exact co_refl _) (cos_cons (co_refl _) (cos_cons (by first | exact co_refl _ | exact co_eq (congrArg (fun b => AV.d (.bool b)) (by simp_all))) cos_nil))))
set_option maxRecDepth 100000 in
set_option maxHeartbeats 4000000 in
theorem pRTold3 (m : Back) (hk : m.kind = 3) : Pure Tryd.prog 34 [m.v] (toldV m) := by
  refine pure_intro Tryd.func34 rfl rfl rfl 167 rfl (fun hh => ?_)
  obtain ⟨xk, xn, xt, xp, xs, xu, xf, xc, xa, xg⟩ := m
  simp only at hk
  subst hk
  have hmx : maxLen = 9223372036854775807 := rfl
  have e0 : toldV ⟨3, xn, xt, xp, xs, xu, xf, xc, xa, xg⟩ = .tup [Back.v ⟨3, [], [], xp, xs, 0, [], [], [], false⟩, bs (big4 xp ++ big4 xs), .d (.int .u8 (tagOf 3)), .d (.bool (i32ok xp && i32ok xs))] := rfl
  rw [e0]
  repeat' (first
    | ((with_reducible (first
     | (refine PW.seq fun K1 hK1 => ?_) | (refine PW.region fun K2 hK2 => ?_) | ((refine hK3 _ ?_; clear hK3)) | ((refine opsP_nil ?_; refine hK2 _ ?_; clear hK2)) | (refine PW.block ?_) 
     | (refine PW.ret ?_) | ((refine hX1 ?_; clear hX1 hY1; try simp only [hb])) | ((refine hY1 ?_; clear hX1 hY1; try simp only [hb])) | ((refine opsO_nil ?_; refine hK2 _ ?_; clear hK2)) | ((refine keepA_intro ?_ ?_; focus (first | exact keep_same _ _ | exact keep_box _ _ _ _ | exact keep_hd _ _ _ _ _ | exact keep_02 _ _ _ _ _ _ _ | exact keep_1 _ _ _ _ _ _ _))))))
    | (((first | (with_reducible refine wantB_intro (fun hb => ?_) (fun hb => ?_)) | (with_reducible refine condB_intro (fun hb => ?_) (fun hb => ?_))) <;> ((try (have hp := hb; simp only [PmH] at hp)); try simp only [hb, Bool.not_true])))
    | (((with_reducible refine cC_new ?_ (pRBig4 ?_) ?_); (focus ((repeat' (first | (refine .cons ?_ ?_) | (exact .nil) | (exact .d _) )) <;> (simp only [purAs, purA, Vf, Bool.and_self, Back.v, Back.c, zB, big4_l]; done)))))
    | (((with_reducible refine cC_pure ?_ (pRNumber ?_) (fun _ => ?_)); (focus ((repeat' (first | (refine .cons ?_ ?_) | (exact .nil) | (exact .d _) )) <;> (simp only [purAs, purA, Vf, Bool.and_self, Back.v, Back.c, zB, big4_l]; done)))))
    | (((with_reducible refine PW.draw (id := 16) mixed [0, 2] [] [(0, true), (1, true), (2, true), (4, true), (5, true), (8, true), (3, false), (6, false), (7, false), (9, true), (10, true), (11, true), (12, false), (13, true), (14, true), (15, true)] (by kernel_rfl) (by decide) fun K2 hK2 => ?_)))
    | ((simp only [thenP, blockP]; (try ((repeat (fail_if_success (with_reducible refine hK1 _ ?_)); clear hK1); (with_reducible refine hK1 _ ?_); clear hK1))))
    | (((first | (((with_reducible refine opsP_cons fun K3 hK3 => ?_); simp only [wantP, opP, valP, Ur, Us])) | (((with_reducible refine opsO_first (o := ?_) ?_ fun K3 hK3 => ?_); rotate_left 1; (focus (simp only [Uz, Ub, Ua] <;> rfl)); simp only [wantP, firstP, valP])) | (((with_reducible refine opsO_only (o := ?_) ?_ fun K3 hK3 => ?_); rotate_left 1; (focus (simp only [Uz, Ub, Ua] <;> rfl)); simp only [wantP, opP, Ur, Us, Uw, Ux])) | ((with_reducible refine PW.condM fun X1 Y1 hX1 hY1 => ?_)) | (skip)); simp (disch := omega) only [St.eval, St.put, upd_app, iniT_app, avOf, avOf1, nom, cellsA, AV.okv, loadA, binP, intsP, intP, nilP, builtinP, appP, srcA, srcTy, isBsl, slA, putCells, fillA, buildA, U7, Ua, Ub, Uc, Ud, Uf, Ug, Uk, Ul, Un, Up, Ur, Us, Ut, Uu, Uv, Uz, V2, V4, V9, Va, Vd, Ve, Vt, UU2, UU3, Vr, Vs, PmL, simprocAttr, PmT, Back.v, Back.c, big4_l, retQ, resP, tupA, fg, fgs, condP, condB_t, condB_f, firstOk, List.mem_cons]; try (with_reducible (first | exact co_refl _ | exact co_own _ _ _ | exact co_nilsB | exact co_nilsL _ _)))))
  all_goals exact co_tup (cos_cons (co_agg (by repeat' (first | exact cos_refl _ | (refine cos_cons ?_ ?_) | exact co_refl _ | exact co_nilsB | exact co_nilsL _ _ | exact co_nils _))) (cos_cons (by first | exact co_own _ _ _ | exact co_nilsB | exact co_refl _) (cos_cons (co_refl _) (cos_cons (by first | exact co_refl _ | exact co_eq (congrArg (fun b => AV.d (.bool b)) (by simp_all))) cos_nil))))
set_option maxRecDepth 100000 in
set_option maxHeartbeats 4000000 in
theorem pRTold4 (m : Back) (hk : m.kind = 4) : Pure Tryd.prog 34 [m.v] (toldV m) := by
  refine pure_intro Tryd.func34 rfl rfl rfl 167 rfl (fun hh => ?_)
  obtain ⟨xk, xn, xt, xp, xs, xu, xf, xc, xa, xg⟩ := m
  simp only at hk
  subst hk
  have hmx : maxLen = 9223372036854775807 := rfl
  have e0 : toldV ⟨4, xn, xt, xp, xs, xu, xf, xc, xa, xg⟩ = .tup [Back.v ⟨4, [], [], 0, 0, xu, [], [], [], false⟩, bs ([xu]), .d (.int .u8 (tagOf 4)), .d (.bool (statusOk xu))] := rfl
  rw [e0]
  repeat' (first
    | ((with_reducible (first
     | (refine PW.seq fun K1 hK1 => ?_) | (refine PW.region fun K2 hK2 => ?_) | ((refine hK3 _ ?_; clear hK3)) | ((refine opsP_nil ?_; refine hK2 _ ?_; clear hK2)) | (refine PW.block ?_) 
     | (refine PW.ret ?_) | ((refine hX1 ?_; clear hX1 hY1; try simp only [hb])) | ((refine hY1 ?_; clear hX1 hY1; try simp only [hb])) | ((refine opsO_nil ?_; refine hK2 _ ?_; clear hK2)) | ((refine keepA_intro ?_ ?_; focus (first | exact keep_same _ _ | exact keep_box _ _ _ _ | exact keep_hd _ _ _ _ _ | exact keep_02 _ _ _ _ _ _ _ | exact keep_1 _ _ _ _ _ _ _))))))
    | (((first | (with_reducible refine wantB_intro (fun hb => ?_) (fun hb => ?_)) | (with_reducible refine condB_intro (fun hb => ?_) (fun hb => ?_))) <;> ((try (have hp := hb; simp only [PmH] at hp)); try simp only [hb, Bool.not_false])))
    | (((with_reducible refine PW.draw (id := 19) mixed [0, 2] [] [(0, true), (1, true), (2, true), (4, true), (5, true), (6, true), (7, true), (8, true), (9, true), (10, true), (11, true), (12, true), (13, true), (14, true), (15, true), (16, true), (3, true), (17, false), (18, true), (19, true), (20, true)] (by kernel_rfl) (by decide) fun K2 hK2 => ?_)))
    | ((simp only [thenP, blockP]; (try ((repeat (fail_if_success (with_reducible refine hK1 _ ?_)); clear hK1); (with_reducible refine hK1 _ ?_); clear hK1))))
    | (((first | (((with_reducible refine opsP_cons fun K3 hK3 => ?_); simp only [wantP, opP, valP, Ur, Us])) | (((with_reducible refine opsO_first (o := ?_) ?_ fun K3 hK3 => ?_); rotate_left 1; (focus (simp only [Uz, Ub, Ua] <;> rfl)); simp only [wantP, firstP, valP, Ur, Us, List.mapM_cons, List.mapM_nil])) | (((with_reducible refine opsO_only (o := ?_) ?_ fun K3 hK3 => ?_); rotate_left 1; (focus (simp only [Uz, Ub, Ua] <;> rfl)); simp only [wantP, opP, Uw, Ux])) | ((with_reducible refine PW.condM fun X1 Y1 hX1 hY1 => ?_)) | (skip)); simp (disch := omega) only [wantB_ff, wantB_tf, St.eval, St.put, upd_app, iniT_app, avOf, avOf1, nom, cellsA, AV.okv, loadA, binP, intsP, intP, eqP, nilP, U3, slA, putCells, fillA, buildA, elA, dv1, U7, Ua, Ub, Uc, Ud, Uf, Ug, Uk, Ul, Un, Up, Ur, Us, Ut, Uu, List.mapM_cons, List.mapM_nil, Uw, Ux, Uz, V0, V1, V4, Option.bind_eq_bind, Option.pure_def, V9, Va, Ve, Vt, UU2, UU3, UU9, Vr, Vs, PmL, simprocAttr, PmT, Back.v, Back.c, retQ, resP, tupA, fg, fgs, condP, condB_t, condB_f, firstOk, List.mem_cons]; try (with_reducible (first | exact co_refl _ | exact co_own _ _ _ | exact co_nilsB | exact co_nilsL _ _)))))
  all_goals exact co_tup (cos_cons (co_agg (by repeat' (first | exact cos_refl _ | (refine cos_cons ?_ ?_) | exact co_refl _ | exact co_nilsB | exact co_nilsL _ _ | exact co_nils _))) (cos_cons (by first | exact co_own _ _ _ | exact co_nilsB | exact co_refl _) (cos_cons (co_refl _) (cos_cons (by first | exact co_refl _ | exact co_eq (congrArg (fun b => AV.d (.bool b)) (by simp_all [statusOk]))) cos_nil))))
set_option maxRecDepth 100000 in
set_option maxHeartbeats 4000000 in
theorem pRTold5 (m : Back) (hk : m.kind = 5) (hz : (fldsF m.fields).length ≤ 100000000000) : Pure Tryd.prog 34 [m.v] (toldV m) := by
  refine pure_intro Tryd.func34 rfl rfl rfl 167 rfl (fun hh => ?_)
  obtain ⟨xk, xn, xt, xp, xs, xu, xf, xc, xa, xg⟩ := m
  simp only at hk hz
  subst hk
  have hmx : maxLen = 9223372036854775807 := rfl
  have e0 : toldV ⟨5, xn, xt, xp, xs, xu, xf, xc, xa, xg⟩ = .tup [Back.v ⟨5, [], [], 0, 0, 0, xf, [], [], false⟩, bs (fldsBody xf), .d (.int .u8 (tagOf 5)), .d (.bool (fldsMay xf))] := rfl
  rw [e0]
  have hF := pRFields xf hz
  repeat' (first
    | ((with_reducible (first
     | (refine PW.seq fun K1 hK1 => ?_) | (refine PW.region fun K2 hK2 => ?_) | ((refine hK3 _ ?_; clear hK3)) | ((refine opsP_nil ?_; refine hK2 _ ?_; clear hK2)) | (refine PW.block ?_) 
     | (refine PW.ret ?_) | ((refine hX1 ?_; clear hX1 hY1; try simp only [hb])) | ((refine hY1 ?_; clear hX1 hY1; try simp only [hb])) )))
    | (((with_reducible refine cC_pure ?_ (hF) (fun _ => ?_)); (focus ((repeat' constructor) <;> (simp only [purAs, purA, Vf, Bool.and_self, Back.v, Back.c, zB, big4_l]; done)))))
    | ((simp only [thenP, blockP]; (try ((repeat (fail_if_success (with_reducible refine hK1 _ ?_)); clear hK1); (with_reducible refine hK1 _ ?_); clear hK1))))
    | (((first | (((with_reducible refine opsP_cons fun K3 hK3 => ?_); simp only [wantP, opP, valP, Ur, Us])) | ((with_reducible refine PW.condM fun X1 Y1 hX1 hY1 => ?_)) | (skip)); simp (disch := omega) only [St.eval, St.put, upd_app, iniT_app, avOf, avOf1, nom, cellsA, AV.okv, loadA, binP, intsP, intP, nilP, slA, putCells, fillA, buildA, U7, Ua, Ub, Uc, Ud, Uf, Ug, Uk, Ul, Un, Up, Ur, Us, Ut, Uu, Uv, V9, Va, Ve, Vt, UU2, UU3, Vr, Vs, PmL, simprocAttr, PmT, Back.v, Back.c, retQ, resP, tupA, fg, fgs, condP, condB_t, condB_f]; try (with_reducible (first | exact co_refl _ | exact co_own _ _ _ | exact co_nilsB | exact co_nilsL _ _)))))
  all_goals exact co_tup (cos_cons (co_agg (by repeat' (first | exact cos_refl _ | (refine cos_cons ?_ ?_) | exact co_refl _ | exact co_nilsB | exact co_nilsL _ _ | exact co_nils _))) (cos_cons (by first | exact co_own _ _ _ | exact co_nilsB | exact co_refl _) (cos_cons (co_refl _) (cos_cons (by first | exact co_refl _ | exact co_eq (congrArg (fun b => AV.d (.bool b)) (by simp_all [statusOk]))) cos_nil))))
set_option maxRecDepth 100000 in
set_option maxHeartbeats 4000000 in
theorem pRTold6 (m : Back) (hk : m.kind = 6) (hz : celsN m.cells ≤ 100000000000) : Pure Tryd.prog 34 [m.v] (toldV m) := by
  refine pure_intro Tryd.func34 rfl rfl rfl 167 rfl (fun hh => ?_)
  obtain ⟨xk, xn, xt, xp, xs, xu, xf, xc, xa, xg⟩ := m
  simp only at hk hz
  subst hk
  have hmx : maxLen = 9223372036854775807 := rfl
  have e0 : toldV ⟨6, xn, xt, xp, xs, xu, xf, xc, xa, xg⟩ = .tup [Back.v ⟨6, [], [], 0, 0, 0, [], xc, [], false⟩, bs (rCelsBody xc), .d (.int .u8 (tagOf 6)), .d (.bool (celsMay xc))] := rfl
  rw [e0]
  have hF := pRCells xc hz
  repeat' (first
    | ((with_reducible (first
     | (refine PW.seq fun K1 hK1 => ?_) | (refine PW.region fun K2 hK2 => ?_) | ((refine hK3 _ ?_; clear hK3)) | ((refine opsP_nil ?_; refine hK2 _ ?_; clear hK2)) | (refine PW.block ?_) 
     | (refine PW.ret ?_) | ((refine hX1 ?_; clear hX1 hY1; try simp only [hb])) | ((refine hY1 ?_; clear hX1 hY1; try simp only [hb])) )))
    | (((with_reducible refine cC_pure ?_ (hF) (fun _ => ?_)); (focus ((repeat' constructor) <;> (simp only [purAs, purA, Vf, Bool.and_self, Back.v, Back.c, zB, big4_l]; done)))))
    | ((simp only [thenP, blockP]; (try ((repeat (fail_if_success (with_reducible refine hK1 _ ?_)); clear hK1); (with_reducible refine hK1 _ ?_); clear hK1))))
    | (((first | (((with_reducible refine opsP_cons fun K3 hK3 => ?_); simp only [wantP, opP, valP, Ur, Us])) | ((with_reducible refine PW.condM fun X1 Y1 hX1 hY1 => ?_)) | (skip)); simp (disch := omega) only [St.eval, St.put, upd_app, iniT_app, avOf, avOf1, nom, cellsA, AV.okv, loadA, binP, intsP, intP, nilP, slA, putCells, fillA, buildA, U7, Ua, Ub, Uc, Ud, Uf, Ug, Uk, Ul, Un, Up, Ur, Us, Ut, Uu, Uv, V9, Va, Ve, Vt, UU2, UU3, Vr, Vs, PmL, simprocAttr, PmT, Back.v, Back.c, retQ, resP, tupA, fg, fgs, condP, condB_t, condB_f]; try (with_reducible (first | exact co_refl _ | exact co_own _ _ _ | exact co_nilsB | exact co_nilsL _ _)))))
  all_goals exact co_tup (cos_cons (co_agg (by repeat' (first | exact cos_refl _ | (refine cos_cons ?_ ?_) | exact co_refl _ | exact co_nilsB | exact co_nilsL _ _ | exact co_nils _))) (cos_cons (by first | exact co_own _ _ _ | exact co_nilsB | exact co_refl _) (cos_cons (co_refl _) (cos_cons (by first | exact co_refl _ | exact co_eq (congrArg (fun b => AV.d (.bool b)) (by simp_all [statusOk]))) cos_nil))))
set_option maxRecDepth 100000 in
set_option maxHeartbeats 4000000 in
theorem pRTold9 (m : Back) (hk : m.kind = 9) (hz : m.state.length ≤ 100000000000 ∧ m.text.length ≤ 100000000000) : Pure Tryd.prog 34 [m.v] (toldV m) := by
  refine pure_intro Tryd.func34 rfl rfl rfl 167 rfl (fun hh => ?_)
  obtain ⟨xk, xn, xt, xp, xs, xu, xf, xc, xa, xg⟩ := m
  simp only at hk hz
  subst hk
  have hmx : maxLen = 9223372036854775807 := rfl
  have e0 : toldV ⟨9, xn, xt, xp, xs, xu, xf, xc, xa, xg⟩ = .tup [Back.v ⟨9, [], xt, 0, 0, 0, [], [], xa, xg⟩, bs (errBody ⟨9, xn, xt, xp, xs, xu, xf, xc, xa, xg⟩), .d (.int .u8 (tagOf 9)), .d (.bool (stated xa && !has0 xt))] := rfl
  rw [e0]
  have hF := pRRefusal ⟨9, xn, xt, xp, xs, xu, xf, xc, xa, xg⟩ hz
  obtain ⟨b, hb9⟩ : ∃ b, errBody ⟨9, xn, xt, xp, xs, xu, xf, xc, xa, xg⟩ = b := ⟨_, rfl⟩
  rw [hb9] at hF ⊢
  simp only [Back.v, Back.c, List.map_cons, List.map_nil] at hF
  repeat' (first
    | ((with_reducible (first
     | (refine PW.seq fun K1 hK1 => ?_) | (refine PW.region fun K2 hK2 => ?_) | ((refine hK3 _ ?_; clear hK3)) | ((refine opsP_nil ?_; refine hK2 _ ?_; clear hK2)) | (refine PW.block ?_) 
     | (refine PW.ret ?_) | ((refine hX1 ?_; clear hX1 hY1; try simp only [hb])) | ((refine hY1 ?_; clear hX1 hY1; try simp only [hb])) )))
    | (((with_reducible refine cC_pure ?_ (hF) (fun _ => ?_)); (focus ((repeat' constructor) <;> (simp only [purAs, purA, Vf, Bool.and_self, Back.v, Back.c, zB, big4_l]; done)))))
    | ((simp only [thenP, blockP]; (try ((repeat (fail_if_success (with_reducible refine hK1 _ ?_)); clear hK1); (with_reducible refine hK1 _ ?_); clear hK1))))
    | (((first | (((with_reducible refine opsP_cons fun K3 hK3 => ?_); simp only [wantP, opP, valP, Ur, Us])) | ((with_reducible refine PW.condM fun X1 Y1 hX1 hY1 => ?_)) | (skip)); simp (disch := omega) only [St.eval, St.put, upd_app, iniT_app, avOf, avOf1, nom, cellsA, AV.okv, loadA, binP, intsP, intP, nilP, slA, putCells, fillA, buildA, U7, Ua, Ub, Uc, Ud, Uf, Ug, Uk, Ul, Un, Up, Ur, Us, Ut, Uu, Uv, V9, Va, Ve, Vt, UU2, UU3, Vr, Vs, PmL, simprocAttr, PmT, Back.v, Back.c, retQ, resP, tupA, fg, fgs, condP, condB_t, condB_f]; try (with_reducible (first | exact co_refl _ | exact co_own _ _ _ | exact co_nilsB | exact co_nilsL _ _)))))
  all_goals exact co_tup (cos_cons (co_agg (by repeat' (first | exact cos_refl _ | (refine cos_cons ?_ ?_) | exact co_refl _ | exact co_nilsB | exact co_nilsL _ _ | exact co_nils _))) (cos_cons (by first | exact co_own _ _ _ | exact co_nilsB | exact co_refl _) (cos_cons (co_refl _) (cos_cons (by first | exact co_refl _ | exact co_eq (congrArg (fun b => AV.d (.bool b)) (by simp_all [statusOk]))) cos_nil))))
set_option maxRecDepth 100000 in
set_option maxHeartbeats 4000000 in
theorem pRTold0 (m : Back) (hk : m.kind < 1 ∨ 9 < m.kind) : Pure Tryd.prog 34 [m.v] (toldV m) := by
  have hb : rBody m = [] := by
    unfold rBody backBody
    repeat rw [if_neg (by omega)]
  have hy : rMay m = false := by
    unfold rMay backMay
    split
    · rfl
    repeat rw [if_neg (by omega)]
  have ht : rTag m = 0 := if_neg (by omega)
  have ho : m.only = { zB with kind := m.kind } := by
    unfold Back.only
    repeat rw [if_neg (by omega)]
  unfold toldV
  rw [hb, hy, ht, ho]
  refine pure_intro Tryd.func34 rfl rfl rfl 167 rfl (fun hh => ?_)
  obtain ⟨xk, xn, xt, xp, xs, xu, xf, xc, xa, xg⟩ := m
  simp only at hk
  have k1 := eq_false (show ¬ xk = 1 by omega); have k2 := eq_false (show ¬ xk = 2 by omega); have k3 := eq_false (show ¬ xk = 3 by omega); have k4 := eq_false (show ¬ xk = 4 by omega); have k5 := eq_false (show ¬ xk = 5 by omega)
  have k6 := eq_false (show ¬ xk = 6 by omega); have k7 := eq_false (show ¬ xk = 7 by omega); have k8 := eq_false (show ¬ xk = 8 by omega); have k9 := eq_false (show ¬ xk = 9 by omega)
  repeat' (first
    | ((with_reducible (first
     | (refine PW.seq fun K1 hK1 => ?_) | (refine PW.region fun K2 hK2 => ?_) | ((refine hK3 _ ?_; clear hK3)) | ((refine opsP_nil ?_; refine hK2 _ ?_; clear hK2)) | (refine PW.block ?_) | (refine PW.skip ?_)
     | (refine PW.ret ?_) | ((refine hY1 ?_; clear hX1 hY1; try simp only [hb])) )))
    | ((simp only [thenP, blockP]; (try ((repeat (fail_if_success (with_reducible refine hK1 _ ?_)); clear hK1); (with_reducible refine hK1 _ ?_); clear hK1))))
    | (((first | (((with_reducible refine opsP_cons fun K3 hK3 => ?_); simp only [wantP, opP, valP, Ur, Us])) | ((with_reducible refine PW.condM fun X1 Y1 hX1 hY1 => ?_)) | (skip)); simp (disch := omega) only [St.eval, St.put, upd_app, iniT_app, avOf, avOf1, nom, cellsA, AV.okv, loadA, binP, intsP, intP, nilP, slA, putCells, fillA, buildA, U7, Ua, Ub, Uc, Ud, Uf, Ug, Uk, Un, Up, Ur, Us, Ut, Uu, V9, Va, Ve, Vt, UU2, UU3, Vr, Vs, PmL, simprocAttr, PmT, Back.v, Back.c, zB, k1, k2, k3, k4, k5, k6, k7, k8, k9, retQ, resP, tupA, fg, fgs, condP, condB_f]; try (with_reducible (first | exact co_refl _ | exact co_own _ _ _ | exact co_nilsB | exact co_nilsL _ _)))))
  all_goals exact co_tup (cos_cons (co_agg (by repeat' (first | exact cos_refl _ | (refine cos_cons ?_ ?_) | exact co_refl _ | exact co_nilsB | exact co_nilsL _ _ | exact co_nils _))) (cos_cons (by first | exact co_own _ _ _ | exact co_nilsB | exact co_refl _) (cos_cons (co_refl _) (cos_cons (by first | exact co_refl _ | exact co_eq (congrArg (fun b => AV.d (.bool b)) (by simp_all [statusOk]))) cos_nil))))
end PM
end Go.Proofs.YthaekefdadccaaaDoor
