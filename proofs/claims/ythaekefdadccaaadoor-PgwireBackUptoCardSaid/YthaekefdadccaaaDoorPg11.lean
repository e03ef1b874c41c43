/- pgwire in the abstract: numbers, texts as bytes; what may be written. -/
import Derived.Test.YthaekefdadccaaaDoorPgP
import Derived.Test.YthaekefdadccaaaDoorPgLib
import Derived.Test.YthaekefdadccaaaDoorPg1
import Derived.Test.YthaekefdadccaaaDoorPmD
namespace Go.Proofs.YthaekefdadccaaaDoor
open Go.RowKit
namespace PM
theorem shr24 : (2 : Int) ^ min 24 IntKind.i64.bits = 16777216 := by decide
theorem shr16 : (2 : Int) ^ min 16 IntKind.i64.bits = 65536 := by decide
theorem shr8 : (2 : Int) ^ min 8 IntKind.i64.bits = 256 := by decide
theorem shr0 : (2 : Int) ^ min 0 IntKind.i64.bits = 1 := by decide
set_option maxRecDepth 100000 in
theorem pBig4 (n : Int) : PFun Tryd.prog 36 [.nils, .d (.int .i64 n), .d (.int .i64 4)] nom (.own 0 1 (encB (big4 n))) ⟨[], [some ⟨5, 1, (big4 n).length⟩]⟩ := by
  refine fun_intro Tryd.func36 rfl rfl rfl 23 rfl ⟨Nat.le_refl _, Nat.zero_le _⟩ (fun hh => ?_)
  have hn := has_int (hh (.d (.int .i64 n)) (by simp))
  rw [wf_i64] at hn
  simp only [Bool.and_eq_true, decide_eq_true_eq] at hn
  unfold nom
  (with_reducible refine PW.nil2ownB (bx := ?_) 0 5 ?_ ?_ ?_; rotate_left 1; (focus (simp only [iniT_app, List.getD_cons_zero])); (focus (exact rfl)))
  repeat' (first
    | ((with_reducible (first
     | (refine PW.seq fun K1 hK1 => ?_) | (refine PW.region fun K2 hK2 => ?_) | ((refine hK3 _ ?_; clear hK3)) | ((refine opsP_nil ?_; refine hK2 _ ?_; clear hK2)) | (refine litX_old ?_) | (refine litC_data ?_) | (refine PW.rounds (id := 0) 5 ?_)
     | (refine rounds_more fun K1 hK1 => ?_) | (refine PW.block ?_) | (refine PW.skip ?_) | (refine PW.exit ?_) | (refine PW.ret ?_) | ((refine hX1 ?_; clear hX1 hY1; try simp only [hb])) | ((refine hY1 ?_; clear hX1 hY1; try simp only [hb])) )))
    | ((simp only [thenP, blockP, ↓reduceIte]; (try ((repeat (fail_if_success (with_reducible refine hK1 _ ?_)); clear hK1); (with_reducible refine hK1 _ ?_); clear hK1))))
    | (((first | (((with_reducible refine opsP_cons fun K3 hK3 => ?_); simp only [wantP, opP, valP, Ur, Us, List.mapM_cons, List.mapM_nil, Uw, Ux])) | ((with_reducible refine PW.condM fun X1 Y1 hX1 hY1 => ?_)) | (skip)); simp (disch := omega) only [St.eval, St.put, upd_app, iniT_app, avOf, avOf1, cellsA, AV.okv, binP, intsP, intP, nilP, convP, builtinP, appP, srcA, srcTy, isBsl, U3, U4, U5, slA, elA, dv1, U7, U8, Ua, Uc, Uf, Ug, Ut, Uu, Uv, List.mapM_cons, List.mapM_nil, Uw, Ux, V0, V1, V2, V4, Option.bind_eq_bind, Option.pure_def, V8, V9, Ve, UU9, Vs, PmL, simprocAttr, PmT, shr24, shr16, shr8, shr0, wrap_u8, fd24, fd16, fd8, fd0, retQ, resP, tupA, fg, condP, condB_t, condB_f]; try (with_reducible (first | exact co_refl _ | exact co_own _ _ _ | exact co_nilsB | exact co_nilsL _ _)))))
  all_goals (try (focus ((try simp only [big4]); (repeat' split) <;> (first | (exfalso; omega) | ((try ((with_reducible refine And.intro ?_ ?_); rotate_left 1; (focus (first | exact subM_row1 | exact subM_nom _ | (refine subM_box1 ?_; simp only [fgs, fg]; (repeat' (first | exact cos_refl _ | refine cos_cons ?_ ?_ | exact co_refl _ | exact co_nilsB | exact co_own _ _ _ | exact co_nilsL _ _ | exact co_nils _ | refine co_agg ?_ | refine co_tup ?_)); done))))); (first | ((repeat' (first | exact cos_refl _ | refine cos_cons ?_ ?_ | exact co_refl _ | exact co_nilsB | exact co_own _ _ _ | exact co_nilsL _ _ | exact co_nils _ | refine co_agg ?_ | refine co_tup ?_)); done) | (refine co_eq ?_; simp_all; done))) | (exfalso; simp_all; done)))))
set_option maxRecDepth 100000 in
theorem pBig4o (l : List Int) (n : Int) (hl : l.length ≤ 140737488355324) : PFun Tryd.prog 36 [.own 0 1 (encB l), .d (.int .i64 n), .d (.int .i64 4)] ⟨[], [some ⟨5, 1, l.length⟩]⟩ (.own 0 1 (encB (l ++ big4 n))) ⟨[], [some ⟨5, 1, (l ++ big4 n).length⟩]⟩ := by
  refine fun_intro Tryd.func36 rfl rfl rfl 23 rfl ⟨Nat.le_refl _, Nat.le_refl _⟩ (fun hh => ?_)
  have hn := has_int (hh (.d (.int .i64 n)) (by simp))
  rw [wf_i64] at hn
  simp only [Bool.and_eq_true, decide_eq_true_eq] at hn
  repeat' (first
    | ((with_reducible (first
     | (refine PW.seq fun K1 hK1 => ?_) | (refine PW.region fun K2 hK2 => ?_) | ((refine hK3 _ ?_; clear hK3)) | ((refine opsP_nil ?_; refine hK2 _ ?_; clear hK2)) | (refine litX_old ?_) | (refine litC_data ?_) | (refine PW.rounds (id := 0) 5 ?_)
     | (refine rounds_more fun K1 hK1 => ?_) | (refine PW.block ?_) | (refine PW.skip ?_) | (refine PW.exit ?_) | (refine PW.ret ?_) | ((refine hX1 ?_; clear hX1 hY1; try simp only [hb])) | ((refine hY1 ?_; clear hX1 hY1; try simp only [hb])) )))
    | (((with_reducible refine And.intro ?_ ?_); (focus (first | omega | (simp; done) | assumption))))
    | ((simp only [thenP, blockP, ↓reduceIte]; (try ((repeat (fail_if_success (with_reducible refine hK1 _ ?_)); clear hK1); (with_reducible refine hK1 _ ?_); clear hK1))))
    | (((first | (((with_reducible refine opsP_cons fun K3 hK3 => ?_); simp only [wantP, opP, valP, Ur, Us, List.mapM_cons, List.mapM_nil, Uw, Ux])) | ((with_reducible refine PW.condM fun X1 Y1 hX1 hY1 => ?_)) | (skip)); simp (disch := omega) only [St.eval, St.put, upd_app, iniT_app, avOf, avOf1, cellsA, AV.okv, binP, intsP, intP, nilP, convP, builtinP, appP, srcA, srcTy, isBsl, U3, U4, U5, slA, elA, dv1, U7, U8, Ua, Uc, Uf, Ug, Ui, Ut, Uu, Uv, List.mapM_cons, List.mapM_nil, Uw, Ux, V0, V1, V2, V4, Option.bind_eq_bind, Option.pure_def, V8, V9, Ve, UU9, Vs, PmL, simprocAttr, PmT, shr24, shr16, shr8, shr0, wrap_u8, fd24, fd16, fd8, fd0, retQ, resP, tupA, fg, condP, condB_t, condB_f]; try (with_reducible (first | exact co_refl _ | exact co_own _ _ _ | exact co_nilsB | exact co_nilsL _ _)))))
  all_goals (try (focus ((try simp only [big4]); (repeat' split) <;> (first | (exfalso; omega) | ((try ((with_reducible refine And.intro ?_ ?_); rotate_left 1; (focus (first | exact subM_row1 | exact subM_nom _ | (refine subM_box1 ?_; simp only [fgs, fg]; (repeat' (first | exact cos_refl _ | refine cos_cons ?_ ?_ | exact co_refl _ | exact co_nilsB | exact co_own _ _ _ | exact co_nilsL _ _ | exact co_nils _ | refine co_agg ?_ | refine co_tup ?_)); done))))); (first | ((repeat' (first | exact cos_refl _ | refine cos_cons ?_ ?_ | exact co_refl _ | exact co_nilsB | exact co_own _ _ _ | exact co_nilsL _ _ | exact co_nils _ | refine co_agg ?_ | refine co_tup ?_)); done) | (refine co_eq ?_; simp_all; done))) | (exfalso; simp_all; done)))))
set_option maxRecDepth 100000 in
theorem pBig2 (n : Int) : PFun Tryd.prog 36 [.nils, .d (.int .i64 n), .d (.int .i64 2)] nom (.own 0 1 (encB (big2 n))) ⟨[], [some ⟨5, 1, (big2 n).length⟩]⟩ := by
  refine fun_intro Tryd.func36 rfl rfl rfl 23 rfl ⟨Nat.le_refl _, Nat.zero_le _⟩ (fun hh => ?_)
  have hn := has_int (hh (.d (.int .i64 n)) (by simp))
  rw [wf_i64] at hn
  simp only [Bool.and_eq_true, decide_eq_true_eq] at hn
  unfold nom
  (with_reducible refine PW.nil2ownB (bx := ?_) 0 5 ?_ ?_ ?_; rotate_left 1; (focus (simp only [iniT_app, List.getD_cons_zero])); (focus (exact rfl)))
  repeat' (first
    | ((with_reducible (first
     | (refine PW.seq fun K1 hK1 => ?_) | (refine PW.region fun K2 hK2 => ?_) | ((refine hK3 _ ?_; clear hK3)) | ((refine opsP_nil ?_; refine hK2 _ ?_; clear hK2)) | (refine litX_old ?_) | (refine litC_data ?_) | (refine PW.rounds (id := 0) 3 ?_)
     | (refine rounds_more fun K1 hK1 => ?_) | (refine PW.block ?_) | (refine PW.skip ?_) | (refine PW.exit ?_) | (refine PW.ret ?_) | ((refine hX1 ?_; clear hX1 hY1; try simp only [hb])) | ((refine hY1 ?_; clear hX1 hY1; try simp only [hb])) )))
    | ((simp only [thenP, blockP, ↓reduceIte]; (try ((repeat (fail_if_success (with_reducible refine hK1 _ ?_)); clear hK1); (with_reducible refine hK1 _ ?_); clear hK1))))
    | (((first | (((with_reducible refine opsP_cons fun K3 hK3 => ?_); simp only [wantP, opP, valP, Ur, Us, List.mapM_cons, List.mapM_nil, Uw, Ux])) | ((with_reducible refine PW.condM fun X1 Y1 hX1 hY1 => ?_)) | (skip)); simp (disch := omega) only [St.eval, St.put, upd_app, iniT_app, avOf, avOf1, cellsA, AV.okv, binP, intsP, intP, nilP, convP, builtinP, appP, srcA, srcTy, isBsl, U3, U4, U5, slA, elA, dv1, U7, U8, Ua, Uc, Uf, Ug, Ut, Uu, Uv, List.mapM_cons, List.mapM_nil, Uw, Ux, V0, V1, V2, V4, Option.bind_eq_bind, Option.pure_def, V8, V9, Ve, UU9, Vs, PmL, simprocAttr, PmT, shr8, shr0, wrap_u8, fd8, fd0, retQ, resP, tupA, fg, condP, condB_t, condB_f]; try (with_reducible (first | exact co_refl _ | exact co_own _ _ _ | exact co_nilsB | exact co_nilsL _ _)))))
  all_goals (try (focus ((try simp only [big2]); (repeat' split) <;> (first | (exfalso; omega) | ((try ((with_reducible refine And.intro ?_ ?_); rotate_left 1; (focus (first | exact subM_row1 | exact subM_nom _ | (refine subM_box1 ?_; simp only [fgs, fg]; (repeat' (first | exact cos_refl _ | refine cos_cons ?_ ?_ | exact co_refl _ | exact co_nilsB | exact co_own _ _ _ | exact co_nilsL _ _ | exact co_nils _ | refine co_agg ?_ | refine co_tup ?_)); done))))); (first | ((repeat' (first | exact cos_refl _ | refine cos_cons ?_ ?_ | exact co_refl _ | exact co_nilsB | exact co_own _ _ _ | exact co_nilsL _ _ | exact co_nils _ | refine co_agg ?_ | refine co_tup ?_)); done) | (refine co_eq ?_; simp_all; done))) | (exfalso; simp_all; done)))))
set_option maxRecDepth 100000 in
theorem pBig2o (l : List Int) (n : Int) (hl : l.length ≤ 140737488355324) : PFun Tryd.prog 36 [.own 0 1 (encB l), .d (.int .i64 n), .d (.int .i64 2)] ⟨[], [some ⟨5, 1, l.length⟩]⟩ (.own 0 1 (encB (l ++ big2 n))) ⟨[], [some ⟨5, 1, (l ++ big2 n).length⟩]⟩ := by
  refine fun_intro Tryd.func36 rfl rfl rfl 23 rfl ⟨Nat.le_refl _, Nat.le_refl _⟩ (fun hh => ?_)
  have hn := has_int (hh (.d (.int .i64 n)) (by simp))
  rw [wf_i64] at hn
  simp only [Bool.and_eq_true, decide_eq_true_eq] at hn
  repeat' (first
    | ((with_reducible (first
     | (refine PW.seq fun K1 hK1 => ?_) | (refine PW.region fun K2 hK2 => ?_) | ((refine hK3 _ ?_; clear hK3)) | ((refine opsP_nil ?_; refine hK2 _ ?_; clear hK2)) | (refine litX_old ?_) | (refine litC_data ?_) | (refine PW.rounds (id := 0) 3 ?_)
     | (refine rounds_more fun K1 hK1 => ?_) | (refine PW.block ?_) | (refine PW.skip ?_) | (refine PW.exit ?_) | (refine PW.ret ?_) | ((refine hX1 ?_; clear hX1 hY1; try simp only [hb])) | ((refine hY1 ?_; clear hX1 hY1; try simp only [hb])) )))
    | (((with_reducible refine And.intro ?_ ?_); (focus (first | omega | (simp; done) | assumption))))
    | ((simp only [thenP, blockP, ↓reduceIte]; (try ((repeat (fail_if_success (with_reducible refine hK1 _ ?_)); clear hK1); (with_reducible refine hK1 _ ?_); clear hK1))))
    | (((first | (((with_reducible refine opsP_cons fun K3 hK3 => ?_); simp only [wantP, opP, valP, Ur, Us, List.mapM_cons, List.mapM_nil, Uw, Ux])) | ((with_reducible refine PW.condM fun X1 Y1 hX1 hY1 => ?_)) | (skip)); simp (disch := omega) only [St.eval, St.put, upd_app, iniT_app, avOf, avOf1, cellsA, AV.okv, binP, intsP, intP, nilP, convP, builtinP, appP, srcA, srcTy, isBsl, U3, U4, U5, slA, elA, dv1, U7, U8, Ua, Uc, Uf, Ug, Ui, Ut, Uu, Uv, List.mapM_cons, List.mapM_nil, Uw, Ux, V0, V1, V2, V4, Option.bind_eq_bind, Option.pure_def, V8, V9, Ve, UU9, Vs, PmL, simprocAttr, PmT, shr8, shr0, wrap_u8, fd8, fd0, retQ, resP, tupA, fg, condP, condB_t, condB_f]; try (with_reducible (first | exact co_refl _ | exact co_own _ _ _ | exact co_nilsB | exact co_nilsL _ _)))))
  all_goals (try (focus ((try simp only [big2]); (repeat' split) <;> (first | (exfalso; omega) | ((try ((with_reducible refine And.intro ?_ ?_); rotate_left 1; (focus (first | exact subM_row1 | exact subM_nom _ | (refine subM_box1 ?_; simp only [fgs, fg]; (repeat' (first | exact cos_refl _ | refine cos_cons ?_ ?_ | exact co_refl _ | exact co_nilsB | exact co_own _ _ _ | exact co_nilsL _ _ | exact co_nils _ | refine co_agg ?_ | refine co_tup ?_)); done))))); (first | ((repeat' (first | exact cos_refl _ | refine cos_cons ?_ ?_ | exact co_refl _ | exact co_nilsB | exact co_own _ _ _ | exact co_nilsL _ _ | exact co_nils _ | refine co_agg ?_ | refine co_tup ?_)); done) | (refine co_eq ?_; simp_all; done))) | (exfalso; simp_all; done)))))
/-- several texts -/
def strC (s : List Int) : List DV := [.str s]
def texts (l : List (List Int)) : List Int := (l.map fun s => s ++ [0]).flatten
set_option maxRecDepth 100000 in
theorem pText1 (a : List Int) (ha : a.length ≤ 140737488355000) : PFun Tryd.prog 40 [.nils, .d (.sl 1 [[.str a]])] nom (.own 0 1 (encB (a ++ [0]))) ⟨[], [some ⟨5, 1, (a ++ [0]).length⟩]⟩ := by
  refine fun_intro Tryd.func40 rfl rfl rfl 20 rfl ⟨Nat.le_refl _, Nat.zero_le _⟩ (fun hh => ?_)
  unfold nom
  (with_reducible refine PW.nil2ownB (bx := ?_) 0 5 ?_ ?_ ?_; rotate_left 1; (focus (simp only [iniT_app, List.getD_cons_zero])); (focus (exact rfl)))
  repeat' (first
    | ((with_reducible (first
     | (refine PW.seq fun K1 hK1 => ?_) | (refine PW.region fun K2 hK2 => ?_) | ((refine hK3 _ ?_; clear hK3)) | ((refine opsP_nil ?_; refine hK2 _ ?_; clear hK2)) | (refine litX_old ?_) | (refine litC_data ?_) | (refine PW.rounds (id := 0) 2 ?_)
     | (refine rounds_more fun K1 hK1 => ?_) | (refine PW.block ?_) | (refine PW.skip ?_) | (refine PW.exit ?_) | (refine PW.ret ?_) | ((refine hX1 ?_; clear hX1 hY1; try simp only [hb])) | ((refine hY1 ?_; clear hX1 hY1; try simp only [hb])) )))
    | (((with_reducible refine And.intro ?_ ?_); (focus (first | omega | (simp; done) | assumption))))
    | ((simp only [thenP, blockP, ↓reduceIte]; (try ((repeat (fail_if_success (with_reducible refine hK1 _ ?_)); clear hK1); (with_reducible refine hK1 _ ?_); clear hK1))))
    | (((first | (((with_reducible refine opsP_cons fun K3 hK3 => ?_); simp only [wantP, opP, valP, Ur, Us, List.mapM_cons, List.mapM_nil, Uw, Ux])) | ((with_reducible refine PW.condM fun X1 Y1 hX1 hY1 => ?_)) | (skip)); simp (disch := omega) only [St.eval, St.put, upd_app, iniT_app, avOf, avOf1, cellsA, AV.okv, loadA, lenP, binP, intsP, intP, nilP, builtinP, appP, srcA, srcTy, isMapA, isBsl, U3, U4, U5, slA, elA, dv1, U7, U8, Ua, Uc, Uf, Ug, Ui, Ur, Us, Ut, Uu, Uv, List.mapM_cons, List.mapM_nil, Uw, Ux, V0, V1, V2, V4, Option.bind_eq_bind, Option.pure_def, V8, V9, Ve, Int.cast_ofNat_Int, UU9, Vs, PmL, simprocAttr, PmT, retQ, resP, tupA, fg, condP, condB_t, condB_f]; try (with_reducible (first | exact co_refl _ | exact co_own _ _ _ | exact co_nilsB | exact co_nilsL _ _)))))
  all_goals (try (focus ((try simp only [big2]); (repeat' split) <;> (first | (exfalso; omega) | ((try ((with_reducible refine And.intro ?_ ?_); rotate_left 1; (focus (first | exact subM_row1 | exact subM_nom _ | (refine subM_box1 ?_; simp only [fgs, fg]; (repeat' (first | exact cos_refl _ | refine cos_cons ?_ ?_ | exact co_refl _ | exact co_nilsB | exact co_own _ _ _ | exact co_nilsL _ _ | exact co_nils _ | refine co_agg ?_ | refine co_tup ?_)); done))))); (first | ((repeat' (first | exact cos_refl _ | refine cos_cons ?_ ?_ | exact co_refl _ | exact co_nilsB | exact co_own _ _ _ | exact co_nilsL _ _ | exact co_nils _ | refine co_agg ?_ | refine co_tup ?_)); done) | (refine co_eq ?_; simp_all; done))) | (exfalso; simp_all; done)))))
set_option maxRecDepth 100000 in
theorem pText1o (l a : List Int) (ha : l.length + a.length ≤ 140737488355000) : PFun Tryd.prog 40 [.own 0 1 (encB l), .d (.sl 1 [[.str a]])] ⟨[], [some ⟨5, 1, l.length⟩]⟩ (.own 0 1 (encB (l ++ a ++ [0]))) ⟨[], [some ⟨5, 1, (l ++ a ++ [0]).length⟩]⟩ := by
  refine fun_intro Tryd.func40 rfl rfl rfl 20 rfl ⟨Nat.le_refl _, Nat.le_refl _⟩ (fun hh => ?_)
  repeat' (first
    | ((with_reducible (first
     | (refine PW.seq fun K1 hK1 => ?_) | (refine PW.region fun K2 hK2 => ?_) | ((refine hK3 _ ?_; clear hK3)) | ((refine opsP_nil ?_; refine hK2 _ ?_; clear hK2)) | (refine litX_old ?_) | (refine litC_data ?_) | (refine PW.rounds (id := 0) 2 ?_)
     | (refine rounds_more fun K1 hK1 => ?_) | (refine PW.block ?_) | (refine PW.skip ?_) | (refine PW.exit ?_) | (refine PW.ret ?_) | ((refine hX1 ?_; clear hX1 hY1; try simp only [hb])) | ((refine hY1 ?_; clear hX1 hY1; try simp only [hb])) )))
    | (((with_reducible refine And.intro ?_ ?_); (focus (first | omega | (simp; done) | assumption))))
    | ((simp only [thenP, blockP, ↓reduceIte]; (try ((repeat (fail_if_success (with_reducible refine hK1 _ ?_)); clear hK1); (with_reducible refine hK1 _ ?_); clear hK1))))
    | (((first | (((with_reducible refine opsP_cons fun K3 hK3 => ?_); simp only [wantP, opP, valP, Ur, Us, List.mapM_cons, List.mapM_nil, Uw, Ux])) | ((with_reducible refine PW.condM fun X1 Y1 hX1 hY1 => ?_)) | (skip)); simp (disch := omega) only [St.eval, St.put, upd_app, iniT_app, avOf, avOf1, cellsA, AV.okv, loadA, lenP, binP, intsP, intP, nilP, builtinP, appP, srcA, srcTy, isMapA, isBsl, U3, U4, U5, slA, elA, dv1, U7, U8, Ua, Uc, Uf, Ug, Ui, Ur, Us, Ut, Uu, Uv, List.mapM_cons, List.mapM_nil, Uw, Ux, V0, V1, V2, V4, Option.bind_eq_bind, Option.pure_def, V8, V9, Ve, Int.cast_ofNat_Int, UU9, Vs, PmL, simprocAttr, PmT, retQ, resP, tupA, fg, condP, condB_t, condB_f]; try (with_reducible (first | exact co_refl _ | exact co_own _ _ _ | exact co_nilsB | exact co_nilsL _ _)))))
  all_goals (try (focus ((try simp only [big2]); (repeat' split) <;> (first | (exfalso; omega) | ((try ((with_reducible refine And.intro ?_ ?_); rotate_left 1; (focus (first | exact subM_row1 | exact subM_nom _ | (refine subM_box1 ?_; simp only [fgs, fg]; (repeat' (first | exact cos_refl _ | refine cos_cons ?_ ?_ | exact co_refl _ | exact co_nilsB | exact co_own _ _ _ | exact co_nilsL _ _ | exact co_nils _ | refine co_agg ?_ | refine co_tup ?_)); done))))); (first | ((repeat' (first | exact cos_refl _ | refine cos_cons ?_ ?_ | exact co_refl _ | exact co_nilsB | exact co_own _ _ _ | exact co_nilsL _ _ | exact co_nils _ | refine co_agg ?_ | refine co_tup ?_)); done) | (refine co_eq ?_; simp_all; done))) | (exfalso; simp_all; done)))))
set_option maxRecDepth 100000 in
theorem pText4 (a b c d : List Int) (ha : a.length + b.length + c.length + d.length ≤ 140737488355000) : PFun Tryd.prog 40 [.nils, .d (.sl 1 [[.str a], [.str b], [.str c], [.str d]])] nom (.own 0 1 (encB (a ++ [0] ++ b ++ [0] ++ c ++ [0] ++ d ++ [0]))) ⟨[], [some ⟨5, 1, (a ++ [0] ++ b ++ [0] ++ c ++ [0] ++ d ++ [0]).length⟩]⟩ := by
  refine fun_intro Tryd.func40 rfl rfl rfl 20 rfl ⟨Nat.le_refl _, Nat.zero_le _⟩ (fun hh => ?_)
  unfold nom
  (with_reducible refine PW.nil2ownB (bx := ?_) 0 5 ?_ ?_ ?_; rotate_left 1; (focus (simp only [iniT_app, List.getD_cons_zero])); (focus (exact rfl)))
  repeat' (first
    | ((with_reducible (first
     | (refine PW.seq fun K1 hK1 => ?_) | (refine PW.region fun K2 hK2 => ?_) | ((refine hK3 _ ?_; clear hK3)) | ((refine opsP_nil ?_; refine hK2 _ ?_; clear hK2)) | (refine litX_old ?_) | (refine litC_data ?_) | (refine PW.rounds (id := 0) 5 ?_)
     | (refine rounds_more fun K1 hK1 => ?_) | (refine PW.block ?_) | (refine PW.skip ?_) | (refine PW.exit ?_) | (refine PW.ret ?_) | ((refine hX1 ?_; clear hX1 hY1; try simp only [hb])) | ((refine hY1 ?_; clear hX1 hY1; try simp only [hb])) )))
    | (((with_reducible refine And.intro ?_ ?_); (focus (first | omega | (simp; done) | assumption))))
    | ((simp only [thenP, blockP, ↓reduceIte]; (try ((repeat (fail_if_success (with_reducible refine hK1 _ ?_)); clear hK1); (with_reducible refine hK1 _ ?_); clear hK1))))
    | (((first | (((with_reducible refine opsP_cons fun K3 hK3 => ?_); simp only [wantP, opP, valP, Ur, Us, List.mapM_cons, List.mapM_nil, Uw, Ux])) | ((with_reducible refine PW.condM fun X1 Y1 hX1 hY1 => ?_)) | (skip)); simp (disch := omega) only [St.eval, St.put, upd_app, iniT_app, avOf, avOf1, cellsA, AV.okv, loadA, lenP, binP, intsP, intP, nilP, builtinP, appP, srcA, srcTy, isMapA, isBsl, U3, U4, U5, slA, elA, dv1, U7, U8, Ua, Ub, Uc, Uf, Ug, Ui, Ur, Us, Ut, Uu, Uv, List.mapM_cons, List.mapM_nil, Uw, Ux, V0, V1, V2, V4, Option.bind_eq_bind, Option.pure_def, V8, V9, Ve, Int.cast_ofNat_Int, UU9, Vs, PmL, simprocAttr, PmT, retQ, resP, tupA, fg, condP, condB_t, condB_f]; try (with_reducible (first | exact co_refl _ | exact co_own _ _ _ | exact co_nilsB | exact co_nilsL _ _)))))
  all_goals (try (focus ((try simp only [big2]); (repeat' split) <;> (first | (exfalso; omega) | ((try ((with_reducible refine And.intro ?_ ?_); rotate_left 1; (focus (first | exact subM_row1 | exact subM_nom _ | (refine subM_box1 ?_; simp only [fgs, fg]; (repeat' (first | exact cos_refl _ | refine cos_cons ?_ ?_ | exact co_refl _ | exact co_nilsB | exact co_own _ _ _ | exact co_nilsL _ _ | exact co_nils _ | refine co_agg ?_ | refine co_tup ?_)); done))))); (first | ((repeat' (first | exact cos_refl _ | refine cos_cons ?_ ?_ | exact co_refl _ | exact co_nilsB | exact co_own _ _ _ | exact co_nilsL _ _ | exact co_nils _ | refine co_agg ?_ | refine co_tup ?_)); done) | (refine co_eq ?_; simp_all; done))) | (exfalso; simp_all; done)))))
end PM
end Go.Proofs.YthaekefdadccaaaDoor
