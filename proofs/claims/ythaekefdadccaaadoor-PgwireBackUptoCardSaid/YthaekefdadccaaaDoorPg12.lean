/- pgwire in the abstract: what may be written. pgwire in the abstract: a server's message as bytes: small parts. -/
import Derived.Test.YthaekefdadccaaaDoorPg11
import Derived.Test.YthaekefdadccaaaDoorPgB
import Derived.Test.YthaekefdadccaaaDoorPgCat
namespace Go.Proofs.YthaekefdadccaaaDoor
open Go.RowKit
namespace PM
set_option maxRecDepth 100000 in
theorem pCleanF (a : List Int) : Pure Tryd.prog 71 [.d (.str a)] (.d (.bool (has0 a))) := by
  refine pure_intro Tryd.func71 rfl rfl rfl 6 rfl (fun hh => ?_)
  have hI := pIndexS a 0 (by omega)
  repeat' (first
    | ((with_reducible (first
     | (refine PW.seq fun K1 hK1 => ?_) | (refine PW.region fun K2 hK2 => ?_) | ((refine hK3 _ ?_; clear hK3)) | ((refine opsP_nil ?_; refine hK2 _ ?_; clear hK2)) 
     | (refine PW.ret ?_) )))
    | (((with_reducible refine cC_pure ?_ (hI) (fun _ => ?_)); (focus ((repeat' constructor); done))))
    | ((simp only [thenP]; (try ((repeat (fail_if_success (with_reducible refine hK1 _ ?_)); clear hK1); (with_reducible refine hK1 _ ?_); clear hK1))))
    | (((first | (((with_reducible refine opsP_cons fun K3 hK3 => ?_); simp only [wantP, opP, valP, Ur, Us])) | (skip)); simp (disch := omega) only [St.eval, St.put, upd_app, iniT_app, avOf, avOf1, nom, binP, intsP, intP, nilP, slA, U7, Uv, Ve, Vs, PmL, simprocAttr, retQ, resP, tupA, fg]; try (with_reducible (first | exact co_refl _ | exact co_own _ _ _ | exact co_nilsB | exact co_nilsL _ _)))))
  all_goals (try (focus ((try simp only [has0]); (repeat' split) <;> (first | (exfalso; omega) | ((try ((with_reducible refine And.intro ?_ ?_); rotate_left 1; (focus (first | exact subM_row1 | exact subM_nom _ | (refine subM_box1 ?_; simp only [fgs, fg]; (repeat' (first | exact cos_refl _ | refine cos_cons ?_ ?_ | exact co_refl _ | exact co_nilsB | exact co_own _ _ _ | exact co_nilsL _ _ | exact co_nils _ | refine co_agg ?_ | refine co_tup ?_)); done))))); (first | ((repeat' (first | exact cos_refl _ | refine cos_cons ?_ ?_ | exact co_refl _ | exact co_nilsB | exact co_own _ _ _ | exact co_nilsL _ _ | exact co_nils _ | refine co_agg ?_ | refine co_tup ?_)); done) | (refine co_eq ?_; simp_all; done))) | (exfalso; simp_all; done)))))
set_option maxRecDepth 100000 in
theorem pIdx1 (a : List Int) : Pure Tryd.prog 85 [.d (.sl 1 [[.str a]]), .fn 71 []] (.d (.int .i64 (if has0 a then 0 else -1))) := by
  refine pure_intro Tryd.func85 rfl rfl rfl 19 rfl (fun hh => ?_)
  repeat' (first
    | ((with_reducible (first
     | (refine PW.seq fun K1 hK1 => ?_) | (refine PW.region fun K2 hK2 => ?_) | ((refine hK3 _ ?_; clear hK3)) | ((refine opsP_nil ?_; refine hK2 _ ?_; clear hK2)) | (refine PW.rounds (id := 0) 2 ?_)
     | (refine rounds_more fun K1 hK1 => ?_) | (refine PW.block ?_) | (refine PW.skip ?_) | (refine PW.exit ?_) | (refine PW.ret ?_) | ((refine hX1 ?_; clear hX1 hY1; try simp only [hb])) | ((refine hY1 ?_; clear hX1 hY1; try simp only [hb])) )))
    | (((first | (with_reducible refine wantB_intro (fun hb => ?_) (fun hb => ?_)) | (with_reducible refine condB_intro (fun hb => ?_) (fun hb => ?_))) <;> ((try (have hp := hb; simp only [PmH, beq_iff_eq, beq_eq_false_iff_ne, ne_eq] at hp)); try simp only [hb, Bool.not_true, Bool.not_false])))
    | (((with_reducible refine cC_pure ?_ (pCleanF ?_) (fun _ => ?_)); (focus ((repeat' (first | (refine .cons ?_ ?_) | (exact .nil) | (exact .d _) )); done))))
    | ((simp only [thenP, blockP, ↓reduceIte]; (try ((repeat (fail_if_success (with_reducible refine hK1 _ ?_)); clear hK1); (with_reducible refine hK1 _ ?_); clear hK1))))
    | (((first | (((with_reducible refine opsP_cons fun K3 hK3 => ?_); simp only [wantP, opP, valP, Ur, Us])) | ((with_reducible refine PW.condM fun X1 Y1 hX1 hY1 => ?_)) | (skip)); simp (disch := omega) only [St.eval, St.put, upd_app, iniT_app, avOf, avOf1, nom, loadA, lenP, binP, intsP, intP, nilP, builtinP, isMapA, slA, U7, U8, Ua, Uf, Ug, Ur, Us, Uv, V8, V9, Ve, Int.cast_ofNat_Int, Vs, PmL, simprocAttr, PmT, retQ, resP, tupA, fg, condP, condB_t, condB_f]; try (with_reducible (first | exact co_refl _ | exact co_own _ _ _ | exact co_nilsB | exact co_nilsL _ _)))))
  all_goals (try (focus ((try simp only [has0]); (repeat' split) <;> (first | (exfalso; omega) | ((try ((with_reducible refine And.intro ?_ ?_); rotate_left 1; (focus (first | exact subM_row1 | exact subM_nom _ | (refine subM_box1 ?_; simp only [fgs, fg]; (repeat' (first | exact cos_refl _ | refine cos_cons ?_ ?_ | exact co_refl _ | exact co_nilsB | exact co_own _ _ _ | exact co_nilsL _ _ | exact co_nils _ | refine co_agg ?_ | refine co_tup ?_)); done))))); (first | ((repeat' (first | exact cos_refl _ | refine cos_cons ?_ ?_ | exact co_refl _ | exact co_nilsB | exact co_own _ _ _ | exact co_nilsL _ _ | exact co_nils _ | refine co_agg ?_ | refine co_tup ?_)); done) | (refine co_eq ?_; simp_all; done))) | (exfalso; simp_all; done)))))
  all_goals (refine co_eq ?_; simp_all)
set_option maxRecDepth 100000 in
theorem pCon1 (a : List Int) : Pure Tryd.prog 70 [.d (.sl 1 [[.str a]]), .fn 71 []] (.d (.bool (has0 a))) := by
  refine pure_intro Tryd.func70 rfl rfl rfl 9 rfl (fun hh => ?_)
  repeat' (first
    | ((with_reducible (first
     | (refine PW.seq fun K1 hK1 => ?_) | (refine PW.region fun K2 hK2 => ?_) | ((refine hK3 _ ?_; clear hK3)) | ((refine opsP_nil ?_; refine hK2 _ ?_; clear hK2)) 
     | (refine PW.ret ?_) )))
    | (((with_reducible refine cC_pure ?_ (pIdx1 ?_) (fun _ => ?_)); (focus ((repeat' (first | (refine .cons ?_ ?_) | (exact .nil) | (exact .d _) | (refine .fn ?_))); done))))
    | ((simp only [thenP]; (try ((repeat (fail_if_success (with_reducible refine hK1 _ ?_)); clear hK1); (with_reducible refine hK1 _ ?_); clear hK1))))
    | (((first | (((with_reducible refine opsP_cons fun K3 hK3 => ?_); simp only [wantP, opP, valP, Ur, Us])) | (skip)); simp (disch := omega) only [St.eval, St.put, upd_app, iniT_app, avOf, avOf1, nom, binP, intsP, intP, nilP, slA, U7, U8, Uv, Ve, PmL, simprocAttr, retQ, resP, tupA, fg]; try (with_reducible (first | exact co_refl _ | exact co_own _ _ _ | exact co_nilsB | exact co_nilsL _ _)))))
  all_goals (refine co_eq ?_; cases has0 a <;> rfl)
set_option maxRecDepth 100000 in
theorem pClean1 (a : List Int) : Pure Tryd.prog 41 [.d (.sl 1 [[.str a]])] (.d (.bool (!has0 a))) := by
  refine pure_intro Tryd.func41 rfl rfl rfl 6 rfl (fun hh => ?_)
  repeat' (first
    | ((with_reducible (first
     | (refine PW.seq fun K1 hK1 => ?_) | (refine PW.region fun K2 hK2 => ?_) | ((refine hK3 _ ?_; clear hK3)) | ((refine opsP_nil ?_; refine hK2 _ ?_; clear hK2)) 
     | (refine PW.ret ?_) )))
    | (((with_reducible refine cC_pure ?_ (pCon1 ?_) (fun _ => ?_)); (focus ((repeat' (first | (refine .cons ?_ ?_) | (exact .nil) | (exact .d _) | (refine .fn ?_))); done))))
    | ((simp only [thenP]; (try ((repeat (fail_if_success (with_reducible refine hK1 _ ?_)); clear hK1); (with_reducible refine hK1 _ ?_); clear hK1))))
    | (((first | (((with_reducible refine opsP_cons fun K3 hK3 => ?_); simp only [wantP, opP, valP, Ur, Us])) | (skip)); simp (disch := omega) only [St.eval, St.put, upd_app, iniT_app, avOf, avOf1, nom, unP, U7, Uv, Ve, simprocAttr, retQ, resP, tupA, fg]; try (with_reducible (first | exact co_refl _ | exact co_own _ _ _ | exact co_nilsB | exact co_nilsL _ _)))))
  all_goals (refine co_eq ?_; rfl)
set_option maxRecDepth 100000 in
theorem pIdx2 (a b : List Int) : Pure Tryd.prog 85 [.d (.sl 1 [[.str a], [.str b]]), .fn 71 []] (.d (.int .i64 (if has0 a then 0 else if has0 b then 1 else -1))) := by
  refine pure_intro Tryd.func85 rfl rfl rfl 19 rfl (fun hh => ?_)
  repeat' (first
    | ((with_reducible (first
     | (refine PW.seq fun K1 hK1 => ?_) | (refine PW.region fun K2 hK2 => ?_) | ((refine hK3 _ ?_; clear hK3)) | ((refine opsP_nil ?_; refine hK2 _ ?_; clear hK2)) | (refine PW.rounds (id := 0) 3 ?_)
     | (refine rounds_more fun K1 hK1 => ?_) | (refine PW.block ?_) | (refine PW.skip ?_) | (refine PW.exit ?_) | (refine PW.ret ?_) | ((refine hX1 ?_; clear hX1 hY1; try simp only [hb])) | ((refine hY1 ?_; clear hX1 hY1; try simp only [hb])) )))
    | (((first | (with_reducible refine wantB_intro (fun hb => ?_) (fun hb => ?_)) | (with_reducible refine condB_intro (fun hb => ?_) (fun hb => ?_))) <;> ((try (have hp := hb; simp only [PmH, beq_iff_eq, beq_eq_false_iff_ne, ne_eq] at hp)); try simp only [hb, Bool.not_true, Bool.not_false])))
    | (((with_reducible refine cC_pure ?_ (pCleanF ?_) (fun _ => ?_)); (focus ((repeat' (first | (refine .cons ?_ ?_) | (exact .nil) | (exact .d _) )); done))))
    | ((simp only [thenP, blockP, ↓reduceIte]; (try ((repeat (fail_if_success (with_reducible refine hK1 _ ?_)); clear hK1); (with_reducible refine hK1 _ ?_); clear hK1))))
    | (((first | (((with_reducible refine opsP_cons fun K3 hK3 => ?_); simp only [wantP, opP, valP, Ur, Us])) | ((with_reducible refine PW.condM fun X1 Y1 hX1 hY1 => ?_)) | (skip)); simp (disch := omega) only [St.eval, St.put, upd_app, iniT_app, avOf, avOf1, nom, loadA, lenP, binP, intsP, intP, nilP, builtinP, isMapA, slA, U7, U8, Ua, Ub, Uf, Ug, Ur, Us, Uv, V8, V9, Ve, Int.cast_ofNat_Int, Vs, PmL, simprocAttr, PmT, retQ, resP, tupA, fg, condP, condB_t, condB_f]; try (with_reducible (first | exact co_refl _ | exact co_own _ _ _ | exact co_nilsB | exact co_nilsL _ _)))))
  all_goals (try (focus ((try simp only [has0]); (repeat' split) <;> (first | (exfalso; omega) | ((try ((with_reducible refine And.intro ?_ ?_); rotate_left 1; (focus (first | exact subM_row1 | exact subM_nom _ | (refine subM_box1 ?_; simp only [fgs, fg]; (repeat' (first | exact cos_refl _ | refine cos_cons ?_ ?_ | exact co_refl _ | exact co_nilsB | exact co_own _ _ _ | exact co_nilsL _ _ | exact co_nils _ | refine co_agg ?_ | refine co_tup ?_)); done))))); (first | ((repeat' (first | exact cos_refl _ | refine cos_cons ?_ ?_ | exact co_refl _ | exact co_nilsB | exact co_own _ _ _ | exact co_nilsL _ _ | exact co_nils _ | refine co_agg ?_ | refine co_tup ?_)); done) | (refine co_eq ?_; simp_all; done))) | (exfalso; simp_all; done)))))
  all_goals (refine co_eq ?_; simp_all)
set_option maxRecDepth 100000 in
theorem pCon2 (a b : List Int) : Pure Tryd.prog 70 [.d (.sl 1 [[.str a], [.str b]]), .fn 71 []] (.d (.bool (has0 a || has0 b))) := by
  refine pure_intro Tryd.func70 rfl rfl rfl 9 rfl (fun hh => ?_)
  repeat' (first
    | ((with_reducible (first
     | (refine PW.seq fun K1 hK1 => ?_) | (refine PW.region fun K2 hK2 => ?_) | ((refine hK3 _ ?_; clear hK3)) | ((refine opsP_nil ?_; refine hK2 _ ?_; clear hK2)) 
     | (refine PW.ret ?_) )))
    | (((with_reducible refine cC_pure ?_ (pIdx2 ?_ ?_) (fun _ => ?_)); (focus ((repeat' (first | (refine .cons ?_ ?_) | (exact .nil) | (exact .d _) | (refine .fn ?_))); done))))
    | ((simp only [thenP]; (try ((repeat (fail_if_success (with_reducible refine hK1 _ ?_)); clear hK1); (with_reducible refine hK1 _ ?_); clear hK1))))
    | (((first | (((with_reducible refine opsP_cons fun K3 hK3 => ?_); simp only [wantP, opP, valP, Ur, Us])) | (skip)); simp (disch := omega) only [St.eval, St.put, upd_app, iniT_app, avOf, avOf1, nom, binP, intsP, intP, nilP, slA, U7, U8, Uv, Ve, PmL, simprocAttr, retQ, resP, tupA, fg]; try (with_reducible (first | exact co_refl _ | exact co_own _ _ _ | exact co_nilsB | exact co_nilsL _ _)))))
  all_goals (refine co_eq ?_; cases has0 a <;> cases has0 b <;> rfl)
set_option maxRecDepth 100000 in
theorem pClean2 (a b : List Int) : Pure Tryd.prog 41 [.d (.sl 1 [[.str a], [.str b]])] (.d (.bool (!has0 a && !has0 b))) := by
  refine pure_intro Tryd.func41 rfl rfl rfl 6 rfl (fun hh => ?_)
  repeat' (first
    | ((with_reducible (first
     | (refine PW.seq fun K1 hK1 => ?_) | (refine PW.region fun K2 hK2 => ?_) | ((refine hK3 _ ?_; clear hK3)) | ((refine opsP_nil ?_; refine hK2 _ ?_; clear hK2)) 
     | (refine PW.ret ?_) )))
    | (((with_reducible refine cC_pure ?_ (pCon2 ?_ ?_) (fun _ => ?_)); (focus ((repeat' (first | (refine .cons ?_ ?_) | (exact .nil) | (exact .d _) | (refine .fn ?_))); done))))
    | ((simp only [thenP]; (try ((repeat (fail_if_success (with_reducible refine hK1 _ ?_)); clear hK1); (with_reducible refine hK1 _ ?_); clear hK1))))
    | (((first | (((with_reducible refine opsP_cons fun K3 hK3 => ?_); simp only [wantP, opP, valP, Ur, Us])) | (skip)); simp (disch := omega) only [St.eval, St.put, upd_app, iniT_app, avOf, avOf1, nom, unP, U7, Uv, Ve, simprocAttr, retQ, resP, tupA, fg]; try (with_reducible (first | exact co_refl _ | exact co_own _ _ _ | exact co_nilsB | exact co_nilsL _ _)))))
  all_goals (refine co_eq ?_; cases has0 a <;> cases has0 b <;> rfl)
/-- int32 -/
theorem i32_w (n : Int) : (decide (n = IntKind.i64.wrap (IntKind.i32.wrap n))) = i32ok n := by
  have e : IntKind.i32.wrap n = (if 2147483648 ≤ n % 4294967296 then n % 4294967296 - 4294967296 else n % 4294967296) := by
    simp [IntKind.wrap, IntKind.bits, IntKind.signed]
  have h : -2147483648 ≤ IntKind.i32.wrap n ∧ IntKind.i32.wrap n ≤ 2147483647 := by rw [e]; split <;> omega
  rw [wl_i64 (by simp only [Bool.and_eq_true, decide_eq_true_eq]; omega)]
  unfold i32ok
  rw [Bool.eq_iff_iff]
  simp only [decide_eq_true_eq, Bool.and_eq_true]
  constructor
  · intro h'; omega
  · intro h'; rw [e]; split <;> omega
set_option maxRecDepth 100000 in
theorem pSmallF (n : Int) : Pure Tryd.prog 68 [.d (.int .i64 n)] (.d (.bool (!i32ok n))) := by
  refine pure_intro Tryd.func68 rfl rfl rfl 8 rfl (fun hh => ?_)
  have hw := i32_w n
  repeat' (first
    | ((with_reducible (first
     | (refine PW.seq fun K1 hK1 => ?_) | (refine PW.region fun K2 hK2 => ?_) | ((refine hK3 _ ?_; clear hK3)) | ((refine opsP_nil ?_; refine hK2 _ ?_; clear hK2)) 
     | (refine PW.ret ?_) )))
    | ((simp only [thenP]; (try ((repeat (fail_if_success (with_reducible refine hK1 _ ?_)); clear hK1); (with_reducible refine hK1 _ ?_); clear hK1))))
    | (((first | (((with_reducible refine opsP_cons fun K3 hK3 => ?_); simp only [wantP, opP, valP])) | (skip)); simp (disch := omega) only [St.eval, St.put, upd_app, iniT_app, avOf, avOf1, nom, binP, intsP, intP, nilP, convP, slA, U7, Ve, PmL, simprocAttr, PmT, hw, retQ, resP, tupA, fg]; try (with_reducible (first | exact co_refl _ | exact co_own _ _ _ | exact co_nilsB | exact co_nilsL _ _)))))
end PM
end Go.Proofs.YthaekefdadccaaaDoor
namespace Go.Proofs.YthaekefdadccaaaDoor
open Go.RowKit
namespace PM
set_option maxRecDepth 100000 in
/-- a tag, a length -/
theorem pBig4t (t n : Int) : PFun Tryd.prog 36 [.own 0 1 [[.int .u8 t]], .d (.int .i64 n), .d (.int .i64 4)] ⟨[], [some ⟨5, 1, 1⟩]⟩ (.own 0 1 (encB (t :: big4 n))) ⟨[], [some ⟨5, 1, (t :: big4 n).length⟩]⟩ := pBig4o [t] n (by simp)
theorem put_bad {m : Back} {may : Bool} {long : Int} {body : List Int} (h : (may && m.only.like m) = false) : Co (.tup [.nils, .d (.int .i64 230)]) (.tup [bs (putEnd m may long body).1, .d (.int .i64 (putEnd m may long body).2)]) := by
  have e : putEnd m may long body = ([], 230) := if_pos h
  rw [e]
  exact co_tup (cos_cons co_nilsB (cos_cons (co_refl _) cos_nil))
theorem put_ok {m : Back} {may : Bool} {long : Int} {body : List Int} (h : (may && m.only.like m) = true) (hl : long ≤ 1073741820) (hb : body.length ≤ 1073741820) : putEnd m may long body = (tagOf m.kind :: (big4 (body.length + 4) ++ body), 0) := by
  unfold putEnd
  rw [h, if_neg (by decide), if_neg (by split <;> omega)]
set_option maxRecDepth 100000 in
theorem pTags (k : Int) (h : 1 ≤ k ∧ k ≤ 9) : Pure Tryd.prog 45 [.d (.int .i64 k)] (.d (.int .u8 (tagOf k))) := by
  refine pure_intro Tryd.func45 rfl rfl rfl 5 rfl (fun hh => ?_)
  have hk : k = 1 ∨ k = 2 ∨ k = 3 ∨ k = 4 ∨ k = 5 ∨ k = 6 ∨ k = 7 ∨ k = 8 ∨ k = 9 := by omega
  rcases hk with rfl | rfl | rfl | rfl | rfl | rfl | rfl | rfl | rfl
  all_goals
    repeat' (first
      | ((with_reducible (first
       | (refine PW.seq fun K1 hK1 => ?_) | (refine PW.region fun K2 hK2 => ?_) | ((refine hK3 _ ?_; clear hK3)) | ((refine opsP_nil ?_; refine hK2 _ ?_; clear hK2)) 
       | (refine PW.ret ?_) )))
      | ((simp only [thenP]; (try ((repeat (fail_if_success (with_reducible refine hK1 _ ?_)); clear hK1); (with_reducible refine hK1 _ ?_); clear hK1))))
      | (((first | (((with_reducible refine opsP_cons fun K3 hK3 => ?_); simp only [wantP, opP, valP])) | (skip)); simp (disch := omega) only [St.eval, St.put, upd_app, iniT_app, avOf, avOf1, nom, bsz, U1, U7, U8, Ua, Ub, Uf, Ug, Ur, Us, V9, Ve, Int.cast_ofNat_Int, Vs, PmL, simprocAttr, PmT, tagOf, retQ, resP, tupA, fg]; try (with_reducible (first | exact co_refl _ | exact co_own _ _ _ | exact co_nilsB | exact co_nilsL _ _)))))
    all_goals exact co_refl _
set_option maxRecDepth 100000 in
theorem pStated (s : List Int) : Pure Tryd.prog 42 [.d (.str s)] (.d (.bool (stated s))) := by
  refine pure_intro Tryd.func42 rfl rfl rfl 11 rfl (fun hh => ?_)
  have hr := (has_str (hh (.d (.str s)) (by simp))).1
  have ht := trim_stated hr
  have hT := pTrim s alnum (by decide) (by decide)
  repeat' (first
    | ((with_reducible (first
     | (refine PW.seq fun K1 hK1 => ?_) | (refine PW.region fun K2 hK2 => ?_) | ((refine hK3 _ ?_; clear hK3)) | ((refine opsP_nil ?_; refine hK2 _ ?_; clear hK2)) 
     | (refine PW.ret ?_) )))
    | ((simp only [thenP]; (try ((repeat (fail_if_success (with_reducible refine hK1 _ ?_)); clear hK1); (with_reducible refine hK1 _ ?_); clear hK1))))
    | (((first | ((with_reducible (first | refine opsP_consMt (d := ?_) (dj := ?_) (b := ?_) (r := ?_) ?_ ?_ (fun hb => ?_) (fun K3 hK3 => ?_) | refine opsP_consMf (d := ?_) (dj := ?_) (b := ?_) (r := ?_) ?_ ?_ (fun hb => ?_) (fun K3 hK3 => ?_))); rotate_left 3; (focus exact rfl); (focus (simp only [upd_app, simprocAttr]; exact rfl))) | ((with_reducible (first | refine opsP_consNt (d := ?_) (dj := ?_) (b := ?_) (r := ?_) (c := ?_) ?_ ?_ (fun hb => ?_) (fun K3 hK3 => ?_) | refine opsP_consNf (d := ?_) (dj := ?_) (b := ?_) (r := ?_) (c := ?_) ?_ ?_ (fun hb => ?_) (fun K3 hK3 => ?_))); rotate_left 4; (focus exact rfl); (focus (simp only [St.put, upd_app, iniT_app, simprocAttr, mrg_t, mrg_f]; exact rfl)))); (focus (simp only [opP, valP, Ur, Us]; (try (simp only [Bool.and_eq_true, Bool.not_eq_true'] at hb)); (try (have hp := hb; simp only [PmH] at hp)); simp (disch := omega) only [St.eval, upd_app, iniT_app, avOf, avOf1, binP, strP, nilP, bsz, U1, slA, U7, Uf, Ug, Ur, Us, Uv, V9, Int.cast_ofNat_Int, PmL, simprocAttr, mrg_t, hb]; (repeat' (first | (exact rfl) | ((refine And.intro ?_ ?_); (focus (exact rfl)); (exact rfl)) | (refine And.intro (by first | omega | (simp; done) | assumption) ?_) | ((with_reducible refine cC_pure ?_ (hT) (fun _ => ?_)); (focus ((repeat' constructor); done))))); done)); (try simp only [St.put, Nat.reduceLT, ↓reduceIte])))
    | (((first | (((with_reducible refine opsP_cons fun K3 hK3 => ?_); simp only [wantP, opP, valP, Ur, Us])) | (skip)); simp (disch := omega) only [St.eval, St.put, upd_app, iniT_app, avOf, avOf1, nom, lenP, binP, intsP, intP, nilP, builtinP, isMapA, slA, U7, Ve, PmL, simprocAttr, PmT, pick_and, retQ, resP, tupA, fg]; try (with_reducible (first | exact co_refl _ | exact co_own _ _ _ | exact co_nilsB | exact co_nilsL _ _)))))
  all_goals
    refine co_eq (congrArg (fun b => AV.d (.bool b)) ?_)
    unfold stated
    rw [Bool.eq_iff_iff]
    simp only [Bool.and_eq_true, decide_eq_true_eq, ht]
    exact ⟨fun ⟨a, b⟩ => ⟨by omega, b⟩, fun ⟨a, b⟩ => ⟨by omega, b⟩⟩
set_option maxRecDepth 100000 in
set_option maxHeartbeats 4000000 in
theorem pSame (a b : Back) : Pure Tryd.prog 43 [a.v, b.v] (.d (.bool (a.like b))) := by
  refine pure_intro Tryd.func43 rfl rfl rfl 77 rfl (fun hh => ?_)
  obtain ⟨xk, xn, xt, xp, xs, xu, xf, xc, xa, xg⟩ := a
  obtain ⟨yk, yn, yt, yp, ys, yu, yf, yc, ya, yg⟩ := b
  repeat' (first
    | ((with_reducible (first
     | (refine PW.seq fun K1 hK1 => ?_) | ((refine PW.region fun K2 hK2 => ?_; try simp only [List.append_eq, List.cons_append, List.nil_append])) | ((refine hK3 _ ?_; clear hK3)) | ((refine opsP_nil ?_; refine hK2 _ ?_; clear hK2)) 
     | (refine PW.ret ?_) )))
    | ((simp only [thenP]; (try ((repeat (fail_if_success (with_reducible refine hK1 _ ?_)); clear hK1); (with_reducible refine hK1 _ ?_); clear hK1))))
    | (((first | ((with_reducible (first | refine opsP_consMt (d := ?_) (dj := ?_) (b := ?_) (r := ?_) ?_ ?_ (fun hb => ?_) (fun K3 hK3 => ?_) | refine opsP_consMf (d := ?_) (dj := ?_) (b := ?_) (r := ?_) ?_ ?_ (fun hb => ?_) (fun K3 hK3 => ?_))); rotate_left 3; (focus exact rfl); (focus (simp only [upd_app, simprocAttr]; exact rfl))) | ((with_reducible (first | refine opsP_consNt (d := ?_) (dj := ?_) (b := ?_) (r := ?_) (c := ?_) ?_ ?_ (fun hb => ?_) (fun K3 hK3 => ?_) | refine opsP_consNf (d := ?_) (dj := ?_) (b := ?_) (r := ?_) (c := ?_) ?_ ?_ (fun hb => ?_) (fun K3 hK3 => ?_))); rotate_left 4; (focus exact rfl); (focus (simp only [St.put, upd_app, iniT_app, simprocAttr, mrg_t, mrg_f]; exact rfl)))); (focus (simp only [opP, valP, Ur, Us]; (try (simp only [Bool.and_eq_true] at hb)); (try (have hp := hb; simp only [PmH, beq_iff_eq] at hp)); simp (disch := omega) only [St.eval, upd_app, loadA, lenP, binP, intsP, intP, strP, eqP, nilP, builtinP, isMapA, slA, Ua, Ub, Uk, Ul, V9, Ve, PmL, simprocAttr, PmT, mrg_t, hb]; (repeat' (first | (exact rfl) | ((refine And.intro ?_ ?_); (focus (exact rfl)); (exact rfl)) | (refine And.intro (by first | omega | (simp; done) | assumption) ?_))); done)); (try simp only [St.put, Nat.reduceLT, ↓reduceIte])))
    | (((first | (((with_reducible refine opsP_cons fun K3 hK3 => ?_); simp only [wantP, opP, valP])) | (skip)); simp (disch := omega) only [St.eval, St.put, upd_app, iniT_app, avOf, avOf1, nom, cellsA, AV.okv, loadA, binP, intsP, intP, nilP, slA, U7, U8, Ua, Ub, Uf, Ug, Uk, Ur, Us, Ut, Uu, V9, Va, Ve, PmL, simprocAttr, PmT, Back.v, Back.c, pick_and, retQ, resP, tupA, fg]; try (with_reducible (first | exact co_refl _ | exact co_own _ _ _ | exact co_nilsB | exact co_nilsL _ _)))))
  refine co_eq (congrArg (fun b => AV.d (.bool b)) ?_)
  unfold Back.like
  have e1 : decide ((xf.length : Int) = yf.length) = decide (xf.length = yf.length) := by rw [Bool.eq_iff_iff]; simp only [decide_eq_true_eq]; omega
  have e2 : decide ((xc.length : Int) = yc.length) = decide (xc.length = yc.length) := by rw [Bool.eq_iff_iff]; simp only [decide_eq_true_eq]; omega
  have e3 : (xg == yg) = decide (xg = yg) := by cases xg <;> cases yg <;> rfl
  simp only [e1, e2, e3, Bool.and_assoc]
set_option maxRecDepth 100000 in
theorem pSaidSyntax : Pure Tryd.prog 51 [.d (.int .i64 174)] (.agg [.d (.str [52, 50, 54, 48, 49]), .d (.str [115, 121, 110, 116, 97, 120, 32, 101, 114, 114, 111, 114])]) := by
  refine pure_intro Tryd.func51 rfl rfl rfl 58 rfl (fun hh => ?_)
  repeat' (first
    | ((with_reducible (first
     | (refine PW.seq fun K1 hK1 => ?_) | (refine PW.region fun K2 hK2 => ?_) | ((refine hK3 _ ?_; clear hK3)) | ((refine opsP_nil ?_; refine hK2 _ ?_; clear hK2)) 
     | (refine PW.block ?_) | (refine PW.skip ?_) | (refine PW.ret ?_) | ((refine hX1 ?_; clear hX1 hY1; try simp only [hb])) | ((refine hY1 ?_; clear hX1 hY1; try simp only [hb])) )))
    | ((simp only [thenP, blockP]; (try ((repeat (fail_if_success (with_reducible refine hK1 _ ?_)); clear hK1); (with_reducible refine hK1 _ ?_); clear hK1))))
    | (((first | (((with_reducible refine opsP_cons fun K3 hK3 => ?_); simp only [wantP, opP, valP, Ur, Us])) | ((with_reducible refine PW.condM fun X1 Y1 hX1 hY1 => ?_)) | (skip)); simp (disch := omega) only [St.eval, St.put, upd_app, iniT_app, avOf, avOf1, nom, cellsA, AV.okv, loadA, binP, intsP, intP, nilP, bsz, U1, slA, putCells, fillA, buildA, U7, Ua, Ub, Uc, Ud, Uf, Ug, Uk, Un, Up, Ur, Us, Ut, V9, Vd, Vt, Int.cast_ofNat_Int, UU2, UU3, Vr, PmL, simprocAttr, PmT, retQ, resP, tupA, fg, fgs, condP, condB_t, condB_f]; try (with_reducible (first | exact co_refl _ | exact co_own _ _ _ | exact co_nilsB | exact co_nilsL _ _)))))
set_option maxRecDepth 100000 in
theorem pStateSyntax : Pure Tryd.prog 22 [.d (.int .i64 174)] (.d (.str [52, 50, 54, 48, 49])) := by
  refine pure_intro Tryd.func22 rfl rfl rfl 6 rfl (fun hh => ?_)
  repeat' (first
    | ((with_reducible (first
     | (refine PW.seq fun K1 hK1 => ?_) | (refine PW.region fun K2 hK2 => ?_) | ((refine hK3 _ ?_; clear hK3)) | ((refine opsP_nil ?_; refine hK2 _ ?_; clear hK2)) 
     | (refine PW.ret ?_) )))
    | (((with_reducible refine cC_pure ?_ (pSaidSyntax) (fun _ => ?_)); (focus ((repeat' constructor); done))))
    | ((simp only [thenP]; (try ((repeat (fail_if_success (with_reducible refine hK1 _ ?_)); clear hK1); (with_reducible refine hK1 _ ?_); clear hK1))))
    | (((first | (((with_reducible refine opsP_cons fun K3 hK3 => ?_); simp only [wantP, opP, valP, Ur, Us])) | (skip)); simp (disch := omega) only [St.eval, St.put, upd_app, iniT_app, avOf, avOf1, nom, loadA, bsz, U1, U7, Ug, Uk, Us, Uv, Ve, simprocAttr, PmT, retQ, resP, tupA, fg]; try (with_reducible (first | exact co_refl _ | exact co_own _ _ _ | exact co_nilsB | exact co_nilsL _ _)))))
end PM
end Go.Proofs.YthaekefdadccaaaDoor
