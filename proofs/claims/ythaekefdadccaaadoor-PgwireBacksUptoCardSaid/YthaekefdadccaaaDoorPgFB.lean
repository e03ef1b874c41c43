/- pgwire in the abstract: a client's message as bytes: what is common. -/
import Derived.Test.YthaekefdadccaaaDoorPg13
import Derived.Test.YthaekefdadccaaaDoorPgB
namespace Go.Proofs.YthaekefdadccaaaDoor
open Go.RowKit
namespace PM
theorem fput_bad {f : Front} (h : (frontMay f && f.only.like f) = false) : Co (.tup [.nils, .d (.int .i64 230)]) (.tup [bs (putFrontS f).1, .d (.int .i64 (putFrontS f).2)]) := by
  have e : putFrontS f = ([], 230) := if_pos h
  rw [e]
  exact co_tup (cos_cons co_nilsB (cos_cons (co_refl _) cos_nil))
theorem fput_long {f : Front} (h : (frontMay f && f.only.like f) = true) (hl : frontMost (frontTag f) < (frontBody f).length + 4 ∨ 32 < f.params.length) : Co (.tup [.nils, .d (.int .i64 231)]) (.tup [bs (putFrontS f).1, .d (.int .i64 (putFrontS f).2)]) := by
  have e : putFrontS f = ([], 231) := by unfold putFrontS; rw [h, if_neg (by decide), if_pos hl]
  rw [e]
  exact co_tup (cos_cons co_nilsB (cos_cons (co_refl _) cos_nil))
theorem fput_ok {f : Front} (h : (frontMay f && f.only.like f) = true) (hl : ¬ (frontMost (frontTag f) < (frontBody f).length + 4 ∨ 32 < f.params.length)) :
    putFrontS f = ((if frontTag f = 0 then [] else [frontTag f]) ++ (big4 ((frontBody f).length + 4) ++ frontBody f), 0) := by
  unfold putFrontS; rw [h, if_neg (by decide), if_neg hl]
set_option maxRecDepth 100000 in
theorem pIdxI (a b : Int) : Pure Tryd.prog 84 [.d (.sl 1 [[.int .i64 a], [.int .i64 b]]), .fn 68 []] (.d (.int .i64 (if i32ok a then (if i32ok b then -1 else 1) else 0))) := by
  refine pure_intro Tryd.func84 rfl rfl rfl 19 rfl (fun hh => ?_)
  repeat' (first
    | (with_reducible (first
      | refine PW.seq fun K1 hK1 => ?_
      | refine PW.region fun K2 hK2 => ?_
      | (refine hK3 _ ?_; clear hK3)
      | (refine opsP_nil ?_; refine hK2 _ ?_; clear hK2)
      | refine litX_old ?_
      | refine litC_data ?_
      | (refine Exists.intro _ (Exists.intro _ (And.intro rfl (And.intro rfl (And.intro ?_ ?_)))); focus omega)
      | (refine hK1 _ ?_; clear hK1)
      | refine nilC_intro (fun hz => ?_) ?_
      | refine PW.rounds (id := 0) 3 ?_
      | refine rounds_more fun K1 hK1 => ?_
      | refine PW.block ?_
      | refine PW.skip ?_
      | refine PW.exit ?_
      | refine PW.ret ?_
      | (refine hX1 ?_; clear hX1 hY1; try simp only [hb])
      | (refine hY1 ?_; clear hX1 hY1; try simp only [hb])
      | exact co_refl _
      | exact co_own _ _ _
      | exact co_nilsB
      | exact co_nilsL _ _))
    | ((first | (with_reducible refine wantB_intro (fun hb => ?_) (fun hb => ?_)) | (with_reducible refine condB_intro (fun hb => ?_) (fun hb => ?_))) <;> ((try (have hp := hb; simp only [Bool.not_eq_eq_eq_not, Bool.not_true, Bool.not_false] at hp)); try simp only [hb, Bool.not_true, Bool.not_false]))
    | ((with_reducible refine callP_pure ?_ ?_ (pSmallF ?_) (fun _ => ?_)); (focus (repeat' (first | exact cos_refl _ | (refine cos_cons ?_ ?_) | exact co_refl _ | exact co_own _ _ _ | exact co_nilsB | exact co_nilsL _ _ | exact co_nils _ | (refine co_agg ?_) | (refine co_fn ?_)))); (focus (simp only [purAs, purA, Bool.and_self])))
    | ((with_reducible refine And.intro ?_ ?_); (focus (first | omega | (simp; done) | assumption)))
    | (simp only [thenP, blockP, ↓reduceIte]; (try ((repeat (fail_if_success (with_reducible refine hK1 _ ?_)); clear hK1); (with_reducible refine hK1 _ ?_); clear hK1)))
    | (with_reducible omega)
    | (assumption)
    | ((first | ((with_reducible refine opsP_cons fun K3 hK3 => ?_); simp only [wantP, opP, valP, List.map_cons, List.map_nil]) | (with_reducible refine PW.condM fun X1 Y1 hX1 hY1 => ?_) | skip); simp (disch := omega) only [St.eval, St.put, upd_app, iniT_app, avOf, avOf1, wf_i64, nom, loadA, lenP, binP, intsP, intP, nilP, builtinP, wi_i64, isMapA, slA, U7, U8, Ua, Ub, Uf, Ug, Ur, Us, Uv, V8, Nat.reduceLT, Nat.reduceAdd, Nat.reduceEqDiff, V9, Ve, Int.reduceLE, Int.reduceLT, Int.reduceNeg, Int.reduceToNat, Int.reduceAdd, Int.cast_ofNat_Int, Vu, Vv, Vf, ↓reduceIte, Vp, reduceCtorEq, Vw, Vz, UU0, Vs, sz3, el108, Tryd.underlying108, retQ, resP, tupA, fg, condP, condB_t, condB_f]; try (with_reducible (first | exact co_refl _ | exact co_own _ _ _ | exact co_nilsB | exact co_nilsL _ _))))
  all_goals (try (focus ((try simp only [i32ok]); (repeat' split) <;> (first | (exfalso; omega) | ((try ((with_reducible refine And.intro ?_ ?_); rotate_left 1; (focus (first | exact subM_row1 | exact subM_nom _ | (refine subM_box1 ?_; simp only [fgs, fg]; (repeat' (first | exact cos_refl _ | refine cos_cons ?_ ?_ | exact co_refl _ | exact co_nilsB | exact co_own _ _ _ | exact co_nilsL _ _ | exact co_nils _ | refine co_agg ?_ | refine co_tup ?_)); done))))); (first | ((repeat' (first | exact cos_refl _ | refine cos_cons ?_ ?_ | exact co_refl _ | exact co_nilsB | exact co_own _ _ _ | exact co_nilsL _ _ | exact co_nils _ | refine co_agg ?_ | refine co_tup ?_)); done) | (refine co_eq ?_; simp_all; done))) | (exfalso; simp_all; done)))))
  all_goals (refine co_eq ?_; simp_all)
set_option maxRecDepth 100000 in
theorem pConI (a b : Int) : Pure Tryd.prog 67 [.d (.sl 1 [[.int .i64 a], [.int .i64 b]]), .fn 68 []] (.d (.bool (!(i32ok a && i32ok b)))) := by
  refine pure_intro Tryd.func67 rfl rfl rfl 9 rfl (fun hh => ?_)
  repeat' (first
    | (with_reducible (first
      | refine PW.seq fun K1 hK1 => ?_
      | refine PW.region fun K2 hK2 => ?_
      | (refine hK3 _ ?_; clear hK3)
      | (refine opsP_nil ?_; refine hK2 _ ?_; clear hK2)
      | refine litX_old ?_
      | refine litC_data ?_
      | (refine Exists.intro _ (Exists.intro _ (And.intro rfl (And.intro rfl (And.intro ?_ ?_)))); focus omega)
      | (refine hK1 _ ?_; clear hK1)
      | refine nilC_intro (fun hz => ?_) ?_
      | refine PW.block ?_
      | refine PW.skip ?_
      | refine PW.exit ?_
      | refine PW.ret ?_
      | (refine hX1 ?_; clear hX1 hY1; try simp only [hb])
      | (refine hY1 ?_; clear hX1 hY1; try simp only [hb])
      | exact co_refl _
      | exact co_own _ _ _
      | exact co_nilsB
      | exact co_nilsL _ _))
    | ((first | (with_reducible refine wantB_intro (fun hb => ?_) (fun hb => ?_)) | (with_reducible refine condB_intro (fun hb => ?_) (fun hb => ?_))) <;> ((try (have hp := hb; simp only [Bool.and_eq_true, Bool.or_eq_true, Bool.not_eq_true', Bool.not_eq_false', Bool.and_eq_false_iff, Bool.or_eq_false_iff, Bool.not_eq_eq_eq_not, Bool.not_true, Bool.not_false, decide_eq_true_eq, decide_eq_false_iff_not, Int.not_lt, Int.not_le, beq_iff_eq, beq_eq_false_iff_ne, ne_eq] at hp)); try simp only [hb, Bool.not_true, Bool.not_false]))
    | ((with_reducible refine callP_pure ?_ ?_ (pIdxI ?_ ?_) (fun _ => ?_)); (focus (repeat' (first | exact cos_refl _ | (refine cos_cons ?_ ?_) | exact co_refl _ | exact co_own _ _ _ | exact co_nilsB | exact co_nilsL _ _ | exact co_nils _ | (refine co_agg ?_) | (refine co_fn ?_)))); (focus (simp only [purAs, purA, Bool.and_self])))
    | ((with_reducible refine And.intro ?_ ?_); (focus (first | omega | (simp; done) | assumption)))
    | (simp only [thenP]; (try ((repeat (fail_if_success (with_reducible refine hK1 _ ?_)); clear hK1); (with_reducible refine hK1 _ ?_); clear hK1)))
    | (with_reducible omega)
    | (assumption)
    | ((first | ((with_reducible refine opsP_cons fun K3 hK3 => ?_); simp only [wantP, opP, valP, List.map_cons, List.map_nil]) | (with_reducible refine PW.condM fun X1 Y1 hX1 hY1 => ?_) | skip); simp (disch := omega) only [St.eval, St.put, upd_app, iniT_app, avOf, avOf1, wf_i64, nom, binP, intsP, intP, nilP, slA, U7, U8, Uv, Nat.reduceLT, Nat.reduceEqDiff, Ve, Int.reduceLE, Int.reduceNeg, Vu, Vf, ↓reduceIte, reduceCtorEq, Vw, Vz, UU0, retQ, resP, tupA, fg]; try (with_reducible (first | exact co_refl _ | exact co_own _ _ _ | exact co_nilsB | exact co_nilsL _ _))))
  all_goals (refine co_eq ?_; cases i32ok a <;> cases i32ok b <;> rfl)
set_option maxRecDepth 100000 in
theorem pSmall (a b : Int) : Pure Tryd.prog 37 [.d (.sl 1 [[.int .i64 a], [.int .i64 b]])] (.d (.bool (i32ok a && i32ok b))) := by
  refine pure_intro Tryd.func37 rfl rfl rfl 6 rfl (fun hh => ?_)
  repeat' (first
    | (with_reducible (first
      | refine PW.seq fun K1 hK1 => ?_
      | refine PW.region fun K2 hK2 => ?_
      | (refine hK3 _ ?_; clear hK3)
      | (refine opsP_nil ?_; refine hK2 _ ?_; clear hK2)
      | refine litX_old ?_
      | refine litC_data ?_
      | (refine Exists.intro _ (Exists.intro _ (And.intro rfl (And.intro rfl (And.intro ?_ ?_)))); focus omega)
      | (refine hK1 _ ?_; clear hK1)
      | refine nilC_intro (fun hz => ?_) ?_
      | refine PW.block ?_
      | refine PW.skip ?_
      | refine PW.exit ?_
      | refine PW.ret ?_
      | (refine hX1 ?_; clear hX1 hY1; try simp only [hb])
      | (refine hY1 ?_; clear hX1 hY1; try simp only [hb])
      | exact co_refl _
      | exact co_own _ _ _
      | exact co_nilsB
      | exact co_nilsL _ _))
    | ((first | (with_reducible refine wantB_intro (fun hb => ?_) (fun hb => ?_)) | (with_reducible refine condB_intro (fun hb => ?_) (fun hb => ?_))) <;> ((try (have hp := hb; simp only [Bool.and_eq_true, Bool.or_eq_true, Bool.not_eq_true', Bool.not_eq_false', Bool.and_eq_false_iff, Bool.or_eq_false_iff, Bool.not_eq_eq_eq_not, Bool.not_true, Bool.not_false, decide_eq_true_eq, decide_eq_false_iff_not, Int.not_lt, Int.not_le, beq_iff_eq, beq_eq_false_iff_ne, ne_eq] at hp)); try simp only [hb, Bool.not_true, Bool.not_false]))
    | ((with_reducible refine callP_pure ?_ ?_ (pConI ?_ ?_) (fun _ => ?_)); (focus (repeat' (first | exact cos_refl _ | (refine cos_cons ?_ ?_) | exact co_refl _ | exact co_own _ _ _ | exact co_nilsB | exact co_nilsL _ _ | exact co_nils _ | (refine co_agg ?_) | (refine co_fn ?_)))); (focus (simp only [purAs, purA, Bool.and_self])))
    | ((with_reducible refine And.intro ?_ ?_); (focus (first | omega | (simp; done) | assumption)))
    | (simp only [thenP]; (try ((repeat (fail_if_success (with_reducible refine hK1 _ ?_)); clear hK1); (with_reducible refine hK1 _ ?_); clear hK1)))
    | (with_reducible omega)
    | (assumption)
    | ((first | ((with_reducible refine opsP_cons fun K3 hK3 => ?_); simp only [wantP, opP, valP, List.map_cons, List.map_nil]) | (with_reducible refine PW.condM fun X1 Y1 hX1 hY1 => ?_) | skip); simp (disch := omega) only [St.eval, St.put, upd_app, iniT_app, avOf, avOf1, nom, unP, U7, Uv, Nat.reduceLT, Ve, ↓reduceIte, reduceCtorEq, retQ, resP, tupA, fg]; try (with_reducible (first | exact co_refl _ | exact co_own _ _ _ | exact co_nilsB | exact co_nilsL _ _))))
  all_goals (refine co_eq ?_; cases i32ok a <;> cases i32ok b <;> rfl)
theorem assoc5 (a b c d : Bool) (m n : Nat) : (a && b && c && d && decide ((m : Int) = n)) = (a && (b && (c && (d && decide (m = n))))) := by
  have : decide ((m : Int) = n) = decide (m = n) := by rw [Bool.eq_iff_iff]; simp only [decide_eq_true_eq]; omega
  rw [this, Bool.and_assoc, Bool.and_assoc, Bool.and_assoc]
set_option maxRecDepth 100000 in
theorem pConcatN (a : List Int) (hs : a.length ≤ 140737488355328) : PFun Tryd.prog 44 [.d (.sl 1 [[.sl 1 (encB a)], [.sl 1 []]])] nom (.own 0 1 (encB a)) ⟨[], [some ⟨5, 1, a.length⟩]⟩ := by
  have h := pConcat2 a [] (by simpa using hs)
  rw [List.append_nil] at h
  exact h
end PM
end Go.Proofs.YthaekefdadccaaaDoor
