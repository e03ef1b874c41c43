/- rangemeta in the abstract: spans and ranges. -/
import Derived.Test.YtbeniogffhihlaaPmD
import Derived.Test.YtbeniogffhihlaaBytesFn
set_option linter.unusedVariables false
set_option linter.unusedSimpArgs false
namespace Go.Proofs.Ytbeniogffhihlaa
open Go.RowKit
namespace PM
theorem pbaCompare (l m : List Int) : Pure Try.prog 59 [bs l, bs m] (.d (.int .i64 (cmpB l m))) :=
  pure_of_calls Try.func59 rfl rfl fun G w vs hm ha => by
    unfold RelAs at ha
    obtain ⟨v1, vs, rfl, h1, ha⟩ := ha
    unfold RelAs at ha
    obtain ⟨v2, vs, rfl, h2, ha⟩ := ha
    unfold RelAs at ha
    subst ha
    refine (bcompare_any v1 v2 l m w h1.dat.isB.1 h2.dat.isB.1).mono fun e w' ⟨he, hw⟩ => ?_
    subst hw
    refine ⟨_, he, .refl _ _, relA_int ?_⟩
    have := cmpB_rng l m
    rw [wf_i64]
    simp only [Bool.and_eq_true, decide_eq_true_eq]
    omega
set_option maxRecDepth 100000 in
theorem pClone (l : List Int) (h1 : l.length ≤ 140737488355328) : Pure Try.prog 73 [bs l] (bs l) := by
  refine pure_intro Try.func73 rfl rfl rfl 8 rfl (fun hh => ?_)
  repeat' (first
    | ((with_reducible (first
     | (refine PW.seq fun K1 hK1 => ?_) | (refine PW.region fun K2 hK2 => ?_) | ((refine hK3 _ ?_; clear hK3)) | ((refine opsP_nil ?_; refine hK2 _ ?_; clear hK2)) | (refine nilC_intro (fun hz => ?_) ?_)
     | (refine PW.skip ?_) | (refine PW.ret ?_) | ((refine hX1 ?_; clear hX1 hY1; try simp only [hb])) | ((refine hY1 ?_; clear hX1 hY1; try simp only [hb])) )))
    | (((with_reducible refine And.intro ?_ ?_); (focus (first | omega | (simp; done) | assumption))))
    | ((simp only [thenP]; (try ((repeat (fail_if_success (with_reducible refine hK1 _ ?_)); clear hK1); (with_reducible refine hK1 _ ?_); clear hK1))))
    | (((with_reducible refine opsP_consD (d := 5) fun K3 hK3 => ?_); simp only [wantP, opP, Us, List.mapM_nil, Ux]; simp (disch := omega) only [St.put, U3, U5, Ug, Ut, Ux, V1, Option.pure_def, Vb, Ve, PmL, simprocAttr, PmT]; (with_reducible refine litX_old ?_); (with_reducible refine litC_own ?_)))
    | (((first | (((with_reducible refine opsP_cons fun K3 hK3 => ?_); simp only [wantP, opP, valP, Ur, Us])) | ((with_reducible refine PW.condM fun X1 Y1 hX1 hY1 => ?_)) | (skip)); simp (disch := omega) only [St.eval, St.put, upd_app, iniT_app, avOf, avOf1, nom, binP, eqP, nilP, builtinP, appP, srcA, srcTy, isBsl, slA, U7, Ua, Uc, Uf, Ug, Ut, V2, V9, Vd, Ve, PmL, simprocAttr, PmT, retQ, resP, tupA, fg, condP, condB_t, condB_f]; try (with_reducible (first | exact co_refl _ | exact co_own _ _ _ | exact co_nilsB | exact co_nilsL _ _)))))
  all_goals
    have : l = [] := List.eq_nil_of_length_eq_zero (by simpa using hz)
    subst this
    exact co_nilsB
set_option maxRecDepth 100000 in
theorem pcopied (f t : List Int) (h1 : f.length ≤ 140737488355328) (h2 : t.length ≤ 140737488355328) : Pure Try.prog 46 [.agg [bs f, bs t]] (.agg [bs f, bs t]) := by
  refine pure_intro Try.func46 rfl rfl rfl 10 rfl (fun hh => ?_)
  repeat' (first
    | ((with_reducible (first
     | (refine PW.seq fun K1 hK1 => ?_) | (refine PW.region fun K2 hK2 => ?_) | ((refine hK3 _ ?_; clear hK3)) | ((refine opsP_nil ?_; refine hK2 _ ?_; clear hK2)) 
     | (refine PW.ret ?_) | ((refine opsO_nil ?_; refine hK2 _ ?_; clear hK2)) | ((refine keepA_intro ?_ ?_; focus (first | exact keep_same _ _ | exact keep_box _ _ _ _ | exact keep_hd _ _ _ _ _ | exact keep_02 _ _ _ _ _ _ _ | exact keep_1 _ _ _ _ _ _ _))))))
    | (((with_reducible refine cC_pure ?_ (pClone ?_ ?_) (fun _ => ?_)); (focus ((repeat' (first | (refine .cons ?_ ?_) | (exact .nil) | (exact .d _) )); done))))
    | (((with_reducible refine PW.drawR (id := 1) mixed [7] [(0, true), (1, true), (3, true), (4, true), (2, false), (5, false), (6, true), (7, false)] (by kernel_rfl) (by decide) fun K2 hK2 => ?_)))
    | (((with_reducible refine And.intro ?_ ?_); (focus (first | omega | (simp; done) | assumption))))
    | ((simp only [thenP]; (try ((repeat (fail_if_success (with_reducible refine hK1 _ ?_)); clear hK1); (with_reducible refine hK1 _ ?_); clear hK1))))
    | ((with_reducible omega))
    | (((first | (((with_reducible refine opsP_cons fun K3 hK3 => ?_); simp only [wantP, opP])) | (((with_reducible refine opsO_first (o := ?_) ?_ fun K3 hK3 => ?_); rotate_left 1; (focus (simp only [Uz, Ub, Ua] <;> rfl)); simp only [wantP, firstP, valP, Ur, Us])) | (((with_reducible refine opsO_only (o := ?_) ?_ fun K3 hK3 => ?_); rotate_left 1; (focus (simp only [Uz, Ub, Ua] <;> rfl)); simp only [wantP, opP, Ur, Us, Uw, Ux])) | (skip)); simp (disch := omega) only [St.eval, St.put, upd_app, iniT_app, nom, cellsA, AV.okv, loadA, putCells, fillA, buildA, U7, Ua, Ub, Uc, Ud, Uf, Ug, Uk, Ul, Un, Up, Ut, Uu, Uv, V0, V1, V9, Va, Vd, Ve, Vt, UU2, UU3, Vr, PmL, simprocAttr, PmT, retQ, resP, tupA, fg, fgs, firstOk, List.mem_cons]; try (with_reducible (first | exact co_refl _ | exact co_own _ _ _ | exact co_nilsB | exact co_nilsL _ _)))))
def spE (f t : List Int) : Bool := decide (0 < t.length) && decide (cmpB t f ≤ 0)
def spH (f t k : List Int) : Bool := decide (0 ≤ cmpB k f) && (decide (t.length = 0) || decide (cmpB k t < 0))
def shF (f g : List Int) : List Int := if 0 < cmpB g f then g else f
def shT (t u : List Int) : List Int := if t.length = 0 ∨ 0 < u.length ∧ cmpB u t < 0 then u else t
def spM (f t g u : List Int) : Bool := !spE f t && !spE g u && !spE (shF f g) (shT t u)
structure Rg where
  id : Int
  f : List Int
  t : List Int
  gen : Int
def Rg.c (x : Rg) : List DV := [.int .i64 x.id, .sl 1 (encB x.f), .sl 1 (encB x.t), .int .i64 x.gen]
abbrev Rg.v (x : Rg) : AV := .agg [.d (.int .i64 x.id), bs x.f, bs x.t, .d (.int .i64 x.gen)]
def Rg.same (x y : Rg) : Bool := decide (x.id = y.id) && decide (x.gen = y.gen) && decide (x.f = y.f) && decide (x.t = y.t)
def Rg.right (x : Rg) : Bool := decide (1 ≤ x.id) && decide (x.id ≤ 255) && decide (1 ≤ x.gen) && decide (x.gen ≤ 9007199254740991) && decide (x.f.length ≤ 110) && decide (x.t.length ≤ 110) && !spE x.f x.t
set_option maxRecDepth 100000 in
theorem pEqual (l m : List Int) : Pure Try.prog 45 [bs l, bs m] (.d (.bool (decide (l = m)))) := by
  refine pure_intro Try.func45 rfl rfl rfl 10 rfl (fun hh => ?_)
  repeat' (first
    | ((with_reducible (first
     | (refine PW.seq fun K1 hK1 => ?_) | (refine PW.region fun K2 hK2 => ?_) | ((refine hK3 _ ?_; clear hK3)) | ((refine opsP_nil ?_; refine hK2 _ ?_; clear hK2)) 
     | (refine PW.ret ?_) )))
    | ((simp only [thenP]; (try ((repeat (fail_if_success (with_reducible refine hK1 _ ?_)); clear hK1); (with_reducible refine hK1 _ ?_); clear hK1))))
    | (((first | (((with_reducible refine opsP_cons fun K3 hK3 => ?_); simp only [wantP, opP, valP])) | (skip)); simp (disch := omega) only [St.eval, St.put, upd_app, iniT_app, avOf, avOf1, nom, binP, strP, nilP, convP, slA, U7, U8, Ve, PmL, simprocAttr, PmT, retQ, resP, tupA, fg]; try (with_reducible (first | exact co_refl _ | exact co_own _ _ _ | exact co_nilsB | exact co_nilsL _ _)))))
set_option maxRecDepth 100000 in
theorem pempty (f t : List Int) : Pure Try.prog 74 [.agg [bs f, bs t]] (.d (.bool (spE f t))) := by
  refine pure_intro Try.func74 rfl rfl rfl 15 rfl (fun hh => ?_)
  repeat' (first
    | ((with_reducible (first
     | (refine PW.seq fun K1 hK1 => ?_) | (refine PW.region fun K2 hK2 => ?_) | ((refine hK3 _ ?_; clear hK3)) | ((refine opsP_nil ?_; refine hK2 _ ?_; clear hK2)) 
     | (refine PW.ret ?_) )))
    | (((first | (with_reducible refine wantB_intro (fun hb => ?_) (fun hb => ?_)) | (with_reducible refine condB_intro (fun hb => ?_) (fun hb => ?_))) <;> ((try (have hp := hb; simp only [PmH] at hp)); try simp only [hb, Bool.not_true])))
    | (((with_reducible refine cC_pure ?_ (pbaCompare ?_ ?_) (fun _ => ?_)); (focus ((repeat' (first | (refine .cons ?_ ?_) | (exact .nil) | (exact .d _) )); done))))
    | ((simp only [thenP]; (try ((repeat (fail_if_success (with_reducible refine hK1 _ ?_)); clear hK1); (with_reducible refine hK1 _ ?_); clear hK1))))
    | (((first | (((with_reducible refine opsP_cons fun K3 hK3 => ?_); simp only [wantP, opP, valP, Ur, Us])) | (skip)); simp (disch := omega) only [wantB_tt, wantB_ft, St.eval, St.put, upd_app, iniT_app, avOf, avOf1, nom, cellsA, AV.okv, loadA, lenP, binP, intsP, intP, nilP, builtinP, isMapA, slA, U7, Ua, Ub, Ug, Uk, Ul, Ut, Uv, Uz, V4, V9, Va, Ve, PmL, simprocAttr, PmT, retQ, resP, tupA, fg]; try (with_reducible (first | exact co_refl _ | exact co_own _ _ _ | exact co_nilsB | exact co_nilsL _ _)))))
  all_goals (try (refine co_eq ?_))
  all_goals (try (simp_all [spE]))
  all_goals (try (repeat' (first | (refine And.intro ?_ ?_) | split)))
  all_goals (try (first | rfl | omega))
set_option maxRecDepth 100000 in
theorem pholds (f t k : List Int) : Pure Try.prog 44 [.agg [bs f, bs t], bs k] (.d (.bool (spH f t k))) := by
  refine pure_intro Try.func44 rfl rfl rfl 23 rfl (fun hh => ?_)
  repeat' (first
    | ((with_reducible (first
     | (refine PW.seq fun K1 hK1 => ?_) | (refine PW.region fun K2 hK2 => ?_) | ((refine hK3 _ ?_; clear hK3)) | ((refine opsP_nil ?_; refine hK2 _ ?_; clear hK2)) 
     | (refine PW.ret ?_) )))
    | (((first | (with_reducible refine wantB_intro (fun hb => ?_) (fun hb => ?_)) | (with_reducible refine condB_intro (fun hb => ?_) (fun hb => ?_))) <;> ((try (have hp := hb; simp only [PmH] at hp)); try simp only [hb, Bool.not_true, Bool.not_false])))
    | (((with_reducible refine cC_pure ?_ (pbaCompare ?_ ?_) (fun _ => ?_)); (focus ((repeat' (first | (refine .cons ?_ ?_) | (exact .nil) | (exact .d _) )); done))))
    | ((simp only [thenP]; (try ((repeat (fail_if_success (with_reducible refine hK1 _ ?_)); clear hK1); (with_reducible refine hK1 _ ?_); clear hK1))))
    | (((first | (((with_reducible refine opsP_cons fun K3 hK3 => ?_); simp only [wantP, opP, valP, Ur, Us])) | (skip)); simp (disch := omega) only [wantB_tt, wantB_ff, wantB_tf, wantB_ft, St.eval, St.put, upd_app, iniT_app, avOf, avOf1, nom, cellsA, AV.okv, loadA, lenP, binP, intsP, intP, eqP, nilP, builtinP, isMapA, slA, U7, U8, Ua, Ub, Ug, Uk, Ul, Ut, Uv, Uz, V4, V9, Va, Ve, PmL, simprocAttr, PmT, retQ, resP, tupA, fg]; try (with_reducible (first | exact co_refl _ | exact co_own _ _ _ | exact co_nilsB | exact co_nilsL _ _)))))
  all_goals (try (refine co_eq ?_))
  all_goals (try (simp_all [spH]))
  all_goals (try (repeat' (first | (refine And.intro ?_ ?_) | split)))
  all_goals (try (first | rfl | omega))
set_option maxRecDepth 100000 in
set_option maxHeartbeats 2000000 in
theorem pshare (f t g u : List Int) (h1 : f.length ≤ 140737488355328) (h2 : t.length ≤ 140737488355328) (h3 : g.length ≤ 140737488355328) (h4 : u.length ≤ 140737488355328) : Pure Try.prog 79 [.agg [bs f, bs t], .agg [bs g, bs u]] (.agg [bs (shF f g), bs (shT t u)]) := by
  refine pure_intro Try.func79 rfl rfl rfl 41 rfl (fun hh => ?_)
  repeat' (first
    | ((with_reducible (first
     | (refine PW.seq fun K1 hK1 => ?_) | (refine PW.region fun K2 hK2 => ?_) | ((refine hK3 _ ?_; clear hK3)) | ((refine opsP_nil ?_; refine hK2 _ ?_; clear hK2)) 
     | (refine PW.skip ?_) | (refine PW.ret ?_) | ((refine hX1 ?_; clear hX1 hY1; try simp only [hb])) | ((refine hY1 ?_; clear hX1 hY1; try simp only [hb])) )))
    | (((first | (with_reducible refine wantB_intro (fun hb => ?_) (fun hb => ?_)) | (with_reducible refine condB_intro (fun hb => ?_) (fun hb => ?_))) <;> ((try (have hp := hb; simp only [PmH] at hp)); try simp only [hb, Bool.not_true, Bool.not_false])))
    | (((with_reducible refine cC_pure ?_ (pbaCompare ?_ ?_) (fun _ => ?_)); (focus ((repeat' (first | (refine .cons ?_ ?_) | (exact .nil) | (exact .d _) )); done))))
    | (((with_reducible refine cC_pure ?_ (pClone ?_ ?_) (fun _ => ?_)); (focus ((repeat' (first | (refine .cons ?_ ?_) | (exact .nil) | (exact .d _) )); done))))
    | (((with_reducible refine cC_pure ?_ (pcopied ?_ ?_ ?_ ?_) (fun _ => ?_)); (focus ((repeat' (first | (refine .cons ?_ ?_) | (exact .nil) | (exact .d _) | (refine .agg ?_) )); done))))
    | ((simp only [thenP]; (try ((repeat (fail_if_success (with_reducible refine hK1 _ ?_)); clear hK1); (with_reducible refine hK1 _ ?_); clear hK1))))
    | ((with_reducible omega))
    | (((first | (((with_reducible refine opsP_cons fun K3 hK3 => ?_); simp only [wantP, opP, valP, Ur, Us])) | ((with_reducible refine PW.condM fun X1 Y1 hX1 hY1 => ?_)) | (skip)); simp (disch := omega) only [wantB_tt, wantB_ff, wantB_tf, wantB_ft, St.eval, St.put, upd_app, iniT_app, avOf, avOf1, nom, cellsA, AV.okv, loadA, lenP, binP, intsP, intP, nilP, builtinP, isMapA, slA, putCells, U7, U8, Ua, Ub, Uc, Ud, Uf, Ug, Uk, Ul, Un, Up, Ut, Uu, Uv, Uz, V4, V9, Va, Ve, Vr, PmL, simprocAttr, PmT, retQ, resP, tupA, fg, fgs, condP, condB_t, condB_f]; try (with_reducible (first | exact co_refl _ | exact co_own _ _ _ | exact co_nilsB | exact co_nilsL _ _)))))
  all_goals (try (refine co_eq ?_))
  all_goals (try (simp_all [shF, shT]))
  all_goals (try (repeat' (first | (refine And.intro ?_ ?_) | split)))
  all_goals (try (first | rfl | omega))
set_option maxRecDepth 100000 in
theorem pmeet (f t g u : List Int) (h1 : f.length ≤ 140737488355328) (h2 : t.length ≤ 140737488355328) (h3 : g.length ≤ 140737488355328) (h4 : u.length ≤ 140737488355328) : Pure Try.prog 55 [.agg [bs f, bs t], .agg [bs g, bs u]] (.d (.bool (spM f t g u))) := by
  refine pure_intro Try.func55 rfl rfl rfl 20 rfl (fun hh => ?_)
  repeat' (first
    | ((with_reducible (first
     | (refine PW.seq fun K1 hK1 => ?_) | (refine PW.region fun K2 hK2 => ?_) | ((refine hK3 _ ?_; clear hK3)) | ((refine opsP_nil ?_; refine hK2 _ ?_; clear hK2)) 
     | (refine PW.ret ?_) )))
    | (((first | (with_reducible refine wantB_intro (fun hb => ?_) (fun hb => ?_)) | (with_reducible refine condB_intro (fun hb => ?_) (fun hb => ?_))) <;> ((try (have hp := hb; simp only [PmH] at hp)); try simp only [hb, Bool.not_true])))
    | (((with_reducible refine cC_pure ?_ (pempty ?_ ?_) (fun _ => ?_)); (focus ((repeat' (first | (refine .cons ?_ ?_) | (exact .nil) | (exact .d _) | (refine .agg ?_) )); done))))
    | (((with_reducible refine cC_pure ?_ (pshare ?_ ?_ ?_ ?_ ?_ ?_ ?_ ?_) (fun _ => ?_)); (focus ((repeat' (first | (refine .cons ?_ ?_) | (exact .nil) | (exact .d _) | (refine .agg ?_) )); done))))
    | ((simp only [thenP]; (try ((repeat (fail_if_success (with_reducible refine hK1 _ ?_)); clear hK1); (with_reducible refine hK1 _ ?_); clear hK1))))
    | ((with_reducible omega))
    | (((first | (((with_reducible refine opsP_cons fun K3 hK3 => ?_); simp only [wantP, opP, valP, Ur, Us])) | (skip)); simp (disch := omega) only [wantB_tt, wantB_ft, St.eval, St.put, upd_app, iniT_app, avOf, avOf1, nom, cellsA, AV.okv, loadA, unP, U7, U8, Ua, Ub, Uf, Ug, Uk, Un, Up, Ut, Uu, Uv, Uz, V4, V9, Ve, Vr, PmL, simprocAttr, PmT, retQ, resP, tupA, fg]; try (with_reducible (first | exact co_refl _ | exact co_own _ _ _ | exact co_nilsB | exact co_nilsL _ _)))))
  all_goals (try (refine co_eq ?_))
  all_goals (try (simp_all [spE, shF, shT, spM]))
  all_goals (try (repeat' (first | (refine And.intro ?_ ?_) | split)))
  all_goals (try (first | rfl | omega))
set_option maxRecDepth 100000 in
theorem psame (x y : Rg) : Pure Try.prog 56 [x.v, y.v] (.d (.bool (x.same y))) := by
  refine pure_intro Try.func56 rfl rfl rfl 35 rfl (fun hh => ?_)
  repeat' (first
    | ((with_reducible (first
     | (refine PW.seq fun K1 hK1 => ?_) | (refine PW.region fun K2 hK2 => ?_) | ((refine hK3 _ ?_; clear hK3)) | ((refine opsP_nil ?_; refine hK2 _ ?_; clear hK2)) 
     | (refine PW.ret ?_) )))
    | (((first | (with_reducible refine wantB_intro (fun hb => ?_) (fun hb => ?_)) | (with_reducible refine condB_intro (fun hb => ?_) (fun hb => ?_))) <;> ((try (have hp := hb; simp only [PmH] at hp)); try simp only [hb, Bool.not_true])))
    | (((with_reducible refine cC_pure ?_ (pEqual ?_ ?_) (fun _ => ?_)); (focus ((repeat' (first | (refine .cons ?_ ?_) | (exact .nil) | (exact .d _) )); done))))
    | ((simp only [thenP]; (try ((repeat (fail_if_success (with_reducible refine hK1 _ ?_)); clear hK1); (with_reducible refine hK1 _ ?_); clear hK1))))
    | (((first | (((with_reducible refine opsP_cons fun K3 hK3 => ?_); simp only [wantP, opP, valP, Ur, Us])) | (skip)); simp (disch := omega) only [wantB_tt, wantB_ft, St.eval, St.put, upd_app, iniT_app, avOf, avOf1, nom, cellsA, AV.okv, loadA, binP, intsP, intP, eqP, nilP, slA, U7, U8, Ua, Ub, Uf, Ug, Uk, Ul, Ut, Uu, Uv, Uz, V4, V9, Va, Ve, PmL, simprocAttr, PmT, retQ, resP, tupA, fg]; try (with_reducible (first | exact co_refl _ | exact co_own _ _ _ | exact co_nilsB | exact co_nilsL _ _)))))
  all_goals (try (refine co_eq ?_))
  all_goals (try (simp_all [Rg.same]))
  all_goals (try (repeat' (first | (refine And.intro ?_ ?_) | split)))
  all_goals (try (first | rfl | omega))
set_option maxRecDepth 100000 in
theorem pright (x : Rg) : Pure Try.prog 54 [x.v] (.d (.bool x.right)) := by
  refine pure_intro Try.func54 rfl rfl rfl 39 rfl (fun hh => ?_)
  repeat' (first
    | ((with_reducible (first
     | (refine PW.seq fun K1 hK1 => ?_) | (refine PW.region fun K2 hK2 => ?_) | ((refine hK3 _ ?_; clear hK3)) | ((refine opsP_nil ?_; refine hK2 _ ?_; clear hK2)) 
     | (refine PW.skip ?_) | (refine PW.ret ?_) | ((refine hX1 ?_; clear hX1 hY1; try simp only [hb])) | ((refine hY1 ?_; clear hX1 hY1; try simp only [hb])) )))
    | (((first | (with_reducible refine wantB_intro (fun hb => ?_) (fun hb => ?_)) | (with_reducible refine condB_intro (fun hb => ?_) (fun hb => ?_))) <;> ((try (have hp := hb; simp only [PmH] at hp)); try simp only [hb, Bool.not_true, Bool.not_false])))
    | (((with_reducible refine cC_pure ?_ (pempty ?_ ?_) (fun _ => ?_)); (focus ((repeat' (first | (refine .cons ?_ ?_) | (exact .nil) | (exact .d _) | (refine .agg ?_) )); done))))
    | ((simp only [thenP]; (try ((repeat (fail_if_success (with_reducible refine hK1 _ ?_)); clear hK1); (with_reducible refine hK1 _ ?_); clear hK1))))
    | (((first | (((with_reducible refine opsP_cons fun K3 hK3 => ?_); simp only [wantP, opP, valP, Ur, Us])) | ((with_reducible refine PW.condM fun X1 Y1 hX1 hY1 => ?_)) | (skip)); simp (disch := omega) only [wantB_tt, wantB_ff, wantB_tf, wantB_ft, St.eval, St.put, upd_app, iniT_app, avOf, avOf1, nom, cellsA, AV.okv, loadA, lenP, binP, intsP, intP, nilP, unP, builtinP, isMapA, slA, U7, Ua, Ub, Uf, Ug, Uk, Ul, Un, Uo, Ut, Uv, Uz, V4, V9, Va, Ve, PmL, simprocAttr, PmT, retQ, resP, tupA, fg, condP, condB_t]; try (with_reducible (first | exact co_refl _ | exact co_own _ _ _ | exact co_nilsB | exact co_nilsL _ _)))))
  all_goals (try (refine co_eq ?_))
  all_goals (try (simp_all [spE, Rg.right]))
  all_goals (try (repeat' (first | (refine And.intro ?_ ?_) | split)))
  all_goals (try (first | rfl | omega))
set_option maxRecDepth 100000 in
theorem pown (x : Rg) (h1 : x.f.length ≤ 140737488355328) (h2 : x.t.length ≤ 140737488355328) : Pure Try.prog 61 [x.v] x.v := by
  refine pure_intro Try.func61 rfl rfl rfl 8 rfl (fun hh => ?_)
  repeat' (first
    | ((with_reducible (first
     | (refine PW.seq fun K1 hK1 => ?_) | (refine PW.region fun K2 hK2 => ?_) | ((refine hK3 _ ?_; clear hK3)) | ((refine opsP_nil ?_; refine hK2 _ ?_; clear hK2)) 
     | (refine PW.ret ?_) )))
    | (((with_reducible refine cC_pure ?_ (pcopied ?_ ?_ ?_ ?_) (fun _ => ?_)); (focus ((repeat' (first | (refine .cons ?_ ?_) | (exact .nil) | (exact .d _) | (refine .agg ?_) )); done))))
    | ((simp only [thenP]; (try ((repeat (fail_if_success (with_reducible refine hK1 _ ?_)); clear hK1); (with_reducible refine hK1 _ ?_); clear hK1))))
    | ((with_reducible omega))
    | (((first | (((with_reducible refine opsP_cons fun K3 hK3 => ?_); simp only [wantP, opP, valP, Ur, Us])) | (skip)); simp (disch := omega) only [St.eval, St.put, upd_app, iniT_app, nom, cellsA, AV.okv, loadA, putCells, U7, Ua, Ub, Uc, Ud, Uf, Ug, Uk, Ul, Un, Uo, Up, Ut, Uu, Uv, V9, Ve, Vr, PmL, simprocAttr, PmT, retQ, resP, tupA, fg, fgs]; try (with_reducible (first | exact co_refl _ | exact co_own _ _ _ | exact co_nilsB | exact co_nilsL _ _)))))
  all_goals (try (refine co_eq ?_))
  all_goals (try (simp_all [spE, spH, shF, shT, spM, Rg.same, Rg.right]))
  all_goals (try (repeat' (first | (refine And.intro ?_ ?_) | split)))
  all_goals (try (first | rfl | omega))
end PM
end Go.Proofs.Ytbeniogffhihlaa
