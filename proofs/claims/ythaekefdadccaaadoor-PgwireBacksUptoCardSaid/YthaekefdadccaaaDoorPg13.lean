/- pgwire in the abstract: a server's message as bytes: small parts. -/
import Derived.Test.YthaekefdadccaaaDoorPg12
import Derived.Test.YthaekefdadccaaaDoorPgB
import Derived.Test.YthaekefdadccaaaDoorPgCat
namespace Go.Proofs.YthaekefdadccaaaDoor
open Go.RowKit
namespace PM
set_option maxRecDepth 100000 in
/-- a tag, a length -/
theorem pBig4t (t n : Int) : PFun Tryd.prog 36 [.own 0 1 [[.int .u8 t]], .d (.int .i64 n), .d (.int .i64 4)] ⟨[], [some ⟨5, 1, 1⟩]⟩ (.own 0 1 (encB (t :: big4 n))) ⟨[], [some ⟨5, 1, (t :: big4 n).length⟩]⟩ := pBig4o [t] n (by simp)
theorem put_bad {m : Back} {may : Bool} {long : Int} {body : List Int} (h : (may && m.only.like m) = false) : Co (.tup [.nils, .d (.int .i64 230)]) (.tup [bs (putEnd m may long body).1, .d (.int .i64 (putEnd m may long body).2)]) := by
  have e : putEnd m may long body = ([], 230) := if_pos h
  rw [e]
  exact co_tup (cos_cons co_nilsB (cos_cons (co_refl _) cos_nil))
theorem put_ok {m : Back} {may : Bool} {long : Int} {body : List Int} (h : (may && m.only.like m) = true) (hl : long ≤ 1073741820) (hb : body.length ≤ 1073741820) : putEnd m may long body = (tagOf m.kind :: (big4 (body.length + 4) ++ body), 0) := by
  unfold putEnd
  rw [h, if_neg (by decide), if_neg (by split <;> omega)]
set_option maxRecDepth 100000 in
theorem pTags (k : Int) (h : 1 ≤ k ∧ k ≤ 9) : Pure Tryd.prog 45 [.d (.int .i64 k)] (.d (.int .u8 (tagOf k))) := by
  refine pure_intro Tryd.func45 rfl rfl rfl 5 rfl (fun hh => ?_)
  have hk : k = 1 ∨ k = 2 ∨ k = 3 ∨ k = 4 ∨ k = 5 ∨ k = 6 ∨ k = 7 ∨ k = 8 ∨ k = 9 := by omega
  rcases hk with rfl | rfl | rfl | rfl | rfl | rfl | rfl | rfl | rfl
  all_goals
    repeat' (first
      | (with_reducible (first
        | refine PW.seq fun K1 hK1 => ?_
        | refine PW.region fun K2 hK2 => ?_
        | (refine hK3 _ ?_; clear hK3)
        | (refine opsP_nil ?_; refine hK2 _ ?_; clear hK2)
        | refine litX_old ?_
        | refine litC_data ?_
        | (refine Exists.intro _ (Exists.intro _ (And.intro rfl (And.intro rfl (And.intro ?_ ?_)))); focus omega)
        | (refine hK1 _ ?_; clear hK1)
        | refine nilC_intro (fun hz => ?_) ?_
        | refine PW.block ?_
        | refine PW.skip ?_
        | refine PW.exit ?_
        | refine PW.ret ?_
        | (refine hX1 ?_; clear hX1 hY1; try simp only [hb])
        | (refine hY1 ?_; clear hX1 hY1; try simp only [hb])
        | exact co_refl _
        | exact co_own _ _ _
        | exact co_nilsB
        | exact co_nilsL _ _))
      | ((first | (with_reducible refine wantB_intro (fun hb => ?_) (fun hb => ?_)) | (with_reducible refine condB_intro (fun hb => ?_) (fun hb => ?_))) <;> ((try (have hp := hb; simp only [Bool.and_eq_true, Bool.or_eq_true, Bool.not_eq_true', Bool.not_eq_false', Bool.and_eq_false_iff, Bool.or_eq_false_iff, Bool.not_eq_eq_eq_not, Bool.not_true, Bool.not_false, decide_eq_true_eq, decide_eq_false_iff_not, Int.not_lt, Int.not_le, beq_iff_eq, beq_eq_false_iff_ne, ne_eq] at hp)); try simp only [hb, Bool.not_true, Bool.not_false]))
      | ((with_reducible refine And.intro ?_ ?_); (focus (first | omega | (simp; done) | assumption)))
      | (simp only [thenP]; (try ((repeat (fail_if_success (with_reducible refine hK1 _ ?_)); clear hK1); (with_reducible refine hK1 _ ?_); clear hK1)))
      | (with_reducible omega)
      | (assumption)
      | ((first | ((with_reducible refine opsP_cons fun K3 hK3 => ?_); simp only [wantP, opP, valP]) | (with_reducible refine PW.condM fun X1 Y1 hX1 hY1 => ?_) | skip); simp (disch := omega) only [St.eval, St.put, upd_app, iniT_app, avOf, avOf1, wf_u8, nom, bsz, U1, UInt8.reduceToNat, U7, U8, Ua, Ub, Uf, Ug, Ur, Us, Nat.reduceLT, Nat.reduceLeDiff, Nat.reduceAdd, V9, Ve, Int.reduceLE, Int.reduceToNat, Int.cast_ofNat_Int, Vu, Vf, ↓reduceIte, reduceCtorEq, Vw, Vs, Tryd.underlying9, tagOf, retQ, resP, tupA, fg]; try (with_reducible (first | exact co_refl _ | exact co_own _ _ _ | exact co_nilsB | exact co_nilsL _ _))))
    all_goals exact co_refl _
set_option maxRecDepth 100000 in
theorem pStated (s : List Int) : Pure Tryd.prog 42 [.d (.str s)] (.d (.bool (stated s))) := by
  refine pure_intro Tryd.func42 rfl rfl rfl 11 rfl (fun hh => ?_)
  have hr := (has_str (hh (.d (.str s)) (by simp))).1
  have ht := trim_stated hr
  have hT := pTrim s alnum (by decide) (by decide)
  repeat' (first
    | (with_reducible (first
      | refine PW.seq fun K1 hK1 => ?_
      | refine PW.region fun K2 hK2 => ?_
      | (refine hK3 _ ?_; clear hK3)
      | (refine opsP_nil ?_; refine hK2 _ ?_; clear hK2)
      | refine litX_old ?_
      | refine litC_data ?_
      | (refine Exists.intro _ (Exists.intro _ (And.intro rfl (And.intro rfl (And.intro ?_ ?_)))); focus omega)
      | (refine hK1 _ ?_; clear hK1)
      | refine nilC_intro (fun hz => ?_) ?_
      | refine PW.block ?_
      | refine PW.skip ?_
      | refine PW.exit ?_
      | refine PW.ret ?_
      | (refine hX1 ?_; clear hX1 hY1; try simp only [hb])
      | (refine hY1 ?_; clear hX1 hY1; try simp only [hb])
      | exact co_refl _
      | exact co_own _ _ _
      | exact co_nilsB
      | exact co_nilsL _ _))
    | ((first | (with_reducible refine wantB_intro (fun hb => ?_) (fun hb => ?_)) | (with_reducible refine condB_intro (fun hb => ?_) (fun hb => ?_))) <;> ((try (have hp := hb; simp only [Bool.and_eq_true, Bool.or_eq_true, Bool.not_eq_true', Bool.not_eq_false', Bool.and_eq_false_iff, Bool.or_eq_false_iff, Bool.not_eq_eq_eq_not, Bool.not_true, Bool.not_false, decide_eq_true_eq, decide_eq_false_iff_not, Int.not_lt, Int.not_le, beq_iff_eq, beq_eq_false_iff_ne, ne_eq] at hp)); try simp only [hb, Bool.not_true, Bool.not_false]))
    | ((with_reducible refine callP_pure ?_ ?_ (hT) (fun _ => ?_)); (focus (repeat' (first | exact cos_refl _ | (refine cos_cons ?_ ?_) | exact co_refl _ | exact co_own _ _ _ | exact co_nilsB | exact co_nilsL _ _ | exact co_nils _ | (refine co_agg ?_) | (refine co_fn ?_)))); (focus (simp only [purAs, purA, Bool.and_self, Bool.and_true])))
    | ((with_reducible refine And.intro ?_ ?_); (focus (first | omega | (simp; done) | assumption)))
    | (simp only [thenP]; (try ((repeat (fail_if_success (with_reducible refine hK1 _ ?_)); clear hK1); (with_reducible refine hK1 _ ?_); clear hK1)))
    | (with_reducible omega)
    | (assumption)
    | ((first | ((with_reducible refine opsP_consMt (d := ?_) (dj := ?_) (b := ?_) (r := ?_) ?_ ?_ (fun hb => ?_) (fun K3 hK3 => ?_)); rotate_left 3; (focus exact rfl); (focus (simp only [upd_app, Nat.reduceEqDiff, ↓reduceIte]; exact rfl))) | ((with_reducible refine opsP_consMf (d := ?_) (dj := ?_) (b := ?_) (r := ?_) ?_ ?_ (fun hb => ?_) (fun K3 hK3 => ?_)); rotate_left 3; (focus exact rfl); (focus (simp only [St.put, upd_app, iniT_app, Nat.reduceEqDiff, ↓reduceIte, mrg_t, mrg_f]; exact rfl))) | ((with_reducible refine opsP_consNt (d := ?_) (dj := ?_) (b := ?_) (r := ?_) (c := ?_) ?_ ?_ (fun hb => ?_) (fun K3 hK3 => ?_)); rotate_left 4; (focus exact rfl); (focus (simp only [St.put, upd_app, iniT_app, Nat.reduceEqDiff, ↓reduceIte, mrg_t, mrg_f]; exact rfl))) | ((with_reducible refine opsP_consNf (d := ?_) (dj := ?_) (b := ?_) (r := ?_) (c := ?_) ?_ ?_ (fun hb => ?_) (fun K3 hK3 => ?_)); rotate_left 4; (focus exact rfl); (focus (simp only [St.put, upd_app, iniT_app, Nat.reduceEqDiff, ↓reduceIte, mrg_t, mrg_f]; exact rfl)))); (focus (simp only [opP, valP, List.map_cons, List.map_nil]; (try (simp only [Bool.and_eq_true, Bool.not_eq_true'] at hb)); (try (have hp := hb; simp only [decide_eq_true_eq] at hp)); simp (disch := omega) only [St.eval, upd_app, iniT_app, avOf, avOf1, binP, strP, nilP, bsz, U1, UInt8.reduceToNat, slA, U7, Uf, Ug, Ur, Us, Uv, Nat.reduceLeDiff, Nat.reduceAdd, V9, Int.cast_ofNat_Int, ↓reduceIte, reduceCtorEq, Vx, Vz, UU0, mrg_t, hb]; (repeat' (first | (exact rfl) | ((refine And.intro ?_ ?_); (focus (exact rfl)); (exact rfl)) | (refine And.intro (by first | omega | (simp; done) | assumption) ?_) | ((with_reducible refine callP_pure ?_ ?_ (hT) (fun _ => ?_)); (focus (repeat' (first | exact cos_refl _ | (refine cos_cons ?_ ?_) | exact co_refl _ | exact co_own _ _ _ | exact co_nilsB | exact co_nilsL _ _ | exact co_nils _ | (refine co_agg ?_) | (refine co_fn ?_)))); (focus (simp only [purAs, purA, Bool.and_self]))))); done)); (try simp only [St.put, Nat.reduceLT, ↓reduceIte]))
    | ((first | ((with_reducible refine opsP_cons fun K3 hK3 => ?_); simp only [wantP, opP, valP, List.map_cons, List.map_nil]) | (with_reducible refine PW.condM fun X1 Y1 hX1 hY1 => ?_) | skip); simp (disch := omega) only [St.eval, St.put, upd_app, iniT_app, avOf, avOf1, wf_i64, nom, lenP, binP, intsP, intP, nilP, builtinP, isMapA, slA, U7, Nat.reduceLT, Nat.reduceEqDiff, Ve, Int.reduceLE, Int.reduceNeg, Vu, Vf, ↓reduceIte, Vp, reduceCtorEq, Vw, Vz, UU0, Tryd.underlying9, pick_and, retQ, resP, tupA, fg]; try (with_reducible (first | exact co_refl _ | exact co_own _ _ _ | exact co_nilsB | exact co_nilsL _ _))))
  all_goals
    refine co_eq (congrArg (fun b => AV.d (.bool b)) ?_)
    unfold stated
    rw [Bool.eq_iff_iff]
    simp only [Bool.and_eq_true, decide_eq_true_eq, ht]
    exact ⟨fun ⟨a, b⟩ => ⟨by omega, b⟩, fun ⟨a, b⟩ => ⟨by omega, b⟩⟩
set_option maxRecDepth 100000 in
set_option maxHeartbeats 4000000 in
theorem pSame (a b : Back) : Pure Tryd.prog 43 [a.v, b.v] (.d (.bool (a.like b))) := by
  refine pure_intro Tryd.func43 rfl rfl rfl 77 rfl (fun hh => ?_)
  obtain ⟨xk, xn, xt, xp, xs, xu, xf, xc, xa, xg⟩ := a
  obtain ⟨yk, yn, yt, yp, ys, yu, yf, yc, ya, yg⟩ := b
  repeat' (first
    | (with_reducible (first
      | refine PW.seq fun K1 hK1 => ?_
      | (refine PW.region fun K2 hK2 => ?_; try simp only [List.append_eq, List.cons_append, List.nil_append])
      | (refine hK3 _ ?_; clear hK3)
      | (refine opsP_nil ?_; refine hK2 _ ?_; clear hK2)
      | refine litX_old ?_
      | refine litC_data ?_
      | (refine Exists.intro _ (Exists.intro _ (And.intro rfl (And.intro rfl (And.intro ?_ ?_)))); focus omega)
      | (refine hK1 _ ?_; clear hK1)
      | refine nilC_intro (fun hz => ?_) ?_
      | refine PW.block ?_
      | refine PW.skip ?_
      | refine PW.exit ?_
      | refine PW.ret ?_
      | (refine hX1 ?_; clear hX1 hY1; try simp only [hb])
      | (refine hY1 ?_; clear hX1 hY1; try simp only [hb])
      | exact co_refl _
      | exact co_own _ _ _
      | exact co_nilsB
      | exact co_nilsL _ _))
    | ((first | (with_reducible refine wantB_intro (fun hb => ?_) (fun hb => ?_)) | (with_reducible refine condB_intro (fun hb => ?_) (fun hb => ?_))) <;> ((try (have hp := hb; simp only [Bool.and_eq_true, Bool.or_eq_true, Bool.not_eq_true', Bool.not_eq_false', Bool.and_eq_false_iff, Bool.or_eq_false_iff, Bool.not_eq_eq_eq_not, Bool.not_true, Bool.not_false, decide_eq_true_eq, decide_eq_false_iff_not, Int.not_lt, Int.not_le, beq_iff_eq, beq_eq_false_iff_ne, ne_eq] at hp)); try simp only [hb, Bool.not_true, Bool.not_false]))
    | ((with_reducible refine And.intro ?_ ?_); (focus (first | omega | (simp; done) | assumption)))
    | (simp only [thenP]; (try ((repeat (fail_if_success (with_reducible refine hK1 _ ?_)); clear hK1); (with_reducible refine hK1 _ ?_); clear hK1)))
    | (with_reducible omega)
    | (assumption)
    | ((first | ((with_reducible refine opsP_consMt (d := ?_) (dj := ?_) (b := ?_) (r := ?_) ?_ ?_ (fun hb => ?_) (fun K3 hK3 => ?_)); rotate_left 3; (focus exact rfl); (focus (simp only [upd_app, Nat.reduceEqDiff, ↓reduceIte]; exact rfl))) | ((with_reducible refine opsP_consMf (d := ?_) (dj := ?_) (b := ?_) (r := ?_) ?_ ?_ (fun hb => ?_) (fun K3 hK3 => ?_)); rotate_left 3; (focus exact rfl); (focus (simp only [St.put, upd_app, iniT_app, Nat.reduceEqDiff, ↓reduceIte, mrg_t, mrg_f]; exact rfl))) | ((with_reducible refine opsP_consNt (d := ?_) (dj := ?_) (b := ?_) (r := ?_) (c := ?_) ?_ ?_ (fun hb => ?_) (fun K3 hK3 => ?_)); rotate_left 4; (focus exact rfl); (focus (simp only [St.put, upd_app, iniT_app, Nat.reduceEqDiff, ↓reduceIte, mrg_t, mrg_f]; exact rfl))) | ((with_reducible refine opsP_consNf (d := ?_) (dj := ?_) (b := ?_) (r := ?_) (c := ?_) ?_ ?_ (fun hb => ?_) (fun K3 hK3 => ?_)); rotate_left 4; (focus exact rfl); (focus (simp only [St.put, upd_app, iniT_app, Nat.reduceEqDiff, ↓reduceIte, mrg_t, mrg_f]; exact rfl)))); (focus (simp only [opP, valP, List.map_cons, List.map_nil]; (try (simp only [Bool.and_eq_true] at hb)); (try (have hp := hb; simp only [decide_eq_true_eq, beq_iff_eq] at hp)); simp (disch := omega) only [St.eval, upd_app, loadA, lenP, binP, intsP, intP, strP, eqP, nilP, builtinP, isMapA, slA, encL_len, Ua, Ub, Uk, Ul, Nat.reduceLT, Nat.reduceEqDiff, V9, Ve, Vf, ↓reduceIte, Vp, Vw, Vx, Vz, UU0, sz3, sz4, Tryd.underlying4, sz5, sz9, sz32, Tryd.underlying32, sz33, Tryd.underlying33, fi35_1, fi35_2, fi35_3, fi35_4, fi35_5, fi35_6, fi35_7, fi35_8, fi35_9, mrg_t, hb]; (repeat' (first | (exact rfl) | ((refine And.intro ?_ ?_); (focus (exact rfl)); (exact rfl)) | (refine And.intro (by first | omega | (simp; done) | assumption) ?_))); done)); (try simp only [St.put, Nat.reduceLT, ↓reduceIte]))
    | ((first | ((with_reducible refine opsP_cons fun K3 hK3 => ?_); simp only [wantP, opP, valP]) | (with_reducible refine PW.condM fun X1 Y1 hX1 hY1 => ?_) | skip); simp (disch := omega) only [St.eval, St.put, upd_app, iniT_app, avOf, avOf1, nom, cellsA, AV.okv, loadA, binP, intsP, intP, nilP, slA, U7, U8, Ua, Ub, Uf, Ug, Uk, Ur, Us, Ut, Uu, Nat.reduceLT, Nat.reduceEqDiff, V9, Va, Ve, ↓reduceIte, Vw, Vz, UU0, sz3, fi35_0, Back.v, Back.c, pick_and, retQ, resP, tupA, fg]; try (with_reducible (first | exact co_refl _ | exact co_own _ _ _ | exact co_nilsB | exact co_nilsL _ _))))
  refine co_eq (congrArg (fun b => AV.d (.bool b)) ?_)
  unfold Back.like
  have e1 : decide ((xf.length : Int) = yf.length) = decide (xf.length = yf.length) := by rw [Bool.eq_iff_iff]; simp only [decide_eq_true_eq]; omega
  have e2 : decide ((xc.length : Int) = yc.length) = decide (xc.length = yc.length) := by rw [Bool.eq_iff_iff]; simp only [decide_eq_true_eq]; omega
  have e3 : (xg == yg) = decide (xg = yg) := by cases xg <;> cases yg <;> rfl
  simp only [e1, e2, e3, Bool.and_assoc]
set_option maxRecDepth 100000 in
theorem pSaidSyntax : Pure Tryd.prog 51 [.d (.int .i64 174)] (.agg [.d (.str [52, 50, 54, 48, 49]), .d (.str [115, 121, 110, 116, 97, 120, 32, 101, 114, 114, 111, 114])]) := by
  refine pure_intro Tryd.func51 rfl rfl rfl 58 rfl (fun hh => ?_)
  repeat' (first
    | (with_reducible (first
      | refine PW.seq fun K1 hK1 => ?_
      | refine PW.region fun K2 hK2 => ?_
      | (refine hK3 _ ?_; clear hK3)
      | (refine opsP_nil ?_; refine hK2 _ ?_; clear hK2)
      | refine litX_old ?_
      | refine litC_data ?_
      | (refine Exists.intro _ (Exists.intro _ (And.intro rfl (And.intro rfl (And.intro ?_ ?_)))); focus omega)
      | (refine hK1 _ ?_; clear hK1)
      | refine nilC_intro (fun hz => ?_) ?_
      | refine PW.block ?_
      | refine PW.skip ?_
      | refine PW.exit ?_
      | refine PW.ret ?_
      | (refine hX1 ?_; clear hX1 hY1; try simp only [hb])
      | (refine hY1 ?_; clear hX1 hY1; try simp only [hb])
      | exact co_refl _
      | exact co_own _ _ _
      | exact co_nilsB
      | exact co_nilsL _ _))
    | ((first | (with_reducible refine wantB_intro (fun hb => ?_) (fun hb => ?_)) | (with_reducible refine condB_intro (fun hb => ?_) (fun hb => ?_))) <;> ((try (have hp := hb; simp only [decide_eq_true_eq, decide_eq_false_iff_not] at hp)); try simp only [hb, Bool.not_true, Bool.not_false]))
    | ((with_reducible refine And.intro ?_ ?_); (focus (first | omega | (simp; done) | assumption)))
    | (simp only [thenP, blockP]; (try ((repeat (fail_if_success (with_reducible refine hK1 _ ?_)); clear hK1); (with_reducible refine hK1 _ ?_); clear hK1)))
    | (with_reducible omega)
    | (assumption)
    | ((first | ((with_reducible refine opsP_cons fun K3 hK3 => ?_); simp only [wantP, opP, valP, List.map_cons, List.map_nil]) | (with_reducible refine PW.condM fun X1 Y1 hX1 hY1 => ?_) | skip); simp (disch := omega) only [St.eval, St.put, upd_app, iniT_app, avOf, avOf1, wf_i64, nom, cellsA, AV.okv, loadA, binP, intsP, intP, nilP, bsz, U1, UInt8.reduceToNat, slA, putCells, fillA, buildA, U7, Ua, Ub, Uc, Ud, Uf, Ug, Uk, Un, Up, Ur, Us, Ut, Nat.reduceLT, Nat.reduceLeDiff, Nat.reduceAdd, Nat.reduceEqDiff, V9, Vd, Vt, Int.reduceLE, Int.reduceNeg, Int.cast_ofNat_Int, Vu, Vf, ↓reduceIte, reduceCtorEq, Vw, Vz, UU0, UU2, UU3, Vr, sz88, ze88, pl88, retQ, resP, tupA, fg, fgs, condP, condB_t]; try (with_reducible (first | exact co_refl _ | exact co_own _ _ _ | exact co_nilsB | exact co_nilsL _ _))))
set_option maxRecDepth 100000 in
theorem pStateSyntax : Pure Tryd.prog 22 [.d (.int .i64 174)] (.d (.str [52, 50, 54, 48, 49])) := by
  refine pure_intro Tryd.func22 rfl rfl rfl 6 rfl (fun hh => ?_)
  repeat' (first
    | (with_reducible (first
      | refine PW.seq fun K1 hK1 => ?_
      | refine PW.region fun K2 hK2 => ?_
      | (refine hK3 _ ?_; clear hK3)
      | (refine opsP_nil ?_; refine hK2 _ ?_; clear hK2)
      | refine litX_old ?_
      | refine litC_data ?_
      | (refine Exists.intro _ (Exists.intro _ (And.intro rfl (And.intro rfl (And.intro ?_ ?_)))); focus omega)
      | (refine hK1 _ ?_; clear hK1)
      | refine nilC_intro (fun hz => ?_) ?_
      | refine PW.block ?_
      | refine PW.skip ?_
      | refine PW.exit ?_
      | refine PW.ret ?_
      | (refine hX1 ?_; clear hX1 hY1; try simp only [hb])
      | (refine hY1 ?_; clear hX1 hY1; try simp only [hb])
      | exact co_refl _
      | exact co_own _ _ _
      | exact co_nilsB
      | exact co_nilsL _ _))
    | ((first | (with_reducible refine wantB_intro (fun hb => ?_) (fun hb => ?_)) | (with_reducible refine condB_intro (fun hb => ?_) (fun hb => ?_))) <;> ((try (have hp := hb; simp only [Bool.and_eq_true, Bool.or_eq_true, Bool.not_eq_true', Bool.not_eq_false', Bool.and_eq_false_iff, Bool.or_eq_false_iff, Bool.not_eq_eq_eq_not, Bool.not_true, Bool.not_false, decide_eq_true_eq, decide_eq_false_iff_not, Int.not_lt, Int.not_le, beq_iff_eq, beq_eq_false_iff_ne, ne_eq] at hp)); try simp only [hb, Bool.not_true, Bool.not_false]))
    | ((with_reducible refine callP_pure ?_ ?_ (pSaidSyntax) (fun _ => ?_)); (focus (repeat' (first | exact cos_refl _ | (refine cos_cons ?_ ?_) | exact co_refl _ | exact co_own _ _ _ | exact co_nilsB | exact co_nilsL _ _ | exact co_nils _ | (refine co_agg ?_) | (refine co_fn ?_)))); (focus (simp only [purAs, purA, Bool.and_self])))
    | ((with_reducible refine And.intro ?_ ?_); (focus (first | omega | (simp; done) | assumption)))
    | (simp only [thenP]; (try ((repeat (fail_if_success (with_reducible refine hK1 _ ?_)); clear hK1); (with_reducible refine hK1 _ ?_); clear hK1)))
    | (with_reducible omega)
    | (assumption)
    | ((first | ((with_reducible refine opsP_cons fun K3 hK3 => ?_); simp only [wantP, opP, valP, List.map_cons, List.map_nil]) | (with_reducible refine PW.condM fun X1 Y1 hX1 hY1 => ?_) | skip); simp (disch := omega) only [St.eval, St.put, upd_app, iniT_app, avOf, avOf1, nom, loadA, bsz, U1, U7, Ug, Uk, Us, Uv, Nat.reduceLT, Nat.reduceLeDiff, Ve, ↓reduceIte, reduceCtorEq, sz9, fi88_0, retQ, resP, tupA, fg]; try (with_reducible (first | exact co_refl _ | exact co_own _ _ _ | exact co_nilsB | exact co_nilsL _ _))))
end PM
end Go.Proofs.YthaekefdadccaaaDoor
