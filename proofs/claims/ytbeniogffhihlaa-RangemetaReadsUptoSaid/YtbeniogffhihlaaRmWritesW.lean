/- rangemeta: the walk of RangemetaWrites. -/
import Derived.Test.YtbeniogffhihlaaRmRead
import Derived.Test.YtbeniogffhihlaaRmAwake
import Derived.Test.YtbeniogffhihlaaRmLink
import Derived.Test.YtbeniogffhihlaaRmOpen
set_option linter.unusedVariables false
set_option linter.unusedSimpArgs false
namespace Go.Proofs.Ytbeniogffhihlaa
open Go.RowKit
set_option maxRecDepth 100000
namespace PM
theorem pAwake : Pure Try.prog 10 [] (.d (.bool true)) :=
  pure_of_calls Try.func10 rfl rfl fun G w vs hm ha => by
    unfold RelAs at ha
    subst ha
    exact (Rm.awake_any w).mono fun e w' ⟨he, hw⟩ => ⟨_, he, hw, by unfold RelA RelD; rfl⟩
theorem same_self (x : Rg) : x.same x = true := by simp [Rg.same]
theorem sameL_self : ∀ l : List Rg, sameL l l = true
  | [] => rfl
  | x :: l => by rw [sameL, same_self, sameL_self l]; rfl
set_option maxHeartbeats 4000000 in
theorem pWrites (l : List Rg) : Pure Try.prog 7 [rl l] (.d (.bool true)) := by
  refine pure_intro Try.func7 rfl rfl rfl 51 rfl (fun hh => ?_)
  have hR := pRBytes l
  by_cases h : okL l = true
  · rw [h] at hR
    simp only [↓reduceIte] at hR
    have hB := pBytesOk l h
    have hRd := pReadOk l h
    have hSm := pSameRanges l l
    rw [sameL_self] at hSm
    have hbt : Codec.numN l.length ++ rgsT l = bytesT l := rfl
    rw [hbt] at hRd
    repeat' (first
      | (with_reducible (first
       | refine PW.seq fun K1 hK1 => ?_ | refine PW.region fun K2 hK2 => ?_ | (refine hK3 _ ?_; clear hK3) | (refine opsP_nil ?_; refine hK2 _ ?_; clear hK2) | refine litX_old ?_ | refine litC_data ?_ | (refine Exists.intro _ (Exists.intro _ (And.intro rfl (And.intro rfl (And.intro ?_ ?_)))); focus omega) | (refine hK1 _ ?_; clear hK1) | refine nilC_intro (fun hz => ?_) ?_
       | refine PW.block ?_ | refine PW.skip ?_ | refine PW.exit ?_ | refine PW.ret ?_ | (refine hX1 ?_; clear hX1 hY1; try simp only [hb]) | (refine hY1 ?_; clear hX1 hY1; try simp only [hb]) | exact co_refl _ | exact co_own _ _ _ | exact co_nilsB | exact co_nilsL _ _))
      | ((first | (with_reducible refine wantB_intro (fun hb => ?_) (fun hb => ?_)) | (with_reducible refine condB_intro (fun hb => ?_) (fun hb => ?_))) <;> ((try (have hp := hb; simp only [PmH, beq_iff_eq, beq_eq_false_iff_ne, ne_eq] at hp)); try simp only [hb, Bool.not_true, Bool.not_false]))
      | ((with_reducible refine cC_pure ?_ (pAwake) (fun _ => ?_)); (focus ((repeat' constructor); done)))
      | ((with_reducible refine cC_pure ?_ (hB) (fun _ => ?_)); (focus ((repeat' constructor); done)))
      | ((with_reducible refine cC_pure ?_ (hR) (fun _ => ?_)); (focus ((repeat' constructor); done)))
      | ((with_reducible refine cC_pure ?_ (hRd) (fun _ => ?_)); (focus ((repeat' constructor); done)))
      | ((with_reducible refine cC_pure ?_ (hSm) (fun _ => ?_)); (focus ((repeat' constructor); done)))
      | ((with_reducible refine And.intro ?_ ?_); (focus (first | omega | (simp; done) | assumption)))
      | (simp only [thenP, blockP, Nat.reduceEqDiff, ↓reduceIte]; (try ((repeat (fail_if_success (with_reducible refine hK1 _ ?_)); clear hK1); (with_reducible refine hK1 _ ?_); clear hK1)))
      | (with_reducible omega)
      | (assumption)
      | ((first | ((with_reducible refine opsP_cons fun K3 hK3 => ?_); simp only [wantP, opP, valP, Uy, U0, Ur, Us, List.mapM_cons, List.mapM_nil, Uw, Ux]) | (with_reducible refine PW.condM fun X1 Y1 hX1 hY1 => ?_) | skip); simp (disch := omega) only [wantP, wantB_tt, wantB_ff, wantB_tf, wantB_ft, opP, valP, St.eval, St.put, upd_app, iniT_app, avOf, avOf1, nom, cellsA, AV.okv, loadA, lenP, binP, intsP, intP, strP, eqP, nilP, convP, unP, builtinP, bsz, U0, U1, dvEqC, eqAll, cellsV, maplenP, isMapA, isBsl, viewA, U2, U3, U4, U5, U6, slA, putCells, fillA, buildA, elA, dv1, U7, U8, U9, Ua, Ub, List.getElem?_nil, Uc, Ud, Ue, Uf, Ug, Uh, Ui, Uj, Uk, Ul, Um, Un, Uo, Up, Uq, Ur, Us, Ut, Uu, Uv, List.mapM_cons, List.mapM_nil, Uw, Ux, Uy, Uz, V0, V1, V2, V3, V4, V5, Option.bind_eq_bind, Option.pure_def, V6, V7, V8, V9, Va, Vb, Vc, Vd, Ve, Vt, Int.cast_ofNat_Int, ite_same, UU2, UU3, UU4, UU7, UU8, Vq, UU9, UUa, Vr, Vs, PmL, simprocAttr, PmT, retQ, resP, tupA, fg, fgs, condP, condB_t, condB_f]; try (with_reducible (first | exact co_refl _ | exact co_own _ _ _ | exact co_nilsB | exact co_nilsL _ _))))
  · have h := Bool.eq_false_iff.2 h
    rw [h] at hR
    simp only [Bool.false_eq_true, ↓reduceIte] at hR
    have hB := pBytesNo l h
    repeat' (first
      | (with_reducible (first
       | refine PW.seq fun K1 hK1 => ?_ | refine PW.region fun K2 hK2 => ?_ | (refine hK3 _ ?_; clear hK3) | (refine opsP_nil ?_; refine hK2 _ ?_; clear hK2) | refine litX_old ?_ | refine litC_data ?_ | (refine Exists.intro _ (Exists.intro _ (And.intro rfl (And.intro rfl (And.intro ?_ ?_)))); focus omega) | (refine hK1 _ ?_; clear hK1) | refine nilC_intro (fun hz => ?_) ?_
       | refine PW.block ?_ | refine PW.skip ?_ | refine PW.exit ?_ | refine PW.ret ?_ | (refine hX1 ?_; clear hX1 hY1; try simp only [hb]) | (refine hY1 ?_; clear hX1 hY1; try simp only [hb]) | exact co_refl _ | exact co_own _ _ _ | exact co_nilsB | exact co_nilsL _ _))
      | ((first | (with_reducible refine wantB_intro (fun hb => ?_) (fun hb => ?_)) | (with_reducible refine condB_intro (fun hb => ?_) (fun hb => ?_))) <;> ((try (have hp := hb; simp only [PmH, beq_iff_eq, beq_eq_false_iff_ne, ne_eq] at hp)); try simp only [hb, Bool.not_true, Bool.not_false]))
      | ((with_reducible refine cC_pure ?_ (pAwake) (fun _ => ?_)); (focus ((repeat' constructor); done)))
      | ((with_reducible refine cC_pure ?_ (hB) (fun _ => ?_)); (focus ((repeat' constructor); done)))
      | ((with_reducible refine cC_pure ?_ (hR) (fun _ => ?_)); (focus ((repeat' constructor); done)))
      | ((with_reducible refine And.intro ?_ ?_); (focus (first | omega | (simp; done) | assumption)))
      | (simp only [thenP, blockP, Nat.reduceEqDiff, ↓reduceIte]; (try ((repeat (fail_if_success (with_reducible refine hK1 _ ?_)); clear hK1); (with_reducible refine hK1 _ ?_); clear hK1)))
      | (with_reducible omega)
      | (assumption)
      | ((first | ((with_reducible refine opsP_cons fun K3 hK3 => ?_); simp only [wantP, opP, valP, Uy, U0, Ur, Us, List.mapM_cons, List.mapM_nil, Uw, Ux]) | (with_reducible refine PW.condM fun X1 Y1 hX1 hY1 => ?_) | skip); simp (disch := omega) only [wantP, wantB_tt, wantB_ff, wantB_tf, wantB_ft, opP, valP, St.eval, St.put, upd_app, iniT_app, avOf, avOf1, nom, cellsA, AV.okv, loadA, lenP, binP, intsP, intP, strP, eqP, nilP, convP, unP, builtinP, bsz, U0, U1, dvEqC, eqAll, cellsV, maplenP, isMapA, isBsl, viewA, U2, U3, U4, U5, U6, slA, putCells, fillA, buildA, elA, dv1, U7, U8, U9, Ua, Ub, List.getElem?_nil, Uc, Ud, Ue, Uf, Ug, Uh, Ui, Uj, Uk, Ul, Um, Un, Uo, Up, Uq, Ur, Us, Ut, Uu, Uv, List.mapM_cons, List.mapM_nil, Uw, Ux, Uy, Uz, V0, V1, V2, V3, V4, V5, Option.bind_eq_bind, Option.pure_def, V6, V7, V8, V9, Va, Vb, Vc, Vd, Ve, Vt, Int.cast_ofNat_Int, ite_same, UU2, UU3, UU4, UU7, UU8, Vq, UU9, UUa, Vr, Vs, PmL, simprocAttr, PmT, retQ, resP, tupA, fg, fgs, condP, condB_t, condB_f]; try (with_reducible (first | exact co_refl _ | exact co_own _ _ _ | exact co_nilsB | exact co_nilsL _ _))))
end PM
open PM in
theorem Rm.writes_walk (v : Value) (l : List Rm.RangeD) (w : World) (h : Rm.IsRgs w v l) : Calls Try.prog 7 #[v] w (Ret (.bool true) w) := by
  have hc := calls_of_pure (vs := [v]) Try.func7 rfl rfl (pWrites (l.map toRg)) (.cons (rgs_rel h) .nil)
  refine hc.mono fun e w' ⟨v', G', k1, k2, k3, k4⟩ => ⟨?_, k2⟩
  rw [k1, k4.bool]
end Go.Proofs.Ytbeniogffhihlaa
