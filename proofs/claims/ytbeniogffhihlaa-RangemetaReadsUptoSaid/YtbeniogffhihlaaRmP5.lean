/- rangemeta in the abstract: the readers. -/
import Derived.Test.YtbeniogffhihlaaRmP4
set_option linter.unusedVariables false
set_option linter.unusedSimpArgs false
namespace Go.Proofs.Ytbeniogffhihlaa
open Go.RowKit
namespace PM
theorem takeN_len (l : List Int) : 0 ≤ (Codec.takeN l).1 ∧ 0 ≤ (Codec.takeN l).2.1 ∧ (Codec.takeN l).2.1 ≤ l.length := by
  unfold Codec.takeN
  split
  · split <;> simp
  · rename_i e he
    have hlt := (List.findIdx?_eq_some_iff_getElem.1 he).1
    rw [List.length_take] at hlt
    split
    · simp
    · have := (Codec.v128_rng (l.take (e + 1))).1
      simp only; omega
theorem subM_box {e : TypeId} {cs cs' : List AV} {bx : List (Option (TypeId × List AV))} {rw_ : List (Option RowI)} (h : Cos (fgs 1 0 cs) cs') : SubM ⟨some (e, cs) :: bx, rw_⟩ ⟨[some (e, cs')], []⟩ := by
  refine ⟨by simp, by simp, fun j e1 cs1 hj => ?_, fun j i hj => by simp at hj⟩
  cases j with
  | zero =>
    simp at hj
    obtain ⟨rfl, rfl⟩ := hj
    exact ⟨cs, rfl, h⟩
  | succ j => simp at hj
def numS (b : List Int) (bad : Bool) : Int × List Int × Bool :=
  if (Codec.takeN b).2.2 ≠ 0 ∨ 9007199254740991 < (Codec.takeN b).1 then (0, [], true) else ((Codec.takeN b).1, b.drop (Codec.takeN b).2.1.toNat, bad)
def textS (b : List Int) (bad : Bool) : List Int × List Int × Bool :=
  if ((numS b bad).2.1.length : Int) < (numS b bad).1 then ([], [], true) else ((numS b bad).2.1.take (numS b bad).1.toNat, (numS b bad).2.1.drop (numS b bad).1.toNat, (numS b bad).2.2)
abbrev rdM (b : List Int) (bad : Bool) : Mem := ⟨[some (103, [bs b, .d (.bool bad)])], []⟩
set_option maxRecDepth 100000 in
theorem pnumber (b : List Int) (bad : Bool) : PFun Try.prog 67 [.ptr 0 0] (rdM b bad) (.d (.int .i64 (numS b bad).1)) (rdM (numS b bad).2.1 (numS b bad).2.2) := by
  refine fun_intro Try.func67 rfl rfl rfl 38 rfl ⟨Nat.le_refl _, Nat.le_refl _⟩ (fun hh => ?_)
  obtain ⟨hl0, hl1, hl2⟩ := takeN_len b
  repeat' (first
    | (with_reducible (first
     | refine PW.seq fun K1 hK1 => ?_ | refine PW.region fun K2 hK2 => ?_ | (refine hK3 _ ?_; clear hK3) | (refine opsP_nil ?_; refine hK2 _ ?_; clear hK2) | refine litX_old ?_ | refine litC_data ?_ | (refine Exists.intro _ (Exists.intro _ (And.intro rfl (And.intro rfl (And.intro ?_ ?_)))); focus omega) | (refine hK1 _ ?_; clear hK1) | refine nilC_intro (fun hz => ?_) ?_
     | refine PW.block ?_ | refine PW.skip ?_ | refine PW.exit ?_ | refine PW.ret ?_ | (refine hX1 ?_; clear hX1 hY1; try simp only [hb]) | (refine hY1 ?_; clear hX1 hY1; try simp only [hb]) | exact co_refl _ | exact co_own _ _ _ | exact co_nilsB | exact co_nilsL _ _))
    | ((first | (with_reducible refine wantB_intro (fun hb => ?_) (fun hb => ?_)) | (with_reducible refine condB_intro (fun hb => ?_) (fun hb => ?_))) <;> ((try (have hp := hb; simp only [PmH, beq_iff_eq, beq_eq_false_iff_ne, ne_eq] at hp)); try simp only [hb, Bool.not_true, Bool.not_false]))
    | ((with_reducible refine cC_pure ?_ (pTakeNumber ?_) (fun _ => ?_)); (focus ((repeat' (first | refine .cons ?_ ?_ | exact .nil | exact .d _ | exact .own _ _ _ | exact .nl | exact .nilsB | exact .nilsL _ _ | exact .nils _ | exact .cp _ | refine .agg ?_ | refine .fn ?_)); done)))
    | ((with_reducible refine And.intro ?_ ?_); (focus (first | omega | (simp; done) | assumption)))
    | (simp only [thenP, blockP, Nat.reduceEqDiff, ↓reduceIte]; (try ((repeat (fail_if_success (with_reducible refine hK1 _ ?_)); clear hK1); (with_reducible refine hK1 _ ?_); clear hK1)))
    | (with_reducible omega)
    | (assumption)
    | ((first | ((with_reducible refine opsP_cons fun K3 hK3 => ?_); simp only [wantP, opP, valP, Uy, U0, Ur, Us, List.mapM_cons, List.mapM_nil, Uw, Ux]) | (with_reducible refine PW.condM fun X1 Y1 hX1 hY1 => ?_) | skip); simp (disch := omega) only [wantP, wantB_tt, wantB_ff, wantB_tf, wantB_ft, opP, valP, St.eval, St.put, upd_app, iniT_app, avOf, avOf1, nom, cellsA, AV.okv, loadA, lenP, binP, intsP, intP, strP, eqP, nilP, convP, sliceP, boundLo, boundHi, unP, builtinP, bsz, U0, U1, dvEqC, eqAll, boundMx, cellsV, maplenP, isMapA, isBsl, viewA, U2, U3, U4, U5, U6, slA, putCells, fillA, buildA, elA, dv1, U7, U8, U9, Ua, Ub, List.getElem?_nil, Uc, Ud, Ue, Uf, Ug, Uh, Ui, Uj, Uk, Ul, Um, Un, Uo, Up, Uq, Ur, Us, Ut, Uu, Uv, List.mapM_cons, List.mapM_nil, Uw, Ux, Uy, Uz, V0, V1, V2, V3, V4, V5, Option.bind_eq_bind, Option.pure_def, V6, V7, V8, V9, Va, Vb, Vc, Vd, Ve, Vt, Int.cast_ofNat_Int, ite_same, UU2, UU3, UU4, UU7, UU8, Vq, UU9, UUa, Vr, Vs, PmL, simprocAttr, PmT, retQ, resP, tupA, fg, fgs, condP, condB_t, condB_f]; try (with_reducible (first | exact co_refl _ | exact co_own _ _ _ | exact co_nilsB | exact co_nilsL _ _))))
  · have e : numS b bad = (0, [], true) := if_pos (.inr (by simpa using hb))
    rw [e]
    exact ⟨co_refl _, subM_box (by simp only [fgs, fg]; exact cos_cons co_nilsB (cos_refl _))⟩
  · have h1 : (Codec.takeN b).2.2 = 0 := by simp_all
    have h2 : ¬ 9007199254740991 < (Codec.takeN b).1 := by simpa using hb
    have e : numS b bad = ((Codec.takeN b).1, b.drop (Codec.takeN b).2.1.toNat, bad) := if_neg (by omega)
    rw [e]
    exact ⟨co_refl _, subM_box (by simp only [fgs, fg]; exact cos_refl _)⟩
  · have e : numS b bad = (0, [], true) := if_pos (.inl (by simpa using hb))
    rw [e]
    exact ⟨co_refl _, subM_box (by simp only [fgs, fg]; exact cos_cons co_nilsB (cos_refl _))⟩
theorem numS_nn (b : List Int) (bad : Bool) : 0 ≤ (numS b bad).1 ∧ (numS b bad).2.1.length ≤ b.length := by
  obtain ⟨hl0, hl1, hl2⟩ := takeN_len b
  unfold numS
  split
  · simp
  · simp; omega
set_option maxRecDepth 100000 in
theorem ptext (b : List Int) (bad : Bool) (hb : b.length ≤ 140737488355328) : PFun Try.prog 68 [.ptr 0 0] (rdM b bad) (bs (textS b bad).1) (rdM (textS b bad).2.1 (textS b bad).2.2) := by
  refine fun_intro Try.func68 rfl rfl rfl 37 rfl ⟨Nat.le_refl _, Nat.le_refl _⟩ (fun hh => ?_)
  obtain ⟨hl0, hl1⟩ := numS_nn b bad
  have hlt : ∀ n : Nat, (List.take n (numS b bad).2.1).length ≤ 140737488355328 := fun n => by rw [List.length_take]; omega
  by_cases hq : ((numS b bad).2.1.length : Int) < (numS b bad).1
  · have hq' := eq_true hq
    repeat' (first
      | (with_reducible (first
       | refine PW.seq fun K1 hK1 => ?_ | refine PW.region fun K2 hK2 => ?_ | (refine hK3 _ ?_; clear hK3) | (refine opsP_nil ?_; refine hK2 _ ?_; clear hK2) | refine litX_old ?_ | refine litC_data ?_ | (refine Exists.intro _ (Exists.intro _ (And.intro rfl (And.intro rfl (And.intro ?_ ?_)))); focus omega) | (refine hK1 _ ?_; clear hK1) | refine nilC_intro (fun hz => ?_) ?_
       | refine PW.block ?_ | refine PW.skip ?_ | refine PW.exit ?_ | refine PW.ret ?_ | (refine hX1 ?_; clear hX1 hY1; try simp only [hb]) | (refine hY1 ?_; clear hX1 hY1; try simp only [hb]) | exact co_refl _ | exact co_own _ _ _ | exact co_nilsB | exact co_nilsL _ _))
      | ((first | (with_reducible refine wantB_intro (fun hb => ?_) (fun hb => ?_)) | (with_reducible refine condB_intro (fun hb => ?_) (fun hb => ?_))) <;> ((try (have hp := hb; simp only [PmH, beq_iff_eq, beq_eq_false_iff_ne, ne_eq] at hp)); try simp only [hb, Bool.not_true, Bool.not_false]))
      | ((with_reducible refine cC_recv (cs := ?_) ?_ ?_ ?_ ?_ (pnumber ?_ ?_) (fun _ => ?_)); rotate_left 1; (focus (first | exact rfl | (simp only [Ua, Ub]; rfl))); (focus ((repeat' (first | refine .cons ?_ ?_ | exact .nil | exact .d _ | exact .own _ _ _ | exact .nl | exact .nilsB | exact .nilsL _ _ | exact .nils _ | exact .cp _ | refine .agg ?_ | refine .fn ?_ | refine .rf _ ?_)) <;> (simp only [purAs, purA, Vf, Bool.and_self, hq']; done))); (focus ((repeat' (first | refine .cons ?_ ?_ | exact .nil | exact .d _ | exact .own _ _ _ | exact .nl | exact .nilsB | exact .nilsL _ _ | exact .nils _ | exact .cp _ | refine .agg ?_ | refine .fn ?_ | refine .rf _ ?_)) <;> (simp only [purAs, purA, Vf, Bool.and_self, hq']; done))); (focus (simp only [purAs, purA, Vf, Bool.and_self, hq']; done)))
      | ((with_reducible refine cC_pure ?_ (pClone ?_ ?_) (fun _ => ?_)); (focus ((repeat' (first | refine .cons ?_ ?_ | exact .nil | exact .d _ | exact .own _ _ _ | exact .nl | exact .nilsB | exact .nilsL _ _ | exact .nils _ | exact .cp _ | refine .agg ?_ | refine .fn ?_ | refine .rf _ ?_)) <;> (simp only [purAs, purA, Vf, Bool.and_self, hq']; done))))
      | ((with_reducible refine And.intro ?_ ?_); (focus (first | omega | (simp; done) | assumption)))
      | (simp only [thenP, blockP, Nat.reduceEqDiff, ↓reduceIte]; (try ((repeat (fail_if_success (with_reducible refine hK1 _ ?_)); clear hK1); (with_reducible refine hK1 _ ?_); clear hK1)))
      | (with_reducible omega)
      | (assumption)
      | ((first | ((with_reducible refine opsP_cons fun K3 hK3 => ?_); simp only [wantP, opP, valP, Uy, U0, Ur, Us, List.mapM_cons, List.mapM_nil, Uw, Ux]) | (with_reducible refine PW.condM fun X1 Y1 hX1 hY1 => ?_) | skip); simp (disch := omega) only [wantP, wantB_tt, wantB_ff, wantB_tf, wantB_ft, opP, valP, St.eval, St.put, upd_app, iniT_app, avOf, avOf1, nom, cellsA, AV.okv, loadA, lenP, binP, intsP, intP, strP, eqP, nilP, convP, sliceP, boundLo, boundHi, unP, builtinP, bsz, U0, U1, dvEqC, eqAll, boundMx, cellsV, maplenP, isMapA, isBsl, viewA, U2, U3, U4, U5, U6, slA, putCells, fillA, buildA, elA, dv1, U7, U8, U9, Ua, Ub, List.getElem?_nil, Uc, Ud, Ue, Uf, Ug, Uh, Ui, Uj, Uk, Ul, Um, Un, Uo, Up, Uq, Ur, Us, Ut, Uu, Uv, List.mapM_cons, List.mapM_nil, Uw, Ux, Uy, Uz, V0, V1, V2, V3, V4, V5, Option.bind_eq_bind, Option.pure_def, V6, V7, V8, V9, Va, Vb, Vc, Vd, Ve, Vt, Int.cast_ofNat_Int, ite_same, UU2, UU3, UU4, UU7, UU8, Vq, UU9, UUa, Vr, Vs, PmL, simprocAttr, PmT, hq', retQ, resP, tupA, fg, fgs, condP, condB_t, condB_f]; try (with_reducible (first | exact co_refl _ | exact co_own _ _ _ | exact co_nilsB | exact co_nilsL _ _))))
    have e : textS b bad = ([], [], true) := if_pos hq
    rw [e]
    exact ⟨co_nilsB, subM_box (by simp only [fgs, fg]; exact cos_cons co_nilsB (cos_refl _))⟩
  · have hq' := eq_false hq
    repeat' (first
      | (with_reducible (first
       | refine PW.seq fun K1 hK1 => ?_ | refine PW.region fun K2 hK2 => ?_ | (refine hK3 _ ?_; clear hK3) | (refine opsP_nil ?_; refine hK2 _ ?_; clear hK2) | refine litX_old ?_ | refine litC_data ?_ | (refine Exists.intro _ (Exists.intro _ (And.intro rfl (And.intro rfl (And.intro ?_ ?_)))); focus omega) | (refine hK1 _ ?_; clear hK1) | refine nilC_intro (fun hz => ?_) ?_
       | refine PW.block ?_ | refine PW.skip ?_ | refine PW.exit ?_ | refine PW.ret ?_ | (refine hX1 ?_; clear hX1 hY1; try simp only [hb]) | (refine hY1 ?_; clear hX1 hY1; try simp only [hb]) | exact co_refl _ | exact co_own _ _ _ | exact co_nilsB | exact co_nilsL _ _))
      | ((first | (with_reducible refine wantB_intro (fun hb => ?_) (fun hb => ?_)) | (with_reducible refine condB_intro (fun hb => ?_) (fun hb => ?_))) <;> ((try (have hp := hb; simp only [PmH, beq_iff_eq, beq_eq_false_iff_ne, ne_eq] at hp)); try simp only [hb, Bool.not_true, Bool.not_false]))
      | ((with_reducible refine cC_recv (cs := ?_) ?_ ?_ ?_ ?_ (pnumber ?_ ?_) (fun _ => ?_)); rotate_left 1; (focus (first | exact rfl | (simp only [Ua, Ub]; rfl))); (focus ((repeat' (first | refine .cons ?_ ?_ | exact .nil | exact .d _ | exact .own _ _ _ | exact .nl | exact .nilsB | exact .nilsL _ _ | exact .nils _ | exact .cp _ | refine .agg ?_ | refine .fn ?_ | refine .rf _ ?_)) <;> (simp only [purAs, purA, Vf, Bool.and_self, hq']; done))); (focus ((repeat' (first | refine .cons ?_ ?_ | exact .nil | exact .d _ | exact .own _ _ _ | exact .nl | exact .nilsB | exact .nilsL _ _ | exact .nils _ | exact .cp _ | refine .agg ?_ | refine .fn ?_ | refine .rf _ ?_)) <;> (simp only [purAs, purA, Vf, Bool.and_self, hq']; done))); (focus (simp only [purAs, purA, Vf, Bool.and_self, hq']; done)))
      | ((with_reducible refine cC_pure ?_ (pClone ((numS b bad).2.1.take (numS b bad).1.toNat) (hlt (numS b bad).1.toNat)) (fun _ => ?_)); (focus ((repeat' constructor) <;> (simp only [purAs, purA, Vf, Bool.and_self, hq']; done))))
      | ((with_reducible refine And.intro ?_ ?_); (focus (first | omega | (simp; done) | assumption)))
      | (simp only [thenP, blockP, Nat.reduceEqDiff, ↓reduceIte]; (try ((repeat (fail_if_success (with_reducible refine hK1 _ ?_)); clear hK1); (with_reducible refine hK1 _ ?_); clear hK1)))
      | (with_reducible omega)
      | (assumption)
      | ((first | ((with_reducible refine opsP_cons fun K3 hK3 => ?_); simp only [wantP, opP, valP, Uy, U0, Ur, Us, List.mapM_cons, List.mapM_nil, Uw, Ux]) | (with_reducible refine PW.condM fun X1 Y1 hX1 hY1 => ?_) | skip); simp (disch := omega) only [wantP, wantB_tt, wantB_ff, wantB_tf, wantB_ft, opP, valP, St.eval, St.put, upd_app, iniT_app, avOf, avOf1, nom, cellsA, AV.okv, loadA, lenP, binP, intsP, intP, strP, eqP, nilP, convP, sliceP, boundLo, boundHi, unP, builtinP, bsz, U0, U1, dvEqC, eqAll, boundMx, cellsV, maplenP, isMapA, isBsl, viewA, U2, U3, U4, U5, U6, slA, putCells, fillA, buildA, elA, dv1, U7, U8, U9, Ua, Ub, List.getElem?_nil, Uc, Ud, Ue, Uf, Ug, Uh, Ui, Uj, Uk, Ul, Um, Un, Uo, Up, Uq, Ur, Us, Ut, Uu, Uv, List.mapM_cons, List.mapM_nil, Uw, Ux, Uy, Uz, V0, V1, V2, V3, V4, V5, Option.bind_eq_bind, Option.pure_def, V6, V7, V8, V9, Va, Vb, Vc, Vd, Ve, Vt, Int.cast_ofNat_Int, ite_same, UU2, UU3, UU4, UU7, UU8, Vq, UU9, UUa, Vr, Vs, PmL, simprocAttr, PmT, hq', retQ, resP, tupA, fg, fgs, condP, condB_t, condB_f]; try (with_reducible (first | exact co_refl _ | exact co_own _ _ _ | exact co_nilsB | exact co_nilsL _ _))))
    have e : textS b bad = ((numS b bad).2.1.take (numS b bad).1.toNat, (numS b bad).2.1.drop (numS b bad).1.toNat, (numS b bad).2.2) := if_neg hq
    rw [e]
    exact ⟨co_refl _, subM_box (by simp only [fgs, fg]; exact cos_refl _)⟩
end PM
end Go.Proofs.Ytbeniogffhihlaa
