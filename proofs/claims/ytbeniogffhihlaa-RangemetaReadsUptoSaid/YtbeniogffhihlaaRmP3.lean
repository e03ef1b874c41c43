/- rangemeta in the abstract: numbers. -/
import Derived.Test.YtbeniogffhihlaaRmP
import Derived.Test.YtbeniogffhihlaaPmD
import Derived.Test.YtbeniogffhihlaaCodecRT
set_option linter.unusedVariables false
set_option linter.unusedSimpArgs false
namespace Go.Proofs.Ytbeniogffhihlaa
open Go.RowKit
namespace PM
theorem subM_row (r : List (Option RowI)) : SubM ⟨[], r⟩ ⟨[], r⟩ := ⟨Nat.le_refl _, Nat.le_refl _, fun j e cs h => by simp at h, fun j i h => h⟩
theorem rng1 {x : Int} (h : Rng [x]) : 0 ≤ x ∧ x ≤ 255 := h x (by simp)
theorem takeN_bd {l : List Int} (h : Rng l) : (0 ≤ (Codec.takeN l).1 ∧ (Codec.takeN l).1 ≤ 18446744073709551615) ∧ (0 ≤ (Codec.takeN l).2.1 ∧ (Codec.takeN l).2.1 ≤ 10) ∧ (0 ≤ (Codec.takeN l).2.2 ∧ (Codec.takeN l).2.2 ≤ 11) := by
  unfold Codec.takeN
  split
  · split <;> simp
  · rename_i e he
    split
    · simp
    · rename_i hn
      have hlt := (List.findIdx?_eq_some_iff_getElem.1 he).1
      rw [List.length_take] at hlt
      refine ⟨?_, by simp; omega, by simp⟩
      simp only
      by_cases h9 : e = 9
      · subst h9
        have h10 : l.take 10 = l.take 9 ++ [l.getD 9 0] := by
          have hg : l[9]? = some (l.getD 9 0) := by rw [List.getD, List.getElem?_eq_getElem (show 9 < l.length by omega), Option.getD_some]
          rw [show (10 : Nat) = 9 + 1 from rfl, List.take_add_one, hg]
          rfl
        have hc : 0 ≤ l.getD 9 0 := (h _ (by rw [List.getD, List.getElem?_eq_getElem (show 9 < l.length by omega), Option.getD_some]; exact List.getElem_mem _)).1
        have hb := Codec.v128_rng (l.take 9)
        have hl9 : (l.take 9).length = 9 := by rw [List.length_take]; omega
        rw [h10, Codec.v128_snoc, hl9]
        rw [hl9] at hb
        have hc2 : l.getD 9 0 ≤ 1 := by
          by_cases hq : 1 < l.getD 9 0
          · exact absurd (.inr ⟨rfl, hq⟩) hn
          · omega
        have : l.getD 9 0 % 128 = 0 ∨ l.getD 9 0 % 128 = 1 := by omega
        have h128 : (128 : Int) ^ 9 = 9223372036854775808 := by decide
        rw [h128] at hb ⊢
        rcases this with h | h <;> rw [h] <;> omega
      · have hb := Codec.v128_rng (l.take (e + 1))
        have hpow : (128 : Int) ^ (l.take (e + 1)).length ≤ 9223372036854775808 := by
          have : (l.take (e + 1)).length ≤ 9 := by rw [List.length_take]; omega
          have hq := Nat.pow_le_pow_right (n := 128) (by decide) this
          rw [show (128 : Int) ^ (l.take (e + 1)).length = ((128 ^ (l.take (e + 1)).length : Nat) : Int) from (Int.natCast_pow 128 _).symm]
          exact Int.ofNat_le.2 (Nat.le_trans hq (by decide))
        omega
theorem pNumber (n : Nat) (hn : n < 18446744073709551616) : PFun Try.prog 64 [.d (.int .u64 n)] nom (.own 0 1 (encB (Codec.numN n))) ⟨[], [some ⟨5, 1, (Codec.numN n).length⟩]⟩ :=
  pfun_of_ownS Try.func64 rfl rfl fun G w vs hm ha => by
    unfold RelAs at ha
    obtain ⟨v1, vs, rfl, h1, ha⟩ := ha
    unfold RelAs at ha
    subst ha
    rw [h1.int.1]
    exact Codec.number_any n w hn
theorem pTakeNumber (l : List Int) : Pure Try.prog 84 [bs l] (.tup [.d (.int .u64 (Codec.takeN l).1), .d (.int .i64 (Codec.takeN l).2.1), .d (.int .i64 (Codec.takeN l).2.2)]) :=
  pure_of_calls Try.func84 rfl rfl fun G w vs hm ha => by
    unfold RelAs at ha
    obtain ⟨v1, vs, rfl, h1, ha⟩ := ha
    unfold RelAs at ha
    subst ha
    refine (Codec.takeNumber_any v1 l w h1.dat.isB.1).mono fun e w' ⟨he, hw⟩ => ?_
    subst hw
    refine ⟨_, he, .refl _ _, ?_⟩
    unfold RelA
    refine ⟨_, rfl, .cons (relA_int ?_) (.cons (relA_int ?_) (.cons (relA_int ?_) .nil))⟩
    all_goals
      have hb := takeN_bd h1.dat.isB.1.1
      simp only [wf_u64, wf_i64, Bool.and_eq_true, decide_eq_true_eq]
      omega
set_option maxRecDepth 100000 in
theorem pVar (xs : List Int) (n : Nat) (hn : n < 9223372036854775808) (hx : xs.length ≤ 1000000000000) : PFun Try.prog 65 [.own 0 1 (encB xs), .d (.int .i64 n)] ⟨[], [some ⟨5, 1, xs.length⟩]⟩ (.own 0 1 (encB (xs ++ Codec.numN n))) ⟨[], [some ⟨5, 1, (xs ++ Codec.numN n).length⟩]⟩ := by
  refine fun_intro Try.func65 rfl rfl rfl 21 rfl ⟨Nat.le_refl _, Nat.le_refl _⟩ (fun hh => ?_)
  have h10 := Codec.numN_len10 (n := n) (by omega)
  repeat' (first
    | (with_reducible (first
     | refine PW.seq fun K1 hK1 => ?_ | refine PW.region fun K2 hK2 => ?_ | (refine hK3 _ ?_; clear hK3) | (refine opsP_nil ?_; refine hK2 _ ?_; clear hK2) | refine litX_old ?_ | refine litC_data ?_ | (refine Exists.intro _ (Exists.intro _ (And.intro rfl (And.intro rfl (And.intro ?_ ?_)))); focus omega) | (refine hK1 _ ?_; clear hK1) | refine nilC_intro (fun hz => ?_) ?_
     | refine PW.block ?_ | refine PW.skip ?_ | refine PW.exit ?_ | refine PW.ret ?_ | (refine hX1 ?_; clear hX1 hY1; try simp only [hb]) | (refine hY1 ?_; clear hX1 hY1; try simp only [hb]) | exact co_refl _ | exact co_own _ _ _ | exact co_nilsB | exact co_nilsL _ _))
    | ((first | (with_reducible refine wantB_intro (fun hb => ?_) (fun hb => ?_)) | (with_reducible refine condB_intro (fun hb => ?_) (fun hb => ?_))) <;> ((try (have hp := hb; simp only [PmH, beq_iff_eq, beq_eq_false_iff_ne, ne_eq] at hp)); try simp only [hb, Bool.not_true, Bool.not_false]))
    | ((with_reducible refine And.intro ?_ ?_); (focus (first | omega | (simp; done) | assumption)))
    | (simp only [thenP, blockP, Nat.reduceEqDiff, ↓reduceIte]; (try ((repeat (fail_if_success (with_reducible refine hK1 _ ?_)); clear hK1); (with_reducible refine hK1 _ ?_); clear hK1)))
    | (with_reducible omega)
    | (assumption)
    | ((first | ((with_reducible refine opsP_cons fun K3 hK3 => ?_); simp only [wantP, opP, valP, Uy, U0, Ur, Us, List.mapM_cons, List.mapM_nil, Uw, Ux]) | (with_reducible refine PW.condM fun X1 Y1 hX1 hY1 => ?_) | skip); simp (disch := omega) only [wantP, wantB_tt, wantB_ff, wantB_tf, wantB_ft, opP, valP, St.eval, St.put, upd_app, iniT_app, avOf, avOf1, nom, cellsA, AV.okv, loadA, lenP, binP, intsP, intP, strP, eqP, nilP, convP, unP, builtinP, appP, srcA, srcTy, bsz, U0, U1, dvEqC, eqAll, srcAll, srcOk, appB, cellsV, maplenP, isMapA, isBsl, viewA, U2, U3, U4, U5, U6, slA, putCells, fillA, buildA, elA, dv1, U7, U8, U9, Ua, Ub, List.getElem?_nil, Uc, Ud, Ue, Uf, Ug, Uh, Ui, Uj, Uk, Ul, Um, Un, Uo, Up, Uq, Ur, Us, Ut, Uu, Uv, List.mapM_cons, List.mapM_nil, Uw, Ux, Uy, Uz, V0, V1, V2, V3, V4, V5, Option.bind_eq_bind, Option.pure_def, V6, V7, V8, V9, Va, Vb, Vc, Vd, Ve, Vt, Int.cast_ofNat_Int, ite_same, UU2, UU3, UU4, UU7, UU8, Vq, UU9, UUa, Vr, Vs, PmL, simprocAttr, PmT, retQ, resP, tupA, fg, fgs, condP, condB_t, condB_f]; try (with_reducible (first | exact co_refl _ | exact co_own _ _ _ | exact co_nilsB | exact co_nilsL _ _))))
  (with_reducible refine PW.loop (fun k s => ∃ (m : Nat) (pre : List Int), s.t 0 = .own 0 1 (encB (xs ++ pre)) ∧ s.t 1 = .d (.int .i64 m) ∧ s.n = 21 ∧ s.m = ⟨[], [some ⟨5, 1, (xs ++ pre).length⟩]⟩ ∧ k = m ∧ m < 9223372036854775808 ∧ pre.length ≤ 10 ∧ pre ++ Codec.numN m = Codec.numN n) n ?_ ?_)
  · exact ⟨n, [], by rw [List.append_nil]; rfl, rfl, rfl, by rw [List.append_nil], rfl, hn, by simp, rfl⟩
  rintro k ⟨t, nn, mm⟩ ⟨m, pre, h0, h1, hn', hm, rfl, hm', hp, hs⟩ - -
  simp only at h0 h1 hn' hm
  subst hn' hm
  repeat' (first
    | (with_reducible (first
     | refine PW.seq fun K1 hK1 => ?_ | refine PW.region fun K2 hK2 => ?_ | (refine hK3 _ ?_; clear hK3) | (refine opsP_nil ?_; refine hK2 _ ?_; clear hK2) | refine litX_old ?_ | refine litC_data ?_ | (refine Exists.intro _ (Exists.intro _ (And.intro rfl (And.intro rfl (And.intro ?_ ?_)))); focus omega) | (refine hK1 _ ?_; clear hK1) | refine nilC_intro (fun hz => ?_) ?_
     | refine PW.block ?_ | refine PW.skip ?_ | refine PW.exit ?_ | refine PW.ret ?_ | (refine hX1 ?_; clear hX1 hY1; try simp only [hb]) | (refine hY1 ?_; clear hX1 hY1; try simp only [hb]) | exact co_refl _ | exact co_own _ _ _ | exact co_nilsB | exact co_nilsL _ _))
    | ((first | (with_reducible refine wantB_intro (fun hb => ?_) (fun hb => ?_)) | (with_reducible refine condB_intro (fun hb => ?_) (fun hb => ?_))) <;> ((try (have hp := hb; simp only [PmH, beq_iff_eq, beq_eq_false_iff_ne, ne_eq] at hp)); try simp only [hb, Bool.not_true, Bool.not_false]))
    | ((with_reducible refine And.intro ?_ ?_); (focus (first | omega | (simp; done) | assumption)))
    | (simp only [thenP, blockP, Nat.reduceEqDiff, ↓reduceIte]; (try ((repeat (fail_if_success (with_reducible refine hK1 _ ?_)); clear hK1); (with_reducible refine hK1 _ ?_); clear hK1)))
    | (with_reducible omega)
    | (assumption)
    | ((first | ((with_reducible refine opsP_cons fun K3 hK3 => ?_); simp only [wantP, opP, valP, Uy, U0, Ur, Us, List.mapM_cons, List.mapM_nil, Uw, Ux]) | (with_reducible refine PW.condM fun X1 Y1 hX1 hY1 => ?_) | skip); simp (disch := omega) only [wantP, wantB_tt, wantB_ff, wantB_tf, wantB_ft, opP, valP, St.eval, St.put, upd_app, iniT_app, avOf, avOf1, nom, cellsA, AV.okv, loadA, lenP, binP, intsP, intP, strP, eqP, nilP, convP, unP, builtinP, appP, srcA, srcTy, bsz, U0, U1, dvEqC, eqAll, srcAll, srcOk, appB, cellsV, maplenP, isMapA, isBsl, viewA, U2, U3, U4, U5, U6, slA, putCells, fillA, buildA, elA, dv1, U7, U8, U9, Ua, Ub, List.getElem?_nil, Uc, Ud, Ue, Uf, Ug, Uh, Ui, Uj, Uk, Ul, Um, Un, Uo, Up, Uq, Ur, Us, Ut, Uu, Uv, List.mapM_cons, List.mapM_nil, Uw, Ux, Uy, Uz, V0, V1, V2, V3, V4, V5, Option.bind_eq_bind, Option.pure_def, V6, V7, V8, V9, Va, Vb, Vc, Vd, Ve, Vt, Int.cast_ofNat_Int, ite_same, UU2, UU3, UU4, UU7, UU8, Vq, UU9, UUa, Vr, Vs, PmL, simprocAttr, PmT, h0, h1, retQ, resP, tupA, fg, fgs, condP, condB_t, condB_f]; try (with_reducible (first | exact co_refl _ | exact co_own _ _ _ | exact co_nilsB | exact co_nilsL _ _))))
  · simp only [decide_eq_true_eq] at hb
    have hs' : (pre ++ [128 + (k : Int) % 128]) ++ Codec.numN (k / 128) = Codec.numN n := by
      rw [List.append_assoc, List.singleton_append, ← Codec.numN_hi (by omega)]; exact hs
    have hl := congrArg List.length hs'
    simp only [List.length_append, List.length_cons, List.length_nil] at hl
    have hw1 : IntKind.i64.wrap ((k : Int).tdiv 128) = ((k / 128 : Nat) : Int) := by
      rw [show (k : Int).tdiv 128 = ((k / 128 : Nat) : Int) from (Int.ofNat_tdiv k 128).symm]; exact IntWalk.i64_in _ (by omega)
    have hw2 : IntKind.u8.wrap (IntKind.i64.wrap ((k : Int).tmod 128 + 128)) = 128 + (k : Int) % 128 := by
      rw [show (k : Int).tmod 128 = ((k % 128 : Nat) : Int) from (Int.ofNat_tmod k 128).symm, IntWalk.i64_in _ (by omega), show ((k % 128 : Nat) : Int) + 128 = ((k % 128 + 128 : Nat) : Int) by omega, wrap_nat rfl _ (by simp [IntKind.bits]; omega)]
      omega
    refine ⟨k / 128, by omega, k / 128, pre ++ [128 + (k : Int) % 128], ?_, ?_, ?_, ?_, rfl, by omega, by simp; omega, hs'⟩
    all_goals (simp only [St.cut, Mem.cut, fg, fgs, upd_app, Nat.reduceEqDiff, ↓reduceIte, List.take_nil, List.map_nil, List.take_succ_cons, List.take_zero, List.map_cons, Option.map_some, Option.map_none, Nat.reduceLT, Nat.zero_lt_one, Nat.reduceAdd, List.length_append, List.length_cons, List.length_nil, List.append_assoc, Nat.add_assoc, Int.natCast_add, Int.cast_ofNat_Int, nom, h0, h1, hw1, hw2]; try rfl)
  · simp only [decide_eq_false_iff_not] at hb
    have hs' : pre ++ [(k : Int)] = Codec.numN n := by rw [← Codec.numN_lo (by omega)]; exact hs
    rw [← hs']
    refine ⟨co_eq (by rw [List.append_assoc]), ?_⟩
    simp only [List.length_append, List.length_cons, List.length_nil, ← Nat.add_assoc, Nat.zero_add]
    exact subM_row _
end PM
end Go.Proofs.Ytbeniogffhihlaa
