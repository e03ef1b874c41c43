/- pgwire: PgwireForth in the abstract, and its walk. -/
import Derived.Test.YthaekefdadccaaaDoorPgPutsP
import Derived.Test.YthaekefdadccaaaDoorPgForthP
import Derived.Test.YthaekefdadccaaaDoorPgFOpen
namespace Go.Proofs.YthaekefdadccaaaDoor
open Go.RowKit
namespace PM
theorem same_self (f : Front) : f.same f = true := by simp [Front.same]
set_option maxRecDepth 100000 in
set_option maxHeartbeats 4000000 in
theorem pForth (f : Front) (rest : List Int) (cut : Int) (hz : (prmB f.params).length ≤ 100000000000) (ht : f.text.length ≤ 100000000000) (hr : rest.length ≤ 100000000000) : Pure Tryd.prog 7 [f.v, bs rest, .d (.int .i64 cut)] (.d (.bool true)) := by
  refine pure_intro Tryd.func7 rfl rfl rfl 103 rfl (fun hh => ?_)
  have hmx : maxLen = 9223372036854775807 := rfl
  have hbl := frontBody_len f hz ht
  have h1 := pPutFront f hz ht
  by_cases he : (putFrontS f).2 = 0
  · obtain ⟨g1, g2, g3⟩ := put_ok' he
    have hXl : (putFrontS f).1.length ≤ 100000000200 := by
      have : putFrontS f = ((if frontTag f = 0 then [] else [frontTag f]) ++ (big4 ((frontBody f).length + 4) ++ frontBody f), 0) := by
        unfold putFrontS; rw [g1, if_neg (by decide), if_neg g2]
      rw [this]
      simp only [List.length_append, big4_l]
      split <;> simp <;> omega
    have hS := pSameFront f f
    rw [same_self] at hS
    have hB := front_back rest g1 g2
    have hC := fun (c : Nat) h => front_cut g1 g2 (c := c) h
    have hT := pTakeFront ((putFrontS f).1 ++ rest) (isStart f)
    rw [hB] at hT
    have hst : isStart f = (decide (f.kind = 1) || decide (f.kind = 2) || decide (f.kind = 3)) := rfl
    generalize hX : putFrontS f = X at *
    obtain ⟨X, e⟩ := X
    simp only at he g3 hXl hT hC h1
    subst he
    by_cases hc : cut < 0
    · have hc' := eq_true hc
      obtain ⟨xk, xp, xt, xi, xs, xg⟩ := f
      simp only [Front.v, Front.c, List.map_cons, List.map_nil] at h1
      repeat' (first
        | (with_reducible (first
          | refine PW.seq fun K1 hK1 => ?_
          | refine PW.region fun K2 hK2 => ?_
          | (refine hK3 _ ?_; clear hK3)
          | (refine opsP_nil ?_; refine hK2 _ ?_; clear hK2)
          | refine litX_old ?_
          | refine litC_data ?_
          | (refine Exists.intro _ (Exists.intro _ (And.intro rfl (And.intro rfl (And.intro ?_ ?_)))); focus omega)
          | (refine hK1 _ ?_; clear hK1)
          | refine nilC_intro (fun hz => ?_) ?_
          | refine PW.block ?_
          | refine PW.skip ?_
          | refine PW.exit ?_
          | refine PW.ret ?_
          | (refine hX1 ?_; clear hX1 hY1; try simp only [hb])
          | (refine hY1 ?_; clear hX1 hY1; try simp only [hb])
          | exact co_refl _
          | exact co_own _ _ _
          | exact co_nilsB
          | exact co_nilsL _ _))
        | ((first | (with_reducible refine wantB_intro (fun hb => ?_) (fun hb => ?_)) | (with_reducible refine condB_intro (fun hb => ?_) (fun hb => ?_))) <;> ((try (have hp := hb; simp only [Bool.and_eq_true, Bool.or_eq_true, Bool.not_eq_true', Bool.not_eq_false', Bool.and_eq_false_iff, Bool.or_eq_false_iff, Bool.not_eq_eq_eq_not, Bool.not_true, Bool.not_false, decide_eq_true_eq, decide_eq_false_iff_not, Int.not_lt, Int.not_le, beq_iff_eq, beq_eq_false_iff_ne, ne_eq] at hp)); try simp only [hb, Bool.not_true, Bool.not_false]))
        | ((with_reducible refine callP_pure ?_ ?_ (pShown) (fun _ => ?_)); (focus (repeat' (first | exact cos_refl _ | (refine cos_cons ?_ ?_) | exact co_refl _ | exact co_own _ _ _ | exact co_nilsB | exact co_nilsL _ _ | exact co_nils _ | (refine co_agg ?_) | (refine co_fn ?_)))); (focus (simp only [purAs])))
        | ((with_reducible refine callP_pure ?_ ?_ (h1) (fun _ => ?_)); (focus (repeat' (first | exact cos_refl _ | (refine cos_cons ?_ ?_) | exact co_refl _ | exact co_own _ _ _ | exact co_nilsB | exact co_nilsL _ _ | exact co_nils _ | (refine co_agg ?_) | (refine co_fn ?_)))); (focus (simp only [purAs, purA, Bool.and_self])))
        | ((with_reducible refine And.intro ?_ ?_); (focus (first | omega | (simp; done) | assumption)))
        | (simp only [thenP]; (try ((repeat (fail_if_success (with_reducible refine hK1 _ ?_)); clear hK1); (with_reducible refine hK1 _ ?_); clear hK1)))
        | (with_reducible omega)
        | (assumption)
        | ((first | ((with_reducible refine opsP_consMt (d := ?_) (dj := ?_) (b := ?_) (r := ?_) ?_ ?_ (fun hb => ?_) (fun K3 hK3 => ?_)); rotate_left 3; (focus exact rfl); (focus (simp only [upd_app, Nat.reduceEqDiff, ↓reduceIte]; exact rfl))) | ((with_reducible refine opsP_consMf (d := ?_) (dj := ?_) (b := ?_) (r := ?_) ?_ ?_ (fun hb => ?_) (fun K3 hK3 => ?_)); rotate_left 3; (focus exact rfl); (focus (simp only [upd_app, Nat.reduceEqDiff, ↓reduceIte]; exact rfl))) | ((with_reducible refine opsP_consNt (d := ?_) (dj := ?_) (b := ?_) (r := ?_) (c := ?_) ?_ ?_ (fun hb => ?_) (fun K3 hK3 => ?_)); rotate_left 4; (focus exact rfl); (focus (simp only [St.put, upd_app, iniT_app, Nat.reduceEqDiff, ↓reduceIte, mrg_t, mrg_f]; exact rfl))) | ((with_reducible refine opsP_consNf (d := ?_) (dj := ?_) (b := ?_) (r := ?_) (c := ?_) ?_ ?_ (fun hb => ?_) (fun K3 hK3 => ?_)); rotate_left 4; (focus exact rfl); (focus (simp only [St.put, upd_app, iniT_app, Nat.reduceEqDiff, ↓reduceIte, mrg_t, mrg_f]; exact rfl)))); (focus (simp only [opP, valP, List.map_cons, List.map_nil]; (try (simp only [Bool.not_eq_true'] at hb)); (try (have hp := hb; simp only [Bool.and_eq_true, Bool.or_eq_true, Bool.not_eq_true', Bool.not_eq_false', Bool.and_eq_false_iff, Bool.or_eq_false_iff, Bool.not_eq_eq_eq_not, Bool.not_true, Bool.not_false, decide_eq_true_eq, decide_eq_false_iff_not, Int.not_lt, Int.not_le, beq_iff_eq, beq_eq_false_iff_ne, ne_eq] at hp)); simp (disch := omega) only [St.eval, upd_app, iniT_app, avOf, avOf1, wf_i64, binP, intsP, intP, eqP, nilP, builtinP, maplenP, isMapA, slA, U7, U8, Nat.reduceEqDiff, Int.reduceLE, Int.reduceNeg, Vu, Vf, Vg, Vn, ↓reduceIte, Vw, Vx, Vz, UU0, hc', hb]; (repeat' (first | (exact rfl) | ((refine And.intro ?_ ?_); (focus (exact rfl)); (exact rfl)) | (refine And.intro (by first | omega | (simp; done) | assumption) ?_) | ((with_reducible refine callP_pure ?_ ?_ (pShown) (fun _ => ?_)); (focus (repeat' (first | exact cos_refl _ | (refine cos_cons ?_ ?_) | exact co_refl _ | exact co_own _ _ _ | exact co_nilsB | exact co_nilsL _ _ | exact co_nils _ | (refine co_agg ?_) | (refine co_fn ?_)))); (focus (simp only [purAs, purA, Bool.and_self, Bool.and_true, Front.v, Front.c, hc']))) | ((with_reducible refine callP_pure ?_ ?_ (h1) (fun _ => ?_)); (focus (repeat' (first | exact cos_refl _ | (refine cos_cons ?_ ?_) | exact co_refl _ | exact co_own _ _ _ | exact co_nilsB | exact co_nilsL _ _ | exact co_nils _ | (refine co_agg ?_) | (refine co_fn ?_)))); (focus (simp only [purAs, purA, Bool.and_self, Bool.and_true, Front.v, Front.c, hc']))))); done)); (try simp only [St.put, Nat.reduceLT, ↓reduceIte, mrg_t, mrg_f, Bool.not_true, Bool.not_false]))
        | ((first | ((with_reducible refine opsP_cons fun K3 hK3 => ?_); simp only [wantP, opP, valP, List.map_cons, List.map_nil]) | (with_reducible refine PW.condM fun X1 Y1 hX1 hY1 => ?_) | skip); simp (disch := omega) only [wantB_tf, St.eval, St.put, upd_app, iniT_app, avOf, avOf1, wf_i64, nom, cellsA, AV.okv, loadA, lenP, binP, eqP, nilP, unP, builtinP, isMapA, slA, U7, Ua, Ub, Uf, Ug, Uk, Un, Up, Ur, Us, Ut, Uv, Uz, V4, Nat.reduceLT, Nat.reduceAdd, Nat.reduceEqDiff, V9, Int.reduceLE, Int.reduceNeg, Vu, Vf, Vn, ↓reduceIte, Vp, Vw, Vz, UU0, Vr, Tryd.underlying22, sz26, Front.v, Front.c, retQ, resP, tupA, fg, condP, condB_t]; try (with_reducible (first | exact co_refl _ | exact co_own _ _ _ | exact co_nilsB | exact co_nilsL _ _))))
    · have hc' := eq_false hc
      have hX0 : ((X.length : Int) = 0) = False := eq_false (by omega)
      obtain ⟨k, hk, hkl⟩ : ∃ k : Nat, cut.tmod (X.length : Int) = k ∧ k < X.length := by
        rw [Int.tmod_eq_emod_of_nonneg (by omega)]
        have h0 := Int.emod_nonneg cut (show (X.length : Int) ≠ 0 by omega)
        have h1 := Int.emod_lt_of_pos cut (show 0 < (X.length : Int) by omega)
        exact ⟨(cut % (X.length : Int)).toNat, by omega, by omega⟩
      have h10 := hC k hkl
      have hU := pTakeFront (X.take k) (isStart f)
      generalize hY : takeFrontS (X.take k) (isStart f) = Y at *
      obtain ⟨⟨yk, yp, yt, yi, ys, yg⟩, n, e⟩ := Y
      simp only at h10
      subst h10
      obtain ⟨xk, xp, xt, xi, xs, xg⟩ := f
      simp only at hst
      obtain ⟨st, hst'⟩ : ∃ st, isStart ⟨xk, xp, xt, xi, xs, xg⟩ = st := ⟨_, rfl⟩
      rw [hst'] at hst hU hT
      simp only [Front.v, Front.c, List.map_cons, List.map_nil] at h1 hS hU hT
      have hst2 := hst.symm
      repeat' (first
        | (with_reducible (first
          | refine PW.seq fun K1 hK1 => ?_
          | refine PW.region fun K2 hK2 => ?_
          | (refine hK3 _ ?_; clear hK3)
          | (refine opsP_nil ?_; refine hK2 _ ?_; clear hK2)
          | refine litX_old ?_
          | refine litC_data ?_
          | (refine Exists.intro _ (Exists.intro _ (And.intro rfl (And.intro rfl (And.intro ?_ ?_)))); focus omega)
          | (refine hK1 _ ?_; clear hK1)
          | refine nilC_intro (fun hz => ?_) ?_
          | refine PW.block ?_
          | refine PW.skip ?_
          | refine PW.exit ?_
          | refine PW.ret ?_
          | (refine hX1 ?_; clear hX1 hY1; try simp only [hb])
          | (refine hY1 ?_; clear hX1 hY1; try simp only [hb])
          | exact co_refl _
          | exact co_own _ _ _
          | exact co_nilsB
          | exact co_nilsL _ _))
        | ((first | (with_reducible refine wantB_intro (fun hb => ?_) (fun hb => ?_)) | (with_reducible refine condB_intro (fun hb => ?_) (fun hb => ?_))) <;> ((try (have hp := hb; simp only [Bool.and_eq_true, Bool.or_eq_true, Bool.not_eq_true', Bool.not_eq_false', Bool.and_eq_false_iff, Bool.or_eq_false_iff, Bool.not_eq_eq_eq_not, Bool.not_true, Bool.not_false, decide_eq_true_eq, decide_eq_false_iff_not, Int.not_lt, Int.not_le, beq_iff_eq, beq_eq_false_iff_ne, ne_eq] at hp)); try simp only [hb, Bool.not_true, Bool.not_false]))
        | ((with_reducible refine callP_pure ?_ ?_ (pShown) (fun _ => ?_)); (focus (repeat' (first | exact cos_refl _ | (refine cos_cons ?_ ?_) | exact co_refl _ | exact co_own _ _ _ | exact co_nilsB | exact co_nilsL _ _ | exact co_nils _ | (refine co_agg ?_) | (refine co_fn ?_)))); (focus (simp only [purAs])))
        | ((with_reducible refine callP_pure ?_ ?_ (h1) (fun _ => ?_)); (focus (repeat' (first | exact cos_refl _ | (refine cos_cons ?_ ?_) | exact co_refl _ | exact co_own _ _ _ | exact co_nilsB | exact co_nilsL _ _ | exact co_nils _ | (refine co_agg ?_) | (refine co_fn ?_)))); (focus (simp only [purAs, purA, Bool.and_self])))
        | ((with_reducible refine callP_pure ?_ ?_ (hS) (fun _ => ?_)); (focus (repeat' (first | exact cos_refl _ | (refine cos_cons ?_ ?_) | exact co_refl _ | exact co_own _ _ _ | exact co_nilsB | exact co_nilsL _ _ | exact co_nils _ | (refine co_agg ?_) | (refine co_fn ?_)))); (focus (simp only [purAs, purA, Bool.and_self])))
        | ((with_reducible refine callP_pure ?_ ?_ (hT) (fun _ => ?_)); (focus (repeat' (first | exact cos_refl _ | (refine cos_cons ?_ ?_) | exact co_refl _ | exact co_own _ _ _ | exact co_nilsB | exact co_nilsL _ _ | exact co_nils _ | (refine co_agg ?_) | (refine co_fn ?_)))); (focus (simp only [purAs, purA, Bool.and_self])))
        | ((with_reducible refine callP_pure ?_ ?_ (hU) (fun _ => ?_)); (focus (repeat' (first | exact cos_refl _ | (refine cos_cons ?_ ?_) | exact co_refl _ | exact co_own _ _ _ | exact co_nilsB | exact co_nilsL _ _ | exact co_nils _ | (refine co_agg ?_) | (refine co_fn ?_)))); (focus (simp only [purAs, purA, Bool.and_self])))
        | ((with_reducible refine And.intro ?_ ?_); (focus (first | omega | (simp; done) | assumption)))
        | (simp only [thenP]; (try ((repeat (fail_if_success (with_reducible refine hK1 _ ?_)); clear hK1); (with_reducible refine hK1 _ ?_); clear hK1)))
        | (with_reducible omega)
        | (assumption)
        | ((with_reducible refine opsP_consD (d := 61) fun K3 hK3 => ?_); simp only [wantP, opP, List.map_nil, List.mapM_nil, List.all_nil]; simp (disch := omega) only [St.put, U3, U5, Uf, Ug, Ut, Uu, Ux, V1, Option.pure_def, Nat.reduceLT, Nat.reduceLeDiff, V9, Vb, Ve, ↓reduceIte, Vw, ze5, el22]; (with_reducible refine litX_old ?_); (with_reducible refine litC_own ?_))
        | ((first | ((with_reducible refine opsP_consMt (d := ?_) (dj := ?_) (b := ?_) (r := ?_) ?_ ?_ (fun hb => ?_) (fun K3 hK3 => ?_)); rotate_left 3; (focus exact rfl); (focus (simp only [upd_app, Nat.reduceEqDiff, ↓reduceIte]; exact rfl))) | ((with_reducible refine opsP_consMf (d := ?_) (dj := ?_) (b := ?_) (r := ?_) ?_ ?_ (fun hb => ?_) (fun K3 hK3 => ?_)); rotate_left 3; (focus exact rfl); (focus (simp only [upd_app, Nat.reduceEqDiff, ↓reduceIte]; exact rfl))) | ((with_reducible refine opsP_consNt (d := ?_) (dj := ?_) (b := ?_) (r := ?_) (c := ?_) ?_ ?_ (fun hb => ?_) (fun K3 hK3 => ?_)); rotate_left 4; (focus exact rfl); (focus (simp only [St.put, upd_app, iniT_app, Nat.reduceEqDiff, ↓reduceIte, mrg_t, mrg_f]; exact rfl))) | ((with_reducible refine opsP_consNf (d := ?_) (dj := ?_) (b := ?_) (r := ?_) (c := ?_) ?_ ?_ (fun hb => ?_) (fun K3 hK3 => ?_)); rotate_left 4; (focus exact rfl); (focus (simp only [St.put, upd_app, iniT_app, Nat.reduceEqDiff, ↓reduceIte, mrg_t, mrg_f]; exact rfl)))); (focus (simp only [opP, valP, List.map_cons, List.map_nil]; (try (simp only [Bool.not_eq_true'] at hb)); (try (have hp := hb; simp only [Bool.or_eq_false_iff, decide_eq_false_iff_not] at hp)); simp (disch := omega) only [St.eval, upd_app, iniT_app, avOf, avOf1, wf_i64, loadA, lenP, binP, intsP, intP, nilP, builtinP, isMapA, slA, encB_len, U7, U8, Ua, Uk, Nat.reduceLT, Nat.reduceEqDiff, Va, Ve, Int.reduceLE, Int.reduceNeg, Vu, Vv, Vf, Vn, Vo, ↓reduceIte, Vp, Vw, Vx, Vz, UU0, sz3, Tryd.underlying22, fi26_0, hc', mrg_t, hb]; (repeat' (first | (exact rfl) | ((refine And.intro ?_ ?_); (focus (exact rfl)); (exact rfl)) | (refine And.intro (by first | omega | (simp; done) | assumption) ?_) | ((with_reducible refine callP_pure ?_ ?_ (pShown) (fun _ => ?_)); (focus (repeat' (first | exact cos_refl _ | (refine cos_cons ?_ ?_) | exact co_refl _ | exact co_own _ _ _ | exact co_nilsB | exact co_nilsL _ _ | exact co_nils _ | (refine co_agg ?_) | (refine co_fn ?_)))); (focus (simp only [purAs, purA, Bool.and_self, Bool.and_true, Front.v, Front.c, hc', hX0, hk, hst2]))) | ((with_reducible refine callP_pure ?_ ?_ (h1) (fun _ => ?_)); (focus (repeat' (first | exact cos_refl _ | (refine cos_cons ?_ ?_) | exact co_refl _ | exact co_own _ _ _ | exact co_nilsB | exact co_nilsL _ _ | exact co_nils _ | (refine co_agg ?_) | (refine co_fn ?_)))); (focus (simp only [purAs, purA, Bool.and_self, Bool.and_true, Front.v, Front.c, hc', hX0, hk, hst2]))) | ((with_reducible refine callP_pure ?_ ?_ (hS) (fun _ => ?_)); (focus (repeat' (first | exact cos_refl _ | (refine cos_cons ?_ ?_) | exact co_refl _ | exact co_own _ _ _ | exact co_nilsB | exact co_nilsL _ _ | exact co_nils _ | (refine co_agg ?_) | (refine co_fn ?_)))); (focus (simp only [purAs, purA, Bool.and_self, Bool.and_true, Front.v, Front.c, hc', hX0, hk, hst2]))) | ((with_reducible refine callP_pure ?_ ?_ (hT) (fun _ => ?_)); (focus (repeat' (first | exact cos_refl _ | (refine cos_cons ?_ ?_) | exact co_refl _ | exact co_own _ _ _ | exact co_nilsB | exact co_nilsL _ _ | exact co_nils _ | (refine co_agg ?_) | (refine co_fn ?_)))); (focus (simp only [purAs, purA, Bool.and_self, Bool.and_true, Front.v, Front.c, hc', hX0, hk, hst2]))) | ((with_reducible refine callP_pure ?_ ?_ (hU) (fun _ => ?_)); (focus (repeat' (first | exact cos_refl _ | (refine cos_cons ?_ ?_) | exact co_refl _ | exact co_own _ _ _ | exact co_nilsB | exact co_nilsL _ _ | exact co_nils _ | (refine co_agg ?_) | (refine co_fn ?_)))); (focus (simp only [purAs, purA, Bool.and_self, Bool.and_true, Front.v, Front.c, hc', hX0, hk, hst2]))))); done)); (try simp only [St.put, Nat.reduceLT, ↓reduceIte, mrg_t, Bool.not_false]))
        | ((first | ((with_reducible refine opsP_cons fun K3 hK3 => ?_); simp only [wantP, opP, valP, List.map_cons, List.map_nil]) | (with_reducible refine PW.condM fun X1 Y1 hX1 hY1 => ?_) | skip); simp (disch := omega) only [St.eval, St.put, upd_app, iniT_app, avOf, avOf1, wf_i64, nom, cellsA, AV.okv, loadA, lenP, binP, intsP, intP, nilP, sliceP, boundLo, boundHi, unP, builtinP, appP, srcA, srcTy, isMapA, isBsl, slA, putCells, encB_len, encB_append, encB_take, encB_drop, U7, U8, Ua, Ub, Uc, Ud, Uf, Ug, Uk, Un, Up, Ur, Us, Ut, Uu, Uv, V2, V3, V7, V8, Nat.reduceLT, Nat.reduceAdd, Nat.reduceEqDiff, V9, Va, Ve, Int.reduceLE, Int.reduceNeg, Vu, Vv, Vf, Vn, ↓reduceIte, Vp, reduceCtorEq, Vw, Vz, UU0, UU2, UU4, UU6, Vr, sz3, sz5, ze5, by5, el22, Tryd.underlying22, sz26, ze26, fi26_0, Front.v, Front.c, hX0, hk, hst2, pick_or, retQ, resP, tupA, fg, condP, condB_f]; try (with_reducible (first | exact co_refl _ | exact co_own _ _ _ | exact co_nilsB | exact co_nilsL _ _))))
  · have hn := put_no he
    have he' := eq_false he
    obtain ⟨b, hb⟩ : ∃ b, (putFrontS f).1 = b := ⟨_, rfl⟩
    obtain ⟨e, hee⟩ : ∃ e, (putFrontS f).2 = e := ⟨_, rfl⟩
    rw [hb] at hn h1
    rw [hee] at he' h1
    subst hn
    obtain ⟨xk, xp, xt, xi, xs, xg⟩ := f
    simp only [Front.v, Front.c, List.map_cons, List.map_nil] at h1
    repeat' (first
      | (with_reducible (first
        | refine PW.seq fun K1 hK1 => ?_
        | refine PW.region fun K2 hK2 => ?_
        | (refine hK3 _ ?_; clear hK3)
        | (refine opsP_nil ?_; refine hK2 _ ?_; clear hK2)
        | refine litX_old ?_
        | refine litC_data ?_
        | (refine Exists.intro _ (Exists.intro _ (And.intro rfl (And.intro rfl (And.intro ?_ ?_)))); focus omega)
        | (refine hK1 _ ?_; clear hK1)
        | refine nilC_intro (fun hz => ?_) ?_
        | refine PW.block ?_
        | refine PW.skip ?_
        | refine PW.exit ?_
        | refine PW.ret ?_
        | (refine hX1 ?_; clear hX1 hY1; try simp only [hb])
        | (refine hY1 ?_; clear hX1 hY1; try simp only [hb])
        | exact co_refl _
        | exact co_own _ _ _
        | exact co_nilsB
        | exact co_nilsL _ _))
      | ((first | (with_reducible refine wantB_intro (fun hb => ?_) (fun hb => ?_)) | (with_reducible refine condB_intro (fun hb => ?_) (fun hb => ?_))) <;> ((try (have hp := hb; simp only [Bool.and_eq_true, Bool.or_eq_true, Bool.not_eq_true', Bool.not_eq_false', Bool.and_eq_false_iff, Bool.or_eq_false_iff, Bool.not_eq_eq_eq_not, Bool.not_true, Bool.not_false, decide_eq_true_eq, decide_eq_false_iff_not, Int.not_lt, Int.not_le, beq_iff_eq, beq_eq_false_iff_ne, ne_eq] at hp)); try simp only [hb, Bool.not_true, Bool.not_false]))
      | ((with_reducible refine callP_pure ?_ ?_ (pShown) (fun _ => ?_)); (focus (repeat' (first | exact cos_refl _ | (refine cos_cons ?_ ?_) | exact co_refl _ | exact co_own _ _ _ | exact co_nilsB | exact co_nilsL _ _ | exact co_nils _ | (refine co_agg ?_) | (refine co_fn ?_)))); (focus (simp only [purAs])))
      | ((with_reducible refine callP_pure ?_ ?_ (h1) (fun _ => ?_)); (focus (repeat' (first | exact cos_refl _ | (refine cos_cons ?_ ?_) | exact co_refl _ | exact co_own _ _ _ | exact co_nilsB | exact co_nilsL _ _ | exact co_nils _ | (refine co_agg ?_) | (refine co_fn ?_)))); (focus (simp only [purAs, purA, Bool.and_self])))
      | ((with_reducible refine And.intro ?_ ?_); (focus (first | omega | (simp; done) | assumption)))
      | (simp only [thenP]; (try ((repeat (fail_if_success (with_reducible refine hK1 _ ?_)); clear hK1); (with_reducible refine hK1 _ ?_); clear hK1)))
      | (with_reducible omega)
      | (assumption)
      | ((first | ((with_reducible refine opsP_consMt (d := ?_) (dj := ?_) (b := ?_) (r := ?_) ?_ ?_ (fun hb => ?_) (fun K3 hK3 => ?_)); rotate_left 3; (focus exact rfl); (focus (simp only [upd_app, Nat.reduceEqDiff, ↓reduceIte]; exact rfl))) | ((with_reducible refine opsP_consMf (d := ?_) (dj := ?_) (b := ?_) (r := ?_) ?_ ?_ (fun hb => ?_) (fun K3 hK3 => ?_)); rotate_left 3; (focus exact rfl); (focus (simp only [upd_app, Nat.reduceEqDiff, ↓reduceIte]; exact rfl))) | ((with_reducible refine opsP_consNt (d := ?_) (dj := ?_) (b := ?_) (r := ?_) (c := ?_) ?_ ?_ (fun hb => ?_) (fun K3 hK3 => ?_)); rotate_left 4; (focus exact rfl); (focus (simp only [St.put, upd_app, iniT_app, Nat.reduceEqDiff, ↓reduceIte, mrg_t, mrg_f]; exact rfl))) | ((with_reducible refine opsP_consNf (d := ?_) (dj := ?_) (b := ?_) (r := ?_) (c := ?_) ?_ ?_ (fun hb => ?_) (fun K3 hK3 => ?_)); rotate_left 4; (focus exact rfl); (focus (simp only [St.put, upd_app, iniT_app, Nat.reduceEqDiff, ↓reduceIte, mrg_t, mrg_f]; exact rfl)))); (focus (simp only [opP, valP, List.map_cons, List.map_nil]; (try (simp only [Bool.not_eq_true'] at hb)); (try (have hp := hb; simp only [Bool.and_eq_true, Bool.or_eq_true, Bool.not_eq_true', Bool.not_eq_false', Bool.and_eq_false_iff, Bool.or_eq_false_iff, Bool.not_eq_eq_eq_not, Bool.not_true, Bool.not_false, decide_eq_true_eq, decide_eq_false_iff_not, Int.not_lt, Int.not_le, beq_iff_eq, beq_eq_false_iff_ne, ne_eq] at hp)); simp (disch := omega) only [St.eval, upd_app, iniT_app, avOf, avOf1, wf_i64, lenP, binP, intsP, intP, nilP, builtinP, isMapA, slA, encB_len, U7, U8, Ug, Nat.reduceEqDiff, Int.reduceLE, Int.reduceNeg, Int.cast_ofNat_Int, Vu, Vv, Vf, Vg, Vo, ↓reduceIte, Vp, Vw, Vx, Vz, UU0, Tryd.underlying22, he', hb]; (repeat' (first | (exact rfl) | ((refine And.intro ?_ ?_); (focus (exact rfl)); (exact rfl)) | (refine And.intro (by first | omega | (simp; done) | assumption) ?_) | ((with_reducible refine callP_pure ?_ ?_ (pShown) (fun _ => ?_)); (focus (repeat' (first | exact cos_refl _ | (refine cos_cons ?_ ?_) | exact co_refl _ | exact co_own _ _ _ | exact co_nilsB | exact co_nilsL _ _ | exact co_nils _ | (refine co_agg ?_) | (refine co_fn ?_)))); (focus (simp only [purAs, purA, Bool.and_self, Bool.and_true, Front.v, Front.c, he']))) | ((with_reducible refine callP_pure ?_ ?_ (h1) (fun _ => ?_)); (focus (repeat' (first | exact cos_refl _ | (refine cos_cons ?_ ?_) | exact co_refl _ | exact co_own _ _ _ | exact co_nilsB | exact co_nilsL _ _ | exact co_nils _ | (refine co_agg ?_) | (refine co_fn ?_)))); (focus (simp only [purAs, purA, Bool.and_self, Bool.and_true, Front.v, Front.c, he']))))); done)); (try simp only [St.put, Nat.reduceLT, ↓reduceIte, mrg_t, mrg_f, Bool.not_true, Bool.not_false]))
      | ((first | ((with_reducible refine opsP_cons fun K3 hK3 => ?_); simp only [wantP, opP, valP, List.map_cons, List.map_nil]) | (with_reducible refine PW.condM fun X1 Y1 hX1 hY1 => ?_) | skip); simp (disch := omega) only [wantB_tf, St.eval, St.put, upd_app, iniT_app, avOf, avOf1, wf_i64, nom, cellsA, AV.okv, loadA, binP, nilP, unP, slA, U7, Ua, Ub, Uf, Ug, Uk, Un, Up, Ur, Us, Ut, Uv, Uz, V4, Nat.reduceLT, Nat.reduceAdd, Nat.reduceEqDiff, V9, Int.reduceLE, Int.reduceNeg, Vu, Vf, Vn, ↓reduceIte, Vp, Vw, Vz, UU0, Vr, sz26, Front.v, Front.c, retQ, resP, tupA, fg, condP, condB_t]; try (with_reducible (first | exact co_refl _ | exact co_own _ _ _ | exact co_nilsB | exact co_nilsL _ _))))
end PM
open PM
set_option maxRecDepth 100000 in
/-- the walk of PgwireForth -/
theorem forth_walk (v : Value) (f : Front) (v1 : Value) (l : List Int) (n : Int) (bn : -9223372036854775808 ≤ n ∧ n ≤ 9223372036854775807) (w : World) (h : RelA G0 nom w f.v v) (hz : (prmB f.params).length ≤ 100000000000 ∧ f.text.length ≤ 100000000000) (hb : IsB w v1 l) (hl : l.length ≤ 1048575) :
    Calls Tryd.prog 7 #[v, v1, .int .i64 n] w (Ret (.bool true) w) := by
  have hc := calls_of_pure (vs := [v, v1, .int .i64 n]) Tryd.func7 rfl rfl (pForth f l n hz.1 hz.2 (by omega)) (.cons h (.cons (relB hb) (.cons (relA_int (by rw [PM.wf_i64]; simp only [Bool.and_eq_true, decide_eq_true_eq]; exact bn)) .nil)))
  refine hc.mono fun e w' ⟨v', G', h1, h2, h3, h4⟩ => ⟨?_, h2⟩
  rw [h1, bool_ret h4]
end Go.Proofs.YthaekefdadccaaaDoor
