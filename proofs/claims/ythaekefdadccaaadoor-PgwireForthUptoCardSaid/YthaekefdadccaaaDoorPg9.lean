/- pgwire in the abstract: a client's message, the document's and the program's. -/
import Derived.Test.YthaekefdadccaaaDoorPg4
import Derived.Test.YthaekefdadccaaaDoorPg8
namespace Go.Proofs.YthaekefdadccaaaDoor
open Go.RowKit
namespace PM
set_option maxRecDepth 100000 in
set_option maxHeartbeats 8000000 in
theorem pRTakeFront (b : List Int) (st : Bool) : Pure Tryd.prog 12 [bs b, .d (.bool st)] (.tup [(takeFrontS b st).1.v, .d (.int .i64 (takeFrontS b st).2.1), .d (.int .i64 (takeFrontS b st).2.2)]) := by
  refine pure_intro Tryd.func12 rfl rfl rfl 100 rfl (fun hh => ?_)
  obtain ⟨hr, hml⟩ := has_bytes (hh (bs b) (by simp))
  have hmx : maxLen = 9223372036854775807 := rfl
  cases st with
  | true =>
    have hS : takeFrontS b true = firstS b := rfl
    rw [hS]
    repeat' (first
      | (with_reducible (first
        | refine PW.seq fun K1 hK1 => ?_
        | refine PW.region fun K2 hK2 => ?_
        | (refine hK3 _ ?_; clear hK3)
        | (refine opsP_nil ?_; refine hK2 _ ?_; clear hK2)
        | refine litX_old ?_
        | refine litC_data ?_
        | (refine Exists.intro _ (Exists.intro _ (And.intro rfl (And.intro rfl (And.intro ?_ ?_)))); focus omega)
        | (refine hK1 _ ?_; clear hK1)
        | refine nilC_intro (fun hz => ?_) ?_
        | refine PW.block ?_
        | refine PW.skip ?_
        | refine PW.exit ?_
        | refine PW.ret ?_
        | (refine hX1 ?_; clear hX1 hY1; try simp only [hb])
        | (refine hY1 ?_; clear hX1 hY1; try simp only [hb])
        | exact co_refl _
        | exact co_own _ _ _
        | exact co_nilsB
        | exact co_nilsL _ _))
      | ((first | (with_reducible refine wantB_intro (fun hb => ?_) (fun hb => ?_)) | (with_reducible refine condB_intro (fun hb => ?_) (fun hb => ?_))) <;> ((try (have hp := hb; simp only [Bool.and_eq_true, Bool.or_eq_true, Bool.not_eq_true', Bool.not_eq_false', Bool.and_eq_false_iff, Bool.or_eq_false_iff, Bool.not_eq_eq_eq_not, Bool.not_true, Bool.not_false, decide_eq_true_eq, decide_eq_false_iff_not, Int.not_lt, Int.not_le, beq_iff_eq, beq_eq_false_iff_ne, ne_eq] at hp)); try simp only [hb, Bool.not_true, Bool.not_false]))
      | ((with_reducible refine callP_pure ?_ ?_ (pFirst ?_) (fun _ => ?_)); (focus (repeat' (first | exact cos_refl _ | (refine cos_cons ?_ ?_) | exact co_refl _ | exact co_own _ _ _ | exact co_nilsB | exact co_nilsL _ _ | exact co_nils _ | (refine co_agg ?_) | (refine co_fn ?_)))); (focus (simp only [purAs, purA, Bool.and_self])))
      | ((with_reducible refine And.intro ?_ ?_); (focus (first | omega | (simp; done) | assumption)))
      | (simp only [thenP]; (try ((repeat (fail_if_success (with_reducible refine hK1 _ ?_)); clear hK1); (with_reducible refine hK1 _ ?_); clear hK1)))
      | (with_reducible omega)
      | (assumption)
      | ((first | ((with_reducible refine opsP_cons fun K3 hK3 => ?_); simp only [wantP, opP, valP, List.map_cons, List.map_nil]) | (with_reducible refine PW.condM fun X1 Y1 hX1 hY1 => ?_) | skip); simp (disch := omega) only [St.eval, St.put, upd_app, iniT_app, avOf, avOf1, wf_i64, nom, cellsA, AV.okv, loadA, putCells, U7, U8, Ua, Ub, Uc, Ud, Uf, Ug, Uk, Un, Up, Ur, Us, Ut, Uv, Nat.reduceLT, Nat.reduceAdd, Nat.reduceEqDiff, V9, Int.reduceLE, Int.reduceNeg, Vu, Vf, ↓reduceIte, reduceCtorEq, Vw, Vr, sz26, ze26, Front.v, Front.c, retQ, resP, tupA, fg, fgs, condP, condB_t]; try (with_reducible (first | exact co_refl _ | exact co_own _ _ _ | exact co_nilsB | exact co_nilsL _ _))))
  | false =>
    have hS : takeFrontS b false = laterS b := rfl
    rw [hS]
    cases b with
    | nil =>
      repeat' (first
        | (with_reducible (first
          | refine PW.seq fun K1 hK1 => ?_
          | refine PW.region fun K2 hK2 => ?_
          | (refine hK3 _ ?_; clear hK3)
          | (refine opsP_nil ?_; refine hK2 _ ?_; clear hK2)
          | refine litX_old ?_
          | refine litC_data ?_
          | (refine Exists.intro _ (Exists.intro _ (And.intro rfl (And.intro rfl (And.intro ?_ ?_)))); focus omega)
          | (refine hK1 _ ?_; clear hK1)
          | refine nilC_intro (fun hz => ?_) ?_
          | refine PW.block ?_
          | refine PW.skip ?_
          | refine PW.exit ?_
          | refine PW.ret ?_
          | (refine hX1 ?_; clear hX1 hY1; try simp only [hb])
          | (refine hY1 ?_; clear hX1 hY1; try simp only [hb])
          | exact co_refl _
          | exact co_own _ _ _
          | exact co_nilsB
          | exact co_nilsL _ _))
        | ((first | (with_reducible refine wantB_intro (fun hb => ?_) (fun hb => ?_)) | (with_reducible refine condB_intro (fun hb => ?_) (fun hb => ?_))) <;> ((try (have hp := hb; simp only [Bool.and_eq_true, Bool.or_eq_true, Bool.not_eq_true', Bool.not_eq_false', Bool.and_eq_false_iff, Bool.or_eq_false_iff, Bool.not_eq_eq_eq_not, Bool.not_true, Bool.not_false, decide_eq_true_eq, decide_eq_false_iff_not, Int.not_lt, Int.not_le, beq_iff_eq, beq_eq_false_iff_ne, ne_eq] at hp)); try simp only [hb, Bool.not_true, Bool.not_false]))
        | ((with_reducible refine And.intro ?_ ?_); (focus (first | omega | (simp; done) | assumption)))
        | (simp only [thenP, blockP]; (try ((repeat (fail_if_success (with_reducible refine hK1 _ ?_)); clear hK1); (with_reducible refine hK1 _ ?_); clear hK1)))
        | (with_reducible omega)
        | (assumption)
        | ((first | ((with_reducible refine opsP_cons fun K3 hK3 => ?_); simp only [wantP, opP, valP, List.map_cons, List.map_nil]) | (with_reducible refine PW.condM fun X1 Y1 hX1 hY1 => ?_) | skip); simp (disch := omega) only [St.eval, St.put, upd_app, iniT_app, avOf, avOf1, wf_i64, nom, cellsA, AV.okv, loadA, lenP, binP, intsP, intP, nilP, builtinP, isMapA, slA, putCells, fillA, buildA, encB_len, U7, U8, Ua, Uc, Ud, Uf, Ug, Uk, Un, Up, Ut, Nat.reduceLT, Nat.reduceAdd, Nat.reduceEqDiff, V9, Int.reduceLE, Int.reduceNeg, Int.cast_ofNat_Int, Vu, Vf, ↓reduceIte, Vp, reduceCtorEq, Vw, Vz, UU0, Vr, Tryd.underlying22, sz26, ze26, pl26, retQ, resP, tupA, fg, fgs, condP, condB_t, condB_f]; try (with_reducible (first | exact co_refl _ | exact co_own _ _ _ | exact co_nilsB | exact co_nilsL _ _))))
      all_goals (try (focus ((try simp only [laterS, zF]); (repeat' split) <;> (first | (exfalso; omega) | ((try ((with_reducible refine And.intro ?_ ?_); rotate_left 1; (focus (first | exact subM_row1 | exact subM_nom _ | (refine subM_box1 ?_; simp only [fgs, fg]; (repeat' (first | exact cos_refl _ | refine cos_cons ?_ ?_ | exact co_refl _ | exact co_nilsB | exact co_own _ _ _ | exact co_nilsL _ _ | exact co_nils _ | refine co_agg ?_ | refine co_tup ?_)); done))))); (first | ((repeat' (first | exact cos_refl _ | refine cos_cons ?_ ?_ | exact co_refl _ | exact co_nilsB | exact co_own _ _ _ | exact co_nilsL _ _ | exact co_nils _ | refine co_agg ?_ | refine co_tup ?_)); done) | (refine co_eq ?_; simp_all; done))) | (exfalso; simp_all; done)))))
    | cons c r =>
      have hc := rng_at hr (i := 0) rfl
      obtain ⟨b, hbe⟩ : ∃ b, b = c :: r := ⟨_, rfl⟩
      rw [← hbe] at hml hr ⊢
      have hx : b[0]? = some c := by rw [hbe]; rfl
      have hg : b.getD 0 0 = c := by rw [hbe]; rfl
      have hl : b.length = r.length + 1 := by rw [hbe]; rfl
      clear hbe hh
      by_cases hq : (b.length : Int) < 5
      · have hq' := eq_true hq
        repeat' (first
          | (with_reducible (first
            | refine PW.seq fun K1 hK1 => ?_
            | refine PW.region fun K2 hK2 => ?_
            | (refine hK3 _ ?_; clear hK3)
            | (refine opsP_nil ?_; refine hK2 _ ?_; clear hK2)
            | refine litX_old ?_
            | refine litC_data ?_
            | (refine Exists.intro _ (Exists.intro _ (And.intro rfl (And.intro rfl (And.intro ?_ ?_)))); focus omega)
            | (refine hK1 _ ?_; clear hK1)
            | refine nilC_intro (fun hz => ?_) ?_
            | refine PW.block ?_
            | refine PW.skip ?_
            | refine PW.exit ?_
            | refine PW.ret ?_
            | (refine hX1 ?_; clear hX1 hY1; try simp only [hb])
            | (refine hY1 ?_; clear hX1 hY1; try simp only [hb])
            | exact co_refl _
            | exact co_own _ _ _
            | exact co_nilsB
            | exact co_nilsL _ _))
          | ((first | (with_reducible refine wantB_intro (fun hb => ?_) (fun hb => ?_)) | (with_reducible refine condB_intro (fun hb => ?_) (fun hb => ?_))) <;> ((try (have hp := hb; simp only [Bool.or_eq_true, Bool.or_eq_false_iff, decide_eq_true_eq, decide_eq_false_iff_not, Int.not_lt] at hp)); try simp only [hb, Bool.not_true, Bool.not_false]))
          | ((with_reducible refine And.intro ?_ ?_); (focus (first | omega | (simp; done) | assumption)))
          | (simp only [thenP, blockP]; (try ((repeat (fail_if_success (with_reducible refine hK1 _ ?_)); clear hK1); (with_reducible refine hK1 _ ?_); clear hK1)))
          | (with_reducible omega)
          | (assumption)
          | ((first | ((with_reducible refine opsP_consMt (d := ?_) (dj := ?_) (b := ?_) (r := ?_) ?_ ?_ (fun hb => ?_) (fun K3 hK3 => ?_)); rotate_left 3; (focus exact rfl); (focus (simp only [St.put, upd_app, iniT_app, Nat.reduceEqDiff, ↓reduceIte, mrg_t, mrg_f]; exact rfl))) | ((with_reducible refine opsP_consMf (d := ?_) (dj := ?_) (b := ?_) (r := ?_) ?_ ?_ (fun hb => ?_) (fun K3 hK3 => ?_)); rotate_left 3; (focus exact rfl); (focus (simp only [upd_app, Nat.reduceEqDiff, ↓reduceIte]; exact rfl))) | ((with_reducible refine opsP_consNt (d := ?_) (dj := ?_) (b := ?_) (r := ?_) (c := ?_) ?_ ?_ (fun hb => ?_) (fun K3 hK3 => ?_)); rotate_left 4; (focus exact rfl); (focus (simp only [St.put, upd_app, iniT_app, Nat.reduceEqDiff, ↓reduceIte, mrg_t, mrg_f]; exact rfl))) | ((with_reducible refine opsP_consNf (d := ?_) (dj := ?_) (b := ?_) (r := ?_) (c := ?_) ?_ ?_ (fun hb => ?_) (fun K3 hK3 => ?_)); rotate_left 4; (focus exact rfl); (focus (simp only [St.put, upd_app, iniT_app, Nat.reduceEqDiff, ↓reduceIte, mrg_t, mrg_f]; exact rfl)))); (focus (simp only [opP, valP]; (try (simp only [Bool.not_eq_true'] at hb)); (try (have hp := hb; simp only [decide_eq_false_iff_not] at hp)); simp (disch := omega) only [St.eval, upd_app, iniT_app, avOf, avOf1, wf_i64, wf_u8, loadA, binP, intsP, intP, nilP, slA, encB_get, U7, Ur, Us, V2, V8, Int.reduceLE, Int.reduceNeg, Vu, Vf, Vo, ↓reduceIte, reduceCtorEq, Vw, Vx, Vz, UU0, Vs, sz5, el22, hx, mrg_t, hb]; (repeat' (first | (exact rfl) | ((refine And.intro ?_ ?_); (focus (exact rfl)); (exact rfl)) | (refine And.intro (by first | omega | (simp; done) | assumption) ?_))); done)); (try simp only [St.put, Nat.reduceLT, ↓reduceIte]))
          | ((first | ((with_reducible refine opsP_cons fun K3 hK3 => ?_); simp only [wantP, opP, valP, List.map_cons, List.map_nil]) | (with_reducible refine PW.condM fun X1 Y1 hX1 hY1 => ?_) | skip); simp (disch := omega) only [St.eval, St.put, upd_app, iniT_app, avOf, avOf1, wf_i64, wf_u8, nom, cellsA, AV.okv, loadA, lenP, binP, intsP, intP, nilP, builtinP, isMapA, slA, putCells, fillA, buildA, encB_len, encB_get, U7, U8, Ua, Uc, Ud, Uf, Ug, Uk, Un, Up, Ur, Us, Ut, V2, V8, Nat.reduceLT, Nat.reduceAdd, Nat.reduceEqDiff, V9, Int.reduceLE, Int.reduceNeg, Vu, Vf, ↓reduceIte, Vp, reduceCtorEq, Vw, Vz, UU0, Vr, Vs, sz5, el22, Tryd.underlying22, sz26, ze26, pl26, hx, hq', pick_or, retQ, resP, tupA, fg, fgs, condP, condB_t, condB_f]; try (with_reducible (first | exact co_refl _ | exact co_own _ _ _ | exact co_nilsB | exact co_nilsL _ _))))
        all_goals (try (focus ((try simp only [laterS, hg, zF]); (repeat' split) <;> (first | (exfalso; omega) | ((try ((with_reducible refine And.intro ?_ ?_); rotate_left 1; (focus (first | exact subM_row1 | exact subM_nom _ | (refine subM_box1 ?_; simp only [fgs, fg]; (repeat' (first | exact cos_refl _ | refine cos_cons ?_ ?_ | exact co_refl _ | exact co_nilsB | exact co_own _ _ _ | exact co_nilsL _ _ | exact co_nils _ | refine co_agg ?_ | refine co_tup ?_)); done))))); (first | ((repeat' (first | exact cos_refl _ | refine cos_cons ?_ ?_ | exact co_refl _ | exact co_nilsB | exact co_own _ _ _ | exact co_nilsL _ _ | exact co_nils _ | refine co_agg ?_ | refine co_tup ?_)); done) | (refine co_eq ?_; simp_all; done))) | (exfalso; simp_all; done)))))
      · have hq' := eq_false hq
        have hN := pI32 (b.drop 1) (by rw [List.length_drop]; omega)
        by_cases h8 : i32v (b.drop 1) < 4 ∨ 1048576 < i32v (b.drop 1) ∨ (b.length : Int) - 1 < i32v (b.drop 1)
        · skip
          repeat' (first
            | (with_reducible (first
              | refine PW.seq fun K1 hK1 => ?_
              | refine PW.region fun K2 hK2 => ?_
              | (refine hK3 _ ?_; clear hK3)
              | (refine opsP_nil ?_; refine hK2 _ ?_; clear hK2)
              | refine litX_old ?_
              | refine litC_data ?_
              | (refine Exists.intro _ (Exists.intro _ (And.intro rfl (And.intro rfl (And.intro ?_ ?_)))); focus omega)
              | (refine hK1 _ ?_; clear hK1)
              | refine nilC_intro (fun hz => ?_) ?_
              | refine PW.block ?_
              | refine PW.skip ?_
              | refine PW.exit ?_
              | refine PW.ret ?_
              | (refine hX1 ?_; clear hX1 hY1; try simp only [hb])
              | (refine hY1 ?_; clear hX1 hY1; try simp only [hb])
              | exact co_refl _
              | exact co_own _ _ _
              | exact co_nilsB
              | exact co_nilsL _ _))
            | ((first | (with_reducible refine wantB_intro (fun hb => ?_) (fun hb => ?_)) | (with_reducible refine condB_intro (fun hb => ?_) (fun hb => ?_))) <;> ((try (have hp := hb; simp only [Bool.or_eq_true, Bool.or_eq_false_iff, decide_eq_true_eq, decide_eq_false_iff_not, Int.not_lt] at hp)); try simp only [hb, Bool.not_true, Bool.not_false]))
            | ((with_reducible refine callP_pure ?_ ?_ (hN) (fun _ => ?_)); (focus (repeat' (first | exact cos_refl _ | (refine cos_cons ?_ ?_) | exact co_refl _ | exact co_own _ _ _ | exact co_nilsB | exact co_nilsL _ _ | exact co_nils _ | (refine co_agg ?_) | (refine co_fn ?_)))); (focus (simp only [purAs, purA, Bool.and_self])))
            | ((with_reducible refine And.intro ?_ ?_); (focus (first | omega | (simp; done) | assumption)))
            | (simp only [thenP, blockP]; (try ((repeat (fail_if_success (with_reducible refine hK1 _ ?_)); clear hK1); (with_reducible refine hK1 _ ?_); clear hK1)))
            | (with_reducible omega)
            | (assumption)
            | ((first | ((with_reducible refine opsP_consMt (d := ?_) (dj := ?_) (b := ?_) (r := ?_) ?_ ?_ (fun hb => ?_) (fun K3 hK3 => ?_)); rotate_left 3; (focus exact rfl); (focus (simp only [St.put, upd_app, iniT_app, Nat.reduceEqDiff, ↓reduceIte, mrg_t, mrg_f]; exact rfl))) | ((with_reducible refine opsP_consMf (d := ?_) (dj := ?_) (b := ?_) (r := ?_) ?_ ?_ (fun hb => ?_) (fun K3 hK3 => ?_)); rotate_left 3; (focus exact rfl); (focus (simp only [upd_app, Nat.reduceEqDiff, ↓reduceIte]; exact rfl))) | ((with_reducible refine opsP_consNt (d := ?_) (dj := ?_) (b := ?_) (r := ?_) (c := ?_) ?_ ?_ (fun hb => ?_) (fun K3 hK3 => ?_)); rotate_left 4; (focus exact rfl); (focus (simp only [St.put, upd_app, iniT_app, Nat.reduceEqDiff, ↓reduceIte, mrg_t, mrg_f]; exact rfl))) | ((with_reducible refine opsP_consNf (d := ?_) (dj := ?_) (b := ?_) (r := ?_) (c := ?_) ?_ ?_ (fun hb => ?_) (fun K3 hK3 => ?_)); rotate_left 4; (focus exact rfl); (focus (simp only [St.put, upd_app, iniT_app, Nat.reduceEqDiff, ↓reduceIte, mrg_t, mrg_f]; exact rfl)))); (focus (simp only [opP, valP]; (try (simp only [Bool.not_eq_true'] at hb)); (try (have hp := hb; simp only [decide_eq_false_iff_not] at hp)); simp (disch := omega) only [St.eval, upd_app, iniT_app, avOf, avOf1, wf_i64, wf_u8, loadA, binP, intsP, intP, nilP, slA, encB_get, U7, Ur, Us, V2, V8, Int.reduceLE, Int.reduceNeg, Vu, Vf, Vo, ↓reduceIte, reduceCtorEq, Vw, Vx, Vz, UU0, Vs, sz5, el22, hx, mrg_t, hb]; (repeat' (first | (exact rfl) | ((refine And.intro ?_ ?_); (focus (exact rfl)); (exact rfl)) | (refine And.intro (by first | omega | (simp; done) | assumption) ?_) | ((with_reducible refine callP_pure ?_ ?_ (hN) (fun _ => ?_)); (focus (repeat' (first | exact cos_refl _ | (refine cos_cons ?_ ?_) | exact co_refl _ | exact co_own _ _ _ | exact co_nilsB | exact co_nilsL _ _ | exact co_nils _ | (refine co_agg ?_) | (refine co_fn ?_)))); (focus (simp only [purAs, purA, Bool.and_self, Bool.and_true, hx, hq']))))); done)); (try simp only [St.put, Nat.reduceLT, ↓reduceIte]))
            | ((first | ((with_reducible refine opsP_cons fun K3 hK3 => ?_); simp only [wantP, opP, valP, List.map_cons, List.map_nil]) | (with_reducible refine PW.condM fun X1 Y1 hX1 hY1 => ?_) | skip); simp (disch := omega) only [St.eval, St.put, upd_app, iniT_app, avOf, avOf1, wf_i64, wf_u8, nom, cellsA, AV.okv, loadA, lenP, binP, intsP, intP, nilP, sliceP, boundLo, boundHi, builtinP, wi_i64, isMapA, slA, putCells, fillA, buildA, encB_len, encB_get, encB_take, encB_drop, U7, U8, Ua, Uc, Ud, Uf, Ug, Uk, Un, Up, Uq, Ur, Us, Ut, Uv, V2, V3, V7, V8, Nat.reduceLT, Nat.reduceAdd, Nat.reduceEqDiff, V9, Int.reduceLE, Int.reduceNeg, Int.reduceToNat, Vu, Vv, Vf, ↓reduceIte, Vp, reduceCtorEq, Vw, Vz, UU0, UU2, UU4, Vr, Vs, sz5, el22, Tryd.underlying22, sz26, ze26, pl26, hx, hq', pick_or, retQ, resP, tupA, fg, fgs, condP, condB_f]; try (with_reducible (first | exact co_refl _ | exact co_own _ _ _ | exact co_nilsB | exact co_nilsL _ _))))
          all_goals try (exfalso; omega)
          all_goals (try (focus ((try simp only [laterS, hg, zF]); (repeat' split) <;> (first | (exfalso; omega) | ((try ((with_reducible refine And.intro ?_ ?_); rotate_left 1; (focus (first | exact subM_row1 | exact subM_nom _ | (refine subM_box1 ?_; simp only [fgs, fg]; (repeat' (first | exact cos_refl _ | refine cos_cons ?_ ?_ | exact co_refl _ | exact co_nilsB | exact co_own _ _ _ | exact co_nilsL _ _ | exact co_nils _ | refine co_agg ?_ | refine co_tup ?_)); done))))); (first | ((repeat' (first | exact cos_refl _ | refine cos_cons ?_ ?_ | exact co_refl _ | exact co_nilsB | exact co_own _ _ _ | exact co_nilsL _ _ | exact co_nils _ | refine co_agg ?_ | refine co_tup ?_)); done) | (refine co_eq ?_; simp_all; done))) | (exfalso; simp_all; done)))))
        · obtain ⟨n, hn⟩ := Int.eq_ofNat_of_zero_le (a := i32v (b.drop 1)) (by omega)
          rw [hn] at h8 hN
          obtain ⟨body, hB⟩ : ∃ body, body = (b.take (n + 1)).drop 5 := ⟨_, rfl⟩
          have hbl : body.length = n - 4 := by rw [hB, List.length_drop, List.length_take]; omega
          have hbe : (b.take (1 + (n : Int)).toNat).drop 5 = body := by rw [hB]; congr 2; omega
          have hbe' : (b.take (1 + n)).drop 5 = body := by rw [hB]; congr 2; omega
          have hlS : laterS b = if c = 0 ∨ 127 < c then (zF, 0, 230) else if (bodyS c body).2 ≠ 0 then (zF, 0, (bodyS c body).2) else ((bodyS c body).1, 1 + (n : Int), 0) := by
            unfold laterS
            rw [hg, hn, hbe, if_neg (by omega), if_neg (c := b.length < 5) (by omega), if_neg (c := (n : Int) < 4) (by omega), if_neg (c := (1048576 : Int) < n) (by omega), if_neg (c := (b.length : Int) - 1 < n) (by omega)]
          have hE := pEnd body 0
          have hend : endS body 0 = match cut0 body with | none => -1 | some (a, _) => (a.length : Int) := by unfold endS; rw [List.drop_zero]; cases cut0 body with | none => rfl | some p => simp
          rw [hlS]
          cases h0 : cut0 body with
          | none =>
            rw [h0] at hend
            simp only at hend
            have hbS : bodyS c body = if c = 81 then (zF, 230) else if c = 88 then (if body = [] then ({ zF with kind := 5 }, 0) else (zF, 230)) else ({ zF with kind := 6, tag := c }, 0) := by unfold bodyS; rw [h0]
            have hbn : body = [] ↔ body.length = 0 := by simp
            repeat' (first
              | (with_reducible (first
                | refine PW.seq fun K1 hK1 => ?_
                | refine PW.region fun K2 hK2 => ?_
                | (refine hK3 _ ?_; clear hK3)
                | (refine opsP_nil ?_; refine hK2 _ ?_; clear hK2)
                | refine litX_old ?_
                | refine litC_data ?_
                | (refine Exists.intro _ (Exists.intro _ (And.intro rfl (And.intro rfl (And.intro ?_ ?_)))); focus omega)
                | (refine hK1 _ ?_; clear hK1)
                | refine nilC_intro (fun hz => ?_) ?_
                | refine PW.block ?_
                | refine PW.skip ?_
                | refine PW.exit ?_
                | refine PW.ret ?_
                | (refine hX1 ?_; clear hX1 hY1; try simp only [hb])
                | (refine hY1 ?_; clear hX1 hY1; try simp only [hb])
                | exact co_refl _
                | exact co_own _ _ _
                | exact co_nilsB
                | exact co_nilsL _ _))
              | ((first | (with_reducible refine wantB_intro (fun hb => ?_) (fun hb => ?_)) | (with_reducible refine condB_intro (fun hb => ?_) (fun hb => ?_))) <;> ((try (have hp := hb; simp only [Bool.or_eq_true, Bool.or_eq_false_iff, Bool.not_eq_eq_eq_not, Bool.not_true, Bool.not_false, decide_eq_true_eq, decide_eq_false_iff_not, Int.not_lt] at hp)); try simp only [hb, Bool.not_true, Bool.not_false]))
              | ((with_reducible refine callP_pure ?_ ?_ (hN) (fun _ => ?_)); (focus (repeat' (first | exact cos_refl _ | (refine cos_cons ?_ ?_) | exact co_refl _ | exact co_own _ _ _ | exact co_nilsB | exact co_nilsL _ _ | exact co_nils _ | (refine co_agg ?_) | (refine co_fn ?_)))); (focus (simp only [purAs, purA, Bool.and_self])))
              | ((with_reducible refine callP_pure ?_ ?_ (hE) (fun _ => ?_)); (focus (repeat' (first | exact cos_refl _ | (refine cos_cons ?_ ?_) | exact co_refl _ | exact co_own _ _ _ | exact co_nilsB | exact co_nilsL _ _ | exact co_nils _ | (refine co_agg ?_) | (refine co_fn ?_)))); (focus (simp only [purAs, purA, Bool.and_self, Bool.and_true, hx, hq', hend, hbe, hbe'])))
              | ((with_reducible refine And.intro ?_ ?_); (focus (first | omega | (simp; done) | assumption)))
              | (simp only [thenP, blockP]; (try ((repeat (fail_if_success (with_reducible refine hK1 _ ?_)); clear hK1); (with_reducible refine hK1 _ ?_); clear hK1)))
              | (with_reducible omega)
              | (assumption)
              | ((first | ((with_reducible refine opsP_consMt (d := ?_) (dj := ?_) (b := ?_) (r := ?_) ?_ ?_ (fun hb => ?_) (fun K3 hK3 => ?_)); rotate_left 3; (focus exact rfl); (focus (simp only [St.put, upd_app, iniT_app, Nat.reduceEqDiff, ↓reduceIte, mrg_t, mrg_f]; exact rfl))) | ((with_reducible refine opsP_consMf (d := ?_) (dj := ?_) (b := ?_) (r := ?_) ?_ ?_ (fun hb => ?_) (fun K3 hK3 => ?_)); rotate_left 3; (focus exact rfl); (focus (simp only [upd_app, Nat.reduceEqDiff, ↓reduceIte]; exact rfl))) | ((with_reducible refine opsP_consNt (d := ?_) (dj := ?_) (b := ?_) (r := ?_) (c := ?_) ?_ ?_ (fun hb => ?_) (fun K3 hK3 => ?_)); rotate_left 4; (focus exact rfl); (focus (simp only [St.put, upd_app, iniT_app, Nat.reduceEqDiff, ↓reduceIte, mrg_t, mrg_f]; exact rfl))) | ((with_reducible refine opsP_consNf (d := ?_) (dj := ?_) (b := ?_) (r := ?_) (c := ?_) ?_ ?_ (fun hb => ?_) (fun K3 hK3 => ?_)); rotate_left 4; (focus exact rfl); (focus (simp only [St.put, upd_app, iniT_app, Nat.reduceEqDiff, ↓reduceIte, mrg_t, mrg_f]; exact rfl)))); (focus (simp only [opP, valP, List.map_cons, List.map_nil]; (try (simp only [Bool.not_eq_true'] at hb)); (try (have hp := hb; simp only [decide_eq_false_iff_not] at hp)); simp (disch := omega) only [St.eval, upd_app, iniT_app, avOf, avOf1, wf_i64, wf_u8, loadA, lenP, binP, intsP, intP, nilP, builtinP, wi_i64, isMapA, slA, encB_len, encB_get, U7, Ur, Us, Uv, V2, V8, Nat.reduceEqDiff, Int.reduceLE, Int.reduceNeg, Vu, Vf, Vo, ↓reduceIte, Vp, reduceCtorEq, Vw, Vx, Vz, UU0, Vs, sz5, el22, Tryd.underlying22, hx, hend, mrg_t, hb]; (repeat' (first | (exact rfl) | ((refine And.intro ?_ ?_); (focus (exact rfl)); (exact rfl)) | (refine And.intro (by first | omega | (simp; done) | assumption) ?_) | ((with_reducible refine callP_pure ?_ ?_ (hN) (fun _ => ?_)); (focus (repeat' (first | exact cos_refl _ | (refine cos_cons ?_ ?_) | exact co_refl _ | exact co_own _ _ _ | exact co_nilsB | exact co_nilsL _ _ | exact co_nils _ | (refine co_agg ?_) | (refine co_fn ?_)))); (focus (simp only [purAs, purA, Bool.and_self, Bool.and_true, hx, hq', hend, hbe, hbe']))) | ((with_reducible refine callP_pure ?_ ?_ (hE) (fun _ => ?_)); (focus (repeat' (first | exact cos_refl _ | (refine cos_cons ?_ ?_) | exact co_refl _ | exact co_own _ _ _ | exact co_nilsB | exact co_nilsL _ _ | exact co_nils _ | (refine co_agg ?_) | (refine co_fn ?_)))); (focus (simp only [purAs, purA, Bool.and_self]))))); done)); (try simp only [St.put, Nat.reduceLT, ↓reduceIte]))
              | ((first | ((with_reducible refine opsP_cons fun K3 hK3 => ?_); simp only [wantP, opP, valP, List.map_cons, List.map_nil]) | (with_reducible refine PW.condM fun X1 Y1 hX1 hY1 => ?_) | skip); simp (disch := omega) only [St.eval, St.put, upd_app, iniT_app, avOf, avOf1, wf_i64, wf_u8, nom, cellsA, AV.okv, loadA, lenP, binP, intsP, intP, nilP, sliceP, boundLo, boundHi, builtinP, wi_i64, isMapA, slA, putCells, fillA, buildA, encB_len, encB_get, encB_take, encB_drop, U7, U8, Ua, Ub, Uc, Ud, Uf, Ug, Uk, Un, Up, Uq, Ur, Us, Ut, Uv, V2, V3, V7, V8, Nat.reduceLT, Nat.reduceAdd, Nat.reduceEqDiff, V9, Vd, Ve, Vt, Int.reduceLE, Int.reduceNeg, Int.reduceToNat, Vu, Vv, Vf, ↓reduceIte, Vp, reduceCtorEq, Vw, Vz, UU0, UU2, UU3, UU4, Vr, Vs, sz5, el22, Tryd.underlying22, sz26, ze26, pl26, hx, hq', hend, hbe, pick_or, retQ, resP, tupA, fg, fgs, condP, condB_f]; try (with_reducible (first | exact co_refl _ | exact co_own _ _ _ | exact co_nilsB | exact co_nilsL _ _))))
            all_goals (try (focus ((try simp only [hbS, hbn, zF]); (repeat' split) <;> (first | (exfalso; omega) | ((try ((with_reducible refine And.intro ?_ ?_); rotate_left 1; (focus (first | exact subM_row1 | exact subM_nom _ | (refine subM_box1 ?_; simp only [fgs, fg]; (repeat' (first | exact cos_refl _ | refine cos_cons ?_ ?_ | exact co_refl _ | exact co_nilsB | exact co_own _ _ _ | exact co_nilsL _ _ | exact co_nils _ | refine co_agg ?_ | refine co_tup ?_)); done))))); (first | ((repeat' (first | exact cos_refl _ | refine cos_cons ?_ ?_ | exact co_refl _ | exact co_nilsB | exact co_own _ _ _ | exact co_nilsL _ _ | exact co_nils _ | refine co_agg ?_ | refine co_tup ?_)); done) | (refine co_eq ?_; simp_all; done))) | (exfalso; simp_all; done)))))
          | some p =>
            obtain ⟨a, q⟩ := p
            rw [h0] at hend
            simp only at hend
            have l0 := cut0_len h0
            have hbS : bodyS c body = if c = 81 then (if q.length = 0 then ({ zF with kind := 4, text := a }, 0) else (zF, 230)) else if c = 88 then (zF, 230) else ({ zF with kind := 6, tag := c }, 0) := by
              have : body ≠ [] := by rintro rfl; cases h0
              unfold bodyS; rw [h0]; cases q <;> simp [this]
            have hbn : body.length ≠ 0 := by omega
            have hta : q.length = 0 → body.take (body.length - 1) = a := fun h => by
              have := (cut0_spec h0).1
              rw [this]
              have : q = [] := List.eq_nil_of_length_eq_zero h
              subst this
              simp
            by_cases hq0 : q.length = 0
            · have hta2 : body.take ((body.length : Int) - 1).toNat = a := by rw [← hta hq0]; congr 1; omega
              repeat' (first
                | (with_reducible (first
                  | refine PW.seq fun K1 hK1 => ?_
                  | refine PW.region fun K2 hK2 => ?_
                  | (refine hK3 _ ?_; clear hK3)
                  | (refine opsP_nil ?_; refine hK2 _ ?_; clear hK2)
                  | refine litX_old ?_
                  | refine litC_data ?_
                  | (refine Exists.intro _ (Exists.intro _ (And.intro rfl (And.intro rfl (And.intro ?_ ?_)))); focus omega)
                  | (refine hK1 _ ?_; clear hK1)
                  | refine nilC_intro (fun hz => ?_) ?_
                  | refine PW.block ?_
                  | refine PW.skip ?_
                  | refine PW.exit ?_
                  | refine PW.ret ?_
                  | (refine hX1 ?_; clear hX1 hY1; try simp only [hb])
                  | (refine hY1 ?_; clear hX1 hY1; try simp only [hb])
                  | exact co_refl _
                  | exact co_own _ _ _
                  | exact co_nilsB
                  | exact co_nilsL _ _))
                | ((first | (with_reducible refine wantB_intro (fun hb => ?_) (fun hb => ?_)) | (with_reducible refine condB_intro (fun hb => ?_) (fun hb => ?_))) <;> ((try (have hp := hb; simp only [Bool.or_eq_true, Bool.or_eq_false_iff, Bool.not_eq_eq_eq_not, Bool.not_true, Bool.not_false, decide_eq_true_eq, decide_eq_false_iff_not, Int.not_lt] at hp)); try simp only [hb, Bool.not_true, Bool.not_false]))
                | ((with_reducible refine callP_pure ?_ ?_ (hN) (fun _ => ?_)); (focus (repeat' (first | exact cos_refl _ | (refine cos_cons ?_ ?_) | exact co_refl _ | exact co_own _ _ _ | exact co_nilsB | exact co_nilsL _ _ | exact co_nils _ | (refine co_agg ?_) | (refine co_fn ?_)))); (focus (simp only [purAs, purA, Bool.and_self])))
                | ((with_reducible refine callP_pure ?_ ?_ (hE) (fun _ => ?_)); (focus (repeat' (first | exact cos_refl _ | (refine cos_cons ?_ ?_) | exact co_refl _ | exact co_own _ _ _ | exact co_nilsB | exact co_nilsL _ _ | exact co_nils _ | (refine co_agg ?_) | (refine co_fn ?_)))); (focus (simp only [purAs, purA, Bool.and_self, Bool.and_true, hx, hq', hend, hbe, hbe'])))
                | ((with_reducible refine And.intro ?_ ?_); (focus (first | omega | (simp; done) | assumption)))
                | (simp only [thenP, blockP]; (try ((repeat (fail_if_success (with_reducible refine hK1 _ ?_)); clear hK1); (with_reducible refine hK1 _ ?_); clear hK1)))
                | (with_reducible omega)
                | (assumption)
                | ((first | ((with_reducible refine opsP_consMt (d := ?_) (dj := ?_) (b := ?_) (r := ?_) ?_ ?_ (fun hb => ?_) (fun K3 hK3 => ?_)); rotate_left 3; (focus exact rfl); (focus (simp only [St.put, upd_app, iniT_app, Nat.reduceEqDiff, ↓reduceIte, mrg_t, mrg_f]; exact rfl))) | ((with_reducible refine opsP_consMf (d := ?_) (dj := ?_) (b := ?_) (r := ?_) ?_ ?_ (fun hb => ?_) (fun K3 hK3 => ?_)); rotate_left 3; (focus exact rfl); (focus (simp only [upd_app, Nat.reduceEqDiff, ↓reduceIte]; exact rfl))) | ((with_reducible refine opsP_consNt (d := ?_) (dj := ?_) (b := ?_) (r := ?_) (c := ?_) ?_ ?_ (fun hb => ?_) (fun K3 hK3 => ?_)); rotate_left 4; (focus exact rfl); (focus (simp only [St.put, upd_app, iniT_app, Nat.reduceEqDiff, ↓reduceIte, mrg_t, mrg_f]; exact rfl))) | ((with_reducible refine opsP_consNf (d := ?_) (dj := ?_) (b := ?_) (r := ?_) (c := ?_) ?_ ?_ (fun hb => ?_) (fun K3 hK3 => ?_)); rotate_left 4; (focus exact rfl); (focus (simp only [St.put, upd_app, iniT_app, Nat.reduceEqDiff, ↓reduceIte, mrg_t, mrg_f]; exact rfl)))); (focus (simp only [opP, valP, List.map_cons, List.map_nil]; (try (simp only [Bool.not_eq_true'] at hb)); (try (have hp := hb; simp only [decide_eq_false_iff_not] at hp)); simp (disch := omega) only [St.eval, upd_app, iniT_app, avOf, avOf1, wf_i64, wf_u8, loadA, lenP, binP, intsP, intP, nilP, builtinP, wi_i64, isMapA, slA, encB_len, encB_get, U7, Ur, Us, Uv, V2, V8, Nat.reduceEqDiff, Int.reduceLE, Int.reduceNeg, Vu, Vf, Vo, ↓reduceIte, Vp, reduceCtorEq, Vw, Vx, Vz, UU0, Vs, sz5, el22, Tryd.underlying22, hx, hend, mrg_t, hb]; (repeat' (first | (exact rfl) | ((refine And.intro ?_ ?_); (focus (exact rfl)); (exact rfl)) | (refine And.intro (by first | omega | (simp; done) | assumption) ?_) | ((with_reducible refine callP_pure ?_ ?_ (hN) (fun _ => ?_)); (focus (repeat' (first | exact cos_refl _ | (refine cos_cons ?_ ?_) | exact co_refl _ | exact co_own _ _ _ | exact co_nilsB | exact co_nilsL _ _ | exact co_nils _ | (refine co_agg ?_) | (refine co_fn ?_)))); (focus (simp only [purAs, purA, Bool.and_self, Bool.and_true, hx, hq', hend, hbe, hbe']))) | ((with_reducible refine callP_pure ?_ ?_ (hE) (fun _ => ?_)); (focus (repeat' (first | exact cos_refl _ | (refine cos_cons ?_ ?_) | exact co_refl _ | exact co_own _ _ _ | exact co_nilsB | exact co_nilsL _ _ | exact co_nils _ | (refine co_agg ?_) | (refine co_fn ?_)))); (focus (simp only [purAs, purA, Bool.and_self]))))); done)); (try simp only [St.put, Nat.reduceLT, ↓reduceIte]))
                | ((first | ((with_reducible refine opsP_cons fun K3 hK3 => ?_); simp only [wantP, opP, valP, List.map_cons, List.map_nil]) | (with_reducible refine PW.condM fun X1 Y1 hX1 hY1 => ?_) | skip); simp (disch := omega) only [St.eval, St.put, upd_app, iniT_app, avOf, avOf1, wf_i64, wf_u8, nom, cellsA, AV.okv, loadA, lenP, binP, intsP, intP, nilP, convP, sliceP, boundLo, boundHi, builtinP, wi_i64, isMapA, slA, putCells, fillA, buildA, encB_len, encB_get, encB_take, encB_drop, bytesD_enc, bytesD_some, U7, U8, Ua, Ub, Uc, Ud, Uf, Ug, Uk, Un, Up, Uq, Ur, Us, Ut, Uv, V2, V3, V7, V8, Nat.reduceLT, Nat.reduceAdd, Nat.reduceEqDiff, V9, Vd, Ve, Vt, Int.reduceLE, Int.reduceNeg, Int.reduceToNat, Vu, Vv, Vf, ↓reduceIte, Vp, reduceCtorEq, Vw, Vz, UU0, UU2, UU3, UU4, Vr, Vs, sz5, Tryd.underlying5, Tryd.underlying9, el22, Tryd.underlying22, sz26, ze26, pl26, hx, hq', hend, hbe, pick_or, retQ, resP, tupA, fg, fgs, condP, condB_f]; try (with_reducible (first | exact co_refl _ | exact co_own _ _ _ | exact co_nilsB | exact co_nilsL _ _))))
              clear hta hE
              all_goals (try (focus ((try simp only [hbS, hta2, hq0, zF]); (repeat' split) <;> (first | (exfalso; omega) | ((try ((with_reducible refine And.intro ?_ ?_); rotate_left 1; (focus (first | exact subM_row1 | exact subM_nom _ | (refine subM_box1 ?_; simp only [fgs, fg]; (repeat' (first | exact cos_refl _ | refine cos_cons ?_ ?_ | exact co_refl _ | exact co_nilsB | exact co_own _ _ _ | exact co_nilsL _ _ | exact co_nils _ | refine co_agg ?_ | refine co_tup ?_)); done))))); (first | ((repeat' (first | exact cos_refl _ | refine cos_cons ?_ ?_ | exact co_refl _ | exact co_nilsB | exact co_own _ _ _ | exact co_nilsL _ _ | exact co_nils _ | refine co_agg ?_ | refine co_tup ?_)); done) | (refine co_eq ?_; simp_all; done))) | (exfalso; simp_all; done)))))
            · skip
              repeat' (first
                | (with_reducible (first
                  | refine PW.seq fun K1 hK1 => ?_
                  | refine PW.region fun K2 hK2 => ?_
                  | (refine hK3 _ ?_; clear hK3)
                  | (refine opsP_nil ?_; refine hK2 _ ?_; clear hK2)
                  | refine litX_old ?_
                  | refine litC_data ?_
                  | (refine Exists.intro _ (Exists.intro _ (And.intro rfl (And.intro rfl (And.intro ?_ ?_)))); focus omega)
                  | (refine hK1 _ ?_; clear hK1)
                  | refine nilC_intro (fun hz => ?_) ?_
                  | refine PW.block ?_
                  | refine PW.skip ?_
                  | refine PW.exit ?_
                  | refine PW.ret ?_
                  | (refine hX1 ?_; clear hX1 hY1; try simp only [hb])
                  | (refine hY1 ?_; clear hX1 hY1; try simp only [hb])
                  | exact co_refl _
                  | exact co_own _ _ _
                  | exact co_nilsB
                  | exact co_nilsL _ _))
                | ((first | (with_reducible refine wantB_intro (fun hb => ?_) (fun hb => ?_)) | (with_reducible refine condB_intro (fun hb => ?_) (fun hb => ?_))) <;> ((try (have hp := hb; simp only [Bool.or_eq_true, Bool.or_eq_false_iff, Bool.not_eq_eq_eq_not, Bool.not_true, Bool.not_false, decide_eq_true_eq, decide_eq_false_iff_not, Int.not_lt] at hp)); try simp only [hb, Bool.not_true, Bool.not_false]))
                | ((with_reducible refine callP_pure ?_ ?_ (hN) (fun _ => ?_)); (focus (repeat' (first | exact cos_refl _ | (refine cos_cons ?_ ?_) | exact co_refl _ | exact co_own _ _ _ | exact co_nilsB | exact co_nilsL _ _ | exact co_nils _ | (refine co_agg ?_) | (refine co_fn ?_)))); (focus (simp only [purAs, purA, Bool.and_self])))
                | ((with_reducible refine callP_pure ?_ ?_ (hE) (fun _ => ?_)); (focus (repeat' (first | exact cos_refl _ | (refine cos_cons ?_ ?_) | exact co_refl _ | exact co_own _ _ _ | exact co_nilsB | exact co_nilsL _ _ | exact co_nils _ | (refine co_agg ?_) | (refine co_fn ?_)))); (focus (simp only [purAs, purA, Bool.and_self, Bool.and_true, hx, hq', hend, hbe, hbe'])))
                | ((with_reducible refine And.intro ?_ ?_); (focus (first | omega | (simp; done) | assumption)))
                | (simp only [thenP, blockP]; (try ((repeat (fail_if_success (with_reducible refine hK1 _ ?_)); clear hK1); (with_reducible refine hK1 _ ?_); clear hK1)))
                | (with_reducible omega)
                | (assumption)
                | ((first | ((with_reducible refine opsP_consMt (d := ?_) (dj := ?_) (b := ?_) (r := ?_) ?_ ?_ (fun hb => ?_) (fun K3 hK3 => ?_)); rotate_left 3; (focus exact rfl); (focus (simp only [St.put, upd_app, iniT_app, Nat.reduceEqDiff, ↓reduceIte, mrg_t, mrg_f]; exact rfl))) | ((with_reducible refine opsP_consMf (d := ?_) (dj := ?_) (b := ?_) (r := ?_) ?_ ?_ (fun hb => ?_) (fun K3 hK3 => ?_)); rotate_left 3; (focus exact rfl); (focus (simp only [upd_app, Nat.reduceEqDiff, ↓reduceIte]; exact rfl))) | ((with_reducible refine opsP_consNt (d := ?_) (dj := ?_) (b := ?_) (r := ?_) (c := ?_) ?_ ?_ (fun hb => ?_) (fun K3 hK3 => ?_)); rotate_left 4; (focus exact rfl); (focus (simp only [St.put, upd_app, iniT_app, Nat.reduceEqDiff, ↓reduceIte, mrg_t, mrg_f]; exact rfl))) | ((with_reducible refine opsP_consNf (d := ?_) (dj := ?_) (b := ?_) (r := ?_) (c := ?_) ?_ ?_ (fun hb => ?_) (fun K3 hK3 => ?_)); rotate_left 4; (focus exact rfl); (focus (simp only [St.put, upd_app, iniT_app, Nat.reduceEqDiff, ↓reduceIte, mrg_t, mrg_f]; exact rfl)))); (focus (simp only [opP, valP, List.map_cons, List.map_nil]; (try (simp only [Bool.not_eq_true'] at hb)); (try (have hp := hb; simp only [decide_eq_false_iff_not] at hp)); simp (disch := omega) only [St.eval, upd_app, iniT_app, avOf, avOf1, wf_i64, wf_u8, loadA, lenP, binP, intsP, intP, nilP, builtinP, wi_i64, isMapA, slA, encB_len, encB_get, U7, Ur, Us, Uv, V2, V8, Nat.reduceEqDiff, Int.reduceLE, Int.reduceNeg, Vu, Vf, Vo, ↓reduceIte, Vp, reduceCtorEq, Vw, Vx, Vz, UU0, Vs, sz5, el22, Tryd.underlying22, hx, hend, mrg_t, hb]; (repeat' (first | (exact rfl) | ((refine And.intro ?_ ?_); (focus (exact rfl)); (exact rfl)) | (refine And.intro (by first | omega | (simp; done) | assumption) ?_) | ((with_reducible refine callP_pure ?_ ?_ (hN) (fun _ => ?_)); (focus (repeat' (first | exact cos_refl _ | (refine cos_cons ?_ ?_) | exact co_refl _ | exact co_own _ _ _ | exact co_nilsB | exact co_nilsL _ _ | exact co_nils _ | (refine co_agg ?_) | (refine co_fn ?_)))); (focus (simp only [purAs, purA, Bool.and_self, Bool.and_true, hx, hq', hend, hbe, hbe']))) | ((with_reducible refine callP_pure ?_ ?_ (hE) (fun _ => ?_)); (focus (repeat' (first | exact cos_refl _ | (refine cos_cons ?_ ?_) | exact co_refl _ | exact co_own _ _ _ | exact co_nilsB | exact co_nilsL _ _ | exact co_nils _ | (refine co_agg ?_) | (refine co_fn ?_)))); (focus (simp only [purAs, purA, Bool.and_self]))))); done)); (try simp only [St.put, Nat.reduceLT, ↓reduceIte]))
                | ((first | ((with_reducible refine opsP_cons fun K3 hK3 => ?_); simp only [wantP, opP, valP, List.map_cons, List.map_nil]) | (with_reducible refine PW.condM fun X1 Y1 hX1 hY1 => ?_) | skip); simp (disch := omega) only [St.eval, St.put, upd_app, iniT_app, avOf, avOf1, wf_i64, wf_u8, nom, cellsA, AV.okv, loadA, lenP, binP, intsP, intP, nilP, sliceP, boundLo, boundHi, builtinP, wi_i64, isMapA, slA, putCells, fillA, buildA, encB_len, encB_get, encB_take, encB_drop, U7, U8, Ua, Ub, Uc, Ud, Uf, Ug, Uk, Un, Up, Uq, Ur, Us, Ut, Uv, V2, V3, V7, V8, Nat.reduceLT, Nat.reduceAdd, Nat.reduceEqDiff, V9, Vd, Ve, Vt, Int.reduceLE, Int.reduceNeg, Int.reduceToNat, Vu, Vv, Vf, ↓reduceIte, Vp, reduceCtorEq, Vw, Vz, UU0, UU2, UU3, UU4, Vr, Vs, sz5, el22, Tryd.underlying22, sz26, ze26, pl26, hx, hq', hend, hbe, pick_or, retQ, resP, tupA, fg, fgs, condP, condB_f]; try (with_reducible (first | exact co_refl _ | exact co_own _ _ _ | exact co_nilsB | exact co_nilsL _ _))))
              all_goals (try (focus ((try simp only [hbS, hq0, zF]); (repeat' split) <;> (first | (exfalso; omega) | ((try ((with_reducible refine And.intro ?_ ?_); rotate_left 1; (focus (first | exact subM_row1 | exact subM_nom _ | (refine subM_box1 ?_; simp only [fgs, fg]; (repeat' (first | exact cos_refl _ | refine cos_cons ?_ ?_ | exact co_refl _ | exact co_nilsB | exact co_own _ _ _ | exact co_nilsL _ _ | exact co_nils _ | refine co_agg ?_ | refine co_tup ?_)); done))))); (first | ((repeat' (first | exact cos_refl _ | refine cos_cons ?_ ?_ | exact co_refl _ | exact co_nilsB | exact co_own _ _ _ | exact co_nilsL _ _ | exact co_nils _ | refine co_agg ?_ | refine co_tup ?_)); done) | (refine co_eq ?_; simp_all; done))) | (exfalso; simp_all; done)))))
set_option maxRecDepth 100000 in
set_option maxHeartbeats 4000000 in
theorem pOpeningShort (b : List Int) (hb : b.length < 4) : Pure Tryd.prog 32 [bs b] (.tup [zF.v, .d (.int .i64 232)]) := by
  refine pure_intro Tryd.func32 rfl rfl rfl 74 rfl (fun hh => ?_)
  have en : pgNum b false = (0, b, true) := if_pos hb
  repeat' (first
    | (with_reducible (first
      | refine PW.seq fun K1 hK1 => ?_
      | refine PW.region fun K2 hK2 => ?_
      | (refine hK3 _ ?_; clear hK3)
      | (refine opsP_nil ?_; refine hK2 _ ?_; clear hK2)
      | refine litX_old ?_
      | refine litC_data ?_
      | (refine Exists.intro _ (Exists.intro _ (And.intro rfl (And.intro rfl (And.intro ?_ ?_)))); focus omega)
      | (refine hK1 _ ?_; clear hK1)
      | refine nilC_intro (fun hz => ?_) ?_
      | refine PW.block ?_
      | refine PW.skip ?_
      | refine PW.exit ?_
      | refine PW.ret ?_
      | (refine hX1 ?_; clear hX1 hY1; try simp only [hb])
      | (refine hY1 ?_; clear hX1 hY1; try simp only [hb])
      | exact co_refl _
      | exact co_own _ _ _
      | exact co_nilsB
      | exact co_nilsL _ _))
    | ((first | (with_reducible refine wantB_intro (fun hb => ?_) (fun hb => ?_)) | (with_reducible refine condB_intro (fun hb => ?_) (fun hb => ?_))) <;> ((try (have hp := hb; simp only [decide_eq_true_eq, decide_eq_false_iff_not] at hp)); try simp only [hb, Bool.not_true, Bool.not_false]))
    | ((with_reducible refine callP_recv (cs := ?_) ?_ ?_ ?_ ?_ (pPgNum ?_ ?_) (fun _ => ?_)); rotate_left 1; (focus (first | exact rfl | (simp only [List.getElem?_cons_zero, List.getElem?_cons_succ]; rfl))); (focus (repeat' (first | exact cos_refl _ | (refine cos_cons ?_ ?_) | exact co_refl _ | exact co_own _ _ _ | exact co_nilsB | exact co_nilsL _ _ | exact co_nils _ | (refine co_agg ?_) | (refine co_fn ?_)))); (focus (repeat' (first | exact cos_refl _ | (refine cos_cons ?_ ?_) | exact co_refl _ | exact co_own _ _ _ | exact co_nilsB | exact co_nilsL _ _ | exact co_nils _ | (refine co_agg ?_) | (refine co_fn ?_)))); (focus (simp only [purAs, purA, Bool.and_self])))
    | ((with_reducible refine And.intro ?_ ?_); (focus (first | omega | (simp; done) | assumption)))
    | (simp only [thenP, blockP]; (try ((repeat (fail_if_success (with_reducible refine hK1 _ ?_)); clear hK1); (with_reducible refine hK1 _ ?_); clear hK1)))
    | (with_reducible omega)
    | (assumption)
    | ((first | ((with_reducible refine opsP_cons fun K3 hK3 => ?_); simp only [wantP, opP, valP, List.map_cons, List.map_nil]) | (with_reducible refine PW.condM fun X1 Y1 hX1 hY1 => ?_) | skip); simp (disch := omega) only [St.eval, St.put, upd_app, iniT_app, avOf, avOf1, wf_i64, nom, cellsA, AV.okv, loadA, binP, intsP, intP, nilP, slA, putCells, fillA, buildA, U7, Ua, Uc, Ud, Uf, Ug, Uk, Un, Up, Ut, Uu, Uv, Nat.reduceLT, Nat.reduceAdd, Nat.reduceEqDiff, V9, Vt, Int.reduceLE, Int.reduceNeg, Vu, Vf, ↓reduceIte, reduceCtorEq, Vw, Vz, UU0, UU2, UU3, Vr, sz26, ze26, pl26, ze99, pl99, en, retQ, resP, tupA, fg, fgs, condP]; try (with_reducible (first | exact co_refl _ | exact co_own _ _ _ | exact co_nilsB | exact co_nilsL _ _))))
  all_goals (try (focus ((try simp only [zF]); (repeat' split) <;> (first | (exfalso; omega) | ((try ((with_reducible refine And.intro ?_ ?_); rotate_left 1; (focus (first | exact subM_row1 | exact subM_nom _ | (refine subM_box1 ?_; simp only [fgs, fg]; (repeat' (first | exact cos_refl _ | refine cos_cons ?_ ?_ | exact co_refl _ | exact co_nilsB | exact co_own _ _ _ | exact co_nilsL _ _ | exact co_nils _ | refine co_agg ?_ | refine co_tup ?_)); done))))); (first | ((repeat' (first | exact cos_refl _ | refine cos_cons ?_ ?_ | exact co_refl _ | exact co_nilsB | exact co_own _ _ _ | exact co_nilsL _ _ | exact co_nils _ | refine co_agg ?_ | refine co_tup ?_)); done) | (refine co_eq ?_; simp_all; done))) | (exfalso; simp_all; done)))))
def openS' (b : List Int) : Front × Int := if b.length < 4 then (zF, 232) else openS b
set_option maxRecDepth 100000 in
theorem pOpening' (b : List Int) : Pure Tryd.prog 32 [bs b] (.tup [(openS' b).1.v, .d (.int .i64 (openS' b).2)]) := by
  by_cases h : b.length < 4
  · have e : openS' b = (zF, 232) := if_pos h
    rw [e]
    exact pOpeningShort b h
  · have e : openS' b = openS b := if_neg h
    rw [e]
    exact pOpening b (by omega)
end PM
end Go.Proofs.YthaekefdadccaaaDoor
