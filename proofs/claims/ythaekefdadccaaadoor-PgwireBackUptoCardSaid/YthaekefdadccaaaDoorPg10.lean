/- pgwire in the abstract: a client's message is read by the program. -/
import Derived.Test.YthaekefdadccaaaDoorPg7
namespace Go.Proofs.YthaekefdadccaaaDoor
open Go.RowKit
namespace PM
theorem i32v_take {b : List Int} {n k : Nat} (h : k + 4 ≤ n) : i32v ((b.take n).drop k) = i32v (b.drop k) := by
  have g : ∀ i, i < 4 → ((b.take n).drop k).getD i 0 = (b.drop k).getD i 0 := fun i hi => by
    simp only [List.getD_eq_getElem?_getD, List.getElem?_drop, List.getElem?_take]
    rw [if_pos (by omega)]
  unfold i32v
  rw [g 0 (by omega), g 1 (by omega), g 2 (by omega), g 3 (by omega)]
/-- what the program reads of a first message -/
theorem first_of (b : List Int) (n : Nat) (h0 : 4 ≤ b.length) (hn : i32v b = n) (h8 : 8 ≤ n) (hm : n ≤ 10000) (hl : n ≤ b.length) :
    firstS b = if (openS' ((b.take n).drop 4)).2 ≠ 0 then (zF, 0, (openS' ((b.take n).drop 4)).2) else ((openS' ((b.take n).drop 4)).1, (n : Int), 0) := by
  have hbl : ((b.take n).drop 4).length = n - 4 := by rw [List.length_drop, List.length_take]; omega
  have e4 := i32v_take (b := b) (n := n) (k := 4) (by omega)
  have hO : openS' ((b.take n).drop 4) = openS ((b.take n).drop 4) := if_neg (by omega)
  have hd : ((b.take n).drop 4).drop 4 = (b.take n).drop 8 := by rw [List.drop_drop]
  have hd8 : ((b.take n).drop 4).drop 8 = (b.take n).drop 12 := by rw [List.drop_drop]
  rw [hO]
  unfold firstS openS
  rw [if_neg (by omega), hn, if_neg (by omega), if_neg (by omega), if_neg (by omega), e4, hbl, hd, hd8]
  have hto : (n : Int).toNat = n := by omega
  rw [hto]
  by_cases c1 : i32v (b.drop 4) = 80877103
  · rw [if_pos c1, if_pos c1]
    by_cases c2 : n = 8
    · subst c2; simp
    · have d1 : (n : Int) ≠ 8 := by omega
      have d2 : ¬ n - 4 = 4 := by omega
      simp [d1, d2]
  rw [if_neg c1, if_neg c1]
  by_cases c2 : i32v (b.drop 4) = 80877102
  · rw [if_pos c2, if_pos c2]
    by_cases c3 : n = 16
    · subst c3
      rw [i32v_take (by omega), i32v_take (by omega)]
      simp
    · have d1 : (n : Int) ≠ 16 := by omega
      have d2 : ¬ n - 4 = 12 := by omega
      simp [d1, d2]
  rw [if_neg c2, if_neg c2]
  by_cases c3 : i32v (b.drop 4) = 196608
  · rw [if_pos c3, if_pos c3]
    unfold outF paramsS
    simp only [Bool.false_eq_true, ↓reduceIte, List.length_nil, List.nil_append]
    split <;> simp_all
  · rw [if_neg c3, if_neg c3]
    simp
set_option maxRecDepth 100000 in
set_option maxHeartbeats 8000000 in
theorem pTakeFront (b : List Int) (st : Bool) : Pure Tryd.prog 13 [bs b, .d (.bool st)] (.tup [(takeFrontS b st).1.v, .d (.int .i64 (takeFrontS b st).2.1), .d (.int .i64 (takeFrontS b st).2.2)]) := by
  refine pure_intro Tryd.func13 rfl rfl rfl 74 rfl (fun hh => ?_)
  obtain ⟨hr, hml⟩ := has_bytes (hh (bs b) (by simp))
  have hmx : maxLen = 9223372036854775807 := rfl
  cases st with
  | true =>
    have hS : takeFrontS b true = firstS b := rfl
    rw [hS]
    have hN := pFramed b 0 8 10000 (by omega) (by omega)
    by_cases h8 : (b.length : Int) < 4 ∨ i32v b < 8 ∨ 10000 < i32v b ∨ (b.length : Int) < i32v b
    · have hfr : frS b 0 8 10000 = (0, (firstS b).2.2) ∧ (firstS b).2.2 ≠ 0 ∧ (firstS b).1 = zF ∧ (firstS b).2.1 = 0 := by
        unfold frS firstS
        simp only [Int.toNat_zero, List.drop_zero, Int.zero_add, Int.sub_zero]
        by_cases c1 : (b.length : Int) < 4
        · have c1' : b.length < 4 := by omega
          simp [c1, c1']
        have c1' : ¬ b.length < 4 := by omega
        by_cases c2 : i32v b < 8
        · simp [c1, c1', c2]
        by_cases c3 : 10000 < i32v b
        · simp [c1, c1', c2, c3]
        have c4 : (b.length : Int) < i32v b := by omega
        simp [c1, c1', c2, c3, c4]
      obtain ⟨f1, f2, f3, f4⟩ := hfr
      have f1a : (frS b 0 8 10000).1 = 0 := by rw [f1]
      have f1b : (frS b 0 8 10000).2 = (firstS b).2.2 := by rw [f1]
      rw [f1a, f1b] at hN
      repeat' (first
        | ((with_reducible (first
         | (refine PW.seq fun K1 hK1 => ?_) | (refine PW.region fun K2 hK2 => ?_) | ((refine hK3 _ ?_; clear hK3)) | ((refine opsP_nil ?_; refine hK2 _ ?_; clear hK2)) | (refine PW.skip ?_) | (refine PW.ret ?_) | ((refine hX1 ?_; clear hX1 hY1; try simp only [hb])) | ((refine hY1 ?_; clear hX1 hY1; try simp only [hb])) )))
        | (((first | (with_reducible refine wantB_intro (fun hb => ?_) (fun hb => ?_)) | (with_reducible refine condB_intro (fun hb => ?_) (fun hb => ?_))) <;> ((try (have hp := hb; simp only [PmH] at hp)); try simp only [hb, Bool.not_true, Bool.not_false])))
        | (((with_reducible refine cC_pure ?_ (hN) (fun _ => ?_)); (focus ((with_reducible (repeat' constructor)); done))))
        | ((simp only [thenP]; (try ((repeat (fail_if_success (with_reducible refine hK1 _ ?_)); clear hK1); (with_reducible refine hK1 _ ?_); clear hK1))))
        | ((with_reducible omega))
        | (((first | (((with_reducible refine opsP_cons fun K3 hK3 => ?_); simp only [wantP, opP, valP, Ur, Us])) | ((with_reducible refine PW.condM fun X1 Y1 hX1 hY1 => ?_)) | (skip)); simp (disch := omega) only [St.eval, St.put, upd_app, iniT_app, avOf, avOf1, nom, cellsA, AV.okv, loadA, binP, intsP, intP, nilP, unP, slA, putCells, fillA, buildA, U7, U8, Ua, Ub, Uc, Ud, Uf, Ug, Uk, Un, Up, Ut, Uv, V9, Vr, PmL, simprocAttr, PmT, retQ, resP, tupA, fg, fgs, condP, condB_f]; try (with_reducible (first | exact co_refl _ | exact co_own _ _ _ | exact co_nilsB | exact co_nilsL _ _)))))
      all_goals (try (focus ((try simp only [f3, f4, zF]); (repeat' split) <;> (first | (exfalso; omega) | ((try ((with_reducible refine And.intro ?_ ?_); rotate_left 1; (focus (first | exact subM_row1 | exact subM_nom _ | (refine subM_box1 ?_; simp only [fgs, fg]; (repeat' (first | exact cos_refl _ | refine cos_cons ?_ ?_ | exact co_refl _ | exact co_nilsB | exact co_own _ _ _ | exact co_nilsL _ _ | exact co_nils _ | refine co_agg ?_ | refine co_tup ?_)); done))))); (first | ((repeat' (first | exact cos_refl _ | refine cos_cons ?_ ?_ | exact co_refl _ | exact co_nilsB | exact co_own _ _ _ | exact co_nilsL _ _ | exact co_nils _ | refine co_agg ?_ | refine co_tup ?_)); done) | (refine co_eq ?_; simp_all; done))) | (exfalso; simp_all; done)))))
    · obtain ⟨n, hn⟩ := Int.eq_ofNat_of_zero_le (a := i32v b) (by omega)
      have hfr : frS b 0 8 10000 = ((n : Int), 0) := by
        unfold frS
        simp only [Int.toNat_zero, List.drop_zero, Int.zero_add, Int.sub_zero]
        rw [if_neg (by omega), if_neg (by omega), if_neg (by omega), if_neg (by omega), hn]
      rw [hfr] at hN
      have hO := pOpening' ((b.take n).drop 4)
      have hF := first_of b n (by omega) hn (by omega) (by omega) (by omega)
      obtain ⟨o, ho⟩ : ∃ o, o = openS' ((b.take n).drop 4) := ⟨_, rfl⟩
      rw [← ho] at hF hO
      rw [hF]
      repeat' (first
        | ((with_reducible (first
         | (refine PW.seq fun K1 hK1 => ?_) | (refine PW.region fun K2 hK2 => ?_) | ((refine hK3 _ ?_; clear hK3)) | ((refine opsP_nil ?_; refine hK2 _ ?_; clear hK2)) | ((refine Exists.intro _ (Exists.intro _ (And.intro rfl (And.intro rfl (And.intro ?_ ?_)))); focus omega)) | (refine PW.skip ?_) | (refine PW.ret ?_) | ((refine hX1 ?_; clear hX1 hY1; try simp only [hb])) | ((refine hY1 ?_; clear hX1 hY1; try simp only [hb])) )))
        | (((first | (with_reducible refine wantB_intro (fun hb => ?_) (fun hb => ?_)) | (with_reducible refine condB_intro (fun hb => ?_) (fun hb => ?_))) <;> ((try (have hp := hb; simp only [PmH] at hp)); try simp only [hb, Bool.not_true, Bool.not_false])))
        | (((with_reducible refine cC_pure ?_ (hN) (fun _ => ?_)); (focus ((with_reducible (repeat' constructor)) <;> (simp only [purAs, purA, Vf, Bool.and_self, Front.v, Front.c]; done)))))
        | (((with_reducible refine cC_pure ?_ (hO) (fun _ => ?_)); (focus ((with_reducible (repeat' constructor)) <;> (simp only [purAs, purA, Vf, Bool.and_self, Front.v, Front.c]; done)))))
        | ((simp only [thenP]; (try ((repeat (fail_if_success (with_reducible refine hK1 _ ?_)); clear hK1); (with_reducible refine hK1 _ ?_); clear hK1))))
        | (((first | (((with_reducible refine opsP_cons fun K3 hK3 => ?_); simp only [wantP, opP, valP, Ur, Us])) | ((with_reducible refine PW.condM fun X1 Y1 hX1 hY1 => ?_)) | (skip)); simp (disch := omega) only [St.eval, St.put, upd_app, iniT_app, avOf, avOf1, nom, cellsA, AV.okv, loadA, binP, intsP, intP, nilP, sliceP, boundLo, boundHi, unP, slA, putCells, fillA, buildA, U7, U8, Ua, Ub, Uc, Ud, Uf, Ug, Uk, Un, Up, Ur, Us, Ut, Uu, Uv, V2, V3, V7, V9, Ve, UU2, UU4, Vr, PmL, simprocAttr, PmT, Front.v, Front.c, Int.zero_add, retQ, resP, tupA, fg, fgs, condP, condB_f]; try (with_reducible (first | exact co_refl _ | exact co_own _ _ _ | exact co_nilsB | exact co_nilsL _ _)))))
      all_goals (try (focus ((try simp only [zF]); (repeat' split) <;> (first | (exfalso; omega) | ((try ((with_reducible refine And.intro ?_ ?_); rotate_left 1; (focus (first | exact subM_row1 | exact subM_nom _ | (refine subM_box1 ?_; simp only [fgs, fg]; (repeat' (first | exact cos_refl _ | refine cos_cons ?_ ?_ | exact co_refl _ | exact co_nilsB | exact co_own _ _ _ | exact co_nilsL _ _ | exact co_nils _ | refine co_agg ?_ | refine co_tup ?_)); done))))); (first | ((repeat' (first | exact cos_refl _ | refine cos_cons ?_ ?_ | exact co_refl _ | exact co_nilsB | exact co_own _ _ _ | exact co_nilsL _ _ | exact co_nils _ | refine co_agg ?_ | refine co_tup ?_)); done) | (refine co_eq ?_; simp_all; done))) | (exfalso; simp_all; done)))))
  | false =>
    have hS : takeFrontS b false = laterS b := rfl
    rw [hS]
    have hN := pFramed b 1 4 1048576 (by omega) (by omega)
    have hd1 : b.drop (1 : Int).toNat = b.drop 1 := rfl
    cases b with
    | nil =>
      have hfr : frS [] 1 4 1048576 = (0, 10) := rfl
      rw [hfr] at hN
      have hl : laterS [] = (zF, 0, 10) := rfl
      rw [hl]
      repeat' (first
        | ((with_reducible (first
         | (refine PW.seq fun K1 hK1 => ?_) | (refine PW.region fun K2 hK2 => ?_) | ((refine hK3 _ ?_; clear hK3)) | ((refine opsP_nil ?_; refine hK2 _ ?_; clear hK2)) | (refine PW.skip ?_) | (refine PW.ret ?_) | ((refine hX1 ?_; clear hX1 hY1; try simp only [hb])) | ((refine hY1 ?_; clear hX1 hY1; try simp only [hb])) )))
        | (((with_reducible refine cC_pure ?_ (hN) (fun _ => ?_)); (focus ((with_reducible (repeat' constructor)); done))))
        | ((simp only [thenP]; (try ((repeat (fail_if_success (with_reducible refine hK1 _ ?_)); clear hK1); (with_reducible refine hK1 _ ?_); clear hK1))))
        | (((first | ((with_reducible (first | refine opsP_consMt (d := ?_) (dj := ?_) (b := ?_) (r := ?_) ?_ ?_ (fun hb => ?_) (fun K3 hK3 => ?_) | refine opsP_consMf (d := ?_) (dj := ?_) (b := ?_) (r := ?_) ?_ ?_ (fun hb => ?_) (fun K3 hK3 => ?_))); rotate_left 3; (focus exact rfl); (focus (simp only [upd_app, simprocAttr]; exact rfl))) | ((with_reducible (first | refine opsP_consNt (d := ?_) (dj := ?_) (b := ?_) (r := ?_) (c := ?_) ?_ ?_ (fun hb => ?_) (fun K3 hK3 => ?_) | refine opsP_consNf (d := ?_) (dj := ?_) (b := ?_) (r := ?_) (c := ?_) ?_ ?_ (fun hb => ?_) (fun K3 hK3 => ?_))); rotate_left 4; (focus exact rfl); (focus (simp only [upd_app, simprocAttr]; exact rfl)))); (focus (simp only [opP, valP]; (try (simp only [Bool.and_eq_true, Bool.not_eq_true'] at hb)); (try (have hp := hb; simp only [PmH, beq_iff_eq, beq_eq_false_iff_ne, ne_eq] at hp)); simp (disch := omega) only [St.eval, upd_app, iniT_app, avOf, avOf1, binP, eqP, nilP, slA, U7, Vs, PmL, simprocAttr, PmT, hb]; (repeat' (first | (exact rfl) | ((refine And.intro ?_ ?_); (focus (exact rfl)); (exact rfl)) | (refine And.intro (by first | omega | (simp; done) | assumption) ?_) | ((with_reducible refine cC_pure ?_ (hN) (fun _ => ?_)); (focus ((with_reducible (repeat' constructor)); done))))); done)); (try simp only [St.put, Nat.reduceLT, ↓reduceIte, mrg_f])))
        | (((first | (((with_reducible refine opsP_cons fun K3 hK3 => ?_); simp only [wantP, opP, valP, Ur, Us])) | ((with_reducible refine PW.condM fun X1 Y1 hX1 hY1 => ?_)) | (skip)); simp (disch := omega) only [wantB_ft, St.eval, St.put, upd_app, iniT_app, avOf, avOf1, nom, cellsA, AV.okv, loadA, lenP, binP, intsP, intP, eqP, nilP, unP, builtinP, isMapA, slA, putCells, fillA, buildA, U7, U8, Ua, Ub, Uc, Ud, Uf, Ug, Uk, Un, Up, Ut, Uv, Uz, V4, V9, Int.cast_ofNat_Int, Vr, Vs, PmL, simprocAttr, PmT, retQ, resP, tupA, fg, fgs, condP, condB_t, condB_f]; try (with_reducible (first | exact co_refl _ | exact co_own _ _ _ | exact co_nilsB | exact co_nilsL _ _)))))
      all_goals (try (focus ((try simp only [zF]); (repeat' split) <;> (first | (exfalso; omega) | ((try ((with_reducible refine And.intro ?_ ?_); rotate_left 1; (focus (first | exact subM_row1 | exact subM_nom _ | (refine subM_box1 ?_; simp only [fgs, fg]; (repeat' (first | exact cos_refl _ | refine cos_cons ?_ ?_ | exact co_refl _ | exact co_nilsB | exact co_own _ _ _ | exact co_nilsL _ _ | exact co_nils _ | refine co_agg ?_ | refine co_tup ?_)); done))))); (first | ((repeat' (first | exact cos_refl _ | refine cos_cons ?_ ?_ | exact co_refl _ | exact co_nilsB | exact co_own _ _ _ | exact co_nilsL _ _ | exact co_nils _ | refine co_agg ?_ | refine co_tup ?_)); done) | (refine co_eq ?_; simp_all; done))) | (exfalso; simp_all; done)))))
    | cons c r =>
      have hc := rng_at hr (i := 0) rfl
      obtain ⟨b, hbe⟩ : ∃ b, b = c :: r := ⟨_, rfl⟩
      rw [← hbe] at hml hr hN hd1 ⊢
      have hx : b[0]? = some c := by rw [hbe]; rfl
      have hg : b.getD 0 0 = c := by rw [hbe]; rfl
      have hl : b.length = r.length + 1 := by rw [hbe]; rfl
      clear hbe hh hS
      by_cases h8 : (b.length : Int) < 5 ∨ i32v (b.drop 1) < 4 ∨ 1048576 < i32v (b.drop 1) ∨ (b.length : Int) - 1 < i32v (b.drop 1)
      · have hfr : ∃ e, e ≠ 0 ∧ frS b 1 4 1048576 = (0, e) ∧ laterS b = if c = 0 ∨ 127 < c then (zF, 0, 230) else (zF, 0, e) := by
          unfold frS laterS
          rw [hd1, hg, if_neg (c := b.length = 0) (by omega)]
          by_cases c1 : (b.length : Int) < 5
          · have c1' : b.length < 5 := by omega
            have c1'' : (b.length : Int) < 1 + 4 := by omega
            exact ⟨10, by simp, by rw [if_pos c1''], by rw [if_pos c1']⟩
          have c1' : ¬ b.length < 5 := by omega
          have c1'' : ¬ (b.length : Int) < 1 + 4 := by omega
          by_cases c2 : i32v (b.drop 1) < 4
          · exact ⟨230, by simp, by simp only [c1'', c2, ↓reduceIte], by simp only [c1', c2, ↓reduceIte]⟩
          by_cases c3 : 1048576 < i32v (b.drop 1)
          · exact ⟨231, by simp, by simp only [c1'', c2, c3, ↓reduceIte], by simp only [c1', c2, c3, ↓reduceIte]⟩
          have c4 : (b.length : Int) - 1 < i32v (b.drop 1) := by omega
          exact ⟨10, by simp, by simp only [c1'', c2, c3, c4, ↓reduceIte], by simp only [c1', c2, c3, c4, ↓reduceIte]⟩
        obtain ⟨e, he, f1, f2⟩ := hfr
        rw [f1] at hN
        rw [f2]
        repeat' (first
          | ((with_reducible (first
           | (refine PW.seq fun K1 hK1 => ?_) | (refine PW.region fun K2 hK2 => ?_) | ((refine hK3 _ ?_; clear hK3)) | ((refine opsP_nil ?_; refine hK2 _ ?_; clear hK2)) | (refine PW.skip ?_) | (refine PW.ret ?_) | ((refine hX1 ?_; clear hX1 hY1; try simp only [hb])) | ((refine hY1 ?_; clear hX1 hY1; try simp only [hb])) )))
          | (((first | (with_reducible refine wantB_intro (fun hb => ?_) (fun hb => ?_)) | (with_reducible refine condB_intro (fun hb => ?_) (fun hb => ?_))) <;> ((try (have hp := hb; simp only [PmH] at hp)); try simp only [hb, Bool.not_true, Bool.not_false])))
          | (((with_reducible refine cC_pure ?_ (hN) (fun _ => ?_)); (focus ((with_reducible (repeat' constructor)) <;> (simp only [purAs, purA, Vf, Bool.and_self, hx]; done)))))
          | ((simp only [thenP]; (try ((repeat (fail_if_success (with_reducible refine hK1 _ ?_)); clear hK1); (with_reducible refine hK1 _ ?_); clear hK1))))
          | ((with_reducible omega))
          | (((first | ((with_reducible (first | refine opsP_consMt (d := ?_) (dj := ?_) (b := ?_) (r := ?_) ?_ ?_ (fun hb => ?_) (fun K3 hK3 => ?_) | refine opsP_consMf (d := ?_) (dj := ?_) (b := ?_) (r := ?_) ?_ ?_ (fun hb => ?_) (fun K3 hK3 => ?_))); rotate_left 3; (focus exact rfl); (focus (simp only [upd_app, simprocAttr]; exact rfl))) | ((with_reducible (first | refine opsP_consNt (d := ?_) (dj := ?_) (b := ?_) (r := ?_) (c := ?_) ?_ ?_ (fun hb => ?_) (fun K3 hK3 => ?_) | refine opsP_consNf (d := ?_) (dj := ?_) (b := ?_) (r := ?_) (c := ?_) ?_ ?_ (fun hb => ?_) (fun K3 hK3 => ?_))); rotate_left 4; (focus exact rfl); (focus (simp only [upd_app, simprocAttr]; exact rfl)))); (focus (simp only [opP, valP]; (try (simp only [Bool.and_eq_true, Bool.not_eq_true'] at hb)); (try (have hp := hb; simp only [PmH] at hp)); simp (disch := omega) only [St.eval, upd_app, iniT_app, avOf, avOf1, loadA, binP, intsP, intP, nilP, slA, U7, Ur, Us, V2, V8, Vs, PmL, simprocAttr, PmT, hx, mrg_t, pick_or, hb]; (repeat' (first | (exact rfl) | ((refine And.intro ?_ ?_); (focus (exact rfl)); (exact rfl)) | (refine And.intro (by first | omega | (simp; done) | assumption) ?_) | ((with_reducible refine cC_pure ?_ (hN) (fun _ => ?_)); (focus ((with_reducible (repeat' constructor)) <;> (simp only [purAs, purA, Vf, Bool.and_self, hx]; done)))))); done)); (try simp only [St.put, Nat.reduceLT, ↓reduceIte])))
          | (((first | (((with_reducible refine opsP_cons fun K3 hK3 => ?_); simp only [wantP, opP, valP, Ur, Us])) | ((with_reducible refine PW.condM fun X1 Y1 hX1 hY1 => ?_)) | (skip)); simp (disch := omega) only [St.eval, St.put, upd_app, iniT_app, avOf, avOf1, nom, cellsA, AV.okv, loadA, lenP, binP, intsP, intP, nilP, unP, builtinP, isMapA, slA, putCells, fillA, buildA, U7, U8, Ua, Ub, Uc, Ud, Uf, Ug, Uk, Un, Up, Ut, Uv, V9, Vr, PmL, simprocAttr, PmT, pick_and, retQ, resP, tupA, fg, fgs, condP, condB_t]; try (with_reducible (first | exact co_refl _ | exact co_own _ _ _ | exact co_nilsB | exact co_nilsL _ _)))))
        all_goals (try (focus ((try simp only [zF]); (repeat' split) <;> (first | (exfalso; omega) | ((try ((with_reducible refine And.intro ?_ ?_); rotate_left 1; (focus (first | exact subM_row1 | exact subM_nom _ | (refine subM_box1 ?_; simp only [fgs, fg]; (repeat' (first | exact cos_refl _ | refine cos_cons ?_ ?_ | exact co_refl _ | exact co_nilsB | exact co_own _ _ _ | exact co_nilsL _ _ | exact co_nils _ | refine co_agg ?_ | refine co_tup ?_)); done))))); (first | ((repeat' (first | exact cos_refl _ | refine cos_cons ?_ ?_ | exact co_refl _ | exact co_nilsB | exact co_own _ _ _ | exact co_nilsL _ _ | exact co_nils _ | refine co_agg ?_ | refine co_tup ?_)); done) | (refine co_eq ?_; simp_all; done))) | (exfalso; simp_all; done)))))
      · obtain ⟨n, hn⟩ := Int.eq_ofNat_of_zero_le (a := i32v (b.drop 1)) (by omega)
        obtain ⟨body, hB⟩ : ∃ body, body = (b.take (n + 1)).drop 5 := ⟨_, rfl⟩
        have hbe : (b.take (1 + (n : Int)).toNat).drop 5 = body := by rw [hB]; congr 2; omega
        have hlS : laterS b = if c = 0 ∨ 127 < c then (zF, 0, 230) else if (bodyS c body).2 ≠ 0 then (zF, 0, (bodyS c body).2) else ((bodyS c body).1, 1 + (n : Int), 0) := by
          unfold laterS
          rw [hg, hn, hbe, if_neg (by omega), if_neg (c := b.length < 5) (by omega), if_neg (c := (n : Int) < 4) (by omega), if_neg (c := (1048576 : Int) < n) (by omega), if_neg (c := (b.length : Int) - 1 < n) (by omega)]
        have hfr : frS b 1 4 1048576 = ((n : Int), 0) := by
          unfold frS
          rw [hd1, if_neg (by omega), if_neg (by omega), if_neg (by omega), if_neg (by omega), hn]
        rw [hfr] at hN
        rw [hlS]
        have hO := pOpening' body
        have hM := pMessage c body hc
        rw [hn] at h8
        clear hlS hfr hB hn hd1 hg
        repeat' (first
          | ((with_reducible (first
           | (refine PW.seq fun K1 hK1 => ?_) | (refine PW.region fun K2 hK2 => ?_) | ((refine hK3 _ ?_; clear hK3)) | ((refine opsP_nil ?_; refine hK2 _ ?_; clear hK2)) | ((refine Exists.intro _ (Exists.intro _ (And.intro rfl (And.intro rfl (And.intro ?_ ?_)))); focus omega)) | (refine PW.skip ?_) | (refine PW.ret ?_) | ((refine hX1 ?_; clear hX1 hY1; try simp only [hb])) | ((refine hY1 ?_; clear hX1 hY1; try simp only [hb])) )))
          | (((first | (with_reducible refine wantB_intro (fun hb => ?_) (fun hb => ?_)) | (with_reducible refine condB_intro (fun hb => ?_) (fun hb => ?_))) <;> ((try (have hp := hb; simp only [PmH] at hp)); try simp only [hb, Bool.not_true, Bool.not_false])))
          | (((with_reducible refine cC_pure ?_ (hN) (fun _ => ?_)); (focus ((with_reducible (repeat' constructor)) <;> (simp only [purAs, purA, Vf, Bool.and_self, hx, hbe, Front.v, Front.c]; done)))))
          | (((with_reducible refine cC_pure ?_ (hO) (fun _ => ?_)); (focus ((with_reducible (repeat' constructor)) <;> (simp only [purAs, purA, Vf, Bool.and_self, hx, hbe, Front.v, Front.c]; done)))))
          | (((with_reducible refine cC_pure ?_ (hM) (fun _ => ?_)); (focus ((with_reducible (repeat' constructor)) <;> (simp only [purAs, purA, Vf, Bool.and_self, hx, hbe, Front.v, Front.c]; done)))))
          | ((simp only [thenP]; (try ((repeat (fail_if_success (with_reducible refine hK1 _ ?_)); clear hK1); (with_reducible refine hK1 _ ?_); clear hK1))))
          | (((first | ((with_reducible (first | refine opsP_consMt (d := ?_) (dj := ?_) (b := ?_) (r := ?_) ?_ ?_ (fun hb => ?_) (fun K3 hK3 => ?_) | refine opsP_consMf (d := ?_) (dj := ?_) (b := ?_) (r := ?_) ?_ ?_ (fun hb => ?_) (fun K3 hK3 => ?_))); rotate_left 3; (focus exact rfl); (focus (simp only [upd_app, simprocAttr]; exact rfl))) | ((with_reducible (first | refine opsP_consNt (d := ?_) (dj := ?_) (b := ?_) (r := ?_) (c := ?_) ?_ ?_ (fun hb => ?_) (fun K3 hK3 => ?_) | refine opsP_consNf (d := ?_) (dj := ?_) (b := ?_) (r := ?_) (c := ?_) ?_ ?_ (fun hb => ?_) (fun K3 hK3 => ?_))); rotate_left 4; (focus exact rfl); (focus (simp only [upd_app, simprocAttr]; exact rfl)))); (focus (simp only [opP, valP]; (try (simp only [Bool.and_eq_true, Bool.not_eq_true'] at hb)); (try (have hp := hb; simp only [PmH] at hp)); simp (disch := omega) only [St.eval, upd_app, iniT_app, avOf, avOf1, loadA, binP, intsP, intP, nilP, slA, U7, Ur, Us, V2, V8, Vs, PmL, simprocAttr, PmT, hx, mrg_t, pick_or, hb]; (repeat' (first | (exact rfl) | ((refine And.intro ?_ ?_); (focus (exact rfl)); (exact rfl)) | (refine And.intro (by first | omega | (simp; done) | assumption) ?_) | ((with_reducible refine cC_pure ?_ (hN) (fun _ => ?_)); (focus ((with_reducible (repeat' constructor)) <;> (simp only [purAs, purA, Vf, Bool.and_self, hx, hbe, Front.v, Front.c]; done)))) | ((with_reducible refine cC_pure ?_ (hO) (fun _ => ?_)); (focus ((with_reducible (repeat' constructor)) <;> (simp only [purAs, purA, Vf, Bool.and_self, hx, hbe, Front.v, Front.c]; done)))) | ((with_reducible refine cC_pure ?_ (hM) (fun _ => ?_)); (focus ((with_reducible (repeat' constructor)) <;> (simp only [purAs, purA, Vf, Bool.and_self, hx, hbe, Front.v, Front.c]; done)))))); done)); (try simp only [St.put, Nat.reduceLT, ↓reduceIte])))
          | (((first | (((with_reducible refine opsP_cons fun K3 hK3 => ?_); simp only [wantP, opP, valP, Ur, Us])) | ((with_reducible refine PW.condM fun X1 Y1 hX1 hY1 => ?_)) | (skip)); simp (disch := omega) only [St.eval, St.put, upd_app, iniT_app, avOf, avOf1, nom, cellsA, AV.okv, loadA, lenP, binP, intsP, intP, nilP, sliceP, boundLo, boundHi, unP, builtinP, isMapA, slA, putCells, fillA, buildA, U7, U8, Ua, Ub, Uc, Ud, Uf, Ug, Uk, Un, Up, Ur, Us, Ut, Uu, Uv, V2, V3, V8, V9, Ve, UU2, UU4, Vr, Vs, PmL, simprocAttr, PmT, hx, hbe, Front.v, Front.c, pick_and, retQ, resP, tupA, fg, fgs, condP, condB_t, condB_f]; try (with_reducible (first | exact co_refl _ | exact co_own _ _ _ | exact co_nilsB | exact co_nilsL _ _)))))
        all_goals (try (focus ((try simp only [zF]); (repeat' split) <;> (first | (exfalso; omega) | ((try ((with_reducible refine And.intro ?_ ?_); rotate_left 1; (focus (first | exact subM_row1 | exact subM_nom _ | (refine subM_box1 ?_; simp only [fgs, fg]; (repeat' (first | exact cos_refl _ | refine cos_cons ?_ ?_ | exact co_refl _ | exact co_nilsB | exact co_own _ _ _ | exact co_nilsL _ _ | exact co_nils _ | refine co_agg ?_ | refine co_tup ?_)); done))))); (first | ((repeat' (first | exact cos_refl _ | refine cos_cons ?_ ?_ | exact co_refl _ | exact co_nilsB | exact co_own _ _ _ | exact co_nilsL _ _ | exact co_nils _ | refine co_agg ?_ | refine co_tup ?_)); done) | (refine co_eq ?_; simp_all; done))) | (exfalso; simp_all; done)))))
end PM
end Go.Proofs.YthaekefdadccaaaDoor
