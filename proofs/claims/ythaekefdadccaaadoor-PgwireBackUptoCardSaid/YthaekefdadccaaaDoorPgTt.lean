/- pgwire in the abstract: a server's message off the front of bytes. -/
import Derived.Test.YthaekefdadccaaaDoorPgTd
import Derived.Test.YthaekefdadccaaaDoorPgTk
import Derived.Test.YthaekefdadccaaaDoorPgPut
namespace Go.Proofs.YthaekefdadccaaaDoor
open Go.RowKit
namespace PM
set_option maxRecDepth 100000 in
theorem pTold (k : Int) (b : List Int) (hk : 1 ≤ k ∧ k ≤ 9) (hz : b.length ≤ 100000000000) : Pure Tryd.prog 49 [.d (.int .i64 k), bs b] (toldS k b).v := by
  have hq : k = 1 ∨ k = 2 ∨ k = 3 ∨ k = 4 ∨ k = 5 ∨ k = 6 ∨ k = 7 ∨ k = 8 ∨ k = 9 := by omega
  rcases hq with rfl | rfl | rfl | rfl | rfl | rfl | rfl | rfl | rfl
  · exact pTold0 1 b (.inl rfl)
  · exact pTold2 b
  · exact pTold3 b
  · exact pTold4 b
  · exact pTold5 b hz
  · exact pTold6 b hz
  · exact pTold7 b
  · exact pTold0 8 b (.inr rfl)
  · exact pTold9 b
set_option maxRecDepth 100000 in
theorem pEqual (l m : List Int) : Pure Tryd.prog 50 [bs l, bs m] (.d (.bool (decide (l = m)))) := by
  refine pure_intro Tryd.func50 rfl rfl rfl 10 rfl (fun hh => ?_)
  repeat' (first
    | ((with_reducible (first
     | (refine PW.seq fun K1 hK1 => ?_) | (refine PW.region fun K2 hK2 => ?_) | ((refine hK3 _ ?_; clear hK3)) | ((refine opsP_nil ?_; refine hK2 _ ?_; clear hK2)) 
     | (refine PW.ret ?_) )))
    | ((simp only [thenP]; (try ((repeat (fail_if_success (with_reducible refine hK1 _ ?_)); clear hK1); (with_reducible refine hK1 _ ?_); clear hK1))))
    | (((first | (((with_reducible refine opsP_cons fun K3 hK3 => ?_); simp only [wantP, opP, valP])) | (skip)); simp (disch := omega) only [St.eval, St.put, upd_app, iniT_app, avOf, avOf1, nom, binP, strP, nilP, convP, slA, U7, U8, Ve, PmL, simprocAttr, PmT, retQ, resP, tupA, fg]; try (with_reducible (first | exact co_refl _ | exact co_own _ _ _ | exact co_nilsB | exact co_nilsL _ _)))))
theorem takeV_bad {g : Int → List Int → Back} {b : List Int} {e : Int} (h : takeG g b = (zB, 0, e)) : Co (.tup [.agg [.d (.int .i64 0), .d (.str []), .d (.str []), .d (.int .i64 0), .d (.int .i64 0), .d (.int .u8 0), .nils, .nils, .d (.str []), .d (.bool false)], .d (.int .i64 0), .d (.int .i64 e)]) (.tup [(takeG g b).1.v, .d (.int .i64 (takeG g b).2.1), .d (.int .i64 (takeG g b).2.2)]) := by
  rw [h]
  exact co_tup (cos_cons (co_agg (by repeat' (first | (refine cos_cons ?_ ?_) | exact cos_nil | exact co_refl _ | exact co_nilsL _ _))) (cos_cons (co_refl _) (cos_cons (co_refl _) cos_nil)))
theorem kind_rng (c : Int) : 0 ≤ kindOf c ∧ kindOf c ≤ 9 := by
  have h := idxI_rng [82, 83, 75, 90, 84, 68, 67, 73, 69] c
  simp only [List.length_cons, List.length_nil] at h
  unfold kindOf
  omega
set_option maxRecDepth 100000 in
set_option maxHeartbeats 4000000 in
theorem pTake (b : List Int) : Pure Tryd.prog 20 [bs b] (.tup [(takeG toldS b).1.v, .d (.int .i64 (takeG toldS b).2.1), .d (.int .i64 (takeG toldS b).2.2)]) := by
  refine pure_intro Tryd.func20 rfl rfl rfl 64 rfl (fun hh => ?_)
  obtain ⟨hr, hml⟩ := has_bytes (hh (bs b) (by simp))
  have hmx : maxLen = 9223372036854775807 := rfl
  cases hb0 : b with
  | nil =>
    have h9 : takeG toldS [] = (zB, 0, 10) := rfl
    have := takeV_bad h9
    repeat' (first
      | ((with_reducible (first
       | (refine PW.seq fun K1 hK1 => ?_) | (refine PW.region fun K2 hK2 => ?_) | ((refine hK3 _ ?_; clear hK3)) | ((refine opsP_nil ?_; refine hK2 _ ?_; clear hK2)) 
       | (refine PW.block ?_) | (refine PW.ret ?_) | ((refine hX1 ?_; clear hX1 hY1; try simp only [hb])) )))
      | ((simp only [thenP, blockP]; (try ((repeat (fail_if_success (with_reducible refine hK1 _ ?_)); clear hK1); (with_reducible refine hK1 _ ?_); clear hK1))))
      | ((with_reducible omega))
      | (((first | (((with_reducible refine opsP_cons fun K3 hK3 => ?_); simp only [wantP, opP, valP, Ur, Us])) | ((with_reducible refine PW.condM fun X1 Y1 hX1 hY1 => ?_)) | (skip)); simp (disch := omega) only [St.eval, St.put, upd_app, iniT_app, avOf, avOf1, nom, cellsA, AV.okv, loadA, lenP, binP, intsP, intP, nilP, builtinP, isMapA, slA, putCells, fillA, buildA, U7, Ua, Uc, Ud, Uf, Ug, Uk, Un, Up, Ut, V9, Int.cast_ofNat_Int, Vr, PmL, simprocAttr, PmT, retQ, resP, tupA, fg, fgs, condP, condB_t]; try (with_reducible (first | exact co_refl _ | exact co_own _ _ _ | exact co_nilsB | exact co_nilsL _ _)))))
  | cons c r =>
    rw [← hb0]
    have hx : b[0]? = some c := by rw [hb0]; rfl
    have hg : b.getD 0 0 = c := by rw [hb0]; rfl
    have hne : b ≠ [] := by rw [hb0]; simp
    have hl : (b.length : Int) ≠ 0 := by rw [hb0]; simp; omega
    have hl0 := eq_false hl
    have hc := rng_at hr (i := 0) hx
    clear hb0
    by_cases h78 : c = 78
    · subst h78
      have h9 : takeG toldS b = ({ zB with kind := 10 }, 1, 0) := by unfold takeG; rw [if_neg hne, hg, if_pos rfl]
      rw [h9]
      repeat' (first
        | ((with_reducible (first
         | (refine PW.seq fun K1 hK1 => ?_) | (refine PW.region fun K2 hK2 => ?_) | ((refine hK3 _ ?_; clear hK3)) | ((refine opsP_nil ?_; refine hK2 _ ?_; clear hK2)) 
         | (refine PW.block ?_) | (refine PW.ret ?_) | ((refine hX1 ?_; clear hX1 hY1; try simp only [hb])) | ((refine hY1 ?_; clear hX1 hY1; try simp only [hb])) )))
        | ((simp only [thenP, blockP]; (try ((repeat (fail_if_success (with_reducible refine hK1 _ ?_)); clear hK1); (with_reducible refine hK1 _ ?_); clear hK1))))
        | (((first | (((with_reducible refine opsP_cons fun K3 hK3 => ?_); simp only [wantP, opP, valP, Ur, Us])) | ((with_reducible refine PW.condM fun X1 Y1 hX1 hY1 => ?_)) | (skip)); simp (disch := omega) only [St.eval, St.put, upd_app, iniT_app, avOf, avOf1, nom, cellsA, AV.okv, loadA, lenP, binP, intsP, intP, nilP, builtinP, isMapA, slA, putCells, fillA, buildA, U7, Ua, Uc, Ud, Uf, Ug, Uk, Un, Up, Ur, Us, Ut, V2, V8, V9, Vt, UU2, UU3, Vr, Vs, PmL, simprocAttr, PmT, hl0, hx, retQ, resP, tupA, fg, fgs, condP, condB_t, condB_f]; try (with_reducible (first | exact co_refl _ | exact co_own _ _ _ | exact co_nilsB | exact co_nilsL _ _)))))
      exact co_tup (cos_cons (co_agg (by repeat' (first | (refine cos_cons ?_ ?_) | exact cos_nil | exact co_refl _ | exact co_nilsL _ _))) (cos_cons (co_refl _) (cos_cons (co_refl _) cos_nil)))
    have k78 := eq_false h78
    have hI := pIndexS [82, 83, 75, 90, 84, 68, 67, 73, 69] c hc
    obtain ⟨I, hIe⟩ : ∃ I, idxI [82, 83, 75, 90, 84, 68, 67, 73, 69] c = I := ⟨_, rfl⟩
    have hkr := kind_rng c
    have hko : kindOf c = I + 1 := by unfold kindOf; rw [hIe]
    rw [hIe] at hI
    rw [hko] at hkr
    have hw : IntKind.i64.wrap (I + 1) = I + 1 := wl_i64 (by simp only [Bool.and_eq_true, decide_eq_true_eq]; omega)
    have hN := pFramed b 1 4 1073741824 (by omega) (by omega)
    have hd1 : b.drop (1 : Int).toNat = b.drop 1 := rfl
    by_cases hk0 : I + 1 = 0
    · have k0 := eq_true hk0
      have h9 : takeG toldS b = (zB, 0, 230) := by unfold takeG; rw [if_neg hne, hg, if_neg h78, hko, if_pos hk0]
      have hB := takeV_bad h9
      repeat' (first
        | ((with_reducible (first
         | (refine PW.seq fun K1 hK1 => ?_) | (refine PW.region fun K2 hK2 => ?_) | ((refine hK3 _ ?_; clear hK3)) | ((refine opsP_nil ?_; refine hK2 _ ?_; clear hK2)) 
         | (refine PW.block ?_) | (refine PW.skip ?_) | (refine PW.ret ?_) | ((refine hX1 ?_; clear hX1 hY1; try simp only [hb])) | ((refine hY1 ?_; clear hX1 hY1; try simp only [hb])) )))
        | (((with_reducible refine cC_pure ?_ (hI) (fun _ => ?_)); (focus ((repeat' constructor) <;> (simp only [purAs, purA, Vf, Bool.and_self, hl0, hx, k78, k0, hw]; done)))))
        | ((simp only [thenP, blockP]; (try ((repeat (fail_if_success (with_reducible refine hK1 _ ?_)); clear hK1); (with_reducible refine hK1 _ ?_); clear hK1))))
        | ((with_reducible omega))
        | (((first | (((with_reducible refine opsP_cons fun K3 hK3 => ?_); simp only [wantP, opP, valP, Ur, Us])) | ((with_reducible refine PW.condM fun X1 Y1 hX1 hY1 => ?_)) | (skip)); simp (disch := omega) only [St.eval, St.put, upd_app, iniT_app, avOf, avOf1, nom, cellsA, AV.okv, loadA, lenP, binP, intsP, intP, nilP, builtinP, bsz, U1, isMapA, slA, putCells, fillA, buildA, U7, Ua, Uc, Ud, Uf, Ug, Uk, Un, Up, Ur, Us, Ut, Uv, V2, V8, V9, Int.cast_ofNat_Int, Vr, Vs, PmL, simprocAttr, PmT, hl0, hx, k78, k0, hw, retQ, resP, tupA, fg, fgs, condP, condB_t, condB_f]; try (with_reducible (first | exact co_refl _ | exact co_own _ _ _ | exact co_nilsB | exact co_nilsL _ _)))))
      all_goals exact hB
    have k0 := eq_false hk0
    by_cases h8 : (b.length : Int) < 5 ∨ i32v (b.drop 1) < 4 ∨ 1073741824 < i32v (b.drop 1) ∨ (b.length : Int) - 1 < i32v (b.drop 1)
    · have hfr : ∃ e, e ≠ 0 ∧ frS b 1 4 1073741824 = (0, e) ∧ takeG toldS b = (zB, 0, e) := by
        unfold frS takeG
        rw [hd1, if_neg hne, hg, if_neg h78, hko, if_neg hk0]
        by_cases c1 : (b.length : Int) < 5
        · exact ⟨10, by simp, by rw [if_pos (by omega)], by rw [if_pos (by omega)]⟩
        have c1' : ¬ b.length < 5 := by omega
        have c1'' : ¬ (b.length : Int) < 1 + 4 := by omega
        by_cases c2 : i32v (b.drop 1) < 4
        · exact ⟨230, by simp, by simp only [c1'', c2, ↓reduceIte], by simp only [c1', c2, ↓reduceIte]⟩
        by_cases c3 : 1073741824 < i32v (b.drop 1)
        · exact ⟨231, by simp, by simp only [c1'', c2, c3, ↓reduceIte], by simp only [c1', c2, c3, ↓reduceIte]⟩
        have c4 : (b.length : Int) - 1 < i32v (b.drop 1) := by omega
        exact ⟨10, by simp, by simp only [c1'', c2, c3, c4, ↓reduceIte], by simp only [c1', c2, c3, c4, ↓reduceIte]⟩
      obtain ⟨e, he, f1, f2⟩ := hfr
      rw [f1] at hN
      have he' := eq_false he
      have hB := takeV_bad f2
      repeat' (first
        | ((with_reducible (first
         | (refine PW.seq fun K1 hK1 => ?_) | (refine PW.region fun K2 hK2 => ?_) | ((refine hK3 _ ?_; clear hK3)) | ((refine opsP_nil ?_; refine hK2 _ ?_; clear hK2)) 
         | (refine PW.block ?_) | (refine PW.skip ?_) | (refine PW.ret ?_) | ((refine hX1 ?_; clear hX1 hY1; try simp only [hb])) | ((refine hY1 ?_; clear hX1 hY1; try simp only [hb])) )))
        | (((with_reducible refine cC_pure ?_ (hI) (fun _ => ?_)); (focus ((repeat' constructor) <;> (simp only [purAs, purA, Vf, Bool.and_self, hl0, hx, k78, k0, hw, he']; done)))))
        | (((with_reducible refine cC_pure ?_ (hN) (fun _ => ?_)); (focus ((repeat' constructor) <;> (simp only [purAs, purA, Vf, Bool.and_self, hl0, hx, k78, k0, hw, he']; done)))))
        | ((simp only [thenP, blockP]; (try ((repeat (fail_if_success (with_reducible refine hK1 _ ?_)); clear hK1); (with_reducible refine hK1 _ ?_); clear hK1))))
        | ((with_reducible omega))
        | (((first | (((with_reducible refine opsP_cons fun K3 hK3 => ?_); simp only [wantP, opP, valP, Ur, Us])) | ((with_reducible refine PW.condM fun X1 Y1 hX1 hY1 => ?_)) | (skip)); simp (disch := omega) only [St.eval, St.put, upd_app, iniT_app, avOf, avOf1, nom, cellsA, AV.okv, loadA, lenP, binP, intsP, intP, nilP, builtinP, bsz, U1, isMapA, slA, putCells, fillA, buildA, U7, Ua, Ub, Uc, Ud, Uf, Ug, Uk, Un, Up, Ur, Us, Ut, Uv, V2, V8, V9, Int.cast_ofNat_Int, Vr, Vs, PmL, simprocAttr, PmT, hl0, hx, k78, k0, hw, he', retQ, resP, tupA, fg, fgs, condP, condB_t, condB_f]; try (with_reducible (first | exact co_refl _ | exact co_own _ _ _ | exact co_nilsB | exact co_nilsL _ _)))))
      all_goals exact hB
    · obtain ⟨n, hn⟩ := Int.eq_ofNat_of_zero_le (a := i32v (b.drop 1)) (by omega)
      have hfr : frS b 1 4 1073741824 = ((n : Int), 0) := by
        unfold frS
        rw [hd1, if_neg (by omega), if_neg (by omega), if_neg (by omega), if_neg (by omega), hn]
      rw [hfr] at hN
      have hnt : (i32v (b.drop 1)).toNat = n := by rw [hn]; rfl
      have hT := pTold (I + 1) ((b.take (1 + n)).drop 5) (by omega) (by rw [List.length_drop, List.length_take]; omega)
      have hsm := told_small (I + 1) ((b.take (1 + n)).drop 5) (by rw [List.length_drop, List.length_take]; omega)
      have h9 : takeG toldS b = if (putBackS (toldS (I + 1) ((b.take (1 + n)).drop 5))).2 = 0 ∧ (putBackS (toldS (I + 1) ((b.take (1 + n)).drop 5))).1 = b.take (1 + n) then (toldS (I + 1) ((b.take (1 + n)).drop 5), 1 + (n : Int), 0) else (zB, 0, 230) := by
        unfold takeG
        rw [if_neg hne, hg, if_neg h78, hko, if_neg hk0, if_neg (by omega), if_neg (by omega), if_neg (by omega), if_neg (by omega), hnt, hn]
      obtain ⟨m, hm⟩ : ∃ m, toldS (I + 1) ((b.take (1 + n)).drop 5) = m := ⟨_, rfl⟩
      rw [hm] at hT hsm h9
      have hP := pPut m hsm
      obtain ⟨⟨p, e⟩, hpe⟩ : ∃ r, putBackS m = r := ⟨_, rfl⟩
      rw [hpe] at hP h9
      simp only at h9
      have hE := pEqual p (b.take (1 + n))
      have hk19 : I + 1 = 1 ∨ True := .inr trivial
      obtain ⟨K, hK⟩ : ∃ K, I + 1 = K := ⟨_, rfl⟩
      rw [hK] at hw hT hm
      have hkz : (K = 0) = False := by rw [← hK]; exact k0
      have hs1 : (1 : Int) + n ≤ b.length := by omega
      have hw1 : IntKind.i64.wrap (1 + (n : Int)) = 1 + n := wl_i64 (by simp only [Bool.and_eq_true, decide_eq_true_eq]; omega)
      have ht1 : ((1 : Int) + n).toNat = 1 + n := by omega
      obtain ⟨xk, xn, xt, xp, xs, xu, xf, xc, xa, xg⟩ := m
      simp only [Back.v, Back.c, putV, List.map_cons, List.map_nil] at hT hP
      by_cases he : e = 0
      · subst he
        by_cases hq : p = b.take (1 + n)
        · rw [if_pos ⟨rfl, hq⟩] at h9
          have hq' := decide_eq_true hq
          rw [hq'] at hE
          rw [h9]
          simp only [Back.v, Back.c, List.map_cons, List.map_nil]
          repeat' (first
            | ((with_reducible (first
             | (refine PW.seq fun K1 hK1 => ?_) | (refine PW.region fun K2 hK2 => ?_) | ((refine hK3 _ ?_; clear hK3)) | ((refine opsP_nil ?_; refine hK2 _ ?_; clear hK2)) | ((refine Exists.intro _ (Exists.intro _ (And.intro rfl (And.intro rfl (And.intro ?_ ?_)))); focus omega)) 
             | (refine PW.block ?_) | (refine PW.skip ?_) | (refine PW.ret ?_) | ((refine hY1 ?_; clear hX1 hY1; try simp only [hb])) )))
            | (((with_reducible refine cC_pure ?_ (hI) (fun _ => ?_)); (focus ((repeat' constructor) <;> (simp only [purAs, purA, Vf, Bool.and_self, hl0, hx, k78, hkz, hw, hw1, ht1, hK]; done)))))
            | (((with_reducible refine cC_pure ?_ (hN) (fun _ => ?_)); (focus ((repeat' constructor) <;> (simp only [purAs, purA, Vf, Bool.and_self, hl0, hx, k78, hkz, hw, hw1, ht1, hK]; done)))))
            | (((with_reducible refine cC_pure ?_ (hT) (fun _ => ?_)); (focus ((repeat' constructor) <;> (simp only [purAs, purA, Vf, Bool.and_self, hl0, hx, k78, hkz, hw, hw1, ht1, hK]; done)))))
            | (((with_reducible refine cC_pure ?_ (hP) (fun _ => ?_)); (focus ((repeat' constructor) <;> (simp only [purAs, purA, Vf, Bool.and_self, hl0, hx, k78, hkz, hw, hw1, ht1, hK]; done)))))
            | ((simp only [thenP, blockP]; (try ((repeat (fail_if_success (with_reducible refine hK1 _ ?_)); clear hK1); (with_reducible refine hK1 _ ?_); clear hK1))))
            | (((first | ((with_reducible (first | refine opsP_consMt (d := ?_) (dj := ?_) (b := ?_) (r := ?_) ?_ ?_ (fun hb => ?_) (fun K3 hK3 => ?_) | refine opsP_consMf (d := ?_) (dj := ?_) (b := ?_) (r := ?_) ?_ ?_ (fun hb => ?_) (fun K3 hK3 => ?_))); rotate_left 3; (focus exact rfl); (focus (simp only [upd_app, simprocAttr]; exact rfl))) | ((with_reducible (first | refine opsP_consNt (d := ?_) (dj := ?_) (b := ?_) (r := ?_) (c := ?_) ?_ ?_ (fun hb => ?_) (fun K3 hK3 => ?_) | refine opsP_consNf (d := ?_) (dj := ?_) (b := ?_) (r := ?_) (c := ?_) ?_ ?_ (fun hb => ?_) (fun K3 hK3 => ?_))); rotate_left 4; (focus exact rfl); (focus (simp only [St.put, upd_app, iniT_app, simprocAttr, mrg_t, mrg_f]; exact rfl)))); (focus (simp only [opP, valP, Ur, Us]; (try (simp only [Bool.not_eq_true'] at hb)); (try (have hp := hb; simp only [PmH, beq_iff_eq, beq_eq_false_iff_ne, ne_eq] at hp)); simp (disch := omega) only [St.eval, upd_app, iniT_app, avOf, avOf1, binP, intsP, intP, nilP, sliceP, boundLo, boundHi, unP, slA, U7, Uk, Uv, V2, V3, V8, UU2, UU4, PmL, simprocAttr, PmT, hw1, ht1]; (repeat' (first | (exact rfl) | ((refine And.intro ?_ ?_); (focus (exact rfl)); (exact rfl)) | (refine And.intro (by first | omega | (simp; done) | assumption) ?_) | ((with_reducible refine cC_pure ?_ (hI) (fun _ => ?_)); (focus ((repeat' constructor) <;> (simp only [purAs, purA, Vf, Bool.and_self, hl0, hx, k78, hkz, hw, hw1, ht1, hK]; done)))) | ((with_reducible refine cC_pure ?_ (hN) (fun _ => ?_)); (focus ((repeat' constructor) <;> (simp only [purAs, purA, Vf, Bool.and_self, hl0, hx, k78, hkz, hw, hw1, ht1, hK]; done)))) | ((with_reducible refine cC_pure ?_ (hT) (fun _ => ?_)); (focus ((repeat' constructor) <;> (simp only [purAs, purA, Vf, Bool.and_self, hl0, hx, k78, hkz, hw, hw1, ht1, hK]; done)))) | ((with_reducible refine cC_pure ?_ (hP) (fun _ => ?_)); (focus ((repeat' constructor) <;> (simp only [purAs, purA, Vf, Bool.and_self, hl0, hx, k78, hkz, hw, hw1, ht1, hK]; done)))) | ((with_reducible refine cC_pure ?_ (hE) (fun _ => ?_)); (focus ((repeat' constructor) <;> (simp only [purAs, purA, Vf, Bool.and_self, hl0, hx, k78, hkz, hw, hw1, ht1, hK]; done)))))); done)); (try simp only [St.put, Nat.reduceLT, ↓reduceIte, mrg_t, Bool.not_false])))
            | (((first | (((with_reducible refine opsP_cons fun K3 hK3 => ?_); simp only [wantP, opP, valP, Ur, Us])) | ((with_reducible refine PW.condM fun X1 Y1 hX1 hY1 => ?_)) | (skip)); simp (disch := omega) only [wantB_ff, St.eval, St.put, upd_app, iniT_app, avOf, avOf1, nom, cellsA, AV.okv, loadA, lenP, binP, intsP, intP, nilP, sliceP, boundLo, boundHi, builtinP, bsz, U1, isMapA, slA, putCells, U7, Ua, Ub, Uc, Ud, Uf, Ug, Uk, Un, Up, Ur, Us, Ut, Uu, Uv, Uz, V2, V3, V4, V8, V9, Ve, Int.cast_ofNat_Int, UU2, UU4, Vr, Vs, PmL, simprocAttr, PmT, hl0, hx, k78, hkz, hw, hw1, ht1, hK, retQ, resP, tupA, fg, fgs, condP, condB_f]; try (with_reducible (first | exact co_refl _ | exact co_own _ _ _ | exact co_nilsB | exact co_nilsL _ _)))))
        · rw [if_neg (fun h => hq h.2)] at h9
          have hq' := decide_eq_false hq
          rw [hq'] at hE
          have hB := takeV_bad h9
          repeat' (first
            | ((with_reducible (first
             | (refine PW.seq fun K1 hK1 => ?_) | (refine PW.region fun K2 hK2 => ?_) | ((refine hK3 _ ?_; clear hK3)) | ((refine opsP_nil ?_; refine hK2 _ ?_; clear hK2)) | ((refine Exists.intro _ (Exists.intro _ (And.intro rfl (And.intro rfl (And.intro ?_ ?_)))); focus omega)) 
             | (refine PW.block ?_) | (refine PW.skip ?_) | (refine PW.ret ?_) | ((refine hX1 ?_; clear hX1 hY1; try simp only [hb])) | ((refine hY1 ?_; clear hX1 hY1; try simp only [hb])) )))
            | (((with_reducible refine cC_pure ?_ (hI) (fun _ => ?_)); (focus ((repeat' constructor) <;> (simp only [purAs, purA, Vf, Bool.and_self, hl0, hx, k78, hkz, hw, hw1, ht1, hK]; done)))))
            | (((with_reducible refine cC_pure ?_ (hN) (fun _ => ?_)); (focus ((repeat' constructor) <;> (simp only [purAs, purA, Vf, Bool.and_self, hl0, hx, k78, hkz, hw, hw1, ht1, hK]; done)))))
            | (((with_reducible refine cC_pure ?_ (hT) (fun _ => ?_)); (focus ((repeat' constructor) <;> (simp only [purAs, purA, Vf, Bool.and_self, hl0, hx, k78, hkz, hw, hw1, ht1, hK]; done)))))
            | (((with_reducible refine cC_pure ?_ (hP) (fun _ => ?_)); (focus ((repeat' constructor) <;> (simp only [purAs, purA, Vf, Bool.and_self, hl0, hx, k78, hkz, hw, hw1, ht1, hK]; done)))))
            | ((simp only [thenP, blockP]; (try ((repeat (fail_if_success (with_reducible refine hK1 _ ?_)); clear hK1); (with_reducible refine hK1 _ ?_); clear hK1))))
            | ((with_reducible omega))
            | (((first | ((with_reducible (first | refine opsP_consMt (d := ?_) (dj := ?_) (b := ?_) (r := ?_) ?_ ?_ (fun hb => ?_) (fun K3 hK3 => ?_) | refine opsP_consMf (d := ?_) (dj := ?_) (b := ?_) (r := ?_) ?_ ?_ (fun hb => ?_) (fun K3 hK3 => ?_))); rotate_left 3; (focus exact rfl); (focus (simp only [upd_app, simprocAttr]; exact rfl))) | ((with_reducible (first | refine opsP_consNt (d := ?_) (dj := ?_) (b := ?_) (r := ?_) (c := ?_) ?_ ?_ (fun hb => ?_) (fun K3 hK3 => ?_) | refine opsP_consNf (d := ?_) (dj := ?_) (b := ?_) (r := ?_) (c := ?_) ?_ ?_ (fun hb => ?_) (fun K3 hK3 => ?_))); rotate_left 4; (focus exact rfl); (focus (simp only [St.put, upd_app, iniT_app, simprocAttr, mrg_t, mrg_f]; exact rfl)))); (focus (simp only [opP, valP, Ur, Us]; (try (simp only [Bool.not_eq_true'] at hb)); (try (have hp := hb; simp only [PmH, beq_iff_eq, beq_eq_false_iff_ne, ne_eq] at hp)); simp (disch := omega) only [St.eval, upd_app, iniT_app, avOf, avOf1, binP, intsP, intP, nilP, sliceP, boundLo, boundHi, unP, slA, U7, Uk, Uv, V2, V3, V8, UU2, UU4, PmL, simprocAttr, PmT, hw1, ht1]; (repeat' (first | (exact rfl) | ((refine And.intro ?_ ?_); (focus (exact rfl)); (exact rfl)) | (refine And.intro (by first | omega | (simp; done) | assumption) ?_) | ((with_reducible refine cC_pure ?_ (hI) (fun _ => ?_)); (focus ((repeat' constructor) <;> (simp only [purAs, purA, Vf, Bool.and_self, hl0, hx, k78, hkz, hw, hw1, ht1, hK]; done)))) | ((with_reducible refine cC_pure ?_ (hN) (fun _ => ?_)); (focus ((repeat' constructor) <;> (simp only [purAs, purA, Vf, Bool.and_self, hl0, hx, k78, hkz, hw, hw1, ht1, hK]; done)))) | ((with_reducible refine cC_pure ?_ (hT) (fun _ => ?_)); (focus ((repeat' constructor) <;> (simp only [purAs, purA, Vf, Bool.and_self, hl0, hx, k78, hkz, hw, hw1, ht1, hK]; done)))) | ((with_reducible refine cC_pure ?_ (hP) (fun _ => ?_)); (focus ((repeat' constructor) <;> (simp only [purAs, purA, Vf, Bool.and_self, hl0, hx, k78, hkz, hw, hw1, ht1, hK]; done)))) | ((with_reducible refine cC_pure ?_ (hE) (fun _ => ?_)); (focus ((repeat' constructor) <;> (simp only [purAs, purA, Vf, Bool.and_self, hl0, hx, k78, hkz, hw, hw1, ht1, hK]; done)))))); done)); (try simp only [St.put, Nat.reduceLT, ↓reduceIte, mrg_t, Bool.not_false])))
            | (((first | (((with_reducible refine opsP_cons fun K3 hK3 => ?_); simp only [wantP, opP, valP, Ur, Us])) | ((with_reducible refine PW.condM fun X1 Y1 hX1 hY1 => ?_)) | (skip)); simp (disch := omega) only [wantB_ff, St.eval, St.put, upd_app, iniT_app, avOf, avOf1, nom, cellsA, AV.okv, loadA, lenP, binP, intsP, intP, nilP, sliceP, boundLo, boundHi, builtinP, bsz, U1, isMapA, slA, putCells, fillA, buildA, U7, Ua, Ub, Uc, Ud, Uf, Ug, Uk, Un, Up, Ur, Us, Ut, Uu, Uv, Uz, V2, V3, V4, V8, V9, Int.cast_ofNat_Int, UU2, UU4, Vr, Vs, PmL, simprocAttr, PmT, hl0, hx, k78, hkz, hw, hw1, ht1, hK, retQ, resP, tupA, fg, fgs, condP, condB_t, condB_f]; try (with_reducible (first | exact co_refl _ | exact co_own _ _ _ | exact co_nilsB | exact co_nilsL _ _)))))
          all_goals exact hB
      · rw [if_neg (fun h => he h.1)] at h9
        have he' := eq_false he
        have hB := takeV_bad h9
        repeat' (first
          | ((with_reducible (first
           | (refine PW.seq fun K1 hK1 => ?_) | (refine PW.region fun K2 hK2 => ?_) | ((refine hK3 _ ?_; clear hK3)) | ((refine opsP_nil ?_; refine hK2 _ ?_; clear hK2)) | ((refine Exists.intro _ (Exists.intro _ (And.intro rfl (And.intro rfl (And.intro ?_ ?_)))); focus omega)) 
           | (refine PW.block ?_) | (refine PW.skip ?_) | (refine PW.ret ?_) | ((refine hX1 ?_; clear hX1 hY1; try simp only [hb])) | ((refine hY1 ?_; clear hX1 hY1; try simp only [hb])) )))
          | (((with_reducible refine cC_pure ?_ (hI) (fun _ => ?_)); (focus ((repeat' constructor) <;> (simp only [purAs, purA, Vf, Bool.and_self, hl0, hx, k78, hkz, hw, hw1, ht1, hK, he']; done)))))
          | (((with_reducible refine cC_pure ?_ (hN) (fun _ => ?_)); (focus ((repeat' constructor) <;> (simp only [purAs, purA, Vf, Bool.and_self, hl0, hx, k78, hkz, hw, hw1, ht1, hK, he']; done)))))
          | (((with_reducible refine cC_pure ?_ (hT) (fun _ => ?_)); (focus ((repeat' constructor) <;> (simp only [purAs, purA, Vf, Bool.and_self, hl0, hx, k78, hkz, hw, hw1, ht1, hK, he']; done)))))
          | (((with_reducible refine cC_pure ?_ (hP) (fun _ => ?_)); (focus ((repeat' constructor) <;> (simp only [purAs, purA, Vf, Bool.and_self, hl0, hx, k78, hkz, hw, hw1, ht1, hK, he']; done)))))
          | ((simp only [thenP, blockP]; (try ((repeat (fail_if_success (with_reducible refine hK1 _ ?_)); clear hK1); (with_reducible refine hK1 _ ?_); clear hK1))))
          | ((with_reducible omega))
          | (((first | ((with_reducible (first | refine opsP_consMt (d := ?_) (dj := ?_) (b := ?_) (r := ?_) ?_ ?_ (fun hb => ?_) (fun K3 hK3 => ?_) | refine opsP_consMf (d := ?_) (dj := ?_) (b := ?_) (r := ?_) ?_ ?_ (fun hb => ?_) (fun K3 hK3 => ?_))); rotate_left 3; (focus exact rfl); (focus (simp only [upd_app, simprocAttr]; exact rfl))) | ((with_reducible (first | refine opsP_consNt (d := ?_) (dj := ?_) (b := ?_) (r := ?_) (c := ?_) ?_ ?_ (fun hb => ?_) (fun K3 hK3 => ?_) | refine opsP_consNf (d := ?_) (dj := ?_) (b := ?_) (r := ?_) (c := ?_) ?_ ?_ (fun hb => ?_) (fun K3 hK3 => ?_))); rotate_left 4; (focus exact rfl); (focus (simp only [St.put, upd_app, iniT_app, simprocAttr, mrg_t, mrg_f]; exact rfl)))); (focus (simp only [opP, valP, Ur, Us]; (try (simp only [Bool.not_eq_true'] at hb)); (try (have hp := hb; simp only [PmH, beq_iff_eq, beq_eq_false_iff_ne, ne_eq] at hp)); simp (disch := omega) only [St.eval, upd_app, iniT_app, avOf, avOf1, binP, nilP, sliceP, unP, slA, U7, Uv, PmL, simprocAttr, PmT, hb]; (repeat' (first | (exact rfl) | ((refine And.intro ?_ ?_); (focus (exact rfl)); (exact rfl)) | (refine And.intro (by first | omega | (simp; done) | assumption) ?_) | ((with_reducible refine cC_pure ?_ (hI) (fun _ => ?_)); (focus ((repeat' constructor) <;> (simp only [purAs, purA, Vf, Bool.and_self, hl0, hx, k78, hkz, hw, hw1, ht1, hK, he']; done)))) | ((with_reducible refine cC_pure ?_ (hN) (fun _ => ?_)); (focus ((repeat' constructor) <;> (simp only [purAs, purA, Vf, Bool.and_self, hl0, hx, k78, hkz, hw, hw1, ht1, hK, he']; done)))) | ((with_reducible refine cC_pure ?_ (hT) (fun _ => ?_)); (focus ((repeat' constructor) <;> (simp only [purAs, purA, Vf, Bool.and_self, hl0, hx, k78, hkz, hw, hw1, ht1, hK, he']; done)))) | ((with_reducible refine cC_pure ?_ (hP) (fun _ => ?_)); (focus ((repeat' constructor) <;> (simp only [purAs, purA, Vf, Bool.and_self, hl0, hx, k78, hkz, hw, hw1, ht1, hK, he']; done)))) | ((with_reducible refine cC_pure ?_ (hE) (fun _ => ?_)); (focus ((repeat' constructor) <;> (simp only [purAs, purA, Vf, Bool.and_self, hl0, hx, k78, hkz, hw, hw1, ht1, hK, he']; done)))))); done)); (try simp only [St.put, Nat.reduceLT, ↓reduceIte, mrg_f, Bool.not_true])))
          | (((first | (((with_reducible refine opsP_cons fun K3 hK3 => ?_); simp only [wantP, opP, valP, Ur, Us])) | ((with_reducible refine PW.condM fun X1 Y1 hX1 hY1 => ?_)) | (skip)); simp (disch := omega) only [wantB_tf, St.eval, St.put, upd_app, iniT_app, avOf, avOf1, nom, cellsA, AV.okv, loadA, lenP, binP, intsP, intP, nilP, sliceP, boundLo, boundHi, unP, builtinP, bsz, U1, isMapA, slA, putCells, fillA, buildA, U7, Ua, Ub, Uc, Ud, Uf, Ug, Uk, Un, Up, Ur, Us, Ut, Uu, Uv, Uz, V2, V3, V4, V8, V9, Int.cast_ofNat_Int, UU2, UU4, Vr, Vs, PmL, simprocAttr, PmT, hl0, hx, k78, hkz, hw, hw1, ht1, hK, he', retQ, resP, tupA, fg, fgs, condP, condB_t, condB_f]; try (with_reducible (first | exact co_refl _ | exact co_own _ _ _ | exact co_nilsB | exact co_nilsL _ _)))))
        all_goals exact hB
end PM
end Go.Proofs.YthaekefdadccaaaDoor
