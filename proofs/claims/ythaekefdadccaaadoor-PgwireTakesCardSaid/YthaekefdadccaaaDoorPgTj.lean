/- pgwire's reference in the abstract: a server's message off the front of bytes. -/
import Derived.Test.YthaekefdadccaaaDoorPgTh
import Derived.Test.YthaekefdadccaaaDoorPgTt
import Derived.Test.YthaekefdadccaaaDoorPgRP
namespace Go.Proofs.YthaekefdadccaaaDoor
open Go.RowKit
namespace PM
theorem kind0 {c : Int} : kindOf c = 0 ↔ (c ≠ 82 ∧ c ≠ 83 ∧ c ≠ 75 ∧ c ≠ 90 ∧ c ≠ 84 ∧ c ≠ 68 ∧ c ≠ 67 ∧ c ≠ 73 ∧ c ≠ 69) := by
  unfold kindOf
  constructor
  · intro h
    have h1 : idxI [82, 83, 75, 90, 84, 68, 67, 73, 69] c = -1 := by omega
    refine ⟨?_, ?_, ?_, ?_, ?_, ?_, ?_, ?_, ?_⟩
    all_goals
      rintro rfl
      revert h1
      decide
  · rintro ⟨h1, h2, h3, h4, h5, h6, h7, h8, h9⟩
    simp [idxI, h1.symm, h2.symm, h3.symm, h4.symm, h5.symm, h6.symm, h7.symm, h8.symm, h9.symm]
theorem tag_kind {c : Int} (h : kindOf c ≠ 0) : tagOf (kindOf c) = c := by
  by_cases hc : c = 82 ∨ c = 83 ∨ c = 75 ∨ c = 90 ∨ c = 84 ∨ c = 68 ∨ c = 67 ∨ c = 73 ∨ c = 69
  · rcases hc with rfl | rfl | rfl | rfl | rfl | rfl | rfl | rfl | rfl <;> decide
  · exact absurd (kind0.2 (by refine ⟨?_, ?_, ?_, ?_, ?_, ?_, ?_, ?_, ?_⟩ <;> (intro h0; exact hc (by simp [h0])))) h
set_option maxRecDepth 100000 in
set_option maxHeartbeats 4000000 in
theorem pRTake (b : List Int) : Pure Tryd.prog 19 [bs b] (.tup [(takeG guessK b).1.v, .d (.int .i64 (takeG guessK b).2.1), .d (.int .i64 (takeG guessK b).2.2)]) := by
  refine pure_intro Tryd.func19 rfl rfl rfl 94 rfl (fun hh => ?_)
  obtain ⟨hr, hml⟩ := has_bytes (hh (bs b) (by simp))
  have hmx : maxLen = 9223372036854775807 := rfl
  cases hb0 : b with
  | nil =>
    have h9 : takeG guessK [] = (zB, 0, 10) := rfl
    have hB := takeV_bad h9
    repeat' (first
      | ((with_reducible (first
       | (refine PW.seq fun K1 hK1 => ?_) | (refine PW.region fun K2 hK2 => ?_) | ((refine hK3 _ ?_; clear hK3)) | ((refine opsP_nil ?_; refine hK2 _ ?_; clear hK2)) 
       | (refine PW.ret ?_) | ((refine hX1 ?_; clear hX1 hY1; try simp only [hb])) )))
      | ((simp only [thenP]; (try ((repeat (fail_if_success (with_reducible refine hK1 _ ?_)); clear hK1); (with_reducible refine hK1 _ ?_); clear hK1))))
      | ((with_reducible omega))
      | (((first | (((with_reducible refine opsP_cons fun K3 hK3 => ?_); simp only [wantP, opP, valP, Ur, Us])) | ((with_reducible refine PW.condM fun X1 Y1 hX1 hY1 => ?_)) | (skip)); simp (disch := omega) only [St.eval, St.put, upd_app, iniT_app, avOf, avOf1, nom, cellsA, AV.okv, loadA, lenP, binP, intsP, intP, nilP, builtinP, isMapA, slA, putCells, fillA, buildA, U7, Ua, Uc, Ud, Uf, Ug, Uk, Un, Up, Ut, V9, Int.cast_ofNat_Int, Vr, PmL, simprocAttr, PmT, retQ, resP, tupA, fg, fgs, condP, condB_t]; try (with_reducible (first | exact co_refl _ | exact co_own _ _ _ | exact co_nilsB | exact co_nilsL _ _)))))
  | cons c r =>
    rw [← hb0]
    have hx : b[0]? = some c := by rw [hb0]; rfl
    have hg : b.getD 0 0 = c := by rw [hb0]; rfl
    have hne : b ≠ [] := by rw [hb0]; simp
    have hl : (b.length : Int) ≠ 0 := by rw [hb0]; simp; omega
    have hl0 := eq_false hl
    have hc := rng_at hr (i := 0) hx
    clear hb0
    obtain ⟨tg, htg⟩ : ∃ tg : List Int, [82, 83, 75, 90, 84, 68, 67, 73, 69] = tg := ⟨_, rfl⟩
    have htl : tg.length = 9 := by rw [← htg]; rfl
    repeat' (first
      | ((with_reducible (first
       | (refine PW.seq fun K1 hK1 => ?_) | (refine PW.region fun K2 hK2 => ?_) | ((refine hK3 _ ?_; clear hK3)) | ((refine opsP_nil ?_; refine hK2 _ ?_; clear hK2)) | (refine PW.block ?_) | (refine PW.skip ?_)
       | ((refine hY1 ?_; clear hX1 hY1; try simp only [hb])) )))
      | ((simp only [thenP]; (try ((repeat (fail_if_success (with_reducible refine hK1 _ ?_)); clear hK1); (with_reducible refine hK1 _ ?_); clear hK1))))
      | (((first | (((with_reducible refine opsP_cons fun K3 hK3 => ?_); simp only [wantP, opP, valP, Ur, Us])) | ((with_reducible refine PW.condM fun X1 Y1 hX1 hY1 => ?_)) | (skip)); simp (disch := omega) only [St.eval, St.put, upd_app, iniT_app, avOf, avOf1, nom, lenP, binP, intsP, intP, nilP, builtinP, bsz, U1, isMapA, slA, U7, Uf, Ug, Ur, Us, Ut, V9, Int.cast_ofNat_Int, PmL, simprocAttr, PmT, hl0, htg, condP, condB_f]; try (with_reducible (first | exact co_refl _ | exact co_own _ _ _ | exact co_nilsB | exact co_nilsL _ _)))))
    (with_reducible refine PW.loop (fun n s => ∃ k : Nat, s.t 0 = bs b ∧ s.t 2 = .ptr 0 0 ∧ s.t 5 = .d (.bool ((tg.take k).any fun x => decide (c = x))) ∧ s.t 6 = .d (.str tg) ∧ s.t 7 = .d (.int .i64 k) ∧ s.n = 94 ∧
      s.m = ⟨[some (35, [.d (.int .i64 0), .d (.str []), .d (.str []), .d (.int .i64 0), .d (.int .i64 0), .d (.int .u8 0), .nils, .nils, .d (.str []), .d (.bool false)])], []⟩ ∧ k ≤ 9 ∧ n = 9 - k) 9 ?_ ?_)
    · exact ⟨0, rfl, rfl, rfl, rfl, rfl, rfl, rfl, by omega, rfl⟩
    rintro n9 ⟨t, nn, m⟩ ⟨k, h0, h2, h5, h6, h7, hn, hm, hk9, hnk⟩ - -
    simp only at h0 h2 h5 h6 h7 hn hm
    subst hn hm
    by_cases hlt : (k : Int) < tg.length
    · have hlt' := eq_true hlt
      obtain ⟨x, hxt⟩ : ∃ x, tg[k]? = some x := ⟨_, List.getElem?_eq_getElem (by omega)⟩
      have hw : IntKind.i64.wrap ((k : Int) + 1) = (k : Int) + 1 := wl_i64 (by simp only [Bool.and_eq_true, decide_eq_true_eq]; omega)
      have hany : ((tg.take (k + 1)).any fun x => decide (c = x)) = (((tg.take k).any fun x => decide (c = x)) || decide (c = x)) := by
        rw [take_snoc' hxt, List.any_append]; simp
      obtain ⟨K, hK⟩ : ∃ K, ((tg.take k).any fun x => decide (c = x)) = K := ⟨_, rfl⟩
      rw [hK] at h5 hany
      cases K
      all_goals
        repeat' (first
          | ((with_reducible (first
           | (refine PW.seq fun K1 hK1 => ?_) | (refine PW.region fun K2 hK2 => ?_) | ((refine hK3 _ ?_; clear hK3)) | ((refine opsP_nil ?_; refine hK2 _ ?_; clear hK2)) | (refine PW.block ?_) | (refine PW.skip ?_)
           | ((refine hX1 ?_; clear hX1 hY1; try simp only [hb])) | ((refine opsO_nil ?_; refine hK2 _ ?_; clear hK2)) )))
          | (((with_reducible refine PW.drawR (id := 8) mixed [] [(0, true), (1, true), (2, true), (3, true), (4, true), (5, true), (6, true), (7, true), (8, true), (9, true), (10, true)] (by kernel_rfl) (by decide) fun K2 hK2 => ?_)))
          | (((with_reducible refine And.intro ?_ ?_); (focus (first | omega | (simp; done) | assumption))))
          | ((simp only [thenP, blockP]; (try ((repeat (fail_if_success (with_reducible refine hK1 _ ?_)); clear hK1); (with_reducible refine hK1 _ ?_); clear hK1))))
          | (((first | (((with_reducible refine opsP_cons fun K3 hK3 => ?_); simp only [wantP, opP, valP, Ur, Us])) | (((with_reducible refine opsO_first (o := ?_) ?_ fun K3 hK3 => ?_); rotate_left 1; (focus (simp only [Uz, Ub, Ua] <;> rfl)); simp only [wantP, firstP, valP])) | ((with_reducible refine PW.condM fun X1 Y1 hX1 hY1 => ?_)) | (skip)); simp (disch := omega) only [wantB_ff, wantB_tf, St.eval, St.put, upd_app, avOf, avOf1, loadA, lenP, binP, intsP, intP, eqP, nilP, builtinP, isMapA, slA, Ua, Ub, Uf, Ug, Ur, Us, Uz, V2, V4, V7, V8, V9, Vs, PmL, simprocAttr, PmT, h0, h5, h6, h7, hlt', hx, hxt, hw, condP, condB_t, firstOk]; try (with_reducible (first | exact co_refl _ | exact co_own _ _ _ | exact co_nilsB | exact co_nilsL _ _)))))
        refine ⟨9 - (k + 1), by omega, k + 1, ?_, ?_, ?_, ?_, ?_, ?_, ?_, by omega, rfl⟩
        all_goals (simp only [St.cut, Mem.cut, fg, fgs, upd_app, Nat.reduceEqDiff, ↓reduceIte, List.take_nil, List.map_nil, List.take_succ_cons, List.map_cons, Option.map_some, Nat.zero_lt_one, Int.natCast_add, Int.cast_ofNat_Int, h0, h2, h6, hany, Bool.false_or, Bool.true_or]; try rfl)
    have hlt' := eq_false hlt
    have htk : tg.take k = tg := List.take_of_length_le (by omega)
    rw [htk] at h5
    clear hlt htk hnk hk9 htl
    by_cases h78 : c = 78
    · subst h78
      have h9 : takeG guessK b = ({ zB with kind := 10 }, 1, 0) := by unfold takeG; rw [if_neg hne, hg, if_pos rfl]
      repeat' (first
        | ((with_reducible (first
         | (refine PW.seq fun K1 hK1 => ?_) | (refine PW.region fun K2 hK2 => ?_) | ((refine hK3 _ ?_; clear hK3)) | ((refine opsP_nil ?_; refine hK2 _ ?_; clear hK2)) | (refine PW.block ?_) 
         | (refine PW.exit ?_) | (refine PW.ret ?_) | ((refine hX1 ?_; clear hX1 hY1; try simp only [hb])) | ((refine hY1 ?_; clear hX1 hY1; try simp only [hb])) )))
        | ((simp only [thenP, blockP, ↓reduceIte]; (try ((repeat (fail_if_success (with_reducible refine hK1 _ ?_)); clear hK1); (with_reducible refine hK1 _ ?_); clear hK1))))
        | (((first | (((with_reducible refine opsP_cons fun K3 hK3 => ?_); simp only [wantP, opP, valP, Ur, Us])) | ((with_reducible refine PW.condM fun X1 Y1 hX1 hY1 => ?_)) | (skip)); simp (disch := omega) only [St.eval, St.put, upd_app, avOf, avOf1, cellsA, AV.okv, loadA, lenP, binP, intsP, intP, nilP, builtinP, isMapA, slA, putCells, fillA, buildA, Ua, Uc, Ud, Uf, Ug, Uk, Un, Up, Ur, Us, V2, V8, V9, Vt, UU2, UU3, Vr, Vs, PmL, simprocAttr, PmT, h0, h2, h6, h7, hlt', hx, retQ, resP, tupA, fg, fgs, condP, condB_t, condB_f]; try (with_reducible (first | exact co_refl _ | exact co_own _ _ _ | exact co_nilsB | exact co_nilsL _ _)))))
      rw [h9]
      exact co_tup (cos_cons (co_agg (by repeat' (first | (refine cos_cons ?_ ?_) | exact cos_nil | exact co_refl _ | exact co_nilsL _ _))) (cos_cons (co_refl _) (cos_cons (co_refl _) cos_nil)))
    have k78 := eq_false h78
    by_cases hk0 : kindOf c = 0
    · have h9 : takeG guessK b = (zB, 0, 230) := by unfold takeG; rw [if_neg hne, hg, if_neg h78, if_pos hk0]
      have hB := takeV_bad h9
      obtain ⟨n1, n2, n3, n4, n5, n6, n7, n8, n9⟩ := kind0.1 hk0
      have hA : (tg.any fun x => decide (c = x)) = false := by rw [← htg]; simp [n1, n2, n3, n4, n5, n6, n7, n8, n9]
      rw [hA] at h5
      repeat' (first
        | ((with_reducible (first
         | (refine PW.seq fun K1 hK1 => ?_) | (refine PW.region fun K2 hK2 => ?_) | ((refine hK3 _ ?_; clear hK3)) | ((refine opsP_nil ?_; refine hK2 _ ?_; clear hK2)) | (refine PW.block ?_) 
         | (refine PW.exit ?_) | (refine PW.ret ?_) | ((refine hX1 ?_; clear hX1 hY1; try simp only [hb])) | ((refine hY1 ?_; clear hX1 hY1; try simp only [hb])) )))
        | ((simp only [thenP, blockP, ↓reduceIte]; (try ((repeat (fail_if_success (with_reducible refine hK1 _ ?_)); clear hK1); (with_reducible refine hK1 _ ?_); clear hK1))))
        | ((with_reducible omega))
        | (((first | (((with_reducible refine opsP_cons fun K3 hK3 => ?_); simp only [wantP, opP, valP, Ur, Us])) | ((with_reducible refine PW.condM fun X1 Y1 hX1 hY1 => ?_)) | (skip)); simp (disch := omega) only [St.eval, St.put, upd_app, avOf, avOf1, cellsA, AV.okv, loadA, lenP, binP, intsP, intP, nilP, unP, builtinP, isMapA, slA, putCells, fillA, buildA, Ua, Uc, Ud, Uf, Ug, Uk, Un, Up, Ur, Us, V2, V8, V9, Vr, Vs, PmL, simprocAttr, PmT, h0, h2, h5, h6, h7, hlt', hx, k78, retQ, resP, tupA, fg, fgs, condP, condB_t, condB_f]; try (with_reducible (first | exact co_refl _ | exact co_own _ _ _ | exact co_nilsB | exact co_nilsL _ _)))))
      all_goals exact hB
    have hkt := tag_kind hk0
    have hA : (tg.any fun x => decide (c = x)) = true := by
      rw [← htg]
      rw [kind0] at hk0
      simp only [List.any_cons, List.any_nil, Bool.or_false, Bool.or_eq_true, decide_eq_true_eq]
      omega
    rw [hA] at h5
    by_cases c1 : (b.length : Int) < 5
    · have h9 : takeG guessK b = (zB, 0, 10) := by unfold takeG; rw [if_neg hne, hg, if_neg h78, if_neg hk0, if_pos (by omega)]
      have hB := takeV_bad h9
      have k5 := eq_true c1
      repeat' (first
        | ((with_reducible (first
         | (refine PW.seq fun K1 hK1 => ?_) | (refine PW.region fun K2 hK2 => ?_) | ((refine hK3 _ ?_; clear hK3)) | ((refine opsP_nil ?_; refine hK2 _ ?_; clear hK2)) | (refine PW.block ?_) 
         | (refine PW.exit ?_) | (refine PW.ret ?_) | ((refine hX1 ?_; clear hX1 hY1; try simp only [hb])) | ((refine hY1 ?_; clear hX1 hY1; try simp only [hb])) )))
        | ((simp only [thenP, blockP, ↓reduceIte]; (try ((repeat (fail_if_success (with_reducible refine hK1 _ ?_)); clear hK1); (with_reducible refine hK1 _ ?_); clear hK1))))
        | ((with_reducible omega))
        | (((first | (((with_reducible refine opsP_cons fun K3 hK3 => ?_); simp only [wantP, opP, valP, Ur, Us])) | ((with_reducible refine PW.condM fun X1 Y1 hX1 hY1 => ?_)) | (skip)); simp (disch := omega) only [St.eval, St.put, upd_app, avOf, avOf1, cellsA, AV.okv, loadA, lenP, binP, intsP, intP, nilP, unP, builtinP, isMapA, slA, putCells, fillA, buildA, Ua, Uc, Ud, Uf, Ug, Uk, Un, Up, Ur, Us, V2, V8, V9, Vr, Vs, PmL, simprocAttr, PmT, h0, h2, h5, h6, h7, hlt', hx, k78, k5, retQ, resP, tupA, fg, fgs, condP, condB_t, condB_f]; try (with_reducible (first | exact co_refl _ | exact co_own _ _ _ | exact co_nilsB | exact co_nilsL _ _)))))
      all_goals exact hB
    have k5 := eq_false c1
    have hI := pI32 (b.drop 1) (by rw [List.length_drop]; omega)
    obtain ⟨V, hV⟩ : ∃ V, i32v (b.drop 1) = V := ⟨_, rfl⟩
    rw [hV] at hI
    have hw1 : IntKind.i64.wrap ((b.length : Int) - 1) = b.length - 1 := wl_i64 (by simp only [Bool.and_eq_true, decide_eq_true_eq]; omega)
    by_cases c2 : V < 4
    · have h9 : takeG guessK b = (zB, 0, 230) := by unfold takeG; rw [if_neg hne, hg, if_neg h78, if_neg hk0, if_neg (by omega), hV, if_pos c2]
      have hB := takeV_bad h9
      have k4 := eq_true c2
      repeat' (first
        | ((with_reducible (first
         | (refine PW.seq fun K1 hK1 => ?_) | (refine PW.region fun K2 hK2 => ?_) | ((refine hK3 _ ?_; clear hK3)) | ((refine opsP_nil ?_; refine hK2 _ ?_; clear hK2)) | ((refine Exists.intro _ (Exists.intro _ (And.intro rfl (And.intro rfl (And.intro ?_ ?_)))); focus omega)) | (refine PW.block ?_) | (refine PW.skip ?_)
         | (refine PW.exit ?_) | (refine PW.ret ?_) | ((refine hX1 ?_; clear hX1 hY1; try simp only [hb])) | ((refine hY1 ?_; clear hX1 hY1; try simp only [hb])) )))
        | (((with_reducible refine cC_pure ?_ (hI) (fun _ => ?_)); (focus ((repeat' constructor) <;> (simp only [purAs, purA, Vf, Bool.and_self, h0, h2, h5, h6, h7, hlt', hl0, hx, k78, k5, k4]; done)))))
        | ((simp only [thenP, blockP, ↓reduceIte]; (try ((repeat (fail_if_success (with_reducible refine hK1 _ ?_)); clear hK1); (with_reducible refine hK1 _ ?_); clear hK1))))
        | ((with_reducible omega))
        | (((first | (((with_reducible refine opsP_cons fun K3 hK3 => ?_); simp only [wantP, opP, valP, Ur, Us])) | ((with_reducible refine PW.condM fun X1 Y1 hX1 hY1 => ?_)) | (skip)); simp (disch := omega) only [St.eval, St.put, upd_app, avOf, avOf1, cellsA, AV.okv, loadA, lenP, binP, intsP, intP, nilP, sliceP, boundLo, boundHi, unP, builtinP, isMapA, slA, putCells, fillA, buildA, Ua, Uc, Ud, Uf, Ug, Uk, Un, Up, Uq, Ur, Us, Uv, V2, V3, V7, V8, V9, UU2, UU4, Vr, Vs, PmL, simprocAttr, PmT, h0, h2, h5, h6, h7, hlt', hx, k78, k5, k4, retQ, resP, tupA, fg, fgs, condP, condB_t, condB_f]; try (with_reducible (first | exact co_refl _ | exact co_own _ _ _ | exact co_nilsB | exact co_nilsL _ _)))))
      all_goals exact hB
    have k4 := eq_false c2
    by_cases c3 : 1073741824 < V
    · have h9 : takeG guessK b = (zB, 0, 231) := by unfold takeG; rw [if_neg hne, hg, if_neg h78, if_neg hk0, if_neg (by omega), hV, if_neg c2, if_pos c3]
      have hB := takeV_bad h9
      have k3 := eq_true c3
      repeat' (first
        | ((with_reducible (first
         | (refine PW.seq fun K1 hK1 => ?_) | (refine PW.region fun K2 hK2 => ?_) | ((refine hK3 _ ?_; clear hK3)) | ((refine opsP_nil ?_; refine hK2 _ ?_; clear hK2)) | ((refine Exists.intro _ (Exists.intro _ (And.intro rfl (And.intro rfl (And.intro ?_ ?_)))); focus omega)) | (refine PW.block ?_) | (refine PW.skip ?_)
         | (refine PW.exit ?_) | (refine PW.ret ?_) | ((refine hX1 ?_; clear hX1 hY1; try simp only [hb])) | ((refine hY1 ?_; clear hX1 hY1; try simp only [hb])) )))
        | (((with_reducible refine cC_pure ?_ (hI) (fun _ => ?_)); (focus ((repeat' constructor) <;> (simp only [purAs, purA, Vf, Bool.and_self, h0, h2, h5, h6, h7, hlt', hl0, hx, k78, k5, k4, k3]; done)))))
        | ((simp only [thenP, blockP, ↓reduceIte]; (try ((repeat (fail_if_success (with_reducible refine hK1 _ ?_)); clear hK1); (with_reducible refine hK1 _ ?_); clear hK1))))
        | ((with_reducible omega))
        | (((first | (((with_reducible refine opsP_cons fun K3 hK3 => ?_); simp only [wantP, opP, valP, Ur, Us])) | ((with_reducible refine PW.condM fun X1 Y1 hX1 hY1 => ?_)) | (skip)); simp (disch := omega) only [St.eval, St.put, upd_app, avOf, avOf1, cellsA, AV.okv, loadA, lenP, binP, intsP, intP, nilP, sliceP, boundLo, boundHi, unP, builtinP, isMapA, slA, putCells, fillA, buildA, Ua, Uc, Ud, Uf, Ug, Uk, Un, Up, Uq, Ur, Us, Uv, V2, V3, V7, V8, V9, UU2, UU4, Vr, Vs, PmL, simprocAttr, PmT, h0, h2, h5, h6, h7, hlt', hx, k78, k5, k4, k3, retQ, resP, tupA, fg, fgs, condP, condB_t, condB_f]; try (with_reducible (first | exact co_refl _ | exact co_own _ _ _ | exact co_nilsB | exact co_nilsL _ _)))))
      all_goals exact hB
    have k3 := eq_false c3
    by_cases c4 : (b.length : Int) - 1 < V
    · have h9 : takeG guessK b = (zB, 0, 10) := by unfold takeG; rw [if_neg hne, hg, if_neg h78, if_neg hk0, if_neg (by omega), hV, if_neg c2, if_neg c3, if_pos c4]
      have hB := takeV_bad h9
      have k2 := eq_true c4
      repeat' (first
        | ((with_reducible (first
         | (refine PW.seq fun K1 hK1 => ?_) | (refine PW.region fun K2 hK2 => ?_) | ((refine hK3 _ ?_; clear hK3)) | ((refine opsP_nil ?_; refine hK2 _ ?_; clear hK2)) | ((refine Exists.intro _ (Exists.intro _ (And.intro rfl (And.intro rfl (And.intro ?_ ?_)))); focus omega)) | (refine PW.block ?_) | (refine PW.skip ?_)
         | (refine PW.exit ?_) | (refine PW.ret ?_) | ((refine hX1 ?_; clear hX1 hY1; try simp only [hb])) | ((refine hY1 ?_; clear hX1 hY1; try simp only [hb])) )))
        | (((with_reducible refine cC_pure ?_ (hI) (fun _ => ?_)); (focus ((repeat' constructor) <;> (simp only [purAs, purA, Vf, Bool.and_self, h0, h2, h5, h6, h7, hlt', hl0, hx, k78, k5, k4, k3, k2, hw1]; done)))))
        | ((simp only [thenP, blockP, ↓reduceIte]; (try ((repeat (fail_if_success (with_reducible refine hK1 _ ?_)); clear hK1); (with_reducible refine hK1 _ ?_); clear hK1))))
        | ((with_reducible omega))
        | (((first | (((with_reducible refine opsP_cons fun K3 hK3 => ?_); simp only [wantP, opP, valP, Ur, Us])) | ((with_reducible refine PW.condM fun X1 Y1 hX1 hY1 => ?_)) | (skip)); simp (disch := omega) only [St.eval, St.put, upd_app, avOf, avOf1, cellsA, AV.okv, loadA, lenP, binP, intsP, intP, nilP, sliceP, boundLo, boundHi, unP, builtinP, isMapA, slA, putCells, fillA, buildA, Ua, Uc, Ud, Uf, Ug, Uk, Un, Up, Uq, Ur, Us, Uv, V2, V3, V7, V8, V9, UU2, UU4, Vr, Vs, PmL, simprocAttr, PmT, h0, h2, h5, h6, h7, hlt', hx, k78, k5, k4, k3, k2, hw1, retQ, resP, tupA, fg, fgs, condP, condB_t, condB_f]; try (with_reducible (first | exact co_refl _ | exact co_own _ _ _ | exact co_nilsB | exact co_nilsL _ _)))))
      all_goals exact hB
    have k2 := eq_false c4
    obtain ⟨n, rfl⟩ := Int.eq_ofNat_of_zero_le (a := V) (by omega)
    have hT := pGuess c ((b.take (1 + n)).drop 5) (by rw [List.length_drop, List.length_take]; omega)
    have hsm := guess_small c ((b.take (1 + n)).drop 5) (by rw [List.length_drop, List.length_take]; omega)
    have h9 : takeG guessK b = if (putBackS (guessS c ((b.take (1 + n)).drop 5))).2 = 0 ∧ (putBackS (guessS c ((b.take (1 + n)).drop 5))).1 = b.take (1 + n) then (guessS c ((b.take (1 + n)).drop 5), 1 + (n : Int), 0) else (zB, 0, 230) := by
      unfold takeG
      rw [if_neg hne, hg, if_neg h78, if_neg hk0, if_neg (by omega), hV, if_neg c2, if_neg c3, if_neg c4, Int.toNat_natCast]
      unfold guessK
      rw [hkt]
    obtain ⟨m, hm⟩ : ∃ m, guessS c ((b.take (1 + n)).drop 5) = m := ⟨_, rfl⟩
    rw [hm] at hT hsm h9
    have hP := pRPut m hsm
    obtain ⟨⟨p, e⟩, hpe⟩ : ∃ r, putBackS m = r := ⟨_, rfl⟩
    rw [hpe] at hP h9
    simp only at h9
    have hs1 : (1 : Int) + n ≤ b.length := by omega
    have hw2 : IntKind.i64.wrap (1 + (n : Int)) = 1 + n := wl_i64 (by simp only [Bool.and_eq_true, decide_eq_true_eq]; omega)
    have ht1 : ((1 : Int) + n).toNat = 1 + n := by omega
    obtain ⟨xk, xn, xt, xp, xs, xu, xf, xc, xa, xg⟩ := m
    simp only [Back.v, Back.c, putV, List.map_cons, List.map_nil] at hT hP
    by_cases he : e = 0
    · subst he
      by_cases hq : p = b.take (1 + n)
      · rw [if_pos ⟨rfl, hq⟩] at h9
        have hq' := eq_true hq
        repeat' (first
          | ((with_reducible (first
           | (refine PW.seq fun K1 hK1 => ?_) | (refine PW.region fun K2 hK2 => ?_) | ((refine hK3 _ ?_; clear hK3)) | ((refine opsP_nil ?_; refine hK2 _ ?_; clear hK2)) | ((refine Exists.intro _ (Exists.intro _ (And.intro rfl (And.intro rfl (And.intro ?_ ?_)))); focus omega)) | (refine PW.block ?_) | (refine PW.skip ?_)
           | (refine PW.exit ?_) | (refine PW.ret ?_) | ((refine hY1 ?_; clear hX1 hY1; try simp only [hb])) | ((refine opsO_nil ?_; refine hK2 _ ?_; clear hK2)) | ((refine keepO_intro ?_ ?_; focus (first | exact .inl (keep_same _ _) | exact .inl (keep_box _ _ _ _) | exact .inl (keep_hd _ _ _ _ _) | exact .inl (keep_02 _ _ _ _ _ _ _) | exact .inl (keep_1 _ _ _ _ _ _ _) | exact .inr ⟨rfl, rfl⟩))) )))
          | (((with_reducible refine cC_pure ?_ (hI) (fun _ => ?_)); (focus ((repeat' constructor) <;> (simp only [purAs, purA, Vf, Bool.and_self, h0, h2, h5, h6, h7, hlt', hl0, hx, k78, k5, k4, k3, k2, hw1, hw2, ht1, hq']; done)))))
          | (((with_reducible refine cC_pure ?_ (hP) (fun _ => ?_)); (focus ((repeat' constructor) <;> (simp only [purAs, purA, Vf, Bool.and_self, h0, h2, h5, h6, h7, hlt', hl0, hx, k78, k5, k4, k3, k2, hw1, hw2, ht1, hq']; done)))))
          | (((with_reducible refine fC_call ?_ (hT) ?_); (focus ((repeat' constructor) <;> (simp only [purAs, purA, Vf, Bool.and_self, h0, h2, h5, h6, h7, hlt', hl0, hx, k78, k5, k4, k3, k2, hw1, hw2, ht1, hq']; done)))))
          | (((with_reducible refine PW.drawR (id := 22) mixed [9] [(0, true), (1, true), (2, true), (3, true), (4, true), (5, true), (6, true), (7, true), (8, false), (9, false)] (by kernel_rfl) (by decide) fun K2 hK2 => ?_)))
          | (((with_reducible refine PW.drawR (id := 24) mixed [] [(0, true), (1, true), (2, true), (3, true), (4, true), (5, true), (6, true), (7, true), (8, true), (9, true), (10, true), (11, true)] (by kernel_rfl) (by decide) fun K2 hK2 => ?_)))
          | ((simp only [thenP, blockP, ↓reduceIte]; (try ((repeat (fail_if_success (with_reducible refine hK1 _ ?_)); clear hK1); (with_reducible refine hK1 _ ?_); clear hK1))))
          | (((first | (((with_reducible refine opsP_cons fun K3 hK3 => ?_); simp only [wantP, opP, valP, Ur, Us])) | (((with_reducible refine opsO_first (o := ?_) ?_ fun K3 hK3 => ?_); rotate_left 1; (focus (simp only [Uz, Ub, Ua] <;> rfl)); simp only [wantP, firstP, valP, Ur, Us])) | (((with_reducible refine opsO_only (o := ?_) ?_ fun K3 hK3 => ?_); rotate_left 1; (focus (simp only [Uz, Ub, Ua] <;> rfl)); simp only [wantP, opP, Uw, Ux])) | ((with_reducible refine PW.condM fun X1 Y1 hX1 hY1 => ?_)) | (skip)); simp (disch := omega) only [wantB_ff, St.eval, St.put, upd_app, avOf, avOf1, cellsA, AV.okv, loadA, lenP, binP, intsP, intP, strP, nilP, convP, sliceP, boundLo, boundHi, unP, builtinP, isMapA, isBsl, slA, putCells, Ua, Ub, Uc, Ud, Uf, Ug, Uk, Un, Up, Uq, Ur, Us, Ut, Uu, Uv, Uz, V0, V1, V2, V3, V4, V7, V8, V9, Ve, UU2, UU4, Vr, Vs, PmL, simprocAttr, PmT, h0, h2, h5, h6, h7, hlt', hx, k78, k5, k4, k3, k2, hw1, hw2, ht1, hq', retQ, resP, tupA, fg, fgs, condP, condB_f, firstOk]; try (with_reducible (first | exact co_refl _ | exact co_own _ _ _ | exact co_nilsB | exact co_nilsL _ _)))))
        rw [h9]
        exact co_refl _
      · rw [if_neg (fun h => hq h.2)] at h9
        have hq' := eq_false hq
        have hB := takeV_bad h9
        repeat' (first
          | ((with_reducible (first
           | (refine PW.seq fun K1 hK1 => ?_) | (refine PW.region fun K2 hK2 => ?_) | ((refine hK3 _ ?_; clear hK3)) | ((refine opsP_nil ?_; refine hK2 _ ?_; clear hK2)) | ((refine Exists.intro _ (Exists.intro _ (And.intro rfl (And.intro rfl (And.intro ?_ ?_)))); focus omega)) | (refine PW.block ?_) | (refine PW.skip ?_)
           | (refine PW.exit ?_) | (refine PW.ret ?_) | ((refine hX1 ?_; clear hX1 hY1; try simp only [hb])) | ((refine hY1 ?_; clear hX1 hY1; try simp only [hb])) | ((refine opsO_nil ?_; refine hK2 _ ?_; clear hK2)) | ((refine keepO_intro ?_ ?_; focus (first | exact .inl (keep_same _ _) | exact .inl (keep_box _ _ _ _) | exact .inl (keep_hd _ _ _ _ _) | exact .inl (keep_02 _ _ _ _ _ _ _) | exact .inl (keep_1 _ _ _ _ _ _ _) | exact .inr ⟨rfl, rfl⟩))) )))
          | (((with_reducible refine cC_pure ?_ (hI) (fun _ => ?_)); (focus ((repeat' constructor) <;> (simp only [purAs, purA, Vf, Bool.and_self, h0, h2, h5, h6, h7, hlt', hl0, hx, k78, k5, k4, k3, k2, hw1, hw2, ht1, hq']; done)))))
          | (((with_reducible refine cC_pure ?_ (hP) (fun _ => ?_)); (focus ((repeat' constructor) <;> (simp only [purAs, purA, Vf, Bool.and_self, h0, h2, h5, h6, h7, hlt', hl0, hx, k78, k5, k4, k3, k2, hw1, hw2, ht1, hq']; done)))))
          | (((with_reducible refine fC_call ?_ (hT) ?_); (focus ((repeat' constructor) <;> (simp only [purAs, purA, Vf, Bool.and_self, h0, h2, h5, h6, h7, hlt', hl0, hx, k78, k5, k4, k3, k2, hw1, hw2, ht1, hq']; done)))))
          | (((with_reducible refine PW.drawR (id := 22) mixed [9] [(0, true), (1, true), (2, true), (3, true), (4, true), (5, true), (6, true), (7, true), (8, false), (9, false)] (by kernel_rfl) (by decide) fun K2 hK2 => ?_)))
          | (((with_reducible refine PW.drawR (id := 24) mixed [] [(0, true), (1, true), (2, true), (3, true), (4, true), (5, true), (6, true), (7, true), (8, true), (9, true), (10, true), (11, true)] (by kernel_rfl) (by decide) fun K2 hK2 => ?_)))
          | ((simp only [thenP, blockP, ↓reduceIte]; (try ((repeat (fail_if_success (with_reducible refine hK1 _ ?_)); clear hK1); (with_reducible refine hK1 _ ?_); clear hK1))))
          | ((with_reducible omega))
          | (((first | (((with_reducible refine opsP_cons fun K3 hK3 => ?_); simp only [wantP, opP, valP, Ur, Us])) | (((with_reducible refine opsO_first (o := ?_) ?_ fun K3 hK3 => ?_); rotate_left 1; (focus (simp only [Uz, Ub, Ua] <;> rfl)); simp only [wantP, firstP, valP, Ur, Us])) | (((with_reducible refine opsO_only (o := ?_) ?_ fun K3 hK3 => ?_); rotate_left 1; (focus (simp only [Uz, Ub, Ua] <;> rfl)); simp only [wantP, opP, Uw, Ux])) | ((with_reducible refine PW.condM fun X1 Y1 hX1 hY1 => ?_)) | (skip)); simp (disch := omega) only [wantB_ff, St.eval, St.put, upd_app, avOf, avOf1, cellsA, AV.okv, loadA, lenP, binP, intsP, intP, strP, nilP, convP, sliceP, boundLo, boundHi, unP, builtinP, isMapA, isBsl, slA, putCells, fillA, buildA, Ua, Ub, Uc, Ud, Uf, Ug, Uk, Un, Up, Uq, Ur, Us, Ut, Uu, Uv, Uz, V0, V1, V2, V3, V4, V7, V8, V9, UU2, UU4, Vr, Vs, PmL, simprocAttr, PmT, h0, h2, h5, h6, h7, hlt', hx, k78, k5, k4, k3, k2, hw1, hw2, ht1, hq', retQ, resP, tupA, fg, fgs, condP, condB_t, condB_f, firstOk]; try (with_reducible (first | exact co_refl _ | exact co_own _ _ _ | exact co_nilsB | exact co_nilsL _ _)))))
        all_goals exact hB
    · rw [if_neg (fun h => he h.1)] at h9
      have he' := eq_false he
      have hB := takeV_bad h9
      repeat' (first
        | ((with_reducible (first
         | (refine PW.seq fun K1 hK1 => ?_) | (refine PW.region fun K2 hK2 => ?_) | ((refine hK3 _ ?_; clear hK3)) | ((refine opsP_nil ?_; refine hK2 _ ?_; clear hK2)) | ((refine Exists.intro _ (Exists.intro _ (And.intro rfl (And.intro rfl (And.intro ?_ ?_)))); focus omega)) | (refine PW.block ?_) | (refine PW.skip ?_)
         | (refine PW.exit ?_) | (refine PW.ret ?_) | ((refine hX1 ?_; clear hX1 hY1; try simp only [hb])) | ((refine hY1 ?_; clear hX1 hY1; try simp only [hb])) | ((refine opsO_nil ?_; refine hK2 _ ?_; clear hK2)) | ((refine keepO_intro ?_ ?_; focus (first | exact .inl (keep_same _ _) | exact .inl (keep_box _ _ _ _) | exact .inl (keep_hd _ _ _ _ _) | exact .inl (keep_02 _ _ _ _ _ _ _) | exact .inl (keep_1 _ _ _ _ _ _ _) | exact .inr ⟨rfl, rfl⟩))) )))
        | (((with_reducible refine cC_pure ?_ (hI) (fun _ => ?_)); (focus ((repeat' constructor) <;> (simp only [purAs, purA, Vf, Bool.and_self, h0, h2, h5, h6, h7, hlt', hl0, hx, k78, k5, k4, k3, k2, hw1, hw2, ht1, he']; done)))))
        | (((with_reducible refine cC_pure ?_ (hP) (fun _ => ?_)); (focus ((repeat' constructor) <;> (simp only [purAs, purA, Vf, Bool.and_self, h0, h2, h5, h6, h7, hlt', hl0, hx, k78, k5, k4, k3, k2, hw1, hw2, ht1, he']; done)))))
        | (((with_reducible refine fC_call ?_ (hT) ?_); (focus ((repeat' constructor) <;> (simp only [purAs, purA, Vf, Bool.and_self, h0, h2, h5, h6, h7, hlt', hl0, hx, k78, k5, k4, k3, k2, hw1, hw2, ht1, he']; done)))))
        | (((with_reducible refine PW.drawR (id := 22) mixed [9] [(0, true), (1, true), (2, true), (3, true), (4, true), (5, true), (6, true), (7, true), (8, false), (9, false)] (by kernel_rfl) (by decide) fun K2 hK2 => ?_)))
        | (((with_reducible refine PW.drawR (id := 24) mixed [] [(0, true), (1, true), (2, true), (3, true), (4, true), (5, true), (6, true), (7, true), (8, true), (9, true), (10, true), (11, true)] (by kernel_rfl) (by decide) fun K2 hK2 => ?_)))
        | ((simp only [thenP, blockP, ↓reduceIte]; (try ((repeat (fail_if_success (with_reducible refine hK1 _ ?_)); clear hK1); (with_reducible refine hK1 _ ?_); clear hK1))))
        | ((with_reducible omega))
        | (((first | (((with_reducible refine opsP_cons fun K3 hK3 => ?_); simp only [wantP, opP, valP, Ur, Us])) | (((with_reducible refine opsO_first (o := ?_) ?_ fun K3 hK3 => ?_); rotate_left 1; (focus (simp only [Uz, Ub, Ua] <;> rfl)); simp only [wantP, firstP, valP, Ur, Us])) | (((with_reducible refine opsO_only (o := ?_) ?_ fun K3 hK3 => ?_); rotate_left 1; (focus (simp only [Uz, Ub, Ua] <;> rfl)); simp only [wantP, opP, Uw, Ux])) | ((with_reducible refine PW.condM fun X1 Y1 hX1 hY1 => ?_)) | (skip)); simp (disch := omega) only [wantB_tf, St.eval, St.put, upd_app, avOf, avOf1, cellsA, AV.okv, loadA, lenP, binP, intsP, intP, eqP, nilP, convP, sliceP, boundLo, boundHi, unP, builtinP, isMapA, isBsl, slA, putCells, fillA, buildA, Ua, Ub, Uc, Ud, Uf, Ug, Uk, Un, Up, Uq, Ur, Us, Ut, Uu, Uv, Uz, V0, V1, V2, V3, V4, V7, V8, V9, UU2, UU4, Vr, Vs, PmL, simprocAttr, PmT, h0, h2, h5, h6, h7, hlt', hx, k78, k5, k4, k3, k2, hw1, hw2, ht1, he', retQ, resP, tupA, fg, fgs, condP, condB_t, condB_f, firstOk]; try (with_reducible (first | exact co_refl _ | exact co_own _ _ _ | exact co_nilsB | exact co_nilsL _ _)))))
      all_goals exact hB
end PM
end Go.Proofs.YthaekefdadccaaaDoor
