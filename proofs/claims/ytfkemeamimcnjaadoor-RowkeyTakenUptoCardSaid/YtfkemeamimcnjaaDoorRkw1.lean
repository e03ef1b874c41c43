/- rowkey's reference in the abstract: TakeEntry. -/
import Derived.Test.YtfkemeamimcnjaaDoorRkw2
namespace Go.Proofs.YtfkemeamimcnjaaDoor
open Go.RowKit
set_option maxRecDepth 100000
namespace PM
theorem keep012x (a b c : Option (TypeId × List AV)) (l l' : List (Option (TypeId × List AV))) (r r' : List (Option RowI)) : keepL [0, 1, 2] ⟨a :: b :: c :: l, r⟩ ⟨a :: b :: c :: l', r'⟩ := fun id h => by
  simp only [List.mem_cons, List.not_mem_nil, or_false] at h
  rcases h with rfl | rfl | rfl <;> rfl
set_option maxHeartbeats 8000000 in
theorem pRTakeEntry (T : Tb) (X : Idx) (K V : List Int) (hT : T.cols.length ≤ 1048576 ∧ T.key.length ≤ 1048576) (hX : X.cols.length ≤ 1048576) (hV : V.length ≤ 1048576) (hKl : K.length ≤ 1048576) : Pure Tryd.prog 19 [T.v, X.av, .agg [bs K, bs V]] (entR (tEntS T X K V)) := by
  refine pure_intro Tryd.func19 rfl rfl rfl 184 rfl (fun hh => ?_)
  have hml : maxLen = 9223372036854775807 := rfl
  have hC := pRTabled T X.cols
  have hmn := tabMay_ne T X.cols
  cases ht : tabled T X.cols
  · have hu : tEntS T X K V = ([], [], 1) := by unfold tEntS; rw [if_pos ht]
    rw [hu]
    rw [ht] at hmn
    by_cases hl0 : (X.cols.length : Int) = 0
    · have hl0' := eq_true hl0
      obtain ⟨b, hb⟩ : ∃ b, tabMay T X.cols = b := ⟨_, rfl⟩
      rw [hb] at hC
      obtain ⟨tid, tnm, tcols, tkey, tix⟩ := T
      unfold Tb.v Tb.c at hC
      cases b
      · repeat' (first
          | ((with_reducible (first
           | (refine PW.seq fun K1 hK1 => ?_) | (refine PW.region fun K2 hK2 => ?_) | ((refine hK3 _ ?_; clear hK3)) | ((refine opsP_nil ?_; refine hK2 _ ?_; clear hK2)) 
           | (refine PW.ret ?_) | ((refine hX1 ?_; clear hX1 hY1; try simp only [hb])) )))
          | (((with_reducible refine cC_pure ?_ (hC) (fun _ => ?_)); (focus ((repeat' constructor) <;> (simp only [purAs, purA, Vf, Bool.and_self, Tb.v, Tb.c, Idx.av, entR, hl0']; done)))))
          | ((simp only [thenP]; (try ((repeat (fail_if_success (with_reducible refine hK1 _ ?_)); clear hK1); (with_reducible refine hK1 _ ?_); clear hK1))))
          | (((first | (((with_reducible refine opsP_cons fun K3 hK3 => ?_); simp only [wantP, opP, valP, Ur, Us])) | ((with_reducible refine PW.condM fun X1 Y1 hX1 hY1 => ?_)) | (skip)); simp (disch := omega) only [wantB_tf, St.eval, St.put, upd_app, iniT_app, avOf, avOf1, nom, cellsA, AV.okv, loadA, lenP, binP, eqP, nilP, unP, builtinP, isMapA, slA, U7, U8, Ua, Ub, Uf, Ug, Uk, Ul, Un, Up, Ut, Uu, Uv, Uz, V4, V9, Ve, Vr, PmL, simprocAttr, PmT, Tb.v, Tb.c, Idx.av, entR, retQ, resP, tupA, fg, fgs, condP, condB_t]; try (with_reducible (first | exact co_refl _ | exact co_own _ _ _ | exact co_nilsB | exact co_nilsL _ _)))))
        exact co_ent0 _
      · repeat' (first
          | ((with_reducible (first
           | (refine PW.seq fun K1 hK1 => ?_) | (refine PW.region fun K2 hK2 => ?_) | ((refine hK3 _ ?_; clear hK3)) | ((refine opsP_nil ?_; refine hK2 _ ?_; clear hK2)) 
           | (refine PW.ret ?_) | ((refine hX1 ?_; clear hX1 hY1; try simp only [hb])) )))
          | (((with_reducible refine cC_pure ?_ (hC) (fun _ => ?_)); (focus ((repeat' constructor) <;> (simp only [purAs, purA, Vf, Bool.and_self, Tb.v, Tb.c, Idx.av, entR, hl0']; done)))))
          | ((simp only [thenP]; (try ((repeat (fail_if_success (with_reducible refine hK1 _ ?_)); clear hK1); (with_reducible refine hK1 _ ?_); clear hK1))))
          | (((first | (((with_reducible refine opsP_cons fun K3 hK3 => ?_); simp only [wantP, opP, valP, Ur, Us])) | ((with_reducible refine PW.condM fun X1 Y1 hX1 hY1 => ?_)) | (skip)); simp (disch := omega) only [wantB_ff, St.eval, St.put, upd_app, iniT_app, avOf, avOf1, nom, cellsA, AV.okv, loadA, lenP, binP, intsP, intP, nilP, unP, builtinP, isMapA, slA, U7, U8, Ua, Ub, Uf, Ug, Uk, Ul, Un, Up, Ut, Uu, Uv, Uz, V4, V9, Ve, Vr, PmL, simprocAttr, PmT, Tb.v, Tb.c, Idx.av, entR, hl0', retQ, resP, tupA, fg, fgs, condP, condB_t]; try (with_reducible (first | exact co_refl _ | exact co_own _ _ _ | exact co_nilsB | exact co_nilsL _ _)))))
        exact co_ent0 _
    · have hl0' := eq_false hl0
      have hb : tabMay T X.cols = false := by
        cases hb : tabMay T X.cols
        · rfl
        · rw [hb, decide_eq_false hl0] at hmn
          simp at hmn
      rw [hb] at hC
      obtain ⟨tid, tnm, tcols, tkey, tix⟩ := T
      unfold Tb.v Tb.c at hC
      repeat' (first
        | ((with_reducible (first
         | (refine PW.seq fun K1 hK1 => ?_) | (refine PW.region fun K2 hK2 => ?_) | ((refine hK3 _ ?_; clear hK3)) | ((refine opsP_nil ?_; refine hK2 _ ?_; clear hK2)) 
         | (refine PW.ret ?_) | ((refine hX1 ?_; clear hX1 hY1; try simp only [hb])) )))
        | (((with_reducible refine cC_pure ?_ (hC) (fun _ => ?_)); (focus ((repeat' constructor) <;> (simp only [purAs, purA, Vf, Bool.and_self, Tb.v, Tb.c, Idx.av, entR, hl0']; done)))))
        | ((simp only [thenP]; (try ((repeat (fail_if_success (with_reducible refine hK1 _ ?_)); clear hK1); (with_reducible refine hK1 _ ?_); clear hK1))))
        | (((first | (((with_reducible refine opsP_cons fun K3 hK3 => ?_); simp only [wantP, opP, valP, Ur, Us])) | ((with_reducible refine PW.condM fun X1 Y1 hX1 hY1 => ?_)) | (skip)); simp (disch := omega) only [wantB_tf, St.eval, St.put, upd_app, iniT_app, avOf, avOf1, nom, cellsA, AV.okv, loadA, lenP, binP, eqP, nilP, unP, builtinP, isMapA, slA, U7, U8, Ua, Ub, Uf, Ug, Uk, Ul, Un, Up, Ut, Uu, Uv, Uz, V4, V9, Ve, Vr, PmL, simprocAttr, PmT, Tb.v, Tb.c, Idx.av, entR, retQ, resP, tupA, fg, fgs, condP, condB_t]; try (with_reducible (first | exact co_refl _ | exact co_own _ _ _ | exact co_nilsB | exact co_nilsL _ _)))))
      exact co_ent0 _
  rw [ht] at hmn
  simp only [Bool.not_true, Bool.or_eq_false_iff, Bool.not_eq_false', decide_eq_false_iff_not] at hmn
  obtain ⟨hb, hl0⟩ := hmn
  have hl0' := eq_false hl0
  rw [hb] at hC
  have hu : tEntS T X K V = if K.length < 17 ∨ 256 < K.length ∨ 0 < V.length ∨ ¬ K.take 17 = begB [T.id, X.id] then ([], [], 200)
    else if (tk1 T X K).2.isSome = false ∨ (tk2 T X K).2.isSome = false ∨ 0 < ((tk2 T X K).2.getD []).length then ([], [], 200)
    else if entryKV T X (fillS T.cols (tk2 T X K).1) = (K, [], 0) then (someV (tk1 T X K).1 X.cols, someV (tk2 T X K).1 T.key, 0) else ([], [], 200) := by unfold tEntS; rw [if_neg (by rw [ht]; simp)]
  have hE := pRBeginIx T.id X.id
  obtain ⟨kb, hkb⟩ : ∃ b, begB [T.id, X.id] = b := ⟨_, rfl⟩
  rw [hkb] at hE hu
  unfold orow rowm at hE
  by_cases h17 : (K.length : Int) < 17
  · have h17' := eq_true h17
    rw [if_pos (.inl (by omega))] at hu
    rw [hu]
    obtain ⟨tid, tnm, tcols, tkey, tix⟩ := T
    unfold Tb.v Tb.c at hC
    repeat' (first
      | ((with_reducible (first
       | (refine PW.seq fun K1 hK1 => ?_) | (refine PW.region fun K2 hK2 => ?_) | ((refine hK3 _ ?_; clear hK3)) | ((refine opsP_nil ?_; refine hK2 _ ?_; clear hK2)) | (refine PW.skip ?_)
       | (refine PW.ret ?_) | ((refine hX1 ?_; clear hX1 hY1; try simp only [hb])) | ((refine hY1 ?_; clear hX1 hY1; try simp only [hb])) | ((refine opsO_nil ?_; refine hK2 _ ?_; clear hK2)) )))
      | (((with_reducible refine cC_new ?_ (hE) ?_); (focus ((repeat' constructor) <;> (simp only [purAs, purA, Vf, Bool.and_self, Tb.v, Tb.c, Idx.av, entR, hl0', h17']; done)))))
      | (((with_reducible refine cC_pure ?_ (hC) (fun _ => ?_)); (focus ((repeat' constructor) <;> (simp only [purAs, purA, Vf, Bool.and_self, Tb.v, Tb.c, Idx.av, entR, hl0', h17']; done)))))
      | (((with_reducible refine PW.drawR (id := 5) mixed [] [(0, true), (1, true), (2, true), (3, true), (4, true), (5, true), (6, true), (7, true), (8, true), (9, true), (10, true), (11, true), (12, true), (13, true), (14, true), (15, true), (16, true), (17, true), (18, true), (19, true), (20, true), (21, true), (22, true), (23, true), (24, true)] (by kernel_rfl) (by decide) fun K2 hK2 => ?_)))
      | ((simp only [thenP]; (try ((repeat (fail_if_success (with_reducible refine hK1 _ ?_)); clear hK1); (with_reducible refine hK1 _ ?_); clear hK1))))
      | (((first | (((with_reducible refine opsP_cons fun K3 hK3 => ?_); simp only [wantP, opP, valP, Ur, Us])) | (((with_reducible refine opsO_first (o := ?_) ?_ fun K3 hK3 => ?_); rotate_left 1; (focus (simp only [Uz, Ub, Ua] <;> rfl)); simp only [wantP, firstP, valP, Ur, Us, Uw, Ux])) | ((with_reducible refine PW.condM fun X1 Y1 hX1 hY1 => ?_)) | (skip)); simp (disch := omega) only [wantB_ff, wantB_tf, St.eval, St.put, upd_app, iniT_app, avOf, avOf1, nom, cellsA, AV.okv, loadA, lenP, binP, intsP, intP, eqP, nilP, convP, sliceP, unP, builtinP, isMapA, isBsl, slA, U7, U8, Ua, Ub, Uf, Ug, Uk, Ul, Un, Up, Ut, Uu, Uv, Uz, V0, V1, V4, V9, Va, Ve, Vr, PmL, simprocAttr, PmT, Tb.v, Tb.c, Idx.av, entR, hl0', h17', retQ, resP, tupA, fg, fgs, condP, condB_t, condB_f, firstOk, List.mem_cons]; try (with_reducible (first | exact co_refl _ | exact co_own _ _ _ | exact co_nilsB | exact co_nilsL _ _)))))
    exact co_ent0 _
  have h17' := eq_false h17
  by_cases hK0 : (256 : Int) < K.length
  · have hK0' := eq_true hK0
    rw [if_pos (.inr (.inl (by omega)))] at hu
    rw [hu]
    obtain ⟨tid, tnm, tcols, tkey, tix⟩ := T
    unfold Tb.v Tb.c at hC
    repeat' (first
      | ((with_reducible (first
       | (refine PW.seq fun K1 hK1 => ?_) | (refine PW.region fun K2 hK2 => ?_) | ((refine hK3 _ ?_; clear hK3)) | ((refine opsP_nil ?_; refine hK2 _ ?_; clear hK2)) | (refine PW.skip ?_)
       | (refine PW.ret ?_) | ((refine hX1 ?_; clear hX1 hY1; try simp only [hb])) | ((refine hY1 ?_; clear hX1 hY1; try simp only [hb])) | ((refine opsO_nil ?_; refine hK2 _ ?_; clear hK2)) )))
      | (((with_reducible refine cC_new ?_ (hE) ?_); (focus ((repeat' constructor) <;> (simp only [purAs, purA, Vf, Bool.and_self, Tb.v, Tb.c, Idx.av, entR, hl0', h17', hK0']; done)))))
      | (((with_reducible refine cC_pure ?_ (hC) (fun _ => ?_)); (focus ((repeat' constructor) <;> (simp only [purAs, purA, Vf, Bool.and_self, Tb.v, Tb.c, Idx.av, entR, hl0', h17', hK0']; done)))))
      | (((with_reducible refine PW.drawR (id := 5) mixed [] [(0, true), (1, true), (2, true), (3, true), (4, true), (5, true), (6, true), (7, true), (8, true), (9, true), (10, true), (11, true), (12, true), (13, true), (14, true), (15, true), (16, true), (17, true), (18, true), (19, true), (20, true), (21, true), (22, true), (23, true), (24, true)] (by kernel_rfl) (by decide) fun K2 hK2 => ?_)))
      | ((simp only [thenP]; (try ((repeat (fail_if_success (with_reducible refine hK1 _ ?_)); clear hK1); (with_reducible refine hK1 _ ?_); clear hK1))))
      | (((first | (((with_reducible refine opsP_cons fun K3 hK3 => ?_); simp only [wantP, opP, valP, Ur, Us])) | (((with_reducible refine opsO_first (o := ?_) ?_ fun K3 hK3 => ?_); rotate_left 1; (focus (simp only [Uz, Ub, Ua] <;> rfl)); simp only [wantP, firstP, valP, Ur, Us, Uw, Ux])) | ((with_reducible refine PW.condM fun X1 Y1 hX1 hY1 => ?_)) | (skip)); simp (disch := omega) only [wantB_ff, wantB_tf, St.eval, St.put, upd_app, iniT_app, avOf, avOf1, nom, cellsA, AV.okv, loadA, lenP, binP, intsP, intP, eqP, nilP, convP, sliceP, unP, builtinP, isMapA, isBsl, slA, U7, U8, Ua, Ub, Uf, Ug, Uk, Ul, Un, Up, Ut, Uu, Uv, Uz, V0, V1, V4, V9, Va, Ve, Vr, PmL, simprocAttr, PmT, Tb.v, Tb.c, Idx.av, entR, hl0', h17', hK0', retQ, resP, tupA, fg, fgs, condP, condB_t, condB_f, firstOk, List.mem_cons]; try (with_reducible (first | exact co_refl _ | exact co_own _ _ _ | exact co_nilsB | exact co_nilsL _ _)))))
    exact co_ent0 _
  have hK0' := eq_false hK0
  by_cases hV0 : (0 : Int) < V.length
  · have hV0' := eq_true hV0
    rw [if_pos (.inr (.inr (.inl (by omega))))] at hu
    rw [hu]
    obtain ⟨tid, tnm, tcols, tkey, tix⟩ := T
    unfold Tb.v Tb.c at hC
    repeat' (first
      | ((with_reducible (first
       | (refine PW.seq fun K1 hK1 => ?_) | (refine PW.region fun K2 hK2 => ?_) | ((refine hK3 _ ?_; clear hK3)) | ((refine opsP_nil ?_; refine hK2 _ ?_; clear hK2)) | (refine PW.skip ?_)
       | (refine PW.ret ?_) | ((refine hX1 ?_; clear hX1 hY1; try simp only [hb])) | ((refine hY1 ?_; clear hX1 hY1; try simp only [hb])) | ((refine opsO_nil ?_; refine hK2 _ ?_; clear hK2)) )))
      | (((with_reducible refine cC_new ?_ (hE) ?_); (focus ((repeat' constructor) <;> (simp only [purAs, purA, Vf, Bool.and_self, Tb.v, Tb.c, Idx.av, entR, hl0', h17', hK0', hV0']; done)))))
      | (((with_reducible refine cC_pure ?_ (hC) (fun _ => ?_)); (focus ((repeat' constructor) <;> (simp only [purAs, purA, Vf, Bool.and_self, Tb.v, Tb.c, Idx.av, entR, hl0', h17', hK0', hV0']; done)))))
      | (((with_reducible refine PW.drawR (id := 5) mixed [] [(0, true), (1, true), (2, true), (3, true), (4, true), (5, true), (6, true), (7, true), (8, true), (9, true), (10, true), (11, true), (12, true), (13, true), (14, true), (15, true), (16, true), (17, true), (18, true), (19, true), (20, true), (21, true), (22, true), (23, true), (24, true)] (by kernel_rfl) (by decide) fun K2 hK2 => ?_)))
      | ((simp only [thenP]; (try ((repeat (fail_if_success (with_reducible refine hK1 _ ?_)); clear hK1); (with_reducible refine hK1 _ ?_); clear hK1))))
      | (((first | (((with_reducible refine opsP_cons fun K3 hK3 => ?_); simp only [wantP, opP, valP, Ur, Us])) | (((with_reducible refine opsO_first (o := ?_) ?_ fun K3 hK3 => ?_); rotate_left 1; (focus (simp only [Uz, Ub, Ua] <;> rfl)); simp only [wantP, firstP, valP, Ur, Us, Uw, Ux])) | ((with_reducible refine PW.condM fun X1 Y1 hX1 hY1 => ?_)) | (skip)); simp (disch := omega) only [wantB_ff, wantB_tf, St.eval, St.put, upd_app, iniT_app, avOf, avOf1, nom, cellsA, AV.okv, loadA, lenP, binP, intsP, intP, eqP, nilP, convP, sliceP, unP, builtinP, isMapA, isBsl, slA, U7, U8, Ua, Ub, Uf, Ug, Uk, Ul, Un, Up, Ut, Uu, Uv, Uz, V0, V1, V4, V9, Va, Ve, Vr, PmL, simprocAttr, PmT, Tb.v, Tb.c, Idx.av, entR, hl0', h17', hK0', hV0', retQ, resP, tupA, fg, fgs, condP, condB_t, condB_f, firstOk, List.mem_cons]; try (with_reducible (first | exact co_refl _ | exact co_own _ _ _ | exact co_nilsB | exact co_nilsL _ _)))))
    exact co_ent0 _
  have hV0' := eq_false hV0
  by_cases hpf : K.take 17 = kb
  case neg =>
    have hpf' := eq_false hpf
    rw [if_pos (.inr (.inr (.inr hpf)))] at hu
    rw [hu]
    obtain ⟨tid, tnm, tcols, tkey, tix⟩ := T
    unfold Tb.v Tb.c at hC
    repeat' (first
      | ((with_reducible (first
       | (refine PW.seq fun K1 hK1 => ?_) | (refine PW.region fun K2 hK2 => ?_) | ((refine hK3 _ ?_; clear hK3)) | ((refine opsP_nil ?_; refine hK2 _ ?_; clear hK2)) | ((refine Exists.intro _ (Exists.intro _ (And.intro rfl (And.intro rfl (And.intro ?_ ?_)))); focus omega)) | (refine PW.skip ?_)
       | (refine PW.ret ?_) | ((refine hX1 ?_; clear hX1 hY1; try simp only [hb])) | ((refine hY1 ?_; clear hX1 hY1; try simp only [hb])) | ((refine opsO_nil ?_; refine hK2 _ ?_; clear hK2)) )))
      | (((with_reducible refine cC_new ?_ (hE) ?_); (focus ((repeat' constructor) <;> (simp only [purAs, purA, Vf, Bool.and_self, Tb.v, Tb.c, Idx.av, entR, hl0', h17', hK0', hV0', hpf']; done)))))
      | (((with_reducible refine cC_pure ?_ (hC) (fun _ => ?_)); (focus ((repeat' constructor) <;> (simp only [purAs, purA, Vf, Bool.and_self, Tb.v, Tb.c, Idx.av, entR, hl0', h17', hK0', hV0', hpf']; done)))))
      | (((with_reducible refine PW.drawR (id := 5) mixed [] [(0, true), (1, true), (2, true), (3, true), (4, true), (5, true), (6, true), (7, true), (8, true), (9, true), (10, true), (11, true), (12, true), (13, true), (14, true), (15, true), (16, true), (17, true), (18, true), (19, true), (20, true), (21, true), (22, true), (23, true), (24, true)] (by kernel_rfl) (by decide) fun K2 hK2 => ?_)))
      | ((simp only [thenP]; (try ((repeat (fail_if_success (with_reducible refine hK1 _ ?_)); clear hK1); (with_reducible refine hK1 _ ?_); clear hK1))))
      | (((first | (((with_reducible refine opsP_cons fun K3 hK3 => ?_); simp only [wantP, opP, valP, Ur, Us])) | (((with_reducible refine opsO_first (o := ?_) ?_ fun K3 hK3 => ?_); rotate_left 1; (focus (simp only [Uz, Ub, Ua] <;> rfl)); simp only [wantP, firstP, valP, Ur, Us, Uw, Ux])) | ((with_reducible refine PW.condM fun X1 Y1 hX1 hY1 => ?_)) | (skip)); simp (disch := omega) only [wantB_ff, St.eval, St.put, upd_app, iniT_app, avOf, avOf1, nom, cellsA, AV.okv, loadA, lenP, binP, intsP, intP, strP, nilP, convP, sliceP, boundLo, boundHi, unP, builtinP, isMapA, isBsl, slA, U7, U8, Ua, Ub, Uf, Ug, Uk, Ul, Un, Up, Ut, Uu, Uv, Uz, V0, V1, V2, V3, V4, V8, V9, Va, Ve, UU2, UU4, Vr, PmL, simprocAttr, PmT, Tb.v, Tb.c, Idx.av, entR, hl0', h17', hK0', hV0', hpf', retQ, resP, tupA, fg, fgs, condP, condB_t, condB_f, firstOk, List.mem_cons]; try (with_reducible (first | exact co_refl _ | exact co_own _ _ _ | exact co_nilsB | exact co_nilsL _ _)))))
    exact co_ent0 _
  have hpf' := eq_true hpf
  rw [if_neg (by rw [not_or, not_or, not_or]; exact ⟨by omega, by omega, by omega, by simpa using hpf⟩)] at hu
  have hin := tabled_in ht
  have hcols := tabled_cols ht
  have hk1 := pRTaken T X.cols (List.replicate T.cols.length z4) (K.drop 17) hin.2 (by simp) (by simp only [List.length_drop]; omega)
  rw [show takenS T X.cols (List.replicate T.cols.length z4, K.drop 17) = tk1 T X K from rfl, List.length_replicate] at hk1
  have hl1 : (tk1 T X K).1.length = T.cols.length := by unfold tk1; rw [(takenS_len _ _ _).1]; simp
  have hb1 : ((tk1 T X K).2.getD []).length ≤ K.length := by
    cases h : (tk1 T X K).2 with
    | none => simp
    | some b =>
      unfold tk1 at h
      have := (takenS_len _ _ _).2 b h
      simp only [List.length_drop] at this
      simp only [Option.getD_some]
      omega
  have hk2 := pRTaken T T.key (tk1 T X K).1 ((tk1 T X K).2.getD []) hin.1 hl1 (by omega)
  rw [show takenS T T.key ((tk1 T X K).1, (tk1 T X K).2.getD []) = tk2 T X K from rfl, hl1] at hk2
  have hl2 : (tk2 T X K).1.length = T.cols.length := by unfold tk2; rw [(takenS_len _ _ _).1, hl1]
  have hrow := pREntry T X (fillS T.cols (tk2 T X K).1) (by rw [fillS_len, hl2]; exact hT.1) hT.2 hX
  have hev := entryKV_v T X (fillS T.cols (tk2 T X K).1)
  have hfl := fillS_len T.cols (tk2 T X K).1
  obtain ⟨⟨R1, o1⟩, h1⟩ : ∃ r, tk1 T X K = r := ⟨_, rfl⟩
  obtain ⟨⟨R2, o2⟩, h2⟩ : ∃ r, tk2 T X K = r := ⟨_, rfl⟩
  rw [h1] at hk1 hk2 hl1 hu
  rw [h2] at hk2 hrow hu hl2 hev hfl
  simp only at hk1 hk2 hrow hu hl1 hl2 hev hfl
  have hfg : ∀ (j : Nat) (c : Col) (v : XV), T.cols[j]? = some c → R2[j]? = some v → (fillS T.cols R2)[j]? = some (if v.ty = 0 then defV c else v) := fun j c v h g => fillS_get h g
  obtain ⟨R3, hR3⟩ : ∃ r, fillS T.cols R2 = r := ⟨_, rfl⟩
  rw [hR3] at hrow hu hev hfl hfg
  obtain ⟨⟨kk, vv, ee⟩, hkv⟩ : ∃ r, entryKV T X R3 = r := ⟨_, rfl⟩
  rw [hkv] at hrow hu hev
  simp only at hev
  subst hev
  unfold kvR at hrow
  simp only at hrow
  obtain ⟨D, hD⟩ : ∃ d, K.drop 17 = d := ⟨_, rfl⟩
  rw [hD] at hk1
  obtain ⟨N, hN⟩ : ∃ n, T.cols.length = n := ⟨_, rfl⟩
  have hNs : N ≤ 1048576 := by omega
  rw [hN] at hk1 hk2 hl1 hl2
  rw [hl2] at hfl
  have hcN : ((N : Nat) : Int).toNat = N := by omega
  have hrep : (List.replicate N [AV.d (.int .i64 0), .d (.bool false), .d (.int .i64 0), .d (.str [])]).flatten = cX (List.replicate N z4) := cX_rep N
  rw [hN] at hin
  have hT2 := hT.2
  clear h1 h2 hkv hT hb hb1 hkb hR3 ht
  obtain ⟨tid, tnm, tcols, tkey, tix⟩ := T
  obtain ⟨xid, xnm, xcols, xu⟩ := X
  simp only at hN hk1 hk2 hin hX hT2 hl0' hl0 hu
  unfold Tb.v Tb.c vM tkR at hk1 hk2
  unfold Tb.v Tb.c at hC hrow
  unfold Idx.av at hrow
  simp only at hk1 hk2 hrow hC
  obtain ⟨b1, hb1⟩ : ∃ b, o1.getD [] = b := ⟨_, rfl⟩
  obtain ⟨s1, hs1⟩ : ∃ b, o1.isSome = b := ⟨_, rfl⟩
  obtain ⟨b2, hb2⟩ : ∃ b, o2.getD [] = b := ⟨_, rfl⟩
  obtain ⟨s2, hs2⟩ : ∃ b, o2.isSome = b := ⟨_, rfl⟩
  rw [hb1, hs1] at hk1
  rw [hb1, hb2, hs2] at hk2
  rw [hs1, hs2, hb2] at hu
  repeat' (first
    | (((with_reducible first | refine keepA_intro (keep012x _ _ _ _ _ _ _) ?_ | refine keepO_intro (.inl (keep012x _ _ _ _ _ _ _)) ?_)))
    | (((with_reducible refine callP_b1 (i := 3) ?_ ?_ ?_ hk1 (fun _ => ?_)); (focus (exact rfl)); (focus (exact rfl)); (focus (exact ⟨cX_pur _, cX_pur _, rfl⟩)); simp only [List.set_cons_succ, List.set_cons_zero]))
    | ((with_reducible (first
     | (refine PW.seq fun K1 hK1 => ?_) | (refine PW.region fun K2 hK2 => ?_) | ((refine hK3 _ ?_; clear hK3)) | ((refine opsP_nil ?_; refine hK2 _ ?_; clear hK2)) | ((refine Exists.intro _ (Exists.intro _ (And.intro rfl (And.intro rfl (And.intro ?_ ?_)))); focus omega)) | (refine PW.block ?_) | (refine PW.skip ?_)
     | ((refine hY1 ?_; clear hX1 hY1; try simp only [hb])) | ((refine opsO_nil ?_; refine hK2 _ ?_; clear hK2)) )))
    | (((with_reducible refine cC_new ?_ (hE) ?_); (focus ((repeat' constructor) <;> (simp only [purAs, purA, Vf, Bool.and_self, Tb.v, Tb.c, Idx.av, eI, hl0', h17', hK0', hV0', hpf', hN, hcN, hrep, hD]; done)))))
    | (((with_reducible refine cC_pure ?_ (hC) (fun _ => ?_)); (focus ((repeat' constructor) <;> (simp only [purAs, purA, Vf, Bool.and_self, Tb.v, Tb.c, Idx.av, eI, hl0', h17', hK0', hV0', hpf', hN, hcN, hrep, hD]; done)))))
    | (((with_reducible refine PW.drawR (id := 5) mixed [] [(0, true), (1, true), (2, true), (3, true), (4, true), (5, true), (6, true), (7, true), (8, true), (9, true), (10, true), (11, true), (12, true), (13, true), (14, true), (15, true), (16, true), (17, true), (18, true), (19, true), (20, true), (21, true), (22, true), (23, true), (24, true)] (by kernel_rfl) (by decide) fun K2 hK2 => ?_)))
    | (((with_reducible refine PW.draw (id := 8) mixed [0,1,2] [] [(0, true), (1, true), (2, true), (3, true), (4, true), (5, true), (6, true), (7, false), (8, true), (9, true), (10, true), (11, true), (12, true)] (by kernel_rfl) (by decide) fun K2 hK2 => ?_)))
    | (((with_reducible refine And.intro ?_ ?_); (focus (first | omega | (simp; done) | assumption))))
    | ((simp only [thenP]; (try ((repeat (fail_if_success (with_reducible refine hK1 _ ?_)); clear hK1); (with_reducible refine hK1 _ ?_); clear hK1))))
    | (((first | (((with_reducible refine opsP_consD (d := 67) fun K3 hK3 => ?_); simp only [wantP, opP]; (with_reducible refine litX_box ?_))) | (((with_reducible refine opsP_cons fun K3 hK3 => ?_); simp only [wantP, opP, valP, Ur, Us])) | (((with_reducible refine opsO_first (o := ?_) ?_ fun K3 hK3 => ?_); rotate_left 1; (focus (simp only [Uz, Ub, Ua] <;> rfl)); simp only [wantP, firstP, valP, Ur, Us, Uw, Ux])) | (((with_reducible refine opsO_only (o := ?_) ?_ fun K3 hK3 => ?_); rotate_left 1; (focus (simp only [Uz, Ub, Ua] <;> rfl)); simp only [wantP, opP, Ur, Us, Uw, Ux])) | ((with_reducible refine PW.condM fun X1 Y1 hX1 hY1 => ?_)) | (skip)); simp (disch := omega) only [wantB_ff, St.eval, St.put, upd_app, iniT_app, avOf, avOf1, nom, cellsA, AV.okv, loadA, lenP, binP, intsP, intP, strP, nilP, convP, sliceP, boundLo, boundHi, unP, builtinP, isMapA, isBsl, slA, U7, U8, Ua, Ub, Uf, Ug, Uk, Ul, Un, Up, Uq, Ut, Uu, Uv, Uz, V0, V1, V2, V3, V4, V7, V8, V9, Va, Ve, Int.cast_ofNat_Int, UU2, UU4, Vr, Vs, PmL, simprocAttr, PmT, Tb.v, Tb.c, Idx.av, hl0', h17', hK0', hV0', hpf', hN, hcN, hrep, hD, condP, condB_f, firstOk, List.mem_cons]; try (with_reducible (first | exact co_refl _ | exact co_own _ _ _ | exact co_nilsB | exact co_nilsL _ _)))))
  (with_reducible refine PW.nil2own 14 47 4 rfl (by decide) ?_)
  (with_reducible refine PW.loop (fun n s => ∃ (k : Nat), s.t 3 = .ptr 0 0 ∧ s.t 4 = .ptr 1 0 ∧ s.t 5 = .ptr 2 0 ∧ s.t 11 = .bsl 3 0 N N 4 ∧ s.t 12 = bs b1 ∧ s.t 13 = .d (.bool s1) ∧ s.t 14 = .own 1 4 (encL XV.cd (someV R1 (xcols.take k))) ∧ s.t 15 = .d (.int .i64 k) ∧ s.n = 184 ∧ s.m = ⟨[some (26, Tb.c ⟨tid, tnm, tcols, tkey, tix⟩), some (42, [.d (.int .i64 xid), .d (.str xnm), .d (.sl 1 (encL eI xcols)), .d (.bool xu)]), some (31, [bs K, bs V]), some (47, cX R1)], [some ⟨5, 1, kb.length⟩, some ⟨47, 4, (someV R1 (xcols.take k)).length⟩]⟩ ∧ k ≤ xcols.length ∧ n = xcols.length - k) xcols.length ?_ ?_)
  · exact ⟨0, rfl, rfl, rfl, rfl, rfl, rfl, rfl, rfl, rfl, rfl, Nat.zero_le _, rfl⟩
  rintro n ⟨t, nn, m⟩ ⟨k, q3, q4, q5, q11, q12, q13, q14, q15, hn, hm, hk, hnk⟩ - -
  simp only at q3 q4 q5 q11 q12 q13 q14 q15 hn hm
  subst hn hm hnk
  have hsl := someV_len R1 (xcols.take k)
  rw [List.length_take, Nat.min_eq_left hk] at hsl
  have hcl1 := cX_len R1
  by_cases hlt : (k : Int) < xcols.length
  · have hlt' := eq_true hlt
    obtain ⟨x, hx⟩ : ∃ x, xcols[k]? = some x := ⟨_, List.getElem?_eq_getElem (by omega)⟩
    have hxr := hin.2 x (List.mem_of_getElem? hx)
    have hw : IntKind.i64.wrap ((k : Int) + 1) = k + 1 := IntWalk.i64_in ((k : Int) + 1) (by omega)
    obtain ⟨i, rfl⟩ : ∃ i : Nat, x = i := ⟨x.toNat, by omega⟩
    obtain ⟨v, hv⟩ : ∃ v, R1[i]? = some v := ⟨_, List.getElem?_eq_getElem (by omega)⟩
    have hva : valAt R1 i = v := by unfold valAt; rw [List.getD_eq_getElem?_getD, Int.toNat_natCast, hv]; rfl
    have htk : someV R1 (xcols.take (k + 1)) = someV R1 (xcols.take k) ++ [v] := by rw [List.take_add_one, hx, Option.toList_some, someV_snoc, hva]
    have hdr := cX_drop hv
    have hdl : 4 ≤ ((cX R1).drop (i * 4)).length := by rw [hdr]; simp
    rw [List.length_drop, hcl1] at hdl
    repeat' (first
      | ((with_reducible (first
       | (refine PW.seq fun K1 hK1 => ?_) | (refine PW.region fun K2 hK2 => ?_) | ((refine hK3 _ ?_; clear hK3)) | ((refine opsP_nil ?_; refine hK2 _ ?_; clear hK2)) | (refine litX_old ?_) | (refine litC_data ?_) | (refine PW.block ?_) | (refine PW.skip ?_)
       | ((refine hX1 ?_; clear hX1 hY1; try simp only [hb])) )))
      | (((with_reducible refine And.intro ?_ ?_); (focus (first | omega | (simp; done) | assumption))))
      | ((simp only [thenP, blockP]; (try ((repeat (fail_if_success (with_reducible refine hK1 _ ?_)); clear hK1); (with_reducible refine hK1 _ ?_); clear hK1))))
      | (((first | (((with_reducible refine opsP_cons fun K3 hK3 => ?_); simp only [wantP, opP, valP, Ur, Us, List.mapM_cons, List.mapM_nil, Uw, Ux])) | ((with_reducible refine PW.condM fun X1 Y1 hX1 hY1 => ?_)) | (skip)); simp (disch := omega) only [St.eval, St.put, upd_app, avOf, avOf1, cellsA, AV.okv, loadA, lenP, binP, intsP, intP, nilP, builtinP, appP, srcA, srcTy, isMapA, isBsl, U3, U4, U5, slA, elA, dv1, Ua, Ub, Uc, Ud, Uf, Ug, Uk, Ul, Un, Uo, Ur, Us, Ut, Uu, Uv, List.mapM_cons, List.mapM_nil, Uw, Ux, V0, V1, V2, V4, Option.bind_eq_bind, Option.pure_def, V7, V9, Ve, UU9, PmL, simprocAttr, PmT, Tb.c, eI, q4, q11, q14, q15, hlt', hx, hdr, hw, hsl, condP, condB_t]; try (with_reducible (first | exact co_refl _ | exact co_own _ _ _ | exact co_nilsB | exact co_nilsL _ _)))))
    refine ⟨xcols.length - (k + 1), by omega, k + 1, ?_, ?_, ?_, ?_, ?_, ?_, ?_, ?_, ?_, ?_, by omega, rfl⟩
    all_goals (simp only [St.cut, Mem.cut, fg, fgs, upd_app, Nat.reduceEqDiff, ↓reduceIte, List.take_nil, List.map_nil, List.take_succ_cons, List.map_cons, Option.map_some, Nat.reduceLT, Nat.reduceAdd, List.length_append, List.length_cons, List.length_nil, Int.natCast_add, Int.cast_ofNat_Int, q3, q4, q5, q11, q12, q13, htk, encL_cd1, hsl, cX_fgs]; try rfl)
  have hkl : k = xcols.length := by omega
  subst hkl
  rw [List.take_length] at q14 ⊢
  have hlt' := eq_false hlt
  obtain ⟨F1, hF1⟩ : ∃ F, someV R1 xcols = F := ⟨_, rfl⟩
  rw [hF1] at q14 hu ⊢
  clear hsl
  cases s1
  · rw [if_pos (.inl rfl)] at hu
    repeat' (first
      | (((with_reducible refine callP_b1 (i := 3) ?_ ?_ ?_ hk2 (fun _ => ?_)); (focus (exact rfl)); (focus (exact rfl)); (focus (exact ⟨cX_pur _, cX_pur _, rfl⟩)); simp only [List.set_cons_succ, List.set_cons_zero]))
      | ((with_reducible (first
       | (refine PW.seq fun K1 hK1 => ?_) | (refine PW.region fun K2 hK2 => ?_) | ((refine hK3 _ ?_; clear hK3)) | ((refine opsP_nil ?_; refine hK2 _ ?_; clear hK2)) 
       | (refine PW.exit ?_) | (refine PW.ret ?_) | ((refine hX1 ?_; clear hX1 hY1; try simp only [hb])) | ((refine hY1 ?_; clear hX1 hY1; try simp only [hb])) )))
      | ((simp only [thenP, blockP, ↓reduceIte]; (try ((repeat (fail_if_success (with_reducible refine hK1 _ ?_)); clear hK1); (with_reducible refine hK1 _ ?_); clear hK1))))
      | (((first | (((with_reducible refine opsP_cons fun K3 hK3 => ?_); simp only [wantP, opP, valP, Ur, Us])) | ((with_reducible refine PW.condM fun X1 Y1 hX1 hY1 => ?_)) | (skip)); simp (disch := omega) only [wantB_tf, St.eval, St.put, upd_app, avOf, avOf1, loadA, lenP, binP, intsP, intP, nilP, unP, builtinP, isMapA, slA, Ua, Ub, Uf, Ug, Uk, Ul, Un, Up, Uv, Uz, V4, V9, Ve, Vr, PmL, simprocAttr, PmT, Tb.c, q3, q4, q11, q12, q13, q15, hlt', retQ, resP, tupA, fg, fgs, condP, condB_t, condB_f]; try (with_reducible (first | exact co_refl _ | exact co_own _ _ _ | exact co_nilsB | exact co_nilsL _ _)))))
    all_goals (rw [hu]; exact co_ent0 _)
  cases s2
  · rw [if_pos (.inr (.inl rfl))] at hu
    repeat' (first
      | (((with_reducible refine callP_b1 (i := 3) ?_ ?_ ?_ hk2 (fun _ => ?_)); (focus (exact rfl)); (focus (exact rfl)); (focus (exact ⟨cX_pur _, cX_pur _, rfl⟩)); simp only [List.set_cons_succ, List.set_cons_zero]))
      | ((with_reducible (first
       | (refine PW.seq fun K1 hK1 => ?_) | (refine PW.region fun K2 hK2 => ?_) | ((refine hK3 _ ?_; clear hK3)) | ((refine opsP_nil ?_; refine hK2 _ ?_; clear hK2)) 
       | (refine PW.exit ?_) | (refine PW.ret ?_) | ((refine hX1 ?_; clear hX1 hY1; try simp only [hb])) | ((refine hY1 ?_; clear hX1 hY1; try simp only [hb])) )))
      | ((simp only [thenP, blockP, ↓reduceIte]; (try ((repeat (fail_if_success (with_reducible refine hK1 _ ?_)); clear hK1); (with_reducible refine hK1 _ ?_); clear hK1))))
      | (((first | (((with_reducible refine opsP_cons fun K3 hK3 => ?_); simp only [wantP, opP, valP, Ur, Us])) | ((with_reducible refine PW.condM fun X1 Y1 hX1 hY1 => ?_)) | (skip)); simp (disch := omega) only [wantB_ff, wantB_tf, St.eval, St.put, upd_app, avOf, avOf1, loadA, lenP, binP, intsP, intP, nilP, unP, builtinP, isMapA, slA, Ua, Ub, Uf, Ug, Uk, Ul, Un, Up, Uv, Uz, V4, V9, Ve, Vr, PmL, simprocAttr, PmT, Tb.c, q3, q4, q11, q12, q13, q15, hlt', retQ, resP, tupA, fg, fgs, condP, condB_t, condB_f]; try (with_reducible (first | exact co_refl _ | exact co_own _ _ _ | exact co_nilsB | exact co_nilsL _ _)))))
    all_goals (rw [hu]; exact co_ent0 _)
  by_cases hb20 : (0 : Int) < b2.length
  · have hb20' := eq_true hb20
    rw [if_pos (.inr (.inr (by omega)))] at hu
    repeat' (first
      | (((with_reducible refine callP_b1 (i := 3) ?_ ?_ ?_ hk2 (fun _ => ?_)); (focus (exact rfl)); (focus (exact rfl)); (focus (exact ⟨cX_pur _, cX_pur _, rfl⟩)); simp only [List.set_cons_succ, List.set_cons_zero]))
      | ((with_reducible (first
       | (refine PW.seq fun K1 hK1 => ?_) | (refine PW.region fun K2 hK2 => ?_) | ((refine hK3 _ ?_; clear hK3)) | ((refine opsP_nil ?_; refine hK2 _ ?_; clear hK2)) 
       | (refine PW.exit ?_) | (refine PW.ret ?_) | ((refine hX1 ?_; clear hX1 hY1; try simp only [hb])) | ((refine hY1 ?_; clear hX1 hY1; try simp only [hb])) )))
      | ((simp only [thenP, blockP, ↓reduceIte]; (try ((repeat (fail_if_success (with_reducible refine hK1 _ ?_)); clear hK1); (with_reducible refine hK1 _ ?_); clear hK1))))
      | (((first | (((with_reducible refine opsP_cons fun K3 hK3 => ?_); simp only [wantP, opP, valP, Ur, Us])) | ((with_reducible refine PW.condM fun X1 Y1 hX1 hY1 => ?_)) | (skip)); simp (disch := omega) only [wantB_ff, St.eval, St.put, upd_app, avOf, avOf1, loadA, lenP, binP, intsP, intP, nilP, unP, builtinP, isMapA, slA, Ua, Ub, Uf, Ug, Uk, Ul, Un, Up, Uv, Uz, V4, V9, Ve, Vr, PmL, simprocAttr, PmT, Tb.c, q3, q4, q11, q12, q13, q15, hlt', hb20', retQ, resP, tupA, fg, fgs, condP, condB_t, condB_f]; try (with_reducible (first | exact co_refl _ | exact co_own _ _ _ | exact co_nilsB | exact co_nilsL _ _)))))
    all_goals (rw [hu]; exact co_ent0 _)
  rw [if_neg (by rw [not_or, not_or]; exact ⟨by simp, by simp, by omega⟩)] at hu
  obtain rfl : b2 = [] := List.eq_nil_of_length_eq_zero (by omega)
  repeat' (first
    | (((with_reducible refine callP_b1 (i := 3) ?_ ?_ ?_ hk2 (fun _ => ?_)); (focus (exact rfl)); (focus (exact rfl)); (focus (exact ⟨cX_pur _, cX_pur _, rfl⟩)); simp only [List.set_cons_succ, List.set_cons_zero]))
    | ((with_reducible (first
     | (refine PW.seq fun K1 hK1 => ?_) | (refine PW.region fun K2 hK2 => ?_) | ((refine hK3 _ ?_; clear hK3)) | ((refine opsP_nil ?_; refine hK2 _ ?_; clear hK2)) | (refine PW.block ?_) | (refine PW.skip ?_)
     | (refine PW.exit ?_) | ((refine hY1 ?_; clear hX1 hY1; try simp only [hb])) )))
    | ((simp only [thenP, blockP, ↓reduceIte]; (try ((repeat (fail_if_success (with_reducible refine hK1 _ ?_)); clear hK1); (with_reducible refine hK1 _ ?_); clear hK1))))
    | (((first | (((with_reducible refine opsP_cons fun K3 hK3 => ?_); simp only [wantP, opP, valP, Ur, Us])) | ((with_reducible refine PW.condM fun X1 Y1 hX1 hY1 => ?_)) | (skip)); simp (disch := omega) only [wantB_ff, St.eval, St.put, upd_app, avOf, avOf1, loadA, lenP, binP, intsP, intP, nilP, unP, builtinP, isMapA, slA, Ua, Ub, Uf, Ug, Uk, Ul, Un, Up, Uv, Uz, V4, V9, Ve, Int.cast_ofNat_Int, Vr, PmL, simprocAttr, PmT, Tb.c, q3, q4, q11, q12, q13, q15, hlt', condP, condB_f]; try (with_reducible (first | exact co_refl _ | exact co_own _ _ _ | exact co_nilsB | exact co_nilsL _ _)))))
  (with_reducible refine PW.nil2own 17 47 4 rfl (by decide) ?_)
  (with_reducible refine PW.loop (fun n s => ∃ (k : Nat), s.t 3 = .ptr 0 0 ∧ s.t 4 = .ptr 1 0 ∧ s.t 5 = .ptr 2 0 ∧ s.t 11 = .bsl 3 0 N N 4 ∧ s.t 14 = .own 1 4 (encL XV.cd F1) ∧ s.t 17 = .own 2 4 (encL XV.cd (someV R2 (tkey.take k))) ∧ s.t 18 = .d (.int .i64 k) ∧ s.n = 184 ∧ s.m = ⟨[some (26, Tb.c ⟨tid, tnm, tcols, tkey, tix⟩), some (42, [.d (.int .i64 xid), .d (.str xnm), .d (.sl 1 (encL eI xcols)), .d (.bool xu)]), some (31, [bs K, bs V]), some (47, cX R2)], [some ⟨5, 1, kb.length⟩, some ⟨47, 4, F1.length⟩, some ⟨47, 4, (someV R2 (tkey.take k)).length⟩]⟩ ∧ k ≤ tkey.length ∧ n = tkey.length - k) tkey.length ?_ ?_)
  · exact ⟨0, by simp only [upd_app, simprocAttr, q3], by simp only [upd_app, simprocAttr, q4], by simp only [upd_app, simprocAttr, q5], by simp only [upd_app, simprocAttr, q11], by simp only [upd_app, simprocAttr, q14], rfl, by simp only [upd_app, simprocAttr], rfl, rfl, Nat.zero_le _, rfl⟩
  clear q3 q4 q5 q11 q12 q13 q14 q15 hlt hlt' hk
  rintro n ⟨t, nn, m⟩ ⟨k, q3, q4, q5, q11, q14, q17, q18, hn, hm, hk, hnk⟩ - -
  simp only at q3 q4 q5 q11 q14 q17 q18 hn hm
  subst hn hm hnk
  have hsl := someV_len R2 (tkey.take k)
  rw [List.length_take, Nat.min_eq_left hk] at hsl
  have hcl2 := cX_len R2
  by_cases hlt : (k : Int) < tkey.length
  · have hlt' := eq_true hlt
    obtain ⟨x, hx⟩ : ∃ x, tkey[k]? = some x := ⟨_, List.getElem?_eq_getElem (by omega)⟩
    have hxr := hin.1 x (List.mem_of_getElem? hx)
    have hw : IntKind.i64.wrap ((k : Int) + 1) = k + 1 := IntWalk.i64_in ((k : Int) + 1) (by omega)
    obtain ⟨i, rfl⟩ : ∃ i : Nat, x = i := ⟨x.toNat, by omega⟩
    obtain ⟨v, hv⟩ : ∃ v, R2[i]? = some v := ⟨_, List.getElem?_eq_getElem (by omega)⟩
    have hva : valAt R2 i = v := by unfold valAt; rw [List.getD_eq_getElem?_getD, Int.toNat_natCast, hv]; rfl
    have htk : someV R2 (tkey.take (k + 1)) = someV R2 (tkey.take k) ++ [v] := by rw [List.take_add_one, hx, Option.toList_some, someV_snoc, hva]
    have hdr := cX_drop hv
    have hdl : 4 ≤ ((cX R2).drop (i * 4)).length := by rw [hdr]; simp
    rw [List.length_drop, hcl2] at hdl
    repeat' (first
      | ((with_reducible (first
       | (refine PW.seq fun K1 hK1 => ?_) | (refine PW.region fun K2 hK2 => ?_) | ((refine hK3 _ ?_; clear hK3)) | ((refine opsP_nil ?_; refine hK2 _ ?_; clear hK2)) | (refine litX_old ?_) | (refine litC_data ?_) | (refine PW.block ?_) | (refine PW.skip ?_)
       | ((refine hX1 ?_; clear hX1 hY1; try simp only [hb])) )))
      | (((with_reducible refine And.intro ?_ ?_); (focus (first | omega | (simp; done) | assumption))))
      | ((simp only [thenP, blockP]; (try ((repeat (fail_if_success (with_reducible refine hK1 _ ?_)); clear hK1); (with_reducible refine hK1 _ ?_); clear hK1))))
      | (((first | (((with_reducible refine opsP_cons fun K3 hK3 => ?_); simp only [wantP, opP, valP, Ur, Us, List.mapM_cons, List.mapM_nil, Uw, Ux])) | ((with_reducible refine PW.condM fun X1 Y1 hX1 hY1 => ?_)) | (skip)); simp (disch := omega) only [St.eval, St.put, upd_app, avOf, avOf1, cellsA, AV.okv, loadA, lenP, binP, intsP, intP, nilP, builtinP, appP, srcA, srcTy, isMapA, isBsl, U3, U4, U5, slA, elA, dv1, Ua, Ub, Uc, Ud, Uf, Ug, Uk, Ul, Un, Uo, Ur, Us, Ut, Uu, Uv, List.mapM_cons, List.mapM_nil, Uw, Ux, V0, V1, V2, V4, Option.bind_eq_bind, Option.pure_def, V7, V9, Ve, UU9, PmL, simprocAttr, PmT, Tb.c, eI, q3, q11, q17, q18, hlt', hx, hdr, hw, hsl, condP, condB_t]; try (with_reducible (first | exact co_refl _ | exact co_own _ _ _ | exact co_nilsB | exact co_nilsL _ _)))))
    refine ⟨tkey.length - (k + 1), by omega, k + 1, ?_, ?_, ?_, ?_, ?_, ?_, ?_, ?_, ?_, by omega, rfl⟩
    all_goals (simp only [St.cut, Mem.cut, fg, fgs, upd_app, Nat.reduceEqDiff, ↓reduceIte, List.take_nil, List.map_nil, List.take_succ_cons, List.map_cons, Option.map_some, Nat.reduceLT, Nat.reduceAdd, List.length_append, List.length_cons, List.length_nil, Int.natCast_add, Int.cast_ofNat_Int, q3, q4, q5, q11, q14, htk, encL_cd1, hsl, cX_fgs]; try rfl)
  have hkl : k = tkey.length := by omega
  subst hkl
  rw [List.take_length] at q17 ⊢
  have hlt' := eq_false hlt
  obtain ⟨F2, hF2⟩ : ∃ F, someV R2 tkey = F := ⟨_, rfl⟩
  rw [hF2] at q17 hu ⊢
  clear hsl
  repeat' (first
    | ((with_reducible (first
     | (refine PW.seq fun K1 hK1 => ?_) | (refine PW.region fun K2 hK2 => ?_) | ((refine hK3 _ ?_; clear hK3)) | ((refine opsP_nil ?_; refine hK2 _ ?_; clear hK2)) | (refine PW.block ?_) 
     | (refine PW.exit ?_) | ((refine hY1 ?_; clear hX1 hY1; try simp only [hb])) )))
    | ((simp only [thenP, blockP, ↓reduceIte]; (try ((repeat (fail_if_success (with_reducible refine hK1 _ ?_)); clear hK1); (with_reducible refine hK1 _ ?_); clear hK1))))
    | (((first | (((with_reducible refine opsP_cons fun K3 hK3 => ?_); simp only [wantP, opP, valP, Ur, Us])) | ((with_reducible refine PW.condM fun X1 Y1 hX1 hY1 => ?_)) | (skip)); simp (disch := omega) only [St.eval, St.put, upd_app, avOf, avOf1, loadA, lenP, binP, intsP, intP, nilP, builtinP, isMapA, slA, Ua, Uk, Ul, V9, Ve, PmL, simprocAttr, PmT, Tb.c, q3, q18, hlt', condP, condB_f]; try (with_reducible (first | exact co_refl _ | exact co_own _ _ _ | exact co_nilsB | exact co_nilsL _ _)))))
  (with_reducible refine PW.loop (fun n s => ∃ (k : Nat) (Rk : List XV), s.t 3 = .ptr 0 0 ∧ s.t 4 = .ptr 1 0 ∧ s.t 5 = .ptr 2 0 ∧ s.t 11 = .bsl 3 0 N N 4 ∧ s.t 14 = .own 1 4 (encL XV.cd F1) ∧ s.t 17 = .own 2 4 (encL XV.cd F2) ∧ s.t 19 = .d (.int .i64 k) ∧ s.n = 184 ∧ s.m = ⟨[some (26, Tb.c ⟨tid, tnm, tcols, tkey, tix⟩), some (42, [.d (.int .i64 xid), .d (.str xnm), .d (.sl 1 (encL eI xcols)), .d (.bool xu)]), some (31, [bs K, bs V]), some (47, cX Rk)], [some ⟨5, 1, kb.length⟩, some ⟨47, 4, F1.length⟩, some ⟨47, 4, F2.length⟩]⟩ ∧ k ≤ N ∧ Rk.length = N ∧ (∀ j, j < k → Rk[j]? = R3[j]?) ∧ (∀ j, k ≤ j → Rk[j]? = R2[j]?) ∧ n = N - k) N ?_ ?_)
  · exact ⟨0, R2, by simp only [upd_app, simprocAttr, q3], by simp only [upd_app, simprocAttr, q4], by simp only [upd_app, simprocAttr, q5], by simp only [upd_app, simprocAttr, q11], by simp only [upd_app, simprocAttr, q14], by simp only [upd_app, simprocAttr, q17], by simp only [upd_app, simprocAttr], rfl, rfl, Nat.zero_le _, hl2, fun j hj => absurd hj (by omega), fun j _ => rfl, rfl⟩
  clear q3 q4 q5 q11 q14 q17 q18 hlt hlt' hk
  rintro n ⟨t, nn, m⟩ ⟨k, Rk, q3, q4, q5, q11, q14, q17, q19, hn, hm, hk, hkl, hd1, hd2, hnk⟩ - -
  simp only at q3 q4 q5 q11 q14 q17 q19 hn hm
  subst hn hm hnk
  have hclk := cX_len Rk
  by_cases hlt : (k : Int) < N
  · have hlt' := eq_true hlt
    have hw : IntKind.i64.wrap ((k : Int) + 1) = k + 1 := IntWalk.i64_in ((k : Int) + 1) (by omega)
    obtain ⟨c, hc⟩ : ∃ x, tcols[k]? = some x := ⟨_, List.getElem?_eq_getElem (by omega)⟩
    obtain ⟨v, hv⟩ : ∃ v, R2[k]? = some v := ⟨_, List.getElem?_eq_getElem (by omega)⟩
    have hvk : Rk[k]? = some v := by rw [hd2 k (Nat.le_refl _)]; exact hv
    have hg3 := hfg k c v hc hv
    have hdr := cX_drop hvk
    have hdl : 4 ≤ ((cX Rk).drop (k * 4)).length := by rw [hdr]; simp
    rw [List.length_drop, hclk] at hdl
    have hset := cX_set Rk k c.ty (!c.nn) 0 [] (by omega)
    by_cases hty : v.ty = 0
    · have hty' := eq_true hty
      rw [if_pos hty] at hg3
      repeat' (first
        | ((with_reducible (first
         | (refine PW.seq fun K1 hK1 => ?_) | (refine PW.region fun K2 hK2 => ?_) | ((refine hK3 _ ?_; clear hK3)) | ((refine opsP_nil ?_; refine hK2 _ ?_; clear hK2)) | (refine PW.block ?_) | (refine PW.skip ?_)
         | ((refine hX1 ?_; clear hX1 hY1; try simp only [hb])) | ((refine opsO_nil ?_; refine hK2 _ ?_; clear hK2)) | ((refine keepO_intro ?_ ?_; focus (first | exact .inl (keep_same _ _) | exact .inl (keep_box _ _ _ _) | exact .inl (keep_hd _ _ _ _ _) | exact .inl (keep_02 _ _ _ _ _ _ _) | exact .inl (keep_1 _ _ _ _ _ _ _) | exact .inr ⟨rfl, rfl⟩))) )))
        | (((with_reducible refine PW.draw (id := 26) mixed [0] [17] [(0, true), (1, true), (2, true), (3, true), (4, true), (5, true), (6, true), (7, true), (8, true), (9, true), (10, true), (11, true), (12, true), (13, true), (14, true), (15, true), (16, true), (17, false)] (by kernel_rfl) (by decide) fun K2 hK2 => ?_)))
        | (((with_reducible refine And.intro ?_ ?_); (focus (first | omega | (simp; done) | assumption))))
        | ((simp only [thenP, blockP]; (try ((repeat (fail_if_success (with_reducible refine hK1 _ ?_)); clear hK1); (with_reducible refine hK1 _ ?_); clear hK1))))
        | (((first | (((with_reducible refine opsP_cons fun K3 hK3 => ?_); simp only [wantP, opP, valP, Ur, Us])) | (((with_reducible refine opsO_first (o := ?_) ?_ fun K3 hK3 => ?_); rotate_left 1; (focus (simp only [Uz, Ub, Ua] <;> rfl)); simp only [wantP, firstP, valP, Ur, Us])) | (((with_reducible refine opsO_only (o := ?_) ?_ fun K3 hK3 => ?_); rotate_left 1; (focus (simp only [Uz, Ub, Ua] <;> rfl)); simp only [wantP, opP, Ux])) | ((with_reducible refine PW.condM fun X1 Y1 hX1 hY1 => ?_)) | (skip)); simp (disch := omega) only [St.eval, St.put, upd_app, avOf, avOf1, cellsA, AV.okv, loadA, lenP, binP, intsP, intP, nilP, unP, builtinP, isMapA, slA, putCells, fillA, buildA, Ua, Ub, Uc, Ud, Uf, Ug, Uk, Ul, Ur, Us, V2, V7, V9, Va, Ve, Vt, UU2, UU3, PmL, simprocAttr, PmT, Tb.c, Col.c, q3, q11, q19, hlt', hc, hdr, hw, hclk, hset, hty', condP, condB_t, firstOk, List.mem_cons]; try (with_reducible (first | exact co_refl _ | exact co_own _ _ _ | exact co_nilsB | exact co_nilsL _ _)))))
      refine ⟨N - (k + 1), by omega, k + 1, Rk.set k (defV c), ?_, ?_, ?_, ?_, ?_, ?_, ?_, ?_, ?_, by omega, by simpa using hkl, ?_, ?_, rfl⟩
      case refine_10 =>
        intro j hj
        by_cases hjk : j = k
        · subst hjk
          rw [List.getElem?_set_self (by omega)]
          exact hg3.symm
        · rw [List.getElem?_set_ne (by omega)]
          exact hd1 j (by omega)
      case refine_11 =>
        intro j hj
        rw [List.getElem?_set_ne (by omega)]
        exact hd2 j (by omega)
      all_goals (simp only [St.cut, Mem.cut, fg, fgs, upd_app, Nat.reduceEqDiff, ↓reduceIte, List.take_nil, List.map_nil, List.take_succ_cons, List.map_cons, Option.map_some, Nat.reduceLT, Int.natCast_add, Int.cast_ofNat_Int, q3, q4, q5, q11, q14, q17, cX_fgs, defV]; try rfl)
    · have hty' := eq_false hty
      rw [if_neg hty] at hg3
      repeat' (first
        | ((with_reducible (first
         | (refine PW.seq fun K1 hK1 => ?_) | (refine PW.region fun K2 hK2 => ?_) | ((refine hK3 _ ?_; clear hK3)) | ((refine opsP_nil ?_; refine hK2 _ ?_; clear hK2)) | (refine PW.block ?_) | (refine PW.skip ?_)
         | ((refine hX1 ?_; clear hX1 hY1; try simp only [hb])) | ((refine hY1 ?_; clear hX1 hY1; try simp only [hb])) )))
        | (((with_reducible refine And.intro ?_ ?_); (focus (first | omega | (simp; done) | assumption))))
        | ((simp only [thenP, blockP]; (try ((repeat (fail_if_success (with_reducible refine hK1 _ ?_)); clear hK1); (with_reducible refine hK1 _ ?_); clear hK1))))
        | (((first | (((with_reducible refine opsP_cons fun K3 hK3 => ?_); simp only [wantP, opP, valP, Ur, Us])) | ((with_reducible refine PW.condM fun X1 Y1 hX1 hY1 => ?_)) | (skip)); simp (disch := omega) only [St.eval, St.put, upd_app, avOf, avOf1, loadA, lenP, binP, intsP, intP, nilP, builtinP, isMapA, slA, Ua, Ub, Uf, Ug, V7, V9, Va, Ve, PmL, simprocAttr, PmT, Tb.c, q11, q19, hlt', hdr, hw, hty', condP, condB_t, condB_f]; try (with_reducible (first | exact co_refl _ | exact co_own _ _ _ | exact co_nilsB | exact co_nilsL _ _)))))
      refine ⟨N - (k + 1), by omega, k + 1, Rk, ?_, ?_, ?_, ?_, ?_, ?_, ?_, ?_, ?_, by omega, hkl, ?_, ?_, rfl⟩
      case refine_10 =>
        intro j hj
        by_cases hjk : j = k
        · subst hjk
          rw [hvk]
          exact hg3.symm
        · exact hd1 j (by omega)
      case refine_11 =>
        intro j hj
        exact hd2 j (by omega)
      all_goals (simp only [St.cut, Mem.cut, fg, fgs, upd_app, Nat.reduceEqDiff, ↓reduceIte, List.take_nil, List.map_nil, List.take_succ_cons, List.map_cons, Option.map_some, Nat.reduceLT, Int.natCast_add, Int.cast_ofNat_Int, q3, q4, q5, q11, q14, q17, cX_fgs]; try rfl)
  have hkl2 : k = N := by omega
  subst hkl2
  have hlt' := eq_false hlt
  have hRk : Rk = R3 := List.ext_getElem? fun j => by
    by_cases hj : j < k
    · exact hd1 j hj
    · rw [List.getElem?_eq_none (by omega), List.getElem?_eq_none (by omega)]
  subst hRk
  repeat' (first
    | (((with_reducible refine PW.freezeR (id := 27) 11 3 0 k k 4 (xs := encL XV.cd Rk) (b := (47, cX Rk)) ?_ ?_ ?_ ?_); (focus (simp only [upd_app, simprocAttr, q11])); (focus (exact rfl)); (focus (exact view_cX (by decide) rfl hkl))))
    | ((with_reducible (first
     | (refine PW.seq fun K1 hK1 => ?_) | (refine PW.region fun K2 hK2 => ?_) | ((refine hK3 _ ?_; clear hK3)) | ((refine opsP_nil ?_; refine hK2 _ ?_; clear hK2)) | (refine PW.skip ?_)
     | (refine PW.exit ?_) | (refine PW.ret ?_) | ((refine hX1 ?_; clear hX1 hY1; try simp only [hb])) | ((refine hY1 ?_; clear hX1 hY1; try simp only [hb])) )))
    | (((first | (with_reducible refine wantB_intro (fun hb => ?_) (fun hb => ?_)) | (with_reducible refine condB_intro (fun hb => ?_) (fun hb => ?_))) <;> ((try (have hp := hb; simp only [PmH] at hp)); try simp only [hb, Bool.not_false])))
    | (((with_reducible refine cC_pure ?_ (hrow) (fun _ => ?_)); (focus ((repeat' constructor) <;> (simp only [purAs, purA, Vf, Bool.and_self, Tb.v, Tb.c, q3, q4, q5, q11, q14, q17, q19, hlt']; done)))))
    | ((simp only [thenP, blockP, ↓reduceIte]; (try ((repeat (fail_if_success (with_reducible refine hK1 _ ?_)); clear hK1); (with_reducible refine hK1 _ ?_); clear hK1))))
    | (((first | (((with_reducible refine opsP_cons fun K3 hK3 => ?_); simp only [wantP, opP, valP, Ur, Us])) | ((with_reducible refine PW.condM fun X1 Y1 hX1 hY1 => ?_)) | (skip)); simp (disch := omega) only [wantB_ff, wantB_tf, St.eval, St.put, upd_app, avOf, avOf1, cellsA, AV.okv, loadA, lenP, binP, intsP, intP, strP, eqP, nilP, convP, builtinP, isMapA, slA, putCells, Ua, Ub, Uc, Ud, Uf, Ug, Uk, Un, Up, Ut, Uu, Uv, Uz, V4, V9, Va, Vc, Ve, Vr, PmL, simprocAttr, PmT, Tb.c, q3, q4, q5, q11, q14, q17, q19, hlt', retQ, resP, tupA, fg, fgs, condP, condB_t, condB_f]; try (with_reducible (first | exact co_refl _ | exact co_own _ _ _ | exact co_nilsB | exact co_nilsL _ _)))))
  all_goals first
    | (rw [hu, if_neg (by simp_all)]; exact co_ent0 _)
    | (rw [hu, if_pos (by simp_all)]; exact co_refl _)
end PM
end Go.Proofs.YtfkemeamimcnjaaDoor
