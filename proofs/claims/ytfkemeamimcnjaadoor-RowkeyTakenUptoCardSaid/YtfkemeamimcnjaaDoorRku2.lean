/- rowkey's reference in the abstract: a column's key, taken; plainly: both ways answer the same. -/
import Derived.Test.YtfkemeamimcnjaaDoorRkt3
namespace Go.Proofs.YtfkemeamimcnjaaDoor
open Go.RowKit
set_option maxRecDepth 100000
namespace PM
theorem keep1x (a a' b : Option (TypeId × List AV)) (l l' : List (Option (TypeId × List AV))) (r r' : List (Option RowI)) : keepL [1] ⟨a :: b :: l, r⟩ ⟨a' :: b :: l', r'⟩ := fun id h => by
  obtain rfl := List.mem_singleton.1 h
  rfl
/-- a column's key is read (the document's way): the value, what is left, whether it is there -/
def takeKeyS (k : Int) (b : List Int) : XV × List Int × Bool :=
  if b.length = 0 then (⟨k, false, 0, []⟩, [], false) else if b[0]? = some 2 then (⟨k, true, 0, []⟩, b.drop 1, true)
  else if k = 1 then (if (Codec.takeKeyIntF (b.drop 1)).2.2 = 0 then (⟨1, false, (Codec.takeKeyIntF (b.drop 1)).1, []⟩, (b.drop 1).drop (Codec.takeKeyIntF (b.drop 1)).2.1.toNat, true) else (⟨1, false, 0, []⟩, [], false))
  else if k = 2 then (if (b.drop 1).length = 0 then (⟨2, false, 0, []⟩, [], false) else (⟨2, false, (b.drop 1).getD 0 0, []⟩, (b.drop 1).drop 1, true))
  else (if (Codec.tkL (b.drop 1)).2.2 = 0 then (⟨k, false, 0, (Codec.tkL (b.drop 1)).1⟩, (b.drop 1).drop (Codec.tkL (b.drop 1)).2.1.toNat, true) else (⟨k, false, 0, []⟩, [], false))
theorem co_tk (v : AV) (b : AV) : Co (.tup [v, .nils, b]) (.tup [v, bs [], b]) := by
  have h : Co .nils (bs []) := co_nilsB
  unfold Co
  refine ⟨_, rfl, cos_cons (co_refl _) (cos_cons h (cos_refl _))⟩
set_option maxHeartbeats 4000000 in
theorem pRTakeKey (b : List Int) (k : Int) (hl : b.length ≤ 100000000) : Pure Tryd.prog 80 [bs b, .d (.int .i64 k)] (.tup [(takeKeyS k b).1.v, bs (takeKeyS k b).2.1, .d (.bool (takeKeyS k b).2.2)]) := by
  refine pure_intro Tryd.func80 rfl rfl rfl 78 rfl (fun hh => ?_)
  have hrb := (has_bytes (hh (bs b) (by simp))).1
  by_cases h0 : (b.length : Int) = 0
  · have h0' := eq_true h0
    have e : takeKeyS k b = (⟨k, false, 0, []⟩, [], false) := if_pos (by omega)
    rw [e]
    unfold XV.v XV.c
    simp only
    repeat' (first
      | ((with_reducible (first
       | (refine PW.seq fun K1 hK1 => ?_) | (refine PW.region fun K2 hK2 => ?_) | ((refine hK3 _ ?_; clear hK3)) | ((refine opsP_nil ?_; refine hK2 _ ?_; clear hK2)) 
       | (refine PW.ret ?_) | ((refine hX1 ?_; clear hX1 hY1; try simp only [hb])) )))
      | ((simp only [thenP]; (try ((repeat (fail_if_success (with_reducible refine hK1 _ ?_)); clear hK1); (with_reducible refine hK1 _ ?_); clear hK1))))
      | (((first | (((with_reducible refine opsP_cons fun K3 hK3 => ?_); simp only [wantP, opP, valP, Ur, Us])) | ((with_reducible refine PW.condM fun X1 Y1 hX1 hY1 => ?_)) | (skip)); simp (disch := omega) only [St.eval, St.put, upd_app, iniT_app, avOf, avOf1, nom, cellsA, AV.okv, loadA, lenP, binP, intsP, intP, nilP, builtinP, isMapA, slA, putCells, fillA, buildA, U7, U8, Ua, Ub, Uc, Ud, Uf, Ug, Uk, Un, Up, Ut, Uu, V9, Vt, UU2, UU3, Vr, PmL, simprocAttr, PmT, h0', retQ, resP, tupA, fg, fgs, condP, condB_t]; try (with_reducible (first | exact co_refl _ | exact co_own _ _ _ | exact co_nilsB | exact co_nilsL _ _)))))
    exact co_tk _ _
  have h0' := eq_false h0
  obtain ⟨c, hc⟩ : ∃ c, b[0]? = some c := ⟨_, List.getElem?_eq_getElem (by omega)⟩
  by_cases h2 : c = 2
  · subst h2
    have e : takeKeyS k b = (⟨k, true, 0, []⟩, b.drop 1, true) := by unfold takeKeyS; rw [if_neg (by omega), if_pos hc]
    rw [e]
    unfold XV.v XV.c
    simp only
    repeat' (first
      | (((with_reducible first | refine keepA_intro (keep1x _ _ _ _ _ _ _) ?_ | refine keepO_intro (.inl (keep1x _ _ _ _ _ _ _)) ?_)))
      | ((with_reducible (first
       | (refine PW.seq fun K1 hK1 => ?_) | (refine PW.region fun K2 hK2 => ?_) | ((refine hK3 _ ?_; clear hK3)) | ((refine opsP_nil ?_; refine hK2 _ ?_; clear hK2)) | ((refine Exists.intro _ (Exists.intro _ (And.intro rfl (And.intro rfl (And.intro ?_ ?_)))); focus omega)) | (refine PW.skip ?_)
       | (refine PW.ret ?_) | ((refine hX1 ?_; clear hX1 hY1; try simp only [hb])) | ((refine hY1 ?_; clear hX1 hY1; try simp only [hb])) | ((refine opsO_nil ?_; refine hK2 _ ?_; clear hK2)) )))
      | (((with_reducible refine PW.draw (id := 6) mixed [1] [] [(0, true), (1, true), (2, true), (3, false), (4, true), (5, true)] (by kernel_rfl) (by decide) fun K2 hK2 => ?_)))
      | ((simp only [thenP]; (try ((repeat (fail_if_success (with_reducible refine hK1 _ ?_)); clear hK1); (with_reducible refine hK1 _ ?_); clear hK1))))
      | (((first | (((with_reducible refine opsP_cons fun K3 hK3 => ?_); simp only [wantP, opP, valP, Ur, Us])) | (((with_reducible refine opsO_first (o := ?_) ?_ fun K3 hK3 => ?_); rotate_left 1; (focus (simp only [Uz, Ub, Ua] <;> rfl)); simp only [wantP, firstP, valP])) | (((with_reducible refine opsO_only (o := ?_) ?_ fun K3 hK3 => ?_); rotate_left 1; (focus (simp only [Uz, Ub, Ua] <;> rfl)); simp only [wantP, opP, Uw, Ux])) | ((with_reducible refine PW.condM fun X1 Y1 hX1 hY1 => ?_)) | (skip)); simp (disch := omega) only [St.eval, St.put, upd_app, iniT_app, avOf, avOf1, nom, cellsA, AV.okv, loadA, lenP, binP, intsP, intP, nilP, sliceP, boundLo, boundHi, builtinP, isMapA, slA, putCells, fillA, buildA, U7, U8, Ua, Ub, Uc, Ud, Uf, Ug, Uk, Un, Up, Uq, Ur, Us, Ut, Uu, V2, V3, V7, V8, V9, Ve, Vt, UU2, UU3, UU4, Vr, Vs, PmL, simprocAttr, PmT, h0', hc, retQ, resP, tupA, fg, fgs, condP, condB_t, condB_f, firstOk, List.mem_cons]; try (with_reducible (first | exact co_refl _ | exact co_own _ _ _ | exact co_nilsB | exact co_nilsL _ _)))))
  have h2' := eq_false h2
  have e0 : takeKeyS k b = if k = 1 then (if (Codec.takeKeyIntF (b.drop 1)).2.2 = 0 then (⟨1, false, (Codec.takeKeyIntF (b.drop 1)).1, []⟩, (b.drop 1).drop (Codec.takeKeyIntF (b.drop 1)).2.1.toNat, true) else (⟨1, false, 0, []⟩, [], false))
    else if k = 2 then (if (b.drop 1).length = 0 then (⟨2, false, 0, []⟩, [], false) else (⟨2, false, (b.drop 1).getD 0 0, []⟩, (b.drop 1).drop 1, true))
    else (if (Codec.tkL (b.drop 1)).2.2 = 0 then (⟨k, false, 0, (Codec.tkL (b.drop 1)).1⟩, (b.drop 1).drop (Codec.tkL (b.drop 1)).2.1.toNat, true) else (⟨k, false, 0, []⟩, [], false)) := by
    unfold takeKeyS
    rw [if_neg (by omega), if_neg (by rw [hc]; intro h; exact h2 (Option.some.inj h))]
  have hb1 : (b.drop 1).length ≤ 100000000 := by rw [List.length_drop]; omega
  have hr1 : Rng (b.drop 1) := fun x hx => hrb x (List.mem_of_mem_drop hx)
  obtain ⟨d, hd⟩ : ∃ d, b.drop 1 = d := ⟨_, rfl⟩
  rw [hd] at e0 hb1 hr1
  rw [e0]
  by_cases k1 : k = 1
  · subst k1
    rw [if_pos rfl]
    have hI := pRTakeKeyInt d
    have hW : (Codec.takeKeyIntF d).2.2 = 0 → 0 ≤ (Codec.takeKeyIntF d).2.1 ∧ (Codec.takeKeyIntF d).2.1 ≤ d.length := fun he => by
      unfold Codec.takeKeyIntF at he ⊢
      split at he
      · simp at he
      · rename_i hn
        rw [if_neg hn]
        simp only
        omega
    obtain ⟨⟨i, n, e⟩, hi⟩ : ∃ r, Codec.takeKeyIntF d = r := ⟨_, rfl⟩
    rw [hi] at hI hW ⊢
    simp only at hI hW ⊢
    by_cases he : e = 0
    · subst he
      obtain ⟨w1, w2⟩ := hW rfl
      rw [if_pos rfl]
      unfold XV.v XV.c
      simp only
      repeat' (first
        | (((with_reducible first | refine keepA_intro (keep1x _ _ _ _ _ _ _) ?_ | refine keepO_intro (.inl (keep1x _ _ _ _ _ _ _)) ?_)))
        | ((with_reducible (first
         | (refine PW.seq fun K1 hK1 => ?_) | (refine PW.region fun K2 hK2 => ?_) | ((refine hK3 _ ?_; clear hK3)) | ((refine opsP_nil ?_; refine hK2 _ ?_; clear hK2)) | ((refine Exists.intro _ (Exists.intro _ (And.intro rfl (And.intro rfl (And.intro ?_ ?_)))); focus omega)) | (refine PW.block ?_) | (refine PW.skip ?_)
         | (refine PW.ret ?_) | ((refine hX1 ?_; clear hX1 hY1; try simp only [hb])) | ((refine hY1 ?_; clear hX1 hY1; try simp only [hb])) | ((refine opsO_nil ?_; refine hK2 _ ?_; clear hK2)) )))
        | (((with_reducible refine cC_pure ?_ (hI) (fun _ => ?_)); (focus ((repeat' constructor) <;> (simp only [purAs, purA, Vf, Bool.and_self, h0', hc, h2', hd]; done)))))
        | (((with_reducible refine PW.draw (id := 14) mixed [1] [] [(0, true), (1, true), (2, true), (3, true), (4, false), (5, true), (6, true)] (by kernel_rfl) (by decide) fun K2 hK2 => ?_)))
        | ((simp only [thenP, blockP]; (try ((repeat (fail_if_success (with_reducible refine hK1 _ ?_)); clear hK1); (with_reducible refine hK1 _ ?_); clear hK1))))
        | (((first | (((with_reducible refine opsP_cons fun K3 hK3 => ?_); simp only [wantP, opP, valP, Ur, Us])) | (((with_reducible refine opsO_first (o := ?_) ?_ fun K3 hK3 => ?_); rotate_left 1; (focus (simp only [Uz, Ub, Ua] <;> rfl)); simp only [wantP, firstP, valP])) | (((with_reducible refine opsO_only (o := ?_) ?_ fun K3 hK3 => ?_); rotate_left 1; (focus (simp only [Uz, Ub, Ua] <;> rfl)); simp only [wantP, opP, Uw, Ux])) | ((with_reducible refine PW.condM fun X1 Y1 hX1 hY1 => ?_)) | (skip)); simp (disch := omega) only [St.eval, St.put, upd_app, iniT_app, avOf, avOf1, nom, cellsA, AV.okv, loadA, lenP, binP, intsP, intP, nilP, sliceP, boundLo, boundHi, builtinP, isMapA, slA, putCells, fillA, buildA, U7, U8, Ua, Ub, Uc, Ud, Uf, Ug, Uk, Un, Up, Uq, Ur, Us, Ut, Uu, Uv, V2, V3, V7, V8, V9, Ve, Vt, UU2, UU3, UU4, Vr, Vs, PmL, simprocAttr, PmT, h0', hc, h2', hd, retQ, resP, tupA, fg, fgs, condP, condB_t, condB_f, firstOk, List.mem_cons]; try (with_reducible (first | exact co_refl _ | exact co_own _ _ _ | exact co_nilsB | exact co_nilsL _ _)))))
    · have he' := eq_false he
      rw [if_neg he]
      unfold XV.v XV.c
      simp only
      repeat' (first
        | ((with_reducible (first
         | (refine PW.seq fun K1 hK1 => ?_) | (refine PW.region fun K2 hK2 => ?_) | ((refine hK3 _ ?_; clear hK3)) | ((refine opsP_nil ?_; refine hK2 _ ?_; clear hK2)) | ((refine Exists.intro _ (Exists.intro _ (And.intro rfl (And.intro rfl (And.intro ?_ ?_)))); focus omega)) | (refine PW.block ?_) | (refine PW.skip ?_)
         | (refine PW.ret ?_) | ((refine hX1 ?_; clear hX1 hY1; try simp only [hb])) | ((refine hY1 ?_; clear hX1 hY1; try simp only [hb])) )))
        | (((with_reducible refine cC_pure ?_ (hI) (fun _ => ?_)); (focus ((repeat' constructor) <;> (simp only [purAs, purA, Vf, Bool.and_self, h0', hc, h2', hd, he']; done)))))
        | ((simp only [thenP, blockP]; (try ((repeat (fail_if_success (with_reducible refine hK1 _ ?_)); clear hK1); (with_reducible refine hK1 _ ?_); clear hK1))))
        | (((first | (((with_reducible refine opsP_cons fun K3 hK3 => ?_); simp only [wantP, opP, valP, Ur, Us])) | ((with_reducible refine PW.condM fun X1 Y1 hX1 hY1 => ?_)) | (skip)); simp (disch := omega) only [St.eval, St.put, upd_app, iniT_app, avOf, avOf1, nom, cellsA, AV.okv, loadA, lenP, binP, intsP, intP, nilP, sliceP, boundLo, boundHi, builtinP, isMapA, slA, putCells, fillA, buildA, U7, U8, Ua, Ub, Uc, Ud, Uf, Ug, Uk, Un, Up, Uq, Ur, Us, Ut, Uu, Uv, V2, V3, V7, V8, V9, Vt, UU2, UU3, UU4, Vr, Vs, PmL, simprocAttr, PmT, h0', hc, h2', hd, he', retQ, resP, tupA, fg, fgs, condP, condB_t, condB_f]; try (with_reducible (first | exact co_refl _ | exact co_own _ _ _ | exact co_nilsB | exact co_nilsL _ _)))))
      exact co_tk _ _
  have k1' := eq_false k1
  rw [if_neg k1]
  by_cases k2 : k = 2
  · subst k2
    rw [if_pos rfl]
    by_cases hd0 : (d.length : Int) = 0
    · have hd0' := eq_true hd0
      rw [if_pos (by omega)]
      unfold XV.v XV.c
      simp only
      repeat' (first
        | ((with_reducible (first
         | (refine PW.seq fun K1 hK1 => ?_) | (refine PW.region fun K2 hK2 => ?_) | ((refine hK3 _ ?_; clear hK3)) | ((refine opsP_nil ?_; refine hK2 _ ?_; clear hK2)) | ((refine Exists.intro _ (Exists.intro _ (And.intro rfl (And.intro rfl (And.intro ?_ ?_)))); focus omega)) | (refine PW.block ?_) | (refine PW.skip ?_)
         | (refine PW.ret ?_) | ((refine hX1 ?_; clear hX1 hY1; try simp only [hb])) | ((refine hY1 ?_; clear hX1 hY1; try simp only [hb])) )))
        | ((simp only [thenP, blockP]; (try ((repeat (fail_if_success (with_reducible refine hK1 _ ?_)); clear hK1); (with_reducible refine hK1 _ ?_); clear hK1))))
        | (((first | (((with_reducible refine opsP_cons fun K3 hK3 => ?_); simp only [wantP, opP, valP, Ur, Us])) | ((with_reducible refine PW.condM fun X1 Y1 hX1 hY1 => ?_)) | (skip)); simp (disch := omega) only [St.eval, St.put, upd_app, iniT_app, avOf, avOf1, nom, cellsA, AV.okv, loadA, lenP, binP, intsP, intP, nilP, sliceP, boundLo, boundHi, builtinP, isMapA, slA, putCells, fillA, buildA, U7, U8, Ua, Ub, Uc, Ud, Uf, Ug, Uk, Un, Up, Uq, Ur, Us, Ut, Uu, V2, V3, V7, V8, V9, Vt, UU2, UU3, UU4, Vr, Vs, PmL, simprocAttr, PmT, h0', hc, h2', hd, hd0', retQ, resP, tupA, fg, fgs, condP, condB_t, condB_f]; try (with_reducible (first | exact co_refl _ | exact co_own _ _ _ | exact co_nilsB | exact co_nilsL _ _)))))
      exact co_tk _ _
    · have hd0' := eq_false hd0
      obtain ⟨c2, hc2⟩ : ∃ c, d[0]? = some c := ⟨_, List.getElem?_eq_getElem (by omega)⟩
      have hcr := hr1 c2 (List.mem_of_getElem? hc2)
      have hwc : IntKind.i64.wrap c2 = c2 := IntWalk.i64_in c2 (by omega)
      rw [if_neg (by omega), List.getD_eq_getElem?_getD, hc2, Option.getD_some]
      unfold XV.v XV.c
      simp only
      repeat' (first
        | (((with_reducible first | refine keepA_intro (keep1x _ _ _ _ _ _ _) ?_ | refine keepO_intro (.inl (keep1x _ _ _ _ _ _ _)) ?_)))
        | ((with_reducible (first
         | (refine PW.seq fun K1 hK1 => ?_) | (refine PW.region fun K2 hK2 => ?_) | ((refine hK3 _ ?_; clear hK3)) | ((refine opsP_nil ?_; refine hK2 _ ?_; clear hK2)) | ((refine Exists.intro _ (Exists.intro _ (And.intro rfl (And.intro rfl (And.intro ?_ ?_)))); focus omega)) | (refine PW.block ?_) | (refine PW.skip ?_)
         | (refine PW.ret ?_) | ((refine hX1 ?_; clear hX1 hY1; try simp only [hb])) | ((refine hY1 ?_; clear hX1 hY1; try simp only [hb])) | ((refine opsO_nil ?_; refine hK2 _ ?_; clear hK2)) )))
        | (((with_reducible refine PW.draw (id := 19) mixed [1] [] [(0, true), (1, true), (2, true), (3, false), (4, true), (5, true)] (by kernel_rfl) (by decide) fun K2 hK2 => ?_)))
        | ((simp only [thenP, blockP]; (try ((repeat (fail_if_success (with_reducible refine hK1 _ ?_)); clear hK1); (with_reducible refine hK1 _ ?_); clear hK1))))
        | (((first | (((with_reducible refine opsP_cons fun K3 hK3 => ?_); simp only [wantP, opP, valP, Ur, Us])) | (((with_reducible refine opsO_first (o := ?_) ?_ fun K3 hK3 => ?_); rotate_left 1; (focus (simp only [Uz, Ub, Ua] <;> rfl)); simp only [wantP, firstP, valP])) | (((with_reducible refine opsO_only (o := ?_) ?_ fun K3 hK3 => ?_); rotate_left 1; (focus (simp only [Uz, Ub, Ua] <;> rfl)); simp only [wantP, opP, Uw, Ux])) | ((with_reducible refine PW.condM fun X1 Y1 hX1 hY1 => ?_)) | (skip)); simp (disch := omega) only [St.eval, St.put, upd_app, iniT_app, avOf, avOf1, nom, cellsA, AV.okv, loadA, lenP, binP, intsP, intP, nilP, convP, sliceP, boundLo, boundHi, builtinP, isMapA, slA, putCells, fillA, buildA, U7, U8, Ua, Ub, Uc, Ud, Uf, Ug, Uk, Un, Up, Uq, Ur, Us, Ut, Uu, V2, V3, V7, V8, V9, Ve, Vt, UU2, UU3, UU4, Vr, Vs, PmL, simprocAttr, PmT, h0', hc, h2', hd, hd0', hc2, hwc, retQ, resP, tupA, fg, fgs, condP, condB_t, condB_f, firstOk, List.mem_cons]; try (with_reducible (first | exact co_refl _ | exact co_own _ _ _ | exact co_nilsB | exact co_nilsL _ _)))))
  have k2' := eq_false k2
  rw [if_neg k2]
  have hI := pRTakeKeyText d (by omega)
  have hW : 0 ≤ (Codec.tkL d).2.1 ∧ (Codec.tkL d).2.1 ≤ d.length := ⟨(tkL_bd d).1, (tkL_bd d).2.1⟩
  obtain ⟨⟨i, n, e⟩, hi⟩ : ∃ r, Codec.tkL d = r := ⟨_, rfl⟩
  rw [hi] at hI hW ⊢
  simp only at hI hW ⊢
  obtain ⟨w1, w2⟩ := hW
  by_cases he : e = 0
  · subst he
    rw [if_pos rfl]
    unfold XV.v XV.c
    simp only
    repeat' (first
      | (((with_reducible first | refine keepA_intro (keep1x _ _ _ _ _ _ _) ?_ | refine keepO_intro (.inl (keep1x _ _ _ _ _ _ _)) ?_)))
      | ((with_reducible (first
       | (refine PW.seq fun K1 hK1 => ?_) | (refine PW.region fun K2 hK2 => ?_) | ((refine hK3 _ ?_; clear hK3)) | ((refine opsP_nil ?_; refine hK2 _ ?_; clear hK2)) | ((refine Exists.intro _ (Exists.intro _ (And.intro rfl (And.intro rfl (And.intro ?_ ?_)))); focus omega)) | (refine PW.block ?_) | (refine PW.skip ?_)
       | (refine PW.ret ?_) | ((refine hY1 ?_; clear hX1 hY1; try simp only [hb])) | ((refine opsO_nil ?_; refine hK2 _ ?_; clear hK2)) )))
      | (((with_reducible refine cC_pure ?_ (hI) (fun _ => ?_)); (focus ((repeat' constructor) <;> (simp only [purAs, purA, Vf, Bool.and_self, h0', hc, h2', hd, k1', k2']; done)))))
      | (((with_reducible refine PW.draw (id := 24) mixed [1] [] [(0, true), (1, true), (2, true), (3, true), (4, false), (5, true), (6, true)] (by kernel_rfl) (by decide) fun K2 hK2 => ?_)))
      | ((simp only [thenP, blockP]; (try ((repeat (fail_if_success (with_reducible refine hK1 _ ?_)); clear hK1); (with_reducible refine hK1 _ ?_); clear hK1))))
      | (((first | (((with_reducible refine opsP_cons fun K3 hK3 => ?_); simp only [wantP, opP, valP, Ur, Us])) | (((with_reducible refine opsO_first (o := ?_) ?_ fun K3 hK3 => ?_); rotate_left 1; (focus (simp only [Uz, Ub, Ua] <;> rfl)); simp only [wantP, firstP, valP])) | (((with_reducible refine opsO_only (o := ?_) ?_ fun K3 hK3 => ?_); rotate_left 1; (focus (simp only [Uz, Ub, Ua] <;> rfl)); simp only [wantP, opP, Uw, Ux])) | ((with_reducible refine PW.condM fun X1 Y1 hX1 hY1 => ?_)) | (skip)); simp (disch := omega) only [St.eval, St.put, upd_app, iniT_app, avOf, avOf1, nom, cellsA, AV.okv, loadA, lenP, binP, intsP, intP, nilP, convP, sliceP, boundLo, boundHi, builtinP, isMapA, slA, putCells, fillA, buildA, U7, U8, Ua, Ub, Uc, Ud, Uf, Ug, Uk, Un, Up, Uq, Ur, Us, Ut, Uu, Uv, V2, V3, V7, V8, V9, Ve, Vt, UU2, UU3, UU4, Vr, Vs, PmL, simprocAttr, PmT, h0', hc, h2', hd, k1', k2', retQ, resP, tupA, fg, fgs, condP, condB_f, firstOk, List.mem_cons]; try (with_reducible (first | exact co_refl _ | exact co_own _ _ _ | exact co_nilsB | exact co_nilsL _ _)))))
  · have he' := eq_false he
    rw [if_neg he]
    unfold XV.v XV.c
    simp only
    repeat' (first
      | ((with_reducible (first
       | (refine PW.seq fun K1 hK1 => ?_) | (refine PW.region fun K2 hK2 => ?_) | ((refine hK3 _ ?_; clear hK3)) | ((refine opsP_nil ?_; refine hK2 _ ?_; clear hK2)) | ((refine Exists.intro _ (Exists.intro _ (And.intro rfl (And.intro rfl (And.intro ?_ ?_)))); focus omega)) | (refine PW.block ?_) | (refine PW.skip ?_)
       | (refine PW.ret ?_) | ((refine hX1 ?_; clear hX1 hY1; try simp only [hb])) | ((refine hY1 ?_; clear hX1 hY1; try simp only [hb])) )))
      | (((with_reducible refine cC_pure ?_ (hI) (fun _ => ?_)); (focus ((repeat' constructor) <;> (simp only [purAs, purA, Vf, Bool.and_self, h0', hc, h2', hd, he', k1', k2']; done)))))
      | ((simp only [thenP, blockP]; (try ((repeat (fail_if_success (with_reducible refine hK1 _ ?_)); clear hK1); (with_reducible refine hK1 _ ?_); clear hK1))))
      | (((first | (((with_reducible refine opsP_cons fun K3 hK3 => ?_); simp only [wantP, opP, valP, Ur, Us])) | ((with_reducible refine PW.condM fun X1 Y1 hX1 hY1 => ?_)) | (skip)); simp (disch := omega) only [St.eval, St.put, upd_app, iniT_app, avOf, avOf1, nom, cellsA, AV.okv, loadA, lenP, binP, intsP, intP, nilP, sliceP, boundLo, boundHi, builtinP, isMapA, slA, putCells, fillA, buildA, U7, U8, Ua, Ub, Uc, Ud, Uf, Ug, Uk, Un, Up, Uq, Ur, Us, Ut, Uu, Uv, V2, V3, V7, V8, V9, Vt, UU2, UU3, UU4, Vr, Vs, PmL, simprocAttr, PmT, h0', hc, h2', hd, he', k1', k2', retQ, resP, tupA, fg, fgs, condP, condB_t, condB_f]; try (with_reducible (first | exact co_refl _ | exact co_own _ _ _ | exact co_nilsB | exact co_nilsL _ _)))))
    exact co_tk _ _
def takenS (T : Tb) : List Int → List XV × List Int → List XV × Option (List Int)
  | [], x => (x.1, some x.2)
  | i :: l, x => if (takeKeyS (tyAt T i) x.2).2.2 = true then takenS T l (x.1.set i.toNat (takeKeyS (tyAt T i) x.2).1, (takeKeyS (tyAt T i) x.2).2.1) else (x.1, none)
theorem takenS_cons (T : Tb) (i : Int) (l : List Int) (x : List XV × List Int) : takenS T (i :: l) x = if (takeKeyS (tyAt T i) x.2).2.2 = true then takenS T l (x.1.set i.toNat (takeKeyS (tyAt T i) x.2).1, (takeKeyS (tyAt T i) x.2).2.1) else (x.1, none) := rfl
theorem takenS_nil (T : Tb) (x : List XV × List Int) : takenS T [] x = (x.1, some x.2) := rfl
theorem takenS_app (T : Tb) (m : List Int) : ∀ (l : List Int) (x : List XV × List Int), takenS T (l ++ m) x = match takenS T l x with
    | (R, some b) => takenS T m (R, b)
    | (R, none) => (R, none)
  | [], x => rfl
  | i :: l, x => by
    rw [List.cons_append, takenS_cons, takenS_cons]
    split
    · exact takenS_app T m l _
    · rfl
theorem takeKeyS_len (k : Int) (b : List Int) : (takeKeyS k b).2.1.length ≤ b.length := by
  unfold takeKeyS
  split
  · simp
  · split
    · simp
    · split
      · split
        · simp
        · simp
      · split
        · split
          · simp
          · simp
        · split
          · simp
          · simp
theorem takenS_len (T : Tb) : ∀ (l : List Int) (x : List XV × List Int), (takenS T l x).1.length = x.1.length ∧ ∀ b, (takenS T l x).2 = some b → b.length ≤ x.2.length
  | [], x => ⟨rfl, fun b h => by unfold takenS at h; cases h; exact Nat.le_refl _⟩
  | i :: l, x => by
    unfold takenS
    split
    · have ih := takenS_len T l (x.1.set i.toNat (takeKeyS (tyAt T i) x.2).1, (takeKeyS (tyAt T i) x.2).2.1)
      have h1 := takeKeyS_len (tyAt T i) x.2
      simp only [List.length_set] at ih
      exact ⟨ih.1, fun b h => Nat.le_trans (ih.2 b h) h1⟩
    · exact ⟨rfl, fun b h => by cases h⟩
def tkR (x : List XV × Option (List Int)) : AV := .tup [bs (x.2.getD []), .d (.bool x.2.isSome)]
abbrev vM (R : List XV) : Mem := ⟨[some (47, cX R)], []⟩
theorem keep2x (a a' b c : Option (TypeId × List AV)) (l l' : List (Option (TypeId × List AV))) (r r' : List (Option RowI)) : keepL [2] ⟨a :: b :: c :: l, r⟩ ⟨a' :: b :: c :: l', r'⟩ := fun id h => by
  obtain rfl := List.mem_singleton.1 h
  rfl
theorem keep01x (a b : Option (TypeId × List AV)) (l l' : List (Option (TypeId × List AV))) (r r' : List (Option RowI)) : keepL [0, 1] ⟨a :: b :: l, r⟩ ⟨a :: b :: l', r'⟩ := fun id h => by
  simp only [List.mem_cons, List.not_mem_nil, or_false] at h
  rcases h with rfl | rfl <;> rfl
theorem end_boxE {e : TypeId} {cs : List AV} {bx : List (Option (TypeId × List AV))} {r r' : AV} {rw_ : List (Option RowI)} (hr : Co r r') (h : fgs 1 0 cs = cs) : Co r r' ∧ SubM ⟨some (e, cs) :: bx, rw_⟩ ⟨[some (e, cs)], []⟩ := ⟨hr, (end_box (r := r) h).2⟩
theorem co_nt (b : AV) : Co (.tup [.nils, b]) (.tup [bs [], b]) := by
  have h : Co .nils (bs []) := co_nilsB
  unfold Co
  exact ⟨_, rfl, cos_cons h (cos_refl _)⟩
set_option maxHeartbeats 4000000 in
theorem pRTaken (T : Tb) (l : List Int) (R : List XV) (b : List Int) (hl : ∀ i ∈ l, 0 ≤ i ∧ i < T.cols.length) (hR : R.length = T.cols.length) (hst : b.length ≤ 100000000) :
    PFun Tryd.prog 50 [T.v, il l, bs b, .bsl 0 0 R.length R.length 4] (vM R) (tkR (takenS T l (R, b))) (vM (takenS T l (R, b)).1) := by
  refine fun_intro Tryd.func50 rfl rfl rfl 46 rfl ⟨by simp, Nat.le_refl _⟩ (fun hh => ?_)
  have hml : maxLen = 9223372036854775807 := rfl
  have hll := (has_sl (hh (il l) (by simp))).1
  rw [encL_len] at hll
  have hTy : ∀ i : Nat, ∀ c : Col, T.cols[i]? = some c → tyAt T i = c.ty := fun i c h => by unfold tyAt; rw [Int.toNat_natCast, List.getD_eq_getElem?_getD, h]; rfl
  obtain ⟨nR, hnR⟩ : ∃ n, R.length = n := ⟨_, rfl⟩
  rw [hnR]
  have hK := fun k : Nat => takenS_len T (l.take k) (R, b)
  have hsn := fun (k : Nat) => takenS_app T (l.drop k) (l.take k) (R, b)
  simp only [List.take_append_drop] at hsn
  have hs1 := fun (k : Nat) (x : Int) (_ : l[k]? = some x) => takenS_app T [x] (l.take k) (R, b)
  obtain ⟨tid, tnm, tcols, tkey, tix⟩ := T
  simp only at hR hl hTy
  repeat' (first
    | ((with_reducible (first
     | (refine PW.seq fun K1 hK1 => ?_) | (refine PW.region fun K2 hK2 => ?_) | ((refine hK3 _ ?_; clear hK3)) | ((refine opsP_nil ?_; refine hK2 _ ?_; clear hK2)) | (refine PW.block ?_) 
     )))
    | ((simp only [thenP]; (try ((repeat (fail_if_success (with_reducible refine hK1 _ ?_)); clear hK1); (with_reducible refine hK1 _ ?_); clear hK1))))
    | (((first | (((with_reducible refine opsP_cons fun K3 hK3 => ?_); simp only [wantP, opP, valP])) | (skip)); simp (disch := omega) only [St.eval, St.put, iniT_app, avOf, avOf1, cellsA, AV.okv, U7, Uf, Ug, Ut, Uu, V9, PmL, simprocAttr, Tb.v, Tb.c]; try (with_reducible (first | exact co_refl _ | exact co_own _ _ _ | exact co_nilsB | exact co_nilsL _ _)))))
  (with_reducible refine PW.loop (fun n s => ∃ (k : Nat) (Rk : List XV) (bk : List Int), s.t 1 = il l ∧ s.t 2 = bs bk ∧ s.t 3 = .bsl 0 0 nR nR 4 ∧ s.t 4 = .ptr 1 0 ∧ s.t 10 = .d (.int .i64 k) ∧ s.n = 46 ∧ s.m = ⟨[some (47, cX Rk), some (26, Tb.c ⟨tid, tnm, tcols, tkey, tix⟩)], []⟩ ∧ k ≤ l.length ∧ takenS ⟨tid, tnm, tcols, tkey, tix⟩ (l.take k) (R, b) = (Rk, some bk) ∧ n = l.length - k) l.length ?_ ?_)
  · exact ⟨0, R, b, rfl, rfl, rfl, rfl, rfl, rfl, rfl, Nat.zero_le _, rfl, rfl⟩
  rintro n ⟨t, nn, m⟩ ⟨k, Rk, bk, h1, h2, h3, h4, h10, hn, hm, hk, htk, hnk⟩ - -
  simp only at h1 h2 h3 h4 h10 hn hm
  subst hn hm hnk
  by_cases hlt : (k : Int) < l.length
  · have hlt' := eq_true hlt
    obtain ⟨x, hx⟩ : ∃ x, l[k]? = some x := ⟨_, List.getElem?_eq_getElem (by omega)⟩
    have hxr := hl x (List.mem_of_getElem? hx)
    have hw : IntKind.i64.wrap ((k : Int) + 1) = k + 1 := IntWalk.i64_in ((k : Int) + 1) (by omega)
    have hs := hs1 k x hx
    have hall := hsn k
    rw [dropG hx] at hall
    obtain ⟨i, rfl⟩ : ∃ i : Nat, x = i := ⟨x.toNat, by omega⟩
    obtain ⟨c, hc⟩ : ∃ c, tcols[i]? = some c := ⟨_, List.getElem?_eq_getElem (by omega)⟩
    have hty := hTy i c hc
    have hkl := hK k
    rw [htk] at hs hall hkl
    simp only at hs hall hkl
    have hkl1 := hkl.1
    have hkl2 := hkl.2 bk rfl
    have ht : l.take (k + 1) = l.take k ++ [(i : Int)] := by rw [List.take_add_one, hx, Option.toList_some]
    rw [← ht] at hs
    have hV := pRTakeKey bk c.ty (by omega)
    rw [takenS_cons, hty] at hs hall
    simp only at hs hall
    obtain ⟨⟨⟨xa, xb, xc, xd⟩, l2, ok⟩, hv⟩ : ∃ r, takeKeyS c.ty bk = r := ⟨_, rfl⟩
    rw [hv] at hV hs hall
    unfold XV.v XV.c at hV
    simp only at hV hs hall
    rw [Int.toNat_natCast] at hs
    have hset := cX_set Rk i xa xb xc xd (by omega)
    have hcl := cX_len Rk
    have hil : (i : Int) < nR := by omega
    cases ok
    · rw [if_neg (by simp)] at hall
      repeat' (first
        | (((with_reducible first | refine keepA_intro (keep1x _ _ _ _ _ _ _) ?_ | refine keepO_intro (.inl (keep1x _ _ _ _ _ _ _)) ?_ | refine keepA_intro (keep2x _ _ _ _ _ _ _ _) ?_ | refine keepO_intro (.inl (keep2x _ _ _ _ _ _ _ _)) ?_)))
        | ((with_reducible (first
         | (refine PW.seq fun K1 hK1 => ?_) | (refine PW.region fun K2 hK2 => ?_) | ((refine hK3 _ ?_; clear hK3)) | ((refine opsP_nil ?_; refine hK2 _ ?_; clear hK2)) | (refine PW.block ?_) | (refine PW.skip ?_)
         | (refine PW.ret ?_) | ((refine hX1 ?_; clear hX1 hY1; try simp only [hb])) | ((refine opsO_nil ?_; refine hK2 _ ?_; clear hK2)) )))
        | (((with_reducible refine fC_call ?_ (hV) ?_); (focus ((repeat' constructor) <;> (simp only [purAs, purA, Vf, Bool.and_self, Tb.c, h1, h2, h3, h4, h10, hlt', hx, hc, hw, eI, Col.c, hset, hcl]; done)))))
        | (((with_reducible refine PW.draw (id := 4) mixed [1] [] [(0, true), (1, true), (2, true), (3, true), (4, true), (5, true), (6, true), (7, true), (8, true), (9, true), (10, true), (11, true), (12, true), (13, true), (14, true), (15, false), (16, false), (17, true), (18, true)] (by kernel_rfl) (by decide) fun K2 hK2 => ?_)))
        | (((with_reducible refine And.intro ?_ ?_); (focus (first | omega | (simp; done) | assumption))))
        | ((simp only [thenP, blockP]; (try ((repeat (fail_if_success (with_reducible refine hK1 _ ?_)); clear hK1); (with_reducible refine hK1 _ ?_); clear hK1))))
        | (((first | (((with_reducible refine opsP_cons fun K3 hK3 => ?_); simp only [wantP, opP, valP, Ur, Us])) | (((with_reducible refine opsO_first (o := ?_) ?_ fun K3 hK3 => ?_); rotate_left 1; (focus (simp only [Uz, Ub, Ua] <;> rfl)); simp only [wantP, firstP, valP, Ur, Us])) | (((with_reducible refine opsO_only (o := ?_) ?_ fun K3 hK3 => ?_); rotate_left 1; (focus (simp only [Uz, Ub, Ua] <;> rfl)); simp only [wantP, opP, Uw, Ux])) | ((with_reducible refine PW.condM fun X1 Y1 hX1 hY1 => ?_)) | (skip)); simp (disch := omega) only [St.eval, St.put, upd_app, avOf, avOf1, cellsA, AV.okv, loadA, lenP, binP, intsP, intP, nilP, unP, builtinP, isMapA, slA, putCells, Ua, Ub, Uc, Ud, Uf, Ug, Uk, Ul, Ur, Us, Ut, Uu, Uv, V2, V7, V9, Ve, Vr, PmL, simprocAttr, PmT, Tb.c, h1, h2, h4, h10, hlt', hx, hc, eI, Col.c, retQ, resP, tupA, fg, fgs, condP, condB_t, firstOk, List.mem_cons]; try (with_reducible (first | exact co_refl _ | exact co_own _ _ _ | exact co_nilsB | exact co_nilsL _ _)))))
      all_goals (rw [hall]; exact end_boxE (co_nt _) (cX_fgs _ _ _))
    · rw [if_pos rfl] at hs
      rw [takenS_nil] at hs
      simp only at hs
      repeat' (first
        | (((with_reducible first | refine keepA_intro (keep1x _ _ _ _ _ _ _) ?_ | refine keepO_intro (.inl (keep1x _ _ _ _ _ _ _)) ?_ | refine keepA_intro (keep2x _ _ _ _ _ _ _ _) ?_ | refine keepO_intro (.inl (keep2x _ _ _ _ _ _ _ _)) ?_)))
        | ((with_reducible (first
         | (refine PW.seq fun K1 hK1 => ?_) | (refine PW.region fun K2 hK2 => ?_) | ((refine hK3 _ ?_; clear hK3)) | ((refine opsP_nil ?_; refine hK2 _ ?_; clear hK2)) | (refine PW.block ?_) | (refine PW.skip ?_)
         | ((refine hX1 ?_; clear hX1 hY1; try simp only [hb])) | ((refine hY1 ?_; clear hX1 hY1; try simp only [hb])) | ((refine opsO_nil ?_; refine hK2 _ ?_; clear hK2)) )))
        | (((with_reducible refine fC_call ?_ (hV) ?_); (focus ((repeat' constructor) <;> (simp only [purAs, purA, Vf, Bool.and_self, Tb.c, h1, h2, h3, h4, h10, hlt', hx, hc, hw, eI, Col.c, hset, hcl]; done)))))
        | (((with_reducible refine PW.draw (id := 4) mixed [1] [] [(0, true), (1, true), (2, true), (3, true), (4, true), (5, true), (6, true), (7, true), (8, true), (9, true), (10, true), (11, true), (12, true), (13, true), (14, true), (15, false), (16, false), (17, true), (18, true)] (by kernel_rfl) (by decide) fun K2 hK2 => ?_)))
        | (((with_reducible refine PW.draw (id := 7) mixed [2] [7] [(0, true), (1, true), (2, true), (3, true), (4, true), (5, true), (6, true), (7, false)] (by kernel_rfl) (by decide) fun K2 hK2 => ?_)))
        | (((with_reducible refine And.intro ?_ ?_); (focus (first | omega | (simp; done) | assumption))))
        | ((simp only [thenP, blockP]; (try ((repeat (fail_if_success (with_reducible refine hK1 _ ?_)); clear hK1); (with_reducible refine hK1 _ ?_); clear hK1))))
        | (((first | (((with_reducible refine opsP_cons fun K3 hK3 => ?_); simp only [wantP, opP, valP, Ur, Us])) | (((with_reducible refine opsO_first (o := ?_) ?_ fun K3 hK3 => ?_); rotate_left 1; (focus (simp only [Uz, Ub, Ua] <;> rfl)); simp only [wantP, firstP, valP, Ur, Us])) | (((with_reducible refine opsO_only (o := ?_) ?_ fun K3 hK3 => ?_); rotate_left 1; (focus (simp only [Uz, Ub, Ua] <;> rfl)); simp only [wantP, opP, Uw, Ux])) | ((with_reducible refine PW.condM fun X1 Y1 hX1 hY1 => ?_)) | (skip)); simp (disch := omega) only [St.eval, St.put, upd_app, avOf, avOf1, cellsA, AV.okv, loadA, lenP, binP, intsP, intP, nilP, unP, builtinP, isMapA, slA, putCells, Ua, Ub, Uc, Ud, Uf, Ug, Uk, Ul, Un, Up, Ur, Us, Ut, Uu, Uv, V2, V7, V9, Ve, Vr, PmL, simprocAttr, PmT, Tb.c, h1, h2, h3, h4, h10, hlt', hx, hc, hw, eI, Col.c, hset, hcl, condP, condB_t, condB_f, firstOk, List.mem_cons]; try (with_reducible (first | exact co_refl _ | exact co_own _ _ _ | exact co_nilsB | exact co_nilsL _ _)))))
      refine ⟨l.length - (k + 1), by omega, k + 1, Rk.set i ⟨xa, xb, xc, xd⟩, l2, ?_, ?_, ?_, ?_, ?_, ?_, ?_, by omega, hs, rfl⟩
      all_goals (simp only [St.cut, Mem.cut, fg, fgs, upd_app, Nat.reduceEqDiff, ↓reduceIte, List.take_nil, List.map_nil, List.take_succ_cons, List.take_zero, List.map_cons, Option.map_some, Nat.reduceLT, Int.natCast_add, Int.cast_ofNat_Int, h1, h3, h4, cX_fgs]; try rfl)
  have hkl : k = l.length := by omega
  subst hkl
  have hlt' := eq_false hlt
  rw [List.take_length] at htk
  repeat' (first
    | ((with_reducible (first
     | (refine PW.seq fun K1 hK1 => ?_) | (refine PW.region fun K2 hK2 => ?_) | ((refine hK3 _ ?_; clear hK3)) | ((refine opsP_nil ?_; refine hK2 _ ?_; clear hK2)) 
     | (refine PW.exit ?_) | (refine PW.ret ?_) | ((refine hY1 ?_; clear hX1 hY1; try simp only [hb])) )))
    | ((simp only [thenP, blockP, ↓reduceIte]; (try ((repeat (fail_if_success (with_reducible refine hK1 _ ?_)); clear hK1); (with_reducible refine hK1 _ ?_); clear hK1))))
    | (((first | (((with_reducible refine opsP_cons fun K3 hK3 => ?_); simp only [wantP, opP, valP, Ur, Us])) | ((with_reducible refine PW.condM fun X1 Y1 hX1 hY1 => ?_)) | (skip)); simp (disch := omega) only [St.eval, St.put, upd_app, avOf, avOf1, lenP, binP, intsP, intP, nilP, builtinP, isMapA, slA, Uf, Ug, V9, Ve, PmL, simprocAttr, PmT, h1, h2, h10, hlt', retQ, resP, tupA, fg, fgs, condP, condB_f]; try (with_reducible (first | exact co_refl _ | exact co_own _ _ _ | exact co_nilsB | exact co_nilsL _ _)))))
  all_goals (rw [htk]; exact end_boxE (co_refl _) (cX_fgs _ _ _))
theorem byteS_bad {st : Rdr} (h : st.2 = true) : (byteS st).2.2 = true := by
  obtain ⟨l, bad⟩ := st
  cases l with
  | nil => rfl
  | cons c l => exact h
theorem wentS_bad {st : Rdr} (m e : Int) (h : st.2 = true) : (wentS st m e).2 = true := by
  unfold wentS
  simp [h]
theorem valS_bad (td : List Int → List Int × Int × Int) (nb k : Int) {st : Rdr} (h : (byteS st).2.2 = true) : (valS td nb k st).2.2 = true := by
  unfold valS
  split
  · exact h
  · split
    · exact wentS_bad _ _ h
    · split
      · exact byteS_bad h
      · exact wentS_bad _ _ h
theorem keysS_bad (T : Tb) : ∀ (l : List Int) (x : List XV × Rdr), x.2.2 = true → (keysS T l x).2.2 = true
  | [], x, h => h
  | i :: l, x, h => by
    unfold keysS
    exact keysS_bad T l _ (valS_bad _ _ _ (byteS_bad h))
/-- one key's column -/
theorem takeKey_val (k : Int) (b : List Int) : ((takeKeyS k b).2.2 = false ∧ (valS Codec.tkL 2 k (b, false)).2.2 = true) ∨ takeKeyS k b = ((valS Codec.tkL 2 k (b, false)).1, (valS Codec.tkL 2 k (b, false)).2.1, true) ∧ (valS Codec.tkL 2 k (b, false)).2.2 = false := by
  cases b with
  | nil => exact .inl ⟨rfl, valS_bad _ _ _ rfl⟩
  | cons c b =>
    by_cases h2 : c = 2
    · subst h2
      exact .inr ⟨by simp [takeKeyS, valS, byteS], by simp [valS, byteS]⟩
    by_cases k1 : k = 1
    · subst k1
      by_cases he : (Codec.takeKeyIntF b).2.2 = 0
      · exact .inr ⟨by simp [takeKeyS, valS, byteS, h2, he, wentS], by simp [valS, byteS, h2, he, wentS]⟩
      · exact .inl ⟨by simp [takeKeyS, h2, he], by simp [valS, byteS, h2, he, wentS]⟩
    by_cases k2 : k = 2
    · subst k2
      cases b with
      | nil => exact .inl ⟨by simp [takeKeyS, h2], by simp [valS, byteS, h2]⟩
      | cons d b => exact .inr ⟨by simp [takeKeyS, valS, byteS, h2], by simp [valS, byteS, h2]⟩
    by_cases he : (Codec.tkL b).2.2 = 0
    · exact .inr ⟨by simp [takeKeyS, valS, byteS, h2, k1, k2, he, wentS], by simp [valS, byteS, h2, k1, k2, he, wentS]⟩
    · exact .inl ⟨by simp [takeKeyS, h2, k1, k2, he], by simp [valS, byteS, h2, k1, k2, he, wentS]⟩
theorem taken_keys (T : Tb) : ∀ (l : List Int) (R : List XV) (b : List Int), ((takenS T l (R, b)).2 = none ∧ (keysS T l (R, b, false)).2.2 = true) ∨ takenS T l (R, b) = ((keysS T l (R, b, false)).1, some (keysS T l (R, b, false)).2.1) ∧ (keysS T l (R, b, false)).2.2 = false
  | [], R, b => .inr ⟨rfl, rfl⟩
  | i :: l, R, b => by
    rw [takenS_cons]
    unfold keysS
    simp only
    rcases takeKey_val (tyAt T i) b with ⟨h1, h2⟩ | ⟨h1, h2⟩
    · rw [if_neg (by rw [h1]; simp)]
      exact .inl ⟨rfl, keysS_bad T l _ h2⟩
    · rw [if_pos (by rw [h1]), h1]
      simp only
      have ih := taken_keys T l (R.set i.toNat (valS Codec.tkL 2 (tyAt T i) (b, false)).1) (valS Codec.tkL 2 (tyAt T i) (b, false)).2.1
      have e : (valS Codec.tkL 2 (tyAt T i) (b, false)).2 = ((valS Codec.tkL 2 (tyAt T i) (b, false)).2.1, false) := Prod.ext rfl h2
      rw [e]
      exact ih
end PM
end Go.Proofs.YtfkemeamimcnjaaDoor
