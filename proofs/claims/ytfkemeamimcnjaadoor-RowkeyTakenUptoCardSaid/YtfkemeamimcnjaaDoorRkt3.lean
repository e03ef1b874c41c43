/- rowkey in the abstract: the reader: a byte, a value. rowkey in the abstract: the reader's keys. -/
import Derived.Test.YtfkemeamimcnjaaDoorRkt1
namespace Go.Proofs.YtfkemeamimcnjaaDoor
open Go.RowKit
set_option maxRecDepth 100000
namespace PM
theorem end_box {e : TypeId} {cs : List AV} {bx : List (Option (TypeId × List AV))} {r : AV} {rw_ : List (Option RowI)} (h : fgs 1 0 cs = cs) : Co r r ∧ SubM ⟨some (e, cs) :: bx, rw_⟩ ⟨[some (e, cs)], []⟩ := by
  refine ⟨co_refl _, by simp, by simp, fun j e1 cs1 hj => ?_, fun j i hj => by simp at hj⟩
  cases j with
  | zero =>
    simp at hj
    obtain ⟨rfl, rfl⟩ := hj
    exact ⟨cs, rfl, by show Cos (fgs 1 0 cs) cs; rw [h]; exact cos_refl _⟩
  | succ j => simp at hj
abbrev rdM (st : Rdr) : Mem := ⟨[some (79, rdC st)], []⟩
theorem byteS_nil {l : List Int} (bad : Bool) (h : l.length = 0) : byteS (l, bad) = (0, [], true) := by
  rw [List.eq_nil_of_length_eq_zero h]; rfl
theorem byteS_cons {l : List Int} {c : Int} (bad : Bool) (h : l[0]? = some c) : byteS (l, bad) = (c, l.drop 1, bad) := by
  cases l with
  | nil => simp at h
  | cons x l => simp at h; subst h; rfl
theorem byteS_rng {st : Rdr} (h : Rng st.1) : (0 ≤ (byteS st).1 ∧ (byteS st).1 ≤ 255) ∧ Rng (byteS st).2.1 := by
  obtain ⟨l, bad⟩ := st
  cases l with
  | nil => exact ⟨by unfold byteS; simp, fun x hx => by simp [byteS] at hx⟩
  | cons x l => exact ⟨h x (by simp), fun y hy => h y (by simp only [byteS] at hy; exact List.mem_cons_of_mem _ hy)⟩
theorem pByte (l : List Int) (bad : Bool) : PFun Tryd.prog 75 [.ptr 0 0] (rdM (l, bad)) (.d (.int .u8 (byteS (l, bad)).1)) (rdM (byteS (l, bad)).2) := by
  refine fun_intro Tryd.func75 rfl rfl rfl 28 rfl ⟨Nat.le_refl _, Nat.le_refl _⟩ (fun hh => ?_)
  by_cases h0 : (l.length : Int) = 0
  · rw [byteS_nil bad (by omega)]
    obtain rfl := List.eq_nil_of_length_eq_zero (by omega : l.length = 0)
    unfold rdM rdC
    simp only
    repeat' (first
      | ((with_reducible (first
       | (refine PW.seq fun K1 hK1 => ?_) | (refine PW.region fun K2 hK2 => ?_) | ((refine hK3 _ ?_; clear hK3)) | ((refine opsP_nil ?_; refine hK2 _ ?_; clear hK2)) 
       | (refine PW.ret ?_) | ((refine hX1 ?_; clear hX1 hY1; try simp only [hb])) )))
      | ((simp only [thenP]; (try ((repeat (fail_if_success (with_reducible refine hK1 _ ?_)); clear hK1); (with_reducible refine hK1 _ ?_); clear hK1))))
      | (((first | (((with_reducible refine opsP_cons fun K3 hK3 => ?_); simp only [wantP, opP, valP, Ur, Us])) | ((with_reducible refine PW.condM fun X1 Y1 hX1 hY1 => ?_)) | (skip)); simp (disch := omega) only [St.eval, St.put, upd_app, iniT_app, avOf, avOf1, cellsA, AV.okv, loadA, lenP, binP, intsP, intP, nilP, builtinP, isMapA, slA, putCells, U7, Ua, Uc, Ud, Uf, Ug, Uk, V9, Va, Ve, Int.cast_ofNat_Int, Vr, Vs, PmL, simprocAttr, PmT, retQ, resP, tupA, fg, condP, condB_t]; try (with_reducible (first | exact co_refl _ | exact co_own _ _ _ | exact co_nilsB | exact co_nilsL _ _)))))
    all_goals exact end_box rfl
  · have h0' := eq_false h0
    obtain ⟨c, hc⟩ : ∃ c, l[0]? = some c := ⟨_, List.getElem?_eq_getElem (by omega)⟩
    rw [byteS_cons bad hc]
    unfold rdM rdC
    simp only
    repeat' (first
      | ((with_reducible (first
       | (refine PW.seq fun K1 hK1 => ?_) | (refine PW.region fun K2 hK2 => ?_) | ((refine hK3 _ ?_; clear hK3)) | ((refine opsP_nil ?_; refine hK2 _ ?_; clear hK2)) | ((refine Exists.intro _ (Exists.intro _ (And.intro rfl (And.intro rfl (And.intro ?_ ?_)))); focus omega)) 
       | (refine PW.skip ?_) | (refine PW.ret ?_) | ((refine hY1 ?_; clear hX1 hY1; try simp only [hb])) )))
      | ((simp only [thenP]; (try ((repeat (fail_if_success (with_reducible refine hK1 _ ?_)); clear hK1); (with_reducible refine hK1 _ ?_); clear hK1))))
      | (((first | (((with_reducible refine opsP_cons fun K3 hK3 => ?_); simp only [wantP, opP, valP, Ur, Us])) | ((with_reducible refine PW.condM fun X1 Y1 hX1 hY1 => ?_)) | (skip)); simp (disch := omega) only [St.eval, St.put, upd_app, iniT_app, avOf, avOf1, cellsA, AV.okv, loadA, lenP, binP, intsP, intP, nilP, sliceP, boundLo, boundHi, builtinP, isMapA, slA, putCells, U7, Ua, Uc, Uf, Ug, Uk, Uq, Ur, Us, V2, V3, V7, V8, V9, Va, Ve, UU2, UU4, Vs, PmL, simprocAttr, PmT, h0', hc, retQ, resP, tupA, fg, condP, condB_f]; try (with_reducible (first | exact co_refl _ | exact co_own _ _ _ | exact co_nilsB | exact co_nilsL _ _)))))
    all_goals exact end_box rfl
theorem pWent (l : List Int) (bad : Bool) (n e : Int) (h : e = 0 → 0 ≤ n ∧ n ≤ l.length) : PFun Tryd.prog 77 [.ptr 0 0, .d (.int .i64 n), .d (.int .i64 e)] (rdM (l, bad)) (.tup []) (rdM (wentS (l, bad) n e)) := by
  refine fun_intro Tryd.func77 rfl rfl rfl 28 rfl ⟨Nat.le_refl _, Nat.le_refl _⟩ (fun hh => ?_)
  by_cases he : e = 0
  · obtain ⟨h1, h2⟩ := h he
    have he' := eq_true he
    subst he
    have e1 : wentS (l, bad) n 0 = (l.drop n.toNat, bad) := by unfold wentS; simp
    rw [e1]
    unfold rdM rdC
    simp only
    cases bad
    · repeat' (first
        | ((with_reducible (first
         | (refine PW.seq fun K1 hK1 => ?_) | (refine PW.region fun K2 hK2 => ?_) | ((refine hK3 _ ?_; clear hK3)) | ((refine opsP_nil ?_; refine hK2 _ ?_; clear hK2)) | ((refine Exists.intro _ (Exists.intro _ (And.intro rfl (And.intro rfl (And.intro ?_ ?_)))); focus omega)) 
         | ((refine hX1 ?_; clear hX1 hY1; try simp only [hb])) )))
        | ((simp only [thenP]; (try ((repeat (fail_if_success (with_reducible refine hK1 _ ?_)); clear hK1); (with_reducible refine hK1 _ ?_); clear hK1))))
        | (((first | (((with_reducible refine opsP_cons fun K3 hK3 => ?_); simp only [wantP, opP, valP])) | ((with_reducible refine PW.condM fun X1 Y1 hX1 hY1 => ?_)) | (skip)); simp (disch := omega) only [wantB_ff, St.eval, St.put, upd_app, iniT_app, avOf, avOf1, cellsA, AV.okv, loadA, binP, intsP, intP, nilP, sliceP, boundLo, boundHi, slA, putCells, U7, U8, Ua, Ub, Uc, Ud, Uf, Ug, Uk, Ul, Uq, Uz, V2, V3, V4, V7, V9, Va, Ve, UU2, UU4, Vr, PmL, simprocAttr, PmT, retQ, resP, tupA, fg, fgs, condP, condB_t]; try (with_reducible (first | exact co_refl _ | exact co_own _ _ _ | exact co_nilsB | exact co_nilsL _ _)))))
      all_goals exact end_box rfl
    · repeat' (first
        | ((with_reducible (first
         | (refine PW.seq fun K1 hK1 => ?_) | (refine PW.region fun K2 hK2 => ?_) | ((refine hK3 _ ?_; clear hK3)) | ((refine opsP_nil ?_; refine hK2 _ ?_; clear hK2)) | ((refine Exists.intro _ (Exists.intro _ (And.intro rfl (And.intro rfl (And.intro ?_ ?_)))); focus omega)) 
         | ((refine hX1 ?_; clear hX1 hY1; try simp only [hb])) )))
        | ((simp only [thenP]; (try ((repeat (fail_if_success (with_reducible refine hK1 _ ?_)); clear hK1); (with_reducible refine hK1 _ ?_); clear hK1))))
        | (((first | (((with_reducible refine opsP_cons fun K3 hK3 => ?_); simp only [wantP, opP, valP])) | ((with_reducible refine PW.condM fun X1 Y1 hX1 hY1 => ?_)) | (skip)); simp (disch := omega) only [wantB_tf, St.eval, St.put, upd_app, iniT_app, avOf, avOf1, cellsA, AV.okv, loadA, binP, intsP, intP, eqP, nilP, sliceP, boundLo, boundHi, slA, putCells, U7, U8, Ua, Ub, Uc, Ud, Uf, Ug, Uk, Ul, Uq, Uz, V2, V3, V4, V7, V9, Va, Ve, UU2, UU4, Vr, PmL, simprocAttr, PmT, retQ, resP, tupA, fg, fgs, condP, condB_t]; try (with_reducible (first | exact co_refl _ | exact co_own _ _ _ | exact co_nilsB | exact co_nilsL _ _)))))
      all_goals exact end_box rfl
  · have he' := eq_false he
    have e1 : wentS (l, bad) n e = (l, true) := by unfold wentS; simp [he]
    rw [e1]
    unfold rdM rdC
    simp only
    cases bad
    · repeat' (first
        | ((with_reducible (first
         | (refine PW.seq fun K1 hK1 => ?_) | (refine PW.region fun K2 hK2 => ?_) | ((refine hK3 _ ?_; clear hK3)) | ((refine opsP_nil ?_; refine hK2 _ ?_; clear hK2)) 
         | (refine PW.skip ?_) | ((refine hY1 ?_; clear hX1 hY1; try simp only [hb])) )))
        | ((simp only [thenP]; (try ((repeat (fail_if_success (with_reducible refine hK1 _ ?_)); clear hK1); (with_reducible refine hK1 _ ?_); clear hK1))))
        | (((first | (((with_reducible refine opsP_cons fun K3 hK3 => ?_); simp only [wantP, opP, valP])) | ((with_reducible refine PW.condM fun X1 Y1 hX1 hY1 => ?_)) | (skip)); simp (disch := omega) only [wantB_ff, St.eval, St.put, upd_app, iniT_app, avOf, avOf1, cellsA, AV.okv, loadA, binP, intsP, intP, nilP, slA, putCells, U7, U8, Ua, Ub, Uc, Ud, Uf, Ug, Uk, Ul, Uz, V4, V9, Ve, Vr, PmL, simprocAttr, PmT, he', retQ, resP, tupA, fg, fgs, condP, condB_f]; try (with_reducible (first | exact co_refl _ | exact co_own _ _ _ | exact co_nilsB | exact co_nilsL _ _)))))
      all_goals exact end_box rfl
    · repeat' (first
        | ((with_reducible (first
         | (refine PW.seq fun K1 hK1 => ?_) | (refine PW.region fun K2 hK2 => ?_) | ((refine hK3 _ ?_; clear hK3)) | ((refine opsP_nil ?_; refine hK2 _ ?_; clear hK2)) 
         | (refine PW.skip ?_) | ((refine hY1 ?_; clear hX1 hY1; try simp only [hb])) )))
        | ((simp only [thenP]; (try ((repeat (fail_if_success (with_reducible refine hK1 _ ?_)); clear hK1); (with_reducible refine hK1 _ ?_); clear hK1))))
        | (((first | (((with_reducible refine opsP_cons fun K3 hK3 => ?_); simp only [wantP, opP, valP])) | ((with_reducible refine PW.condM fun X1 Y1 hX1 hY1 => ?_)) | (skip)); simp (disch := omega) only [wantB_tf, St.eval, St.put, upd_app, iniT_app, avOf, avOf1, cellsA, AV.okv, loadA, binP, intsP, intP, eqP, nilP, slA, putCells, U7, U8, Ua, Ub, Uc, Ud, Uf, Ug, Uk, Ul, Uz, V4, V9, Ve, Vr, PmL, simprocAttr, PmT, he', retQ, resP, tupA, fg, fgs, condP, condB_f]; try (with_reducible (first | exact co_refl _ | exact co_own _ _ _ | exact co_nilsB | exact co_nilsL _ _)))))
      all_goals exact end_box rfl
/-- how texts are read -/
def TextsBy (ft : Nat) (td : List Int → List Int × Int × Int) : Prop :=
  (∀ l : List Int, l.length ≤ 100000000 → Pure Tryd.prog ft [bs l] (.tup [bs (td l).1, .d (.int .i64 (td l).2.1), .d (.int .i64 (td l).2.2)])) ∧ ∀ l : List Int, Rng l → (td l).2.2 = 0 → 0 ≤ (td l).2.1 ∧ (td l).2.1 ≤ l.length
set_option maxHeartbeats 4000000 in
theorem pValue {ft : Nat} {td : List Int → List Int × Int × Int} (hT : TextsBy ft td) (nb k : Int) (st : Rdr) (hl : st.1.length ≤ 100000000) :
    PFun Tryd.prog 47 [.ptr 0 0, .d (.int .i64 k), .d (.int .u8 nb), .fn ft []] (rdM st) (valS td nb k st).1.v (rdM (valS td nb k st).2) := by
  refine fun_introM Tryd.func47 rfl rfl rfl 67 rfl ⟨Nat.le_refl _, Nat.le_refl _⟩ (fun hh hM => ?_)
  obtain ⟨l, bad⟩ := st
  have hB := pByte l bad
  have hbl := byteS_len (l, bad)
  have hv : valS td nb k (l, bad) = if (byteS (l, bad)).1 = nb then (⟨k, true, 0, []⟩, (byteS (l, bad)).2)
    else if k = 1 then (⟨1, false, (Codec.takeKeyIntF (byteS (l, bad)).2.1).1, []⟩, wentS (byteS (l, bad)).2 (Codec.takeKeyIntF (byteS (l, bad)).2.1).2.1 (Codec.takeKeyIntF (byteS (l, bad)).2.1).2.2)
    else if k = 2 then (⟨2, false, (byteS (byteS (l, bad)).2).1, []⟩, (byteS (byteS (l, bad)).2).2)
    else (⟨k, false, 0, (td (byteS (l, bad)).2.1).1⟩, wentS (byteS (l, bad)).2 (td (byteS (l, bad)).2.1).2.1 (td (byteS (l, bad)).2.1).2.2) := rfl
  simp only at hl hbl
  have hrl := (byteS_rng (st := (l, bad)) (has_bytes (hM.box (i := 0) rfl (bs l) (by simp [rdC]))).1).2
  obtain ⟨⟨c, l1, bad1⟩, hb⟩ : ∃ r, byteS (l, bad) = r := ⟨_, rfl⟩
  rw [hb] at hB hbl hv hrl
  simp only at hB hbl hv hrl
  rw [hv]
  by_cases hc : c = nb
  · have hc' := eq_true hc
    rw [if_pos hc]
    unfold rdM rdC at hB ⊢
    unfold XV.v XV.c
    simp only at hB ⊢
    repeat' (first
      | ((with_reducible (first
       | (refine PW.seq fun K1 hK1 => ?_) | (refine PW.region fun K2 hK2 => ?_) | ((refine hK3 _ ?_; clear hK3)) | ((refine opsP_nil ?_; refine hK2 _ ?_; clear hK2)) 
       | (refine PW.block ?_) | (refine PW.ret ?_) | ((refine hX1 ?_; clear hX1 hY1; try simp only [hb])) )))
      | (((with_reducible refine cC_recv (cs := ?_) ?_ ?_ ?_ ?_ (hB) (fun _ => ?_)); rotate_left 1; (focus (first | exact rfl | (simp only [Ua, Ub]; rfl))); (focus ((repeat' constructor) <;> (simp only [purAs, purA, Vf, Bool.and_self, hc']; done))); (focus ((repeat' constructor) <;> (simp only [purAs, purA, Vf, Bool.and_self, hc']; done))); (focus (simp only [purAs, purA, Bool.and_self]; done))))
      | ((simp only [thenP, blockP]; (try ((repeat (fail_if_success (with_reducible refine hK1 _ ?_)); clear hK1); (with_reducible refine hK1 _ ?_); clear hK1))))
      | (((first | (((with_reducible refine opsP_cons fun K3 hK3 => ?_); simp only [wantP, opP, valP, Ur, Us])) | ((with_reducible refine PW.condM fun X1 Y1 hX1 hY1 => ?_)) | (skip)); simp (disch := omega) only [St.eval, St.put, upd_app, iniT_app, avOf, avOf1, cellsA, AV.okv, loadA, binP, intsP, intP, nilP, slA, putCells, fillA, buildA, U7, U8, Ua, Ub, Uc, Ud, Uf, Ug, Uk, Un, Up, Ut, Uu, Uv, V9, Ve, Vt, UU2, UU3, Vr, PmL, simprocAttr, PmT, hc', retQ, resP, tupA, fg, fgs, condP, condB_t]; try (with_reducible (first | exact co_refl _ | exact co_own _ _ _ | exact co_nilsB | exact co_nilsL _ _)))))
    all_goals exact end_box rfl
  have hc' := eq_false hc
  rw [if_neg hc]
  by_cases h1 : k = 1
  · subst h1
    rw [if_pos rfl]
    have hI := pTakeKeyInt l1
    have hW := pWent l1 bad1 (Codec.takeKeyIntF l1).2.1 (Codec.takeKeyIntF l1).2.2 (fun he => by
      unfold Codec.takeKeyIntF at he ⊢
      split at he
      · simp at he
      · rename_i hn
        rw [if_neg hn]
        simp only
        omega)
    obtain ⟨⟨i, n, e⟩, hi⟩ : ∃ r, Codec.takeKeyIntF l1 = r := ⟨_, rfl⟩
    obtain ⟨⟨l2, bad2⟩, hw⟩ : ∃ r, wentS (l1, bad1) n e = r := ⟨_, rfl⟩
    rw [hi] at hI hW ⊢
    simp only at hI hW ⊢
    rw [hw] at hW ⊢
    unfold rdM rdC at hB hW ⊢
    unfold XV.v XV.c
    simp only at hB hW ⊢
    repeat' (first
      | ((with_reducible (first
       | (refine PW.seq fun K1 hK1 => ?_) | (refine PW.region fun K2 hK2 => ?_) | ((refine hK3 _ ?_; clear hK3)) | ((refine opsP_nil ?_; refine hK2 _ ?_; clear hK2)) 
       | (refine PW.block ?_) | (refine PW.ret ?_) | ((refine hX1 ?_; clear hX1 hY1; try simp only [hb])) | ((refine hY1 ?_; clear hX1 hY1; try simp only [hb])) )))
      | (((with_reducible refine cC_recv (cs := ?_) ?_ ?_ ?_ ?_ (hB) (fun _ => ?_)); rotate_left 1; (focus (first | exact rfl | (simp only [Ua, Ub]; rfl))); (focus ((repeat' constructor) <;> (simp only [purAs, purA, Vf, Bool.and_self, hc']; done))); (focus ((repeat' constructor) <;> (simp only [purAs, purA, Vf, Bool.and_self, hc']; done))); (focus (simp only [purAs, purA, Bool.and_self]; done))))
      | (((with_reducible refine cC_recv (cs := ?_) ?_ ?_ ?_ ?_ (hW) (fun _ => ?_)); rotate_left 1; (focus (first | exact rfl | (simp only [Ua, Ub]; rfl))); (focus ((repeat' constructor) <;> (simp only [purAs, purA, Vf, Bool.and_self, hc']; done))); (focus ((repeat' constructor) <;> (simp only [purAs, purA, Vf, Bool.and_self, hc']; done))); (focus (simp only [purAs, purA, Bool.and_self]; done))))
      | (((with_reducible refine cC_pure ?_ (hI) (fun _ => ?_)); (focus ((repeat' constructor) <;> (simp only [purAs, purA, Vf, Bool.and_self, hc']; done)))))
      | ((simp only [thenP, blockP]; (try ((repeat (fail_if_success (with_reducible refine hK1 _ ?_)); clear hK1); (with_reducible refine hK1 _ ?_); clear hK1))))
      | (((first | (((with_reducible refine opsP_cons fun K3 hK3 => ?_); simp only [wantP, opP, valP, Ur, Us])) | ((with_reducible refine PW.condM fun X1 Y1 hX1 hY1 => ?_)) | (skip)); simp (disch := omega) only [St.eval, St.put, upd_app, iniT_app, avOf, avOf1, cellsA, AV.okv, loadA, binP, intsP, intP, nilP, slA, putCells, fillA, buildA, U7, U8, Ua, Ub, Uc, Ud, Uf, Ug, Uk, Un, Up, Ut, Uu, Uv, V9, Va, Ve, Vt, UU2, UU3, Vr, PmL, simprocAttr, PmT, hc', retQ, resP, tupA, fg, fgs, condP, condB_t, condB_f]; try (with_reducible (first | exact co_refl _ | exact co_own _ _ _ | exact co_nilsB | exact co_nilsL _ _)))))
    all_goals exact end_box rfl
  have h1' := eq_false h1
  rw [if_neg h1]
  by_cases h2 : k = 2
  · subst h2
    rw [if_pos rfl]
    have hB2 := pByte l1 bad1
    have hcr := (byteS_rng (st := (l1, bad1)) hrl).1
    obtain ⟨⟨c2, l2, bad2⟩, hb2⟩ : ∃ r, byteS (l1, bad1) = r := ⟨_, rfl⟩
    rw [hb2] at hB2 hcr ⊢
    have hwc : IntKind.i64.wrap c2 = c2 := IntWalk.i64_in c2 (by simp only at hcr; omega)
    unfold rdM rdC at hB hB2 ⊢
    unfold XV.v XV.c
    simp only at hB hB2 ⊢
    repeat' (first
      | ((with_reducible (first
       | (refine PW.seq fun K1 hK1 => ?_) | (refine PW.region fun K2 hK2 => ?_) | ((refine hK3 _ ?_; clear hK3)) | ((refine opsP_nil ?_; refine hK2 _ ?_; clear hK2)) 
       | (refine PW.block ?_) | (refine PW.ret ?_) | ((refine hX1 ?_; clear hX1 hY1; try simp only [hb])) | ((refine hY1 ?_; clear hX1 hY1; try simp only [hb])) )))
      | (((with_reducible refine cC_recv (cs := ?_) ?_ ?_ ?_ ?_ (hB) (fun _ => ?_)); rotate_left 1; (focus (first | exact rfl | (simp only [Ua, Ub]; rfl))); (focus ((repeat' constructor) <;> (simp only [purAs, purA, Vf, Bool.and_self, hc', hwc]; done))); (focus ((repeat' constructor) <;> (simp only [purAs, purA, Vf, Bool.and_self, hc', hwc]; done))); (focus (simp only [purAs, purA, Bool.and_self]; done))))
      | (((with_reducible refine cC_recv (cs := ?_) ?_ ?_ ?_ ?_ (hB2) (fun _ => ?_)); rotate_left 1; (focus (first | exact rfl | (simp only [Ua, Ub]; rfl))); (focus ((repeat' constructor) <;> (simp only [purAs, purA, Vf, Bool.and_self, hc', hwc]; done))); (focus ((repeat' constructor) <;> (simp only [purAs, purA, Vf, Bool.and_self, hc', hwc]; done))); (focus (simp only [purAs, purA, Bool.and_self]; done))))
      | ((simp only [thenP, blockP]; (try ((repeat (fail_if_success (with_reducible refine hK1 _ ?_)); clear hK1); (with_reducible refine hK1 _ ?_); clear hK1))))
      | (((first | (((with_reducible refine opsP_cons fun K3 hK3 => ?_); simp only [wantP, opP, valP, Ur, Us])) | ((with_reducible refine PW.condM fun X1 Y1 hX1 hY1 => ?_)) | (skip)); simp (disch := omega) only [St.eval, St.put, upd_app, iniT_app, avOf, avOf1, cellsA, AV.okv, loadA, binP, intsP, intP, nilP, convP, slA, putCells, fillA, buildA, U7, U8, Ua, Ub, Uc, Ud, Uf, Ug, Uk, Un, Up, Ut, Uu, Uv, V9, Ve, Vt, UU2, UU3, Vr, PmL, simprocAttr, PmT, hc', hwc, retQ, resP, tupA, fg, fgs, condP, condB_t, condB_f]; try (with_reducible (first | exact co_refl _ | exact co_own _ _ _ | exact co_nilsB | exact co_nilsL _ _)))))
    all_goals exact end_box rfl
  have h2' := eq_false h2
  rw [if_neg h2]
  have hI := hT.1 l1 (by omega)
  have hW := pWent l1 bad1 (td l1).2.1 (td l1).2.2 (hT.2 l1 hrl)
  obtain ⟨⟨i, n, e⟩, hi⟩ : ∃ r, td l1 = r := ⟨_, rfl⟩
  obtain ⟨⟨l2, bad2⟩, hw⟩ : ∃ r, wentS (l1, bad1) n e = r := ⟨_, rfl⟩
  rw [hi] at hI hW ⊢
  simp only at hI hW ⊢
  rw [hw] at hW ⊢
  unfold rdM rdC at hB hW ⊢
  unfold XV.v XV.c
  simp only at hB hW ⊢
  repeat' (first
    | ((with_reducible (first
     | (refine PW.seq fun K1 hK1 => ?_) | (refine PW.region fun K2 hK2 => ?_) | ((refine hK3 _ ?_; clear hK3)) | ((refine opsP_nil ?_; refine hK2 _ ?_; clear hK2)) 
     | (refine PW.block ?_) | (refine PW.ret ?_) | ((refine hY1 ?_; clear hX1 hY1; try simp only [hb])) )))
    | (((with_reducible refine cC_recv (cs := ?_) ?_ ?_ ?_ ?_ (hB) (fun _ => ?_)); rotate_left 1; (focus (first | exact rfl | (simp only [Ua, Ub]; rfl))); (focus ((repeat' constructor) <;> (simp only [purAs, purA, Vf, Bool.and_self, hc', h1', h2']; done))); (focus ((repeat' constructor) <;> (simp only [purAs, purA, Vf, Bool.and_self, hc', h1', h2']; done))); (focus (simp only [purAs, purA, Bool.and_self]; done))))
    | (((with_reducible refine cC_recv (cs := ?_) ?_ ?_ ?_ ?_ (hW) (fun _ => ?_)); rotate_left 1; (focus (first | exact rfl | (simp only [Ua, Ub]; rfl))); (focus ((repeat' constructor) <;> (simp only [purAs, purA, Vf, Bool.and_self, hc', h1', h2']; done))); (focus ((repeat' constructor) <;> (simp only [purAs, purA, Vf, Bool.and_self, hc', h1', h2']; done))); (focus (simp only [purAs, purA, Bool.and_self]; done))))
    | (((with_reducible refine cC_pure ?_ (hI) (fun _ => ?_)); (focus ((repeat' constructor) <;> (simp only [purAs, purA, Vf, Bool.and_self, hc', h1', h2']; done)))))
    | ((simp only [thenP, blockP]; (try ((repeat (fail_if_success (with_reducible refine hK1 _ ?_)); clear hK1); (with_reducible refine hK1 _ ?_); clear hK1))))
    | (((first | (((with_reducible refine opsP_cons fun K3 hK3 => ?_); simp only [wantP, opP, valP, Ur, Us])) | ((with_reducible refine PW.condM fun X1 Y1 hX1 hY1 => ?_)) | (skip)); simp (disch := omega) only [St.eval, St.put, upd_app, iniT_app, avOf, avOf1, cellsA, AV.okv, loadA, binP, intsP, intP, nilP, convP, slA, putCells, fillA, buildA, U7, U8, Ua, Ub, Uc, Ud, Uf, Ug, Uk, Un, Up, Ut, Uu, Uv, V9, Va, Ve, Vt, UU2, UU3, Vr, PmL, simprocAttr, PmT, hc', h1', h2', retQ, resP, tupA, fg, fgs, condP, condB_f]; try (with_reducible (first | exact co_refl _ | exact co_own _ _ _ | exact co_nilsB | exact co_nilsL _ _)))))
  all_goals exact end_box rfl
end PM
end Go.Proofs.YtfkemeamimcnjaaDoor
namespace Go.Proofs.YtfkemeamimcnjaaDoor
open Go.RowKit
set_option maxRecDepth 100000
namespace PM
theorem textsK : TextsBy 74 Codec.tkL := ⟨fun l h => pTakeKeyText l (by omega), fun l _ _ => ⟨(tkL_bd l).1, (tkL_bd l).2.1⟩⟩
theorem textsT : TextsBy 48 Codec.takeTextF := ⟨fun l _ => pTakeText l, fun l hr h => by
  have hb := Codec.lenF_bd hr 0 (by decide)
  unfold Codec.takeTextF at h ⊢
  split at h
  · rename_i hz
    simp only at h
    exact absurd h hz
  · rename_i hz
    rw [if_neg hz]
    have := hb.2.2 (by omega)
    simp only
    omega⟩
theorem end_box2 {e1 e2 : TypeId} {cs1 cs2 : List AV} {bx : List (Option (TypeId × List AV))} {r : AV} {rw_ : List (Option RowI)} (h1 : fgs 2 0 cs1 = cs1) (h2 : fgs 2 0 cs2 = cs2) : Co r r ∧ SubM ⟨some (e1, cs1) :: some (e2, cs2) :: bx, rw_⟩ ⟨[some (e1, cs1), some (e2, cs2)], []⟩ := by
  refine ⟨co_refl _, by simp, by simp, fun j e cs hj => ?_, fun j i hj => by simp at hj⟩
  match j with
  | 0 =>
    simp at hj
    obtain ⟨rfl, rfl⟩ := hj
    exact ⟨cs1, rfl, by show Cos (fgs 2 0 cs1) cs1; rw [h1]; exact cos_refl _⟩
  | 1 =>
    simp at hj
    obtain ⟨rfl, rfl⟩ := hj
    exact ⟨cs2, rfl, by show Cos (fgs 2 0 cs2) cs2; rw [h2]; exact cos_refl _⟩
  | j + 2 => simp at hj
abbrev kM (st : Rdr) (R : List XV) : Mem := ⟨[some (79, rdC st), some (47, cX R)], []⟩
set_option maxHeartbeats 4000000 in
theorem pKeys (T : Tb) (l : List Int) (R : List XV) (st : Rdr) (hl : ∀ i ∈ l, 0 ≤ i ∧ i < T.cols.length) (hR : R.length = T.cols.length) (hst : st.1.length ≤ 100000000) :
    PFun Tryd.prog 46 [.ptr 0 0, T.v, il l, .bsl 1 0 R.length R.length 4] (kM st R) (.tup []) (kM (keysS T l (R, st)).2 (keysS T l (R, st)).1) := by
  refine fun_intro Tryd.func46 rfl rfl rfl 28 rfl ⟨by simp, Nat.le_refl _⟩ (fun hh => ?_)
  have hml : maxLen = 9223372036854775807 := rfl
  have hll := (has_sl (hh (il l) (by simp))).1
  rw [encL_len] at hll
  have hTy : ∀ i : Nat, ∀ c : Col, T.cols[i]? = some c → tyAt T i = c.ty := fun i c h => by unfold tyAt; rw [Int.toNat_natCast, List.getD_eq_getElem?_getD, h]; rfl
  obtain ⟨nR, hnR⟩ : ∃ n, R.length = n := ⟨_, rfl⟩
  rw [hnR]
  have hK := fun k : Nat => keysS_len T (l.take k) (R, st)
  have hK2 := fun k : Nat => keysS_rlen T (l.take k) (R, st)
  have hsn := fun (k : Nat) (x : Int) (hx : l[k]? = some x) => keysS_snoc T x (l.take k) (R, st)
  obtain ⟨tid, tnm, tcols, tkey, tix⟩ := T
  repeat' (first
    | ((with_reducible (first
     | (refine PW.seq fun K1 hK1 => ?_) | (refine PW.region fun K2 hK2 => ?_) | ((refine hK3 _ ?_; clear hK3)) | ((refine opsP_nil ?_; refine hK2 _ ?_; clear hK2)) 
     | (refine PW.block ?_) )))
    | ((simp only [thenP]; (try ((repeat (fail_if_success (with_reducible refine hK1 _ ?_)); clear hK1); (with_reducible refine hK1 _ ?_); clear hK1))))
    | (((first | (((with_reducible refine opsP_cons fun K3 hK3 => ?_); simp only [wantP, opP, valP, Ur, Us])) | (skip)); simp (disch := omega) only [St.eval, St.put, upd_app, iniT_app, avOf, avOf1, cellsA, AV.okv, lenP, builtinP, isMapA, U7, U8, Uf, Ug, Ut, Uu, V9, PmL, simprocAttr, PmT, Tb.v, Tb.c]; try (with_reducible (first | exact co_refl _ | exact co_own _ _ _ | exact co_nilsB | exact co_nilsL _ _)))))
  (with_reducible refine PW.loop (fun n s => ∃ (k : Nat), s.t 0 = .ptr 0 0 ∧ s.t 3 = .bsl 1 0 nR nR 4 ∧ s.t 5 = .ptr 2 0 ∧ s.t 10 = il l ∧ s.t 11 = .d (.int .i64 l.length) ∧ s.t 12 = .d (.int .i64 k) ∧ s.n = 28 ∧ s.m = ⟨[some (79, rdC (keysS ⟨tid, tnm, tcols, tkey, tix⟩ (l.take k) (R, st)).2), some (47, cX (keysS ⟨tid, tnm, tcols, tkey, tix⟩ (l.take k) (R, st)).1), some (26, Tb.c ⟨tid, tnm, tcols, tkey, tix⟩)], []⟩ ∧ k ≤ l.length ∧ n = l.length - k) l.length ?_ ?_)
  · exact ⟨0, rfl, rfl, rfl, rfl, rfl, rfl, rfl, rfl, Nat.zero_le _, rfl⟩
  rintro n ⟨t, nn, m⟩ ⟨k, h0, h3, h5, h10, h11, h12, hn, hm, hk, hnk⟩ - -
  simp only at h0 h3 h5 h10 h11 h12 hn hm
  subst hn hm hnk
  by_cases hlt : (k : Int) < l.length
  · have hlt' := eq_true hlt
    obtain ⟨x, hx⟩ : ∃ x, l[k]? = some x := ⟨_, List.getElem?_eq_getElem (by omega)⟩
    have hxr := hl x (List.mem_of_getElem? hx)
    have hw : IntKind.i64.wrap ((k : Int) + 1) = k + 1 := IntWalk.i64_in ((k : Int) + 1) (by omega)
    obtain ⟨i, rfl⟩ : ∃ i : Nat, x = i := ⟨x.toNat, by omega⟩
    simp only at hxr hR
    obtain ⟨c, hc⟩ : ∃ c, tcols[i]? = some c := ⟨_, List.getElem?_eq_getElem (by omega)⟩
    have hty := hTy i c hc
    have hs := hsn k i hx
    have hkl := hK k
    have hkl2 := hK2 k
    rw [hty] at hs
    have ht : l.take (k + 1) = l.take k ++ [(i : Int)] := by rw [List.take_add_one, hx, Option.toList_some]
    rw [← ht] at hs
    obtain ⟨⟨R1, l1, bad1⟩, h1⟩ : ∃ r, keysS ⟨tid, tnm, tcols, tkey, tix⟩ (l.take k) (R, st) = r := ⟨_, rfl⟩
    rw [h1] at hs hkl hkl2
    simp only at hs hkl hkl2
    have hV := pValue textsK 2 c.ty (l1, bad1) (by simp only; omega)
    obtain ⟨⟨⟨xa, xb, xc, xd⟩, l2, bad2⟩, hv⟩ : ∃ r, valS Codec.tkL 2 c.ty (l1, bad1) = r := ⟨_, rfl⟩
    rw [hv] at hV hs
    unfold rdM rdC at hV
    unfold XV.v XV.c at hV
    simp only at hV hs
    rw [Int.toNat_natCast] at hs
    have hset := cX_set R1 i xa xb xc xd (by omega)
    have hcl := cX_len R1
    have hil : (i : Int) < nR := by omega
    rw [h1] at *
    simp only [rdC]
    repeat' (first
      | ((with_reducible (first
       | (refine PW.seq fun K1 hK1 => ?_) | (refine PW.region fun K2 hK2 => ?_) | ((refine hK3 _ ?_; clear hK3)) | ((refine opsP_nil ?_; refine hK2 _ ?_; clear hK2)) 
       | (refine PW.block ?_) | (refine PW.skip ?_) | ((refine hX1 ?_; clear hX1 hY1; try simp only [hb])) )))
      | (((with_reducible refine cC_recv (cs := ?_) ?_ ?_ ?_ ?_ (hV) (fun _ => ?_)); rotate_left 1; (focus (first | exact rfl | (simp only [Ua, Ub]; rfl))); (focus ((repeat' constructor) <;> (simp only [purAs, purA, Vf, Bool.and_self, Tb.c, h0, h3, h5, h10, h11, h12, hlt', hx, hc, hw, eI, Col.c, hset, hcl]; done))); (focus ((repeat' constructor) <;> (simp only [purAs, purA, Vf, Bool.and_self, Tb.c, h0, h3, h5, h10, h11, h12, hlt', hx, hc, hw, eI, Col.c, hset, hcl]; done))); (focus (simp only [purAs, purA, Bool.and_self]; done))))
      | (((with_reducible refine And.intro ?_ ?_); (focus (first | omega | (simp; done) | assumption))))
      | ((simp only [thenP, blockP]; (try ((repeat (fail_if_success (with_reducible refine hK1 _ ?_)); clear hK1); (with_reducible refine hK1 _ ?_); clear hK1))))
      | (((first | (((with_reducible refine opsP_cons fun K3 hK3 => ?_); simp only [wantP, opP, valP, Ur, Us])) | ((with_reducible refine PW.condM fun X1 Y1 hX1 hY1 => ?_)) | (skip)); simp (disch := omega) only [St.eval, St.put, upd_app, avOf, avOf1, cellsA, AV.okv, loadA, binP, intsP, intP, nilP, slA, putCells, Ua, Ub, Uc, Ud, Uf, Ug, Uk, Ul, Ur, Us, Uv, V2, V7, V9, Ve, PmL, simprocAttr, PmT, Tb.c, h0, h3, h5, h10, h11, h12, hlt', hx, hc, hw, eI, Col.c, hset, hcl, condP, condB_t]; try (with_reducible (first | exact co_refl _ | exact co_own _ _ _ | exact co_nilsB | exact co_nilsL _ _)))))
    refine ⟨l.length - (k + 1), by omega, k + 1, ?_, ?_, ?_, ?_, ?_, ?_, ?_, ?_, by omega, rfl⟩
    all_goals (simp only [St.cut, Mem.cut, fg, fgs, upd_app, Nat.reduceEqDiff, ↓reduceIte, List.take_nil, List.map_nil, List.take_succ_cons, List.map_cons, Option.map_some, Nat.reduceLT, Int.natCast_add, Int.cast_ofNat_Int, h0, h3, h5, h10, h11, hs, cX_fgs]; try rfl)
  have hkl : k = l.length := by omega
  subst hkl
  have hlt' := eq_false hlt
  rw [List.take_length] at *
  repeat' (first
    | ((with_reducible (first
     | (refine PW.seq fun K1 hK1 => ?_) | (refine PW.region fun K2 hK2 => ?_) | ((refine hK3 _ ?_; clear hK3)) | ((refine opsP_nil ?_; refine hK2 _ ?_; clear hK2)) 
     | (refine PW.exit ?_) | ((refine hY1 ?_; clear hX1 hY1; try simp only [hb])) )))
    | ((simp only [thenP, blockP, ↓reduceIte]; (try ((repeat (fail_if_success (with_reducible refine hK1 _ ?_)); clear hK1); (with_reducible refine hK1 _ ?_); clear hK1))))
    | (((first | (((with_reducible refine opsP_cons fun K3 hK3 => ?_); simp only [wantP, opP, valP])) | ((with_reducible refine PW.condM fun X1 Y1 hX1 hY1 => ?_)) | (skip)); simp (disch := omega) only [St.eval, St.put, upd_app, binP, intsP, intP, nilP, slA, PmL, simprocAttr, h11, h12, hlt', retQ, resP, tupA, fg, fgs, condP, condB_f]; try (with_reducible (first | exact co_refl _ | exact co_own _ _ _ | exact co_nilsB | exact co_nilsL _ _)))))
  all_goals exact end_box2 rfl (cX_fgs _ _ _)
theorem PW.freezeR {P : Program} {id : Nat} {l : List Oper} {Q : Exit → St → Prop} {s : St} (i bid off n cap k : Nat) {xs : List (List DV)} {b : TypeId × List AV} (hi : s.t i = .bsl bid off n cap k) (hb : s.m.box[bid]? = some (some b)) (hv : viewA s.m (.bsl bid off n 0 k) = .d (.sl k xs))
    (h : PW P (.region id l.toArray false) Q ⟨upd s.t i (.d (.sl k xs)), s.n, ⟨s.m.box.set bid none, s.m.row⟩⟩) : PW P (.region id l.toArray false) Q s := PW.freezeS i bid off n cap k hi hb hv h
def z4 : XV := ⟨0, false, 0, []⟩
theorem pEqual (l m : List Int) : Pure Tryd.prog 49 [bs l, bs m] (.d (.bool (decide (l = m)))) := by
  refine pure_intro Tryd.func49 rfl rfl rfl 10 rfl (fun hh => ?_)
  repeat' (first
    | ((with_reducible (first
     | (refine PW.seq fun K1 hK1 => ?_) | (refine PW.region fun K2 hK2 => ?_) | ((refine hK3 _ ?_; clear hK3)) | ((refine opsP_nil ?_; refine hK2 _ ?_; clear hK2)) 
     | (refine PW.ret ?_) )))
    | ((simp only [thenP]; (try ((repeat (fail_if_success (with_reducible refine hK1 _ ?_)); clear hK1); (with_reducible refine hK1 _ ?_); clear hK1))))
    | (((first | (((with_reducible refine opsP_cons fun K3 hK3 => ?_); simp only [wantP, opP, valP])) | (skip)); simp (disch := omega) only [St.eval, St.put, upd_app, iniT_app, avOf, avOf1, nom, binP, strP, nilP, convP, slA, U7, U8, Ve, PmL, simprocAttr, PmT, retQ, resP, tupA, fg]; try (with_reducible (first | exact co_refl _ | exact co_own _ _ _ | exact co_nilsB | exact co_nilsL _ _)))))
end PM
end Go.Proofs.YtfkemeamimcnjaaDoor
