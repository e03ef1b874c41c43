/- rowkey's reference in the abstract: reading a column. -/
import Derived.Test.YtfkemeamimcnjaaDoorRkt4
namespace Go.Proofs.YtfkemeamimcnjaaDoor
open Go.RowKit
set_option maxRecDepth 100000
namespace PM
theorem keep1x (a a' b : Option (TypeId × List AV)) (l l' : List (Option (TypeId × List AV))) (r r' : List (Option RowI)) : keepL [1] ⟨a :: b :: l, r⟩ ⟨a' :: b :: l', r'⟩ := fun id h => by
  obtain rfl := List.mem_singleton.1 h
  rfl
theorem keep12x (a a' b c : Option (TypeId × List AV)) (l l' : List (Option (TypeId × List AV))) (r r' : List (Option RowI)) : keepL [1, 2] ⟨a :: b :: c :: l, r⟩ ⟨a' :: b :: c :: l', r'⟩ := fun id h => by
  simp only [List.mem_cons, List.not_mem_nil, or_false] at h
  rcases h with rfl | rfl <;> rfl
theorem end_boxC {e : TypeId} {cs cs' : List AV} {bx : List (Option (TypeId × List AV))} {r : AV} {rw_ : List (Option RowI)} (h : Cos (fgs 1 0 cs) cs') : Co r r ∧ SubM ⟨some (e, cs) :: bx, rw_⟩ ⟨[some (e, cs')], []⟩ := by
  refine ⟨co_refl _, by simp, by simp, fun j e1 cs1 hj => ?_, fun j i hj => by simp at hj⟩
  cases j with
  | zero =>
    simp at hj
    obtain ⟨rfl, rfl⟩ := hj
    exact ⟨cs, rfl, h⟩
  | succ j => simp at hj
abbrev rdM18 (st : Rdr) : Mem := ⟨[some (117, rdC st)], []⟩
def went18 (st : Rdr) (m e : Int) : Rdr := if e = 0 then (st.1.drop m.toNat, st.2) else ([], true)
theorem pRByte (l : List Int) (bad : Bool) : PFun Tryd.prog 93 [.ptr 0 0] (rdM18 (l, bad)) (.d (.int .u8 (byteS (l, bad)).1)) (rdM18 (byteS (l, bad)).2) := by
  refine fun_intro Tryd.func93 rfl rfl rfl 28 rfl ⟨Nat.le_refl _, Nat.le_refl _⟩ (fun hh => ?_)
  by_cases h0 : (l.length : Int) = 0
  · rw [byteS_nil bad (by omega)]
    obtain rfl := List.eq_nil_of_length_eq_zero (by omega : l.length = 0)
    unfold rdM18 rdC
    simp only
    repeat' (first
      | ((with_reducible (first
       | (refine PW.seq fun K1 hK1 => ?_) | (refine PW.region fun K2 hK2 => ?_) | ((refine hK3 _ ?_; clear hK3)) | ((refine opsP_nil ?_; refine hK2 _ ?_; clear hK2)) 
       | (refine PW.ret ?_) | ((refine hX1 ?_; clear hX1 hY1; try simp only [hb])) )))
      | ((simp only [thenP]; (try ((repeat (fail_if_success (with_reducible refine hK1 _ ?_)); clear hK1); (with_reducible refine hK1 _ ?_); clear hK1))))
      | (((first | (((with_reducible refine opsP_cons fun K3 hK3 => ?_); simp only [wantP, opP, valP, Ur, Us])) | ((with_reducible refine PW.condM fun X1 Y1 hX1 hY1 => ?_)) | (skip)); simp (disch := omega) only [St.eval, St.put, upd_app, iniT_app, avOf, avOf1, cellsA, AV.okv, loadA, lenP, binP, intsP, intP, nilP, builtinP, isMapA, slA, putCells, U7, Ua, Uc, Ud, Uf, Ug, Uk, V9, Va, Ve, Int.cast_ofNat_Int, Vr, Vs, PmL, simprocAttr, PmT, retQ, resP, tupA, fg, condP, condB_t]; try (with_reducible (first | exact co_refl _ | exact co_own _ _ _ | exact co_nilsB | exact co_nilsL _ _)))))
    all_goals exact end_box rfl
  · have h0' := eq_false h0
    obtain ⟨c, hc⟩ : ∃ c, l[0]? = some c := ⟨_, List.getElem?_eq_getElem (by omega)⟩
    rw [byteS_cons bad hc]
    unfold rdM18 rdC
    simp only
    repeat' (first
      | ((with_reducible (first
       | (refine PW.seq fun K1 hK1 => ?_) | (refine PW.region fun K2 hK2 => ?_) | ((refine hK3 _ ?_; clear hK3)) | ((refine opsP_nil ?_; refine hK2 _ ?_; clear hK2)) | ((refine Exists.intro _ (Exists.intro _ (And.intro rfl (And.intro rfl (And.intro ?_ ?_)))); focus omega)) 
       | (refine PW.skip ?_) | (refine PW.ret ?_) | ((refine hY1 ?_; clear hX1 hY1; try simp only [hb])) )))
      | ((simp only [thenP]; (try ((repeat (fail_if_success (with_reducible refine hK1 _ ?_)); clear hK1); (with_reducible refine hK1 _ ?_); clear hK1))))
      | (((first | (((with_reducible refine opsP_cons fun K3 hK3 => ?_); simp only [wantP, opP, valP, Ur, Us])) | ((with_reducible refine PW.condM fun X1 Y1 hX1 hY1 => ?_)) | (skip)); simp (disch := omega) only [St.eval, St.put, upd_app, iniT_app, avOf, avOf1, cellsA, AV.okv, loadA, lenP, binP, intsP, intP, nilP, sliceP, boundLo, boundHi, builtinP, isMapA, slA, putCells, U7, Ua, Uc, Uf, Ug, Uk, Uq, Ur, Us, V2, V3, V7, V8, V9, Va, Ve, UU2, UU4, Vs, PmL, simprocAttr, PmT, h0', hc, retQ, resP, tupA, fg, condP, condB_f]; try (with_reducible (first | exact co_refl _ | exact co_own _ _ _ | exact co_nilsB | exact co_nilsL _ _)))))
    all_goals exact end_box rfl
theorem pRWent (l : List Int) (bad : Bool) (n e : Int) (h : e = 0 → 0 ≤ n ∧ n ≤ l.length) : PFun Tryd.prog 94 [.ptr 0 0, .d (.int .i64 n), .d (.int .i64 e)] (rdM18 (l, bad)) (.tup []) (rdM18 (went18 (l, bad) n e)) := by
  refine fun_intro Tryd.func94 rfl rfl rfl 23 rfl ⟨Nat.le_refl _, Nat.le_refl _⟩ (fun hh => ?_)
  by_cases he : e = 0
  · obtain ⟨h1, h2⟩ := h he
    subst he
    have e1 : went18 (l, bad) n 0 = (l.drop n.toNat, bad) := by unfold went18; simp
    rw [e1]
    unfold rdM18 rdC
    simp only
    repeat' (first
      | ((with_reducible (first
       | (refine PW.seq fun K1 hK1 => ?_) | (refine PW.region fun K2 hK2 => ?_) | ((refine hK3 _ ?_; clear hK3)) | ((refine opsP_nil ?_; refine hK2 _ ?_; clear hK2)) | ((refine Exists.intro _ (Exists.intro _ (And.intro rfl (And.intro rfl (And.intro ?_ ?_)))); focus omega)) 
       | (refine PW.skip ?_) | ((refine hY1 ?_; clear hX1 hY1; try simp only [hb])) )))
      | ((simp only [thenP]; (try ((repeat (fail_if_success (with_reducible refine hK1 _ ?_)); clear hK1); (with_reducible refine hK1 _ ?_); clear hK1))))
      | (((first | (((with_reducible refine opsP_cons fun K3 hK3 => ?_); simp only [wantP, opP, valP])) | ((with_reducible refine PW.condM fun X1 Y1 hX1 hY1 => ?_)) | (skip)); simp (disch := omega) only [St.eval, St.put, upd_app, iniT_app, avOf, avOf1, cellsA, AV.okv, loadA, binP, intsP, intP, nilP, sliceP, boundLo, boundHi, slA, putCells, U7, U8, Ua, Uc, Uf, Ug, Uk, Uq, V2, V3, V7, V9, Va, Ve, UU2, UU4, PmL, simprocAttr, PmT, retQ, resP, tupA, fg, fgs, condP, condB_f]; try (with_reducible (first | exact co_refl _ | exact co_own _ _ _ | exact co_nilsB | exact co_nilsL _ _)))))
    all_goals exact end_box rfl
  · have he' := eq_false he
    have e1 : went18 (l, bad) n e = ([], true) := by unfold went18; simp [he]
    rw [e1]
    unfold rdM18 rdC
    simp only
    repeat' (first
      | ((with_reducible (first
       | (refine PW.seq fun K1 hK1 => ?_) | (refine PW.region fun K2 hK2 => ?_) | ((refine hK3 _ ?_; clear hK3)) | ((refine opsP_nil ?_; refine hK2 _ ?_; clear hK2)) 
       | (refine PW.ret ?_) | ((refine hX1 ?_; clear hX1 hY1; try simp only [hb])) )))
      | ((simp only [thenP]; (try ((repeat (fail_if_success (with_reducible refine hK1 _ ?_)); clear hK1); (with_reducible refine hK1 _ ?_); clear hK1))))
      | (((first | (((with_reducible refine opsP_cons fun K3 hK3 => ?_); simp only [wantP, opP, valP])) | ((with_reducible refine PW.condM fun X1 Y1 hX1 hY1 => ?_)) | (skip)); simp (disch := omega) only [St.eval, St.put, upd_app, iniT_app, avOf, avOf1, cellsA, AV.okv, binP, intsP, intP, nilP, slA, putCells, U7, U8, Ua, Uc, Ud, Uf, Ug, V9, Va, Ve, Vr, PmL, simprocAttr, PmT, he', retQ, resP, tupA, fg, fgs, condP, condB_t]; try (with_reducible (first | exact co_refl _ | exact co_own _ _ _ | exact co_nilsB | exact co_nilsL _ _)))))
    all_goals exact end_boxC (cos_cons co_nilsB (cos_cons (co_refl _) cos_nil))
def text18 (st : Rdr) : List Int × Rdr := ((Codec.takeTextF st.1).1, went18 st (Codec.takeTextF st.1).2.1 (Codec.takeTextF st.1).2.2)
theorem pRReadText (l : List Int) (bad : Bool) (hl : l.length ≤ 100000000) : PFun Tryd.prog 95 [.ptr 0 0] (rdM18 (l, bad)) (.d (.str (text18 (l, bad)).1)) (rdM18 (text18 (l, bad)).2) := by
  refine fun_introM Tryd.func95 rfl rfl rfl 21 rfl ⟨Nat.le_refl _, Nat.le_refl _⟩ (fun hh hM => ?_)
  have hrl := (has_bytes (hM.box (i := 0) rfl (bs l) (by simp [rdC]))).1
  have hI := pRTakeText l (by omega)
  have hW := pRWent l bad (Codec.takeTextF l).2.1 (Codec.takeTextF l).2.2 (textsT.2 l hrl)
  have e : text18 (l, bad) = ((Codec.takeTextF l).1, went18 (l, bad) (Codec.takeTextF l).2.1 (Codec.takeTextF l).2.2) := rfl
  rw [e]
  obtain ⟨⟨i, n, e⟩, hi⟩ : ∃ r, Codec.takeTextF l = r := ⟨_, rfl⟩
  obtain ⟨⟨l2, bad2⟩, hw⟩ : ∃ r, went18 (l, bad) n e = r := ⟨_, rfl⟩
  rw [hi] at hI hW ⊢
  simp only at hI hW ⊢
  rw [hw] at hW ⊢
  unfold rdM18 rdC at hW ⊢
  simp only at hW ⊢
  repeat' (first
    | ((with_reducible (first
     | (refine PW.seq fun K1 hK1 => ?_) | (refine PW.region fun K2 hK2 => ?_) | ((refine hK3 _ ?_; clear hK3)) | ((refine opsP_nil ?_; refine hK2 _ ?_; clear hK2)) 
     | (refine PW.ret ?_) )))
    | (((with_reducible refine cC_recv (cs := ?_) ?_ ?_ ?_ ?_ (hW) (fun _ => ?_)); rotate_left 1; (focus (first | exact rfl | (simp only [Ua, Ub]; rfl))); (focus ((repeat' constructor); done)); (focus ((repeat' constructor); done)); (focus (simp only [purAs, purA, Bool.and_self]; done))))
    | (((with_reducible refine cC_pure ?_ (hI) (fun _ => ?_)); (focus ((repeat' constructor); done))))
    | ((simp only [thenP]; (try ((repeat (fail_if_success (with_reducible refine hK1 _ ?_)); clear hK1); (with_reducible refine hK1 _ ?_); clear hK1))))
    | (((first | (((with_reducible refine opsP_cons fun K3 hK3 => ?_); simp only [wantP, opP, valP, Ur, Us])) | (skip)); simp (disch := omega) only [St.eval, St.put, upd_app, iniT_app, avOf, avOf1, loadA, convP, bsz, U1, U7, Ua, Ub, Uc, Uf, Ug, Uk, Us, Uv, V9, Va, Ve, PmL, simprocAttr, PmT, retQ, resP, tupA, fg]; try (with_reducible (first | exact co_refl _ | exact co_own _ _ _ | exact co_nilsB | exact co_nilsL _ _)))))
  all_goals exact end_box rfl
/-- a value's bytes are read (the document's way) -/
def val18 (k : Int) (st : Rdr) : XV × Rdr :=
  if (byteS st).1 = 0 then (⟨k, true, 0, []⟩, (byteS st).2)
  else if k = 1 then (⟨1, false, (Codec.takeKeyIntF (byteS st).2.1).1, []⟩, went18 (byteS st).2 (Codec.takeKeyIntF (byteS st).2.1).2.1 (Codec.takeKeyIntF (byteS st).2.1).2.2)
  else if k = 2 then (⟨2, false, (byteS (byteS st).2).1, []⟩, (byteS (byteS st).2).2)
  else (⟨3, false, 0, (text18 (byteS st).2).1⟩, (text18 (byteS st).2).2)
set_option maxHeartbeats 4000000 in
theorem pRReadValue (k : Int) (hk : 1 ≤ k ∧ k ≤ 3) (st : Rdr) (hl : st.1.length ≤ 100000000) :
    PFun Tryd.prog 81 [.ptr 0 0, .d (.int .i64 k)] (rdM18 st) (val18 k st).1.v (rdM18 (val18 k st).2) := by
  refine fun_introM Tryd.func81 rfl rfl rfl 48 rfl ⟨Nat.le_refl _, Nat.le_refl _⟩ (fun hh hM => ?_)
  obtain ⟨l, bad⟩ := st
  have hB := pRByte l bad
  have hbl := byteS_len (l, bad)
  have hv : val18 k (l, bad) = if (byteS (l, bad)).1 = 0 then (⟨k, true, 0, []⟩, (byteS (l, bad)).2)
    else if k = 1 then (⟨1, false, (Codec.takeKeyIntF (byteS (l, bad)).2.1).1, []⟩, went18 (byteS (l, bad)).2 (Codec.takeKeyIntF (byteS (l, bad)).2.1).2.1 (Codec.takeKeyIntF (byteS (l, bad)).2.1).2.2)
    else if k = 2 then (⟨2, false, (byteS (byteS (l, bad)).2).1, []⟩, (byteS (byteS (l, bad)).2).2)
    else (⟨3, false, 0, (text18 (byteS (l, bad)).2).1⟩, (text18 (byteS (l, bad)).2).2) := rfl
  simp only at hl hbl
  have hrl := (byteS_rng (st := (l, bad)) (has_bytes (hM.box (i := 0) rfl (bs l) (by simp [rdC]))).1).2
  obtain ⟨⟨c, l1, bad1⟩, hb⟩ : ∃ r, byteS (l, bad) = r := ⟨_, rfl⟩
  rw [hb] at hB hbl hv hrl
  simp only at hB hbl hv hrl
  rw [hv]
  by_cases hc : c = 0
  · subst hc
    rw [if_pos rfl]
    unfold rdM18 rdC at hB ⊢
    unfold XV.v XV.c
    simp only at hB ⊢
    repeat' (first
      | ((with_reducible (first
       | (refine PW.seq fun K1 hK1 => ?_) | (refine PW.region fun K2 hK2 => ?_) | ((refine hK3 _ ?_; clear hK3)) | ((refine opsP_nil ?_; refine hK2 _ ?_; clear hK2)) 
       | (refine PW.ret ?_) | ((refine hX1 ?_; clear hX1 hY1; try simp only [hb])) )))
      | (((with_reducible refine cC_recv (cs := ?_) ?_ ?_ ?_ ?_ (hB) (fun _ => ?_)); rotate_left 1; (focus (first | exact rfl | (simp only [Ua, Ub]; rfl))); (focus ((repeat' constructor); done)); (focus ((repeat' constructor); done)); (focus (simp only [purAs, purA, Bool.and_self]; done))))
      | ((simp only [thenP]; (try ((repeat (fail_if_success (with_reducible refine hK1 _ ?_)); clear hK1); (with_reducible refine hK1 _ ?_); clear hK1))))
      | (((first | (((with_reducible refine opsP_cons fun K3 hK3 => ?_); simp only [wantP, opP, valP, Ur, Us])) | ((with_reducible refine PW.condM fun X1 Y1 hX1 hY1 => ?_)) | (skip)); simp (disch := omega) only [St.eval, St.put, upd_app, iniT_app, avOf, avOf1, cellsA, AV.okv, loadA, binP, intsP, intP, nilP, slA, putCells, fillA, buildA, U7, U8, Ua, Ub, Uc, Ud, Uf, Ug, Uk, Un, Up, Ut, Uu, Uv, V9, Ve, Vt, UU2, UU3, Vr, Vs, PmL, simprocAttr, PmT, retQ, resP, tupA, fg, fgs, condP, condB_t]; try (with_reducible (first | exact co_refl _ | exact co_own _ _ _ | exact co_nilsB | exact co_nilsL _ _)))))
    all_goals exact end_box rfl
  have hc' := eq_false hc
  rw [if_neg hc]
  rcases (by omega : k = 1 ∨ k = 2 ∨ k = 3) with rfl | rfl | rfl
  · rw [if_pos rfl]
    have hI := pRTakeKeyInt l1
    have hW := pRWent l1 bad1 (Codec.takeKeyIntF l1).2.1 (Codec.takeKeyIntF l1).2.2 (fun he => by
      unfold Codec.takeKeyIntF at he ⊢
      split at he
      · simp at he
      · rename_i hn
        rw [if_neg hn]
        simp only
        omega)
    obtain ⟨⟨i, n, e⟩, hi⟩ : ∃ r, Codec.takeKeyIntF l1 = r := ⟨_, rfl⟩
    obtain ⟨⟨l2, bad2⟩, hw⟩ : ∃ r, went18 (l1, bad1) n e = r := ⟨_, rfl⟩
    rw [hi] at hI hW ⊢
    simp only at hI hW ⊢
    rw [hw] at hW ⊢
    unfold rdM18 rdC at hB hW ⊢
    unfold XV.v XV.c
    simp only at hB hW ⊢
    repeat' (first
      | ((with_reducible (first
       | (refine PW.seq fun K1 hK1 => ?_) | (refine PW.region fun K2 hK2 => ?_) | ((refine hK3 _ ?_; clear hK3)) | ((refine opsP_nil ?_; refine hK2 _ ?_; clear hK2)) 
       | (refine PW.block ?_) | (refine PW.skip ?_) | (refine PW.ret ?_) | ((refine hX1 ?_; clear hX1 hY1; try simp only [hb])) | ((refine hY1 ?_; clear hX1 hY1; try simp only [hb])) )))
      | (((with_reducible refine cC_recv (cs := ?_) ?_ ?_ ?_ ?_ (hB) (fun _ => ?_)); rotate_left 1; (focus (first | exact rfl | (simp only [Ua, Ub]; rfl))); (focus ((repeat' constructor) <;> (simp only [purAs, purA, Vf, Bool.and_self, hc']; done))); (focus ((repeat' constructor) <;> (simp only [purAs, purA, Vf, Bool.and_self, hc']; done))); (focus (simp only [purAs, purA, Bool.and_self]; done))))
      | (((with_reducible refine cC_recv (cs := ?_) ?_ ?_ ?_ ?_ (hW) (fun _ => ?_)); rotate_left 1; (focus (first | exact rfl | (simp only [Ua, Ub]; rfl))); (focus ((repeat' constructor) <;> (simp only [purAs, purA, Vf, Bool.and_self, hc']; done))); (focus ((repeat' constructor) <;> (simp only [purAs, purA, Vf, Bool.and_self, hc']; done))); (focus (simp only [purAs, purA, Bool.and_self]; done))))
      | (((with_reducible refine cC_pure ?_ (hI) (fun _ => ?_)); (focus ((repeat' constructor) <;> (simp only [purAs, purA, Vf, Bool.and_self, hc']; done)))))
      | ((simp only [thenP, blockP]; (try ((repeat (fail_if_success (with_reducible refine hK1 _ ?_)); clear hK1); (with_reducible refine hK1 _ ?_); clear hK1))))
      | (((first | (((with_reducible refine opsP_cons fun K3 hK3 => ?_); simp only [wantP, opP, valP, Ur, Us])) | ((with_reducible refine PW.condM fun X1 Y1 hX1 hY1 => ?_)) | (skip)); simp (disch := omega) only [St.eval, St.put, upd_app, iniT_app, avOf, avOf1, cellsA, AV.okv, loadA, binP, intsP, intP, nilP, slA, putCells, fillA, buildA, U7, U8, Ua, Ub, Uc, Ud, Uf, Ug, Uk, Un, Up, Ut, Uu, Uv, V9, Va, Ve, Vt, UU2, UU3, Vr, Vs, PmL, simprocAttr, PmT, hc', retQ, resP, tupA, fg, fgs, condP, condB_t, condB_f]; try (with_reducible (first | exact co_refl _ | exact co_own _ _ _ | exact co_nilsB | exact co_nilsL _ _)))))
    all_goals exact end_box rfl
  · rw [if_neg (by omega), if_pos rfl]
    have hB2 := pRByte l1 bad1
    have hcr := (byteS_rng (st := (l1, bad1)) hrl).1
    obtain ⟨⟨c2, l2, bad2⟩, hb2⟩ : ∃ r, byteS (l1, bad1) = r := ⟨_, rfl⟩
    rw [hb2] at hB2 hcr ⊢
    have hwc : IntKind.i64.wrap c2 = c2 := IntWalk.i64_in c2 (by simp only at hcr; omega)
    unfold rdM18 rdC at hB hB2 ⊢
    unfold XV.v XV.c
    simp only at hB hB2 ⊢
    repeat' (first
      | ((with_reducible (first
       | (refine PW.seq fun K1 hK1 => ?_) | (refine PW.region fun K2 hK2 => ?_) | ((refine hK3 _ ?_; clear hK3)) | ((refine opsP_nil ?_; refine hK2 _ ?_; clear hK2)) 
       | (refine PW.block ?_) | (refine PW.skip ?_) | (refine PW.ret ?_) | ((refine hX1 ?_; clear hX1 hY1; try simp only [hb])) | ((refine hY1 ?_; clear hX1 hY1; try simp only [hb])) )))
      | (((with_reducible refine cC_recv (cs := ?_) ?_ ?_ ?_ ?_ (hB) (fun _ => ?_)); rotate_left 1; (focus (first | exact rfl | (simp only [Ua, Ub]; rfl))); (focus ((repeat' constructor) <;> (simp only [purAs, purA, Vf, Bool.and_self, hc', hwc]; done))); (focus ((repeat' constructor) <;> (simp only [purAs, purA, Vf, Bool.and_self, hc', hwc]; done))); (focus (simp only [purAs, purA, Bool.and_self]; done))))
      | (((with_reducible refine cC_recv (cs := ?_) ?_ ?_ ?_ ?_ (hB2) (fun _ => ?_)); rotate_left 1; (focus (first | exact rfl | (simp only [Ua, Ub]; rfl))); (focus ((repeat' constructor) <;> (simp only [purAs, purA, Vf, Bool.and_self, hc', hwc]; done))); (focus ((repeat' constructor) <;> (simp only [purAs, purA, Vf, Bool.and_self, hc', hwc]; done))); (focus (simp only [purAs, purA, Bool.and_self]; done))))
      | ((simp only [thenP, blockP]; (try ((repeat (fail_if_success (with_reducible refine hK1 _ ?_)); clear hK1); (with_reducible refine hK1 _ ?_); clear hK1))))
      | (((first | (((with_reducible refine opsP_cons fun K3 hK3 => ?_); simp only [wantP, opP, valP, Ur, Us])) | ((with_reducible refine PW.condM fun X1 Y1 hX1 hY1 => ?_)) | (skip)); simp (disch := omega) only [St.eval, St.put, upd_app, iniT_app, avOf, avOf1, cellsA, AV.okv, loadA, binP, intsP, intP, nilP, convP, slA, putCells, fillA, buildA, U7, U8, Ua, Ub, Uc, Ud, Uf, Ug, Uk, Un, Up, Ut, Uu, Uv, V9, Ve, Vt, UU2, UU3, Vr, Vs, PmL, simprocAttr, PmT, hc', hwc, retQ, resP, tupA, fg, fgs, condP, condB_t, condB_f]; try (with_reducible (first | exact co_refl _ | exact co_own _ _ _ | exact co_nilsB | exact co_nilsL _ _)))))
    all_goals exact end_box rfl
  · rw [if_neg (by omega), if_neg (by omega)]
    have hB2 := pRReadText l1 bad1 (by omega)
    obtain ⟨⟨c2, l2, bad2⟩, hb2⟩ : ∃ r, text18 (l1, bad1) = r := ⟨_, rfl⟩
    rw [hb2] at hB2 ⊢
    unfold rdM18 rdC at hB hB2 ⊢
    unfold XV.v XV.c
    simp only at hB hB2 ⊢
    repeat' (first
      | ((with_reducible (first
       | (refine PW.seq fun K1 hK1 => ?_) | (refine PW.region fun K2 hK2 => ?_) | ((refine hK3 _ ?_; clear hK3)) | ((refine opsP_nil ?_; refine hK2 _ ?_; clear hK2)) 
       | (refine PW.block ?_) | (refine PW.skip ?_) | (refine PW.ret ?_) | ((refine hX1 ?_; clear hX1 hY1; try simp only [hb])) | ((refine hY1 ?_; clear hX1 hY1; try simp only [hb])) )))
      | (((with_reducible refine cC_recv (cs := ?_) ?_ ?_ ?_ ?_ (hB) (fun _ => ?_)); rotate_left 1; (focus (first | exact rfl | (simp only [Ua, Ub]; rfl))); (focus ((repeat' constructor) <;> (simp only [purAs, purA, Vf, Bool.and_self, hc']; done))); (focus ((repeat' constructor) <;> (simp only [purAs, purA, Vf, Bool.and_self, hc']; done))); (focus (simp only [purAs, purA, Bool.and_self]; done))))
      | (((with_reducible refine cC_recv (cs := ?_) ?_ ?_ ?_ ?_ (hB2) (fun _ => ?_)); rotate_left 1; (focus (first | exact rfl | (simp only [Ua, Ub]; rfl))); (focus ((repeat' constructor) <;> (simp only [purAs, purA, Vf, Bool.and_self, hc']; done))); (focus ((repeat' constructor) <;> (simp only [purAs, purA, Vf, Bool.and_self, hc']; done))); (focus (simp only [purAs, purA, Bool.and_self]; done))))
      | ((simp only [thenP, blockP]; (try ((repeat (fail_if_success (with_reducible refine hK1 _ ?_)); clear hK1); (with_reducible refine hK1 _ ?_); clear hK1))))
      | (((first | (((with_reducible refine opsP_cons fun K3 hK3 => ?_); simp only [wantP, opP, valP, Ur, Us])) | ((with_reducible refine PW.condM fun X1 Y1 hX1 hY1 => ?_)) | (skip)); simp (disch := omega) only [St.eval, St.put, upd_app, iniT_app, avOf, avOf1, cellsA, AV.okv, loadA, binP, intsP, intP, nilP, slA, putCells, fillA, buildA, U7, U8, Ua, Ub, Uc, Ud, Uf, Ug, Uk, Un, Up, Ut, Uu, Uv, V9, Ve, Vt, UU2, UU3, Vr, Vs, PmL, simprocAttr, PmT, hc', retQ, resP, tupA, fg, fgs, condP, condB_t, condB_f]; try (with_reducible (first | exact co_refl _ | exact co_own _ _ _ | exact co_nilsB | exact co_nilsL _ _)))))
    all_goals exact end_box rfl
theorem pRTakeValue (k : Int) (hk : 1 ≤ k ∧ k ≤ 3) (b : List Int) (hl : b.length ≤ 100000000) :
    Pure Tryd.prog 51 [bs b, .d (.int .i64 k)] (.tup [(val18 k (b, false)).1.v, bs (val18 k (b, false)).2.1, .d (.bool (!(val18 k (b, false)).2.2))]) := by
  refine pure_intro Tryd.func51 rfl rfl rfl 25 rfl (fun hh => ?_)
  have hV := pRReadValue k hk (b, false) hl
  obtain ⟨⟨⟨xa, xb, xc, xd⟩, l2, bad2⟩, hv⟩ : ∃ r, val18 k (b, false) = r := ⟨_, rfl⟩
  rw [hv] at hV ⊢
  unfold rdM18 rdC at hV
  unfold XV.v XV.c at hV ⊢
  simp only at hV ⊢
  repeat' (first
    | (((with_reducible first | refine keepA_intro (keep12x _ _ _ _ _ _ _ _) ?_ | refine keepO_intro (.inl (keep12x _ _ _ _ _ _ _ _)) ?_)))
    | ((with_reducible (first
     | (refine PW.seq fun K1 hK1 => ?_) | (refine PW.region fun K2 hK2 => ?_) | ((refine hK3 _ ?_; clear hK3)) | ((refine opsP_nil ?_; refine hK2 _ ?_; clear hK2)) 
     | (refine PW.ret ?_) | ((refine opsO_nil ?_; refine hK2 _ ?_; clear hK2)) )))
    | (((with_reducible refine cC_recv (cs := ?_) ?_ ?_ ?_ ?_ (hV) (fun _ => ?_)); rotate_left 1; (focus (first | exact rfl | (simp only [Ua, Ub]; rfl))); (focus ((repeat' constructor); done)); (focus ((repeat' constructor); done)); (focus (simp only [purAs, purA, Bool.and_self]; done))))
    | (((with_reducible refine PW.draw (id := 3) mixed [1,2] [] [(0, true), (1, true), (2, true), (3, true), (4, true), (5, true), (6, true), (7, true), (8, true), (9, true), (10, false), (11, true), (12, true)] (by kernel_rfl) (by decide) fun K2 hK2 => ?_)))
    | ((simp only [thenP]; (try ((repeat (fail_if_success (with_reducible refine hK1 _ ?_)); clear hK1); (with_reducible refine hK1 _ ?_); clear hK1))))
    | (((first | (((with_reducible refine opsP_cons fun K3 hK3 => ?_); simp only [wantP, opP, valP, Ur, Us])) | (((with_reducible refine opsO_first (o := ?_) ?_ fun K3 hK3 => ?_); rotate_left 1; (focus (simp only [Uz, Ub, Ua] <;> rfl)); simp only [wantP, firstP, valP])) | (((with_reducible refine opsO_only (o := ?_) ?_ fun K3 hK3 => ?_); rotate_left 1; (focus (simp only [Uz, Ub, Ua] <;> rfl)); simp only [wantP, opP, Uw, Ux])) | (skip)); simp (disch := omega) only [St.eval, St.put, upd_app, iniT_app, avOf, avOf1, nom, cellsA, AV.okv, loadA, unP, putCells, fillA, buildA, U7, U8, Ua, Ub, Uc, Ud, Uf, Ug, Uk, Ul, Un, Up, Ut, Uu, Uv, V9, Va, Ve, Vt, UU2, UU3, Vr, PmL, simprocAttr, PmT, retQ, resP, tupA, fg, fgs, firstOk, List.mem_cons]; try (with_reducible (first | exact co_refl _ | exact co_own _ _ _ | exact co_nilsB | exact co_nilsL _ _)))))
/-- a column's key is read (the document's way): the value, what is left, whether it is there -/
def takeKeyS (k : Int) (b : List Int) : XV × List Int × Bool :=
  if b.length = 0 then (⟨k, false, 0, []⟩, [], false) else if b[0]? = some 2 then (⟨k, true, 0, []⟩, b.drop 1, true)
  else if k = 1 then (if (Codec.takeKeyIntF (b.drop 1)).2.2 = 0 then (⟨1, false, (Codec.takeKeyIntF (b.drop 1)).1, []⟩, (b.drop 1).drop (Codec.takeKeyIntF (b.drop 1)).2.1.toNat, true) else (⟨1, false, 0, []⟩, [], false))
  else if k = 2 then (if (b.drop 1).length = 0 then (⟨2, false, 0, []⟩, [], false) else (⟨2, false, (b.drop 1).getD 0 0, []⟩, (b.drop 1).drop 1, true))
  else (if (Codec.tkL (b.drop 1)).2.2 = 0 then (⟨k, false, 0, (Codec.tkL (b.drop 1)).1⟩, (b.drop 1).drop (Codec.tkL (b.drop 1)).2.1.toNat, true) else (⟨k, false, 0, []⟩, [], false))
theorem co_tk (v : AV) (b : AV) : Co (.tup [v, .nils, b]) (.tup [v, bs [], b]) := by
  have h : Co .nils (bs []) := co_nilsB
  unfold Co
  refine ⟨_, rfl, cos_cons (co_refl _) (cos_cons h (cos_refl _))⟩
set_option maxHeartbeats 4000000 in
theorem pRTakeKey (b : List Int) (k : Int) (hl : b.length ≤ 100000000) : Pure Tryd.prog 80 [bs b, .d (.int .i64 k)] (.tup [(takeKeyS k b).1.v, bs (takeKeyS k b).2.1, .d (.bool (takeKeyS k b).2.2)]) := by
  refine pure_intro Tryd.func80 rfl rfl rfl 78 rfl (fun hh => ?_)
  have hrb := (has_bytes (hh (bs b) (by simp))).1
  by_cases h0 : (b.length : Int) = 0
  · have h0' := eq_true h0
    have e : takeKeyS k b = (⟨k, false, 0, []⟩, [], false) := if_pos (by omega)
    rw [e]
    unfold XV.v XV.c
    simp only
    repeat' (first
      | ((with_reducible (first
       | (refine PW.seq fun K1 hK1 => ?_) | (refine PW.region fun K2 hK2 => ?_) | ((refine hK3 _ ?_; clear hK3)) | ((refine opsP_nil ?_; refine hK2 _ ?_; clear hK2)) 
       | (refine PW.ret ?_) | ((refine hX1 ?_; clear hX1 hY1; try simp only [hb])) )))
      | ((simp only [thenP]; (try ((repeat (fail_if_success (with_reducible refine hK1 _ ?_)); clear hK1); (with_reducible refine hK1 _ ?_); clear hK1))))
      | (((first | (((with_reducible refine opsP_cons fun K3 hK3 => ?_); simp only [wantP, opP, valP, Ur, Us])) | ((with_reducible refine PW.condM fun X1 Y1 hX1 hY1 => ?_)) | (skip)); simp (disch := omega) only [St.eval, St.put, upd_app, iniT_app, avOf, avOf1, nom, cellsA, AV.okv, loadA, lenP, binP, intsP, intP, nilP, builtinP, isMapA, slA, putCells, fillA, buildA, U7, U8, Ua, Ub, Uc, Ud, Uf, Ug, Uk, Un, Up, Ut, Uu, V9, Vt, UU2, UU3, Vr, PmL, simprocAttr, PmT, h0', retQ, resP, tupA, fg, fgs, condP, condB_t]; try (with_reducible (first | exact co_refl _ | exact co_own _ _ _ | exact co_nilsB | exact co_nilsL _ _)))))
    exact co_tk _ _
  have h0' := eq_false h0
  obtain ⟨c, hc⟩ : ∃ c, b[0]? = some c := ⟨_, List.getElem?_eq_getElem (by omega)⟩
  by_cases h2 : c = 2
  · subst h2
    have e : takeKeyS k b = (⟨k, true, 0, []⟩, b.drop 1, true) := by unfold takeKeyS; rw [if_neg (by omega), if_pos hc]
    rw [e]
    unfold XV.v XV.c
    simp only
    repeat' (first
      | (((with_reducible first | refine keepA_intro (keep1x _ _ _ _ _ _ _) ?_ | refine keepO_intro (.inl (keep1x _ _ _ _ _ _ _)) ?_)))
      | ((with_reducible (first
       | (refine PW.seq fun K1 hK1 => ?_) | (refine PW.region fun K2 hK2 => ?_) | ((refine hK3 _ ?_; clear hK3)) | ((refine opsP_nil ?_; refine hK2 _ ?_; clear hK2)) | ((refine Exists.intro _ (Exists.intro _ (And.intro rfl (And.intro rfl (And.intro ?_ ?_)))); focus omega)) | (refine PW.skip ?_)
       | (refine PW.ret ?_) | ((refine hX1 ?_; clear hX1 hY1; try simp only [hb])) | ((refine hY1 ?_; clear hX1 hY1; try simp only [hb])) | ((refine opsO_nil ?_; refine hK2 _ ?_; clear hK2)) )))
      | (((with_reducible refine PW.draw (id := 6) mixed [1] [] [(0, true), (1, true), (2, true), (3, false), (4, true), (5, true)] (by kernel_rfl) (by decide) fun K2 hK2 => ?_)))
      | ((simp only [thenP]; (try ((repeat (fail_if_success (with_reducible refine hK1 _ ?_)); clear hK1); (with_reducible refine hK1 _ ?_); clear hK1))))
      | (((first | (((with_reducible refine opsP_cons fun K3 hK3 => ?_); simp only [wantP, opP, valP, Ur, Us])) | (((with_reducible refine opsO_first (o := ?_) ?_ fun K3 hK3 => ?_); rotate_left 1; (focus (simp only [Uz, Ub, Ua] <;> rfl)); simp only [wantP, firstP, valP])) | (((with_reducible refine opsO_only (o := ?_) ?_ fun K3 hK3 => ?_); rotate_left 1; (focus (simp only [Uz, Ub, Ua] <;> rfl)); simp only [wantP, opP, Uw, Ux])) | ((with_reducible refine PW.condM fun X1 Y1 hX1 hY1 => ?_)) | (skip)); simp (disch := omega) only [St.eval, St.put, upd_app, iniT_app, avOf, avOf1, nom, cellsA, AV.okv, loadA, lenP, binP, intsP, intP, nilP, sliceP, boundLo, boundHi, builtinP, isMapA, slA, putCells, fillA, buildA, U7, U8, Ua, Ub, Uc, Ud, Uf, Ug, Uk, Un, Up, Uq, Ur, Us, Ut, Uu, V2, V3, V7, V8, V9, Ve, Vt, UU2, UU3, UU4, Vr, Vs, PmL, simprocAttr, PmT, h0', hc, retQ, resP, tupA, fg, fgs, condP, condB_t, condB_f, firstOk, List.mem_cons]; try (with_reducible (first | exact co_refl _ | exact co_own _ _ _ | exact co_nilsB | exact co_nilsL _ _)))))
  have h2' := eq_false h2
  have e0 : takeKeyS k b = if k = 1 then (if (Codec.takeKeyIntF (b.drop 1)).2.2 = 0 then (⟨1, false, (Codec.takeKeyIntF (b.drop 1)).1, []⟩, (b.drop 1).drop (Codec.takeKeyIntF (b.drop 1)).2.1.toNat, true) else (⟨1, false, 0, []⟩, [], false))
    else if k = 2 then (if (b.drop 1).length = 0 then (⟨2, false, 0, []⟩, [], false) else (⟨2, false, (b.drop 1).getD 0 0, []⟩, (b.drop 1).drop 1, true))
    else (if (Codec.tkL (b.drop 1)).2.2 = 0 then (⟨k, false, 0, (Codec.tkL (b.drop 1)).1⟩, (b.drop 1).drop (Codec.tkL (b.drop 1)).2.1.toNat, true) else (⟨k, false, 0, []⟩, [], false)) := by
    unfold takeKeyS
    rw [if_neg (by omega), if_neg (by rw [hc]; intro h; exact h2 (Option.some.inj h))]
  have hb1 : (b.drop 1).length ≤ 100000000 := by rw [List.length_drop]; omega
  have hr1 : Rng (b.drop 1) := fun x hx => hrb x (List.mem_of_mem_drop hx)
  obtain ⟨d, hd⟩ : ∃ d, b.drop 1 = d := ⟨_, rfl⟩
  rw [hd] at e0 hb1 hr1
  rw [e0]
  by_cases k1 : k = 1
  · subst k1
    rw [if_pos rfl]
    have hI := pRTakeKeyInt d
    have hW : (Codec.takeKeyIntF d).2.2 = 0 → 0 ≤ (Codec.takeKeyIntF d).2.1 ∧ (Codec.takeKeyIntF d).2.1 ≤ d.length := fun he => by
      unfold Codec.takeKeyIntF at he ⊢
      split at he
      · simp at he
      · rename_i hn
        rw [if_neg hn]
        simp only
        omega
    obtain ⟨⟨i, n, e⟩, hi⟩ : ∃ r, Codec.takeKeyIntF d = r := ⟨_, rfl⟩
    rw [hi] at hI hW ⊢
    simp only at hI hW ⊢
    by_cases he : e = 0
    · subst he
      obtain ⟨w1, w2⟩ := hW rfl
      rw [if_pos rfl]
      unfold XV.v XV.c
      simp only
      repeat' (first
        | (((with_reducible first | refine keepA_intro (keep1x _ _ _ _ _ _ _) ?_ | refine keepO_intro (.inl (keep1x _ _ _ _ _ _ _)) ?_)))
        | ((with_reducible (first
         | (refine PW.seq fun K1 hK1 => ?_) | (refine PW.region fun K2 hK2 => ?_) | ((refine hK3 _ ?_; clear hK3)) | ((refine opsP_nil ?_; refine hK2 _ ?_; clear hK2)) | ((refine Exists.intro _ (Exists.intro _ (And.intro rfl (And.intro rfl (And.intro ?_ ?_)))); focus omega)) | (refine PW.block ?_) | (refine PW.skip ?_)
         | (refine PW.ret ?_) | ((refine hX1 ?_; clear hX1 hY1; try simp only [hb])) | ((refine hY1 ?_; clear hX1 hY1; try simp only [hb])) | ((refine opsO_nil ?_; refine hK2 _ ?_; clear hK2)) )))
        | (((with_reducible refine cC_pure ?_ (hI) (fun _ => ?_)); (focus ((repeat' constructor) <;> (simp only [purAs, purA, Vf, Bool.and_self, h0', hc, h2', hd]; done)))))
        | (((with_reducible refine PW.draw (id := 14) mixed [1] [] [(0, true), (1, true), (2, true), (3, true), (4, false), (5, true), (6, true)] (by kernel_rfl) (by decide) fun K2 hK2 => ?_)))
        | ((simp only [thenP, blockP]; (try ((repeat (fail_if_success (with_reducible refine hK1 _ ?_)); clear hK1); (with_reducible refine hK1 _ ?_); clear hK1))))
        | (((first | (((with_reducible refine opsP_cons fun K3 hK3 => ?_); simp only [wantP, opP, valP, Ur, Us])) | (((with_reducible refine opsO_first (o := ?_) ?_ fun K3 hK3 => ?_); rotate_left 1; (focus (simp only [Uz, Ub, Ua] <;> rfl)); simp only [wantP, firstP, valP])) | (((with_reducible refine opsO_only (o := ?_) ?_ fun K3 hK3 => ?_); rotate_left 1; (focus (simp only [Uz, Ub, Ua] <;> rfl)); simp only [wantP, opP, Uw, Ux])) | ((with_reducible refine PW.condM fun X1 Y1 hX1 hY1 => ?_)) | (skip)); simp (disch := omega) only [St.eval, St.put, upd_app, iniT_app, avOf, avOf1, nom, cellsA, AV.okv, loadA, lenP, binP, intsP, intP, nilP, sliceP, boundLo, boundHi, builtinP, isMapA, slA, putCells, fillA, buildA, U7, U8, Ua, Ub, Uc, Ud, Uf, Ug, Uk, Un, Up, Uq, Ur, Us, Ut, Uu, Uv, V2, V3, V7, V8, V9, Ve, Vt, UU2, UU3, UU4, Vr, Vs, PmL, simprocAttr, PmT, h0', hc, h2', hd, retQ, resP, tupA, fg, fgs, condP, condB_t, condB_f, firstOk, List.mem_cons]; try (with_reducible (first | exact co_refl _ | exact co_own _ _ _ | exact co_nilsB | exact co_nilsL _ _)))))
    · have he' := eq_false he
      rw [if_neg he]
      unfold XV.v XV.c
      simp only
      repeat' (first
        | ((with_reducible (first
         | (refine PW.seq fun K1 hK1 => ?_) | (refine PW.region fun K2 hK2 => ?_) | ((refine hK3 _ ?_; clear hK3)) | ((refine opsP_nil ?_; refine hK2 _ ?_; clear hK2)) | ((refine Exists.intro _ (Exists.intro _ (And.intro rfl (And.intro rfl (And.intro ?_ ?_)))); focus omega)) | (refine PW.block ?_) | (refine PW.skip ?_)
         | (refine PW.ret ?_) | ((refine hX1 ?_; clear hX1 hY1; try simp only [hb])) | ((refine hY1 ?_; clear hX1 hY1; try simp only [hb])) )))
        | (((with_reducible refine cC_pure ?_ (hI) (fun _ => ?_)); (focus ((repeat' constructor) <;> (simp only [purAs, purA, Vf, Bool.and_self, h0', hc, h2', hd, he']; done)))))
        | ((simp only [thenP, blockP]; (try ((repeat (fail_if_success (with_reducible refine hK1 _ ?_)); clear hK1); (with_reducible refine hK1 _ ?_); clear hK1))))
        | (((first | (((with_reducible refine opsP_cons fun K3 hK3 => ?_); simp only [wantP, opP, valP, Ur, Us])) | ((with_reducible refine PW.condM fun X1 Y1 hX1 hY1 => ?_)) | (skip)); simp (disch := omega) only [St.eval, St.put, upd_app, iniT_app, avOf, avOf1, nom, cellsA, AV.okv, loadA, lenP, binP, intsP, intP, nilP, sliceP, boundLo, boundHi, builtinP, isMapA, slA, putCells, fillA, buildA, U7, U8, Ua, Ub, Uc, Ud, Uf, Ug, Uk, Un, Up, Uq, Ur, Us, Ut, Uu, Uv, V2, V3, V7, V8, V9, Vt, UU2, UU3, UU4, Vr, Vs, PmL, simprocAttr, PmT, h0', hc, h2', hd, he', retQ, resP, tupA, fg, fgs, condP, condB_t, condB_f]; try (with_reducible (first | exact co_refl _ | exact co_own _ _ _ | exact co_nilsB | exact co_nilsL _ _)))))
      exact co_tk _ _
  have k1' := eq_false k1
  rw [if_neg k1]
  by_cases k2 : k = 2
  · subst k2
    rw [if_pos rfl]
    by_cases hd0 : (d.length : Int) = 0
    · have hd0' := eq_true hd0
      rw [if_pos (by omega)]
      unfold XV.v XV.c
      simp only
      repeat' (first
        | ((with_reducible (first
         | (refine PW.seq fun K1 hK1 => ?_) | (refine PW.region fun K2 hK2 => ?_) | ((refine hK3 _ ?_; clear hK3)) | ((refine opsP_nil ?_; refine hK2 _ ?_; clear hK2)) | ((refine Exists.intro _ (Exists.intro _ (And.intro rfl (And.intro rfl (And.intro ?_ ?_)))); focus omega)) | (refine PW.block ?_) | (refine PW.skip ?_)
         | (refine PW.ret ?_) | ((refine hX1 ?_; clear hX1 hY1; try simp only [hb])) | ((refine hY1 ?_; clear hX1 hY1; try simp only [hb])) )))
        | ((simp only [thenP, blockP]; (try ((repeat (fail_if_success (with_reducible refine hK1 _ ?_)); clear hK1); (with_reducible refine hK1 _ ?_); clear hK1))))
        | (((first | (((with_reducible refine opsP_cons fun K3 hK3 => ?_); simp only [wantP, opP, valP, Ur, Us])) | ((with_reducible refine PW.condM fun X1 Y1 hX1 hY1 => ?_)) | (skip)); simp (disch := omega) only [St.eval, St.put, upd_app, iniT_app, avOf, avOf1, nom, cellsA, AV.okv, loadA, lenP, binP, intsP, intP, nilP, sliceP, boundLo, boundHi, builtinP, isMapA, slA, putCells, fillA, buildA, U7, U8, Ua, Ub, Uc, Ud, Uf, Ug, Uk, Un, Up, Uq, Ur, Us, Ut, Uu, V2, V3, V7, V8, V9, Vt, UU2, UU3, UU4, Vr, Vs, PmL, simprocAttr, PmT, h0', hc, h2', hd, hd0', retQ, resP, tupA, fg, fgs, condP, condB_t, condB_f]; try (with_reducible (first | exact co_refl _ | exact co_own _ _ _ | exact co_nilsB | exact co_nilsL _ _)))))
      exact co_tk _ _
    · have hd0' := eq_false hd0
      obtain ⟨c2, hc2⟩ : ∃ c, d[0]? = some c := ⟨_, List.getElem?_eq_getElem (by omega)⟩
      have hcr := hr1 c2 (List.mem_of_getElem? hc2)
      have hwc : IntKind.i64.wrap c2 = c2 := IntWalk.i64_in c2 (by omega)
      rw [if_neg (by omega), List.getD_eq_getElem?_getD, hc2, Option.getD_some]
      unfold XV.v XV.c
      simp only
      repeat' (first
        | (((with_reducible first | refine keepA_intro (keep1x _ _ _ _ _ _ _) ?_ | refine keepO_intro (.inl (keep1x _ _ _ _ _ _ _)) ?_)))
        | ((with_reducible (first
         | (refine PW.seq fun K1 hK1 => ?_) | (refine PW.region fun K2 hK2 => ?_) | ((refine hK3 _ ?_; clear hK3)) | ((refine opsP_nil ?_; refine hK2 _ ?_; clear hK2)) | ((refine Exists.intro _ (Exists.intro _ (And.intro rfl (And.intro rfl (And.intro ?_ ?_)))); focus omega)) | (refine PW.block ?_) | (refine PW.skip ?_)
         | (refine PW.ret ?_) | ((refine hX1 ?_; clear hX1 hY1; try simp only [hb])) | ((refine hY1 ?_; clear hX1 hY1; try simp only [hb])) | ((refine opsO_nil ?_; refine hK2 _ ?_; clear hK2)) )))
        | (((with_reducible refine PW.draw (id := 19) mixed [1] [] [(0, true), (1, true), (2, true), (3, false), (4, true), (5, true)] (by kernel_rfl) (by decide) fun K2 hK2 => ?_)))
        | ((simp only [thenP, blockP]; (try ((repeat (fail_if_success (with_reducible refine hK1 _ ?_)); clear hK1); (with_reducible refine hK1 _ ?_); clear hK1))))
        | (((first | (((with_reducible refine opsP_cons fun K3 hK3 => ?_); simp only [wantP, opP, valP, Ur, Us])) | (((with_reducible refine opsO_first (o := ?_) ?_ fun K3 hK3 => ?_); rotate_left 1; (focus (simp only [Uz, Ub, Ua] <;> rfl)); simp only [wantP, firstP, valP])) | (((with_reducible refine opsO_only (o := ?_) ?_ fun K3 hK3 => ?_); rotate_left 1; (focus (simp only [Uz, Ub, Ua] <;> rfl)); simp only [wantP, opP, Uw, Ux])) | ((with_reducible refine PW.condM fun X1 Y1 hX1 hY1 => ?_)) | (skip)); simp (disch := omega) only [St.eval, St.put, upd_app, iniT_app, avOf, avOf1, nom, cellsA, AV.okv, loadA, lenP, binP, intsP, intP, nilP, convP, sliceP, boundLo, boundHi, builtinP, isMapA, slA, putCells, fillA, buildA, U7, U8, Ua, Ub, Uc, Ud, Uf, Ug, Uk, Un, Up, Uq, Ur, Us, Ut, Uu, V2, V3, V7, V8, V9, Ve, Vt, UU2, UU3, UU4, Vr, Vs, PmL, simprocAttr, PmT, h0', hc, h2', hd, hd0', hc2, hwc, retQ, resP, tupA, fg, fgs, condP, condB_t, condB_f, firstOk, List.mem_cons]; try (with_reducible (first | exact co_refl _ | exact co_own _ _ _ | exact co_nilsB | exact co_nilsL _ _)))))
  have k2' := eq_false k2
  rw [if_neg k2]
  have hI := pRTakeKeyText d (by omega)
  have hW : 0 ≤ (Codec.tkL d).2.1 ∧ (Codec.tkL d).2.1 ≤ d.length := ⟨(tkL_bd d).1, (tkL_bd d).2.1⟩
  obtain ⟨⟨i, n, e⟩, hi⟩ : ∃ r, Codec.tkL d = r := ⟨_, rfl⟩
  rw [hi] at hI hW ⊢
  simp only at hI hW ⊢
  obtain ⟨w1, w2⟩ := hW
  by_cases he : e = 0
  · subst he
    rw [if_pos rfl]
    unfold XV.v XV.c
    simp only
    repeat' (first
      | (((with_reducible first | refine keepA_intro (keep1x _ _ _ _ _ _ _) ?_ | refine keepO_intro (.inl (keep1x _ _ _ _ _ _ _)) ?_)))
      | ((with_reducible (first
       | (refine PW.seq fun K1 hK1 => ?_) | (refine PW.region fun K2 hK2 => ?_) | ((refine hK3 _ ?_; clear hK3)) | ((refine opsP_nil ?_; refine hK2 _ ?_; clear hK2)) | ((refine Exists.intro _ (Exists.intro _ (And.intro rfl (And.intro rfl (And.intro ?_ ?_)))); focus omega)) | (refine PW.block ?_) | (refine PW.skip ?_)
       | (refine PW.ret ?_) | ((refine hY1 ?_; clear hX1 hY1; try simp only [hb])) | ((refine opsO_nil ?_; refine hK2 _ ?_; clear hK2)) )))
      | (((with_reducible refine cC_pure ?_ (hI) (fun _ => ?_)); (focus ((repeat' constructor) <;> (simp only [purAs, purA, Vf, Bool.and_self, h0', hc, h2', hd, k1', k2']; done)))))
      | (((with_reducible refine PW.draw (id := 24) mixed [1] [] [(0, true), (1, true), (2, true), (3, true), (4, false), (5, true), (6, true)] (by kernel_rfl) (by decide) fun K2 hK2 => ?_)))
      | ((simp only [thenP, blockP]; (try ((repeat (fail_if_success (with_reducible refine hK1 _ ?_)); clear hK1); (with_reducible refine hK1 _ ?_); clear hK1))))
      | (((first | (((with_reducible refine opsP_cons fun K3 hK3 => ?_); simp only [wantP, opP, valP, Ur, Us])) | (((with_reducible refine opsO_first (o := ?_) ?_ fun K3 hK3 => ?_); rotate_left 1; (focus (simp only [Uz, Ub, Ua] <;> rfl)); simp only [wantP, firstP, valP])) | (((with_reducible refine opsO_only (o := ?_) ?_ fun K3 hK3 => ?_); rotate_left 1; (focus (simp only [Uz, Ub, Ua] <;> rfl)); simp only [wantP, opP, Uw, Ux])) | ((with_reducible refine PW.condM fun X1 Y1 hX1 hY1 => ?_)) | (skip)); simp (disch := omega) only [St.eval, St.put, upd_app, iniT_app, avOf, avOf1, nom, cellsA, AV.okv, loadA, lenP, binP, intsP, intP, nilP, convP, sliceP, boundLo, boundHi, builtinP, isMapA, slA, putCells, fillA, buildA, U7, U8, Ua, Ub, Uc, Ud, Uf, Ug, Uk, Un, Up, Uq, Ur, Us, Ut, Uu, Uv, V2, V3, V7, V8, V9, Ve, Vt, UU2, UU3, UU4, Vr, Vs, PmL, simprocAttr, PmT, h0', hc, h2', hd, k1', k2', retQ, resP, tupA, fg, fgs, condP, condB_f, firstOk, List.mem_cons]; try (with_reducible (first | exact co_refl _ | exact co_own _ _ _ | exact co_nilsB | exact co_nilsL _ _)))))
  · have he' := eq_false he
    rw [if_neg he]
    unfold XV.v XV.c
    simp only
    repeat' (first
      | ((with_reducible (first
       | (refine PW.seq fun K1 hK1 => ?_) | (refine PW.region fun K2 hK2 => ?_) | ((refine hK3 _ ?_; clear hK3)) | ((refine opsP_nil ?_; refine hK2 _ ?_; clear hK2)) | ((refine Exists.intro _ (Exists.intro _ (And.intro rfl (And.intro rfl (And.intro ?_ ?_)))); focus omega)) | (refine PW.block ?_) | (refine PW.skip ?_)
       | (refine PW.ret ?_) | ((refine hX1 ?_; clear hX1 hY1; try simp only [hb])) | ((refine hY1 ?_; clear hX1 hY1; try simp only [hb])) )))
      | (((with_reducible refine cC_pure ?_ (hI) (fun _ => ?_)); (focus ((repeat' constructor) <;> (simp only [purAs, purA, Vf, Bool.and_self, h0', hc, h2', hd, he', k1', k2']; done)))))
      | ((simp only [thenP, blockP]; (try ((repeat (fail_if_success (with_reducible refine hK1 _ ?_)); clear hK1); (with_reducible refine hK1 _ ?_); clear hK1))))
      | (((first | (((with_reducible refine opsP_cons fun K3 hK3 => ?_); simp only [wantP, opP, valP, Ur, Us])) | ((with_reducible refine PW.condM fun X1 Y1 hX1 hY1 => ?_)) | (skip)); simp (disch := omega) only [St.eval, St.put, upd_app, iniT_app, avOf, avOf1, nom, cellsA, AV.okv, loadA, lenP, binP, intsP, intP, nilP, sliceP, boundLo, boundHi, builtinP, isMapA, slA, putCells, fillA, buildA, U7, U8, Ua, Ub, Uc, Ud, Uf, Ug, Uk, Un, Up, Uq, Ur, Us, Ut, Uu, Uv, V2, V3, V7, V8, V9, Vt, UU2, UU3, UU4, Vr, Vs, PmL, simprocAttr, PmT, h0', hc, h2', hd, he', k1', k2', retQ, resP, tupA, fg, fgs, condP, condB_t, condB_f]; try (with_reducible (first | exact co_refl _ | exact co_own _ _ _ | exact co_nilsB | exact co_nilsL _ _)))))
    exact co_tk _ _
end PM
end Go.Proofs.YtfkemeamimcnjaaDoor
