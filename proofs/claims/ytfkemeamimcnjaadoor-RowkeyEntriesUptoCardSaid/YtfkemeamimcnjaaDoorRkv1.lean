/- rowkey in the abstract: some values of a row. -/
import Derived.Test.YtfkemeamimcnjaaDoorRkt4
namespace Go.Proofs.YtfkemeamimcnjaaDoor
open Go.RowKit
set_option maxRecDepth 100000
namespace PM
theorem pClipV (R : List XV) : Pure Tryd.prog 82 [vl R] (vl R) := by
  refine pure_intro Tryd.func82 rfl rfl rfl 9 rfl (fun hh => ?_)
  have hl := (has_sl (hh (vl R) (by simp))).1
  rw [encL_len] at hl
  have hml : maxLen = 9223372036854775807 := rfl
  have hk : (encL XV.cd R).take R.length = encL XV.cd R := List.take_of_length_le (by rw [encL_len]; exact Nat.le_refl _)
  repeat' (first
    | ((with_reducible (first
     | (refine PW.seq fun K1 hK1 => ?_) | (refine PW.region fun K2 hK2 => ?_) | ((refine hK3 _ ?_; clear hK3)) | ((refine opsP_nil ?_; refine hK2 _ ?_; clear hK2)) | ((refine Exists.intro _ (Exists.intro _ (And.intro rfl (And.intro rfl (And.intro ?_ ?_)))); focus omega)) 
     | (refine PW.ret ?_) )))
    | ((simp only [thenP]; (try ((repeat (fail_if_success (with_reducible refine hK1 _ ?_)); clear hK1); (with_reducible refine hK1 _ ?_); clear hK1))))
    | (((first | (((with_reducible refine opsP_cons fun K3 hK3 => ?_); simp only [wantP, opP, valP, Ur, Us])) | (skip)); simp (disch := omega) only [St.eval, St.put, upd_app, iniT_app, avOf, avOf1, nom, lenP, sliceP, boundLo, boundHi, builtinP, isMapA, U7, Uk, Uq, V2, V3, V7, V8, Ve, UU2, UU4, PmL, simprocAttr, PmT, retQ, resP, tupA, fg]; try (with_reducible (first | exact co_refl _ | exact co_own _ _ _ | exact co_nilsB | exact co_nilsL _ _)))))
def someV (R : List XV) (l : List Int) : List XV := l.map (valAt R)
theorem someV_snoc (R : List XV) (l : List Int) (i : Int) : someV R (l ++ [i]) = someV R l ++ [valAt R i] := by unfold someV; simp
theorem someV_len (R : List XV) (l : List Int) : (someV R l).length = l.length := by unfold someV; simp
theorem encL_cd1 {R : List XV} {v : XV} : encL XV.cd (R ++ [v]) = encL XV.cd R ++ [[.int .i64 v.ty, .bool v.null, .int .i64 v.n, .str v.s]] := by unfold encL; rw [List.map_append]; rfl
set_option maxHeartbeats 4000000 in
theorem pSomeD (R : List XV) (l : List Int) (hl : ∀ i ∈ l, 0 ≤ i ∧ i < R.length) (hll : l.length ≤ 1048576) : Pure Tryd.prog 53 [vl R, il l] (vl (someV R l)) := by
  refine pure_intro Tryd.func53 rfl rfl rfl 24 rfl (fun hh => ?_)
  have hml : maxLen = 9223372036854775807 := rfl
  have hRl := (has_sl (hh (vl R) (by simp))).1
  rw [encL_len] at hRl
  have hC := pClipV (someV R l)
  repeat' (first
    | ((with_reducible (first
     | (refine PW.seq fun K1 hK1 => ?_) | (refine PW.region fun K2 hK2 => ?_) | ((refine hK3 _ ?_; clear hK3)) | ((refine opsP_nil ?_; refine hK2 _ ?_; clear hK2)) 
     | (refine PW.block ?_) )))
    | ((simp only [thenP]; (try ((repeat (fail_if_success (with_reducible refine hK1 _ ?_)); clear hK1); (with_reducible refine hK1 _ ?_); clear hK1))))
    | (((first | (((with_reducible refine opsP_cons fun K3 hK3 => ?_); simp only [wantP, opP, valP, Ur, Us])) | (skip)); simp (disch := omega) only [St.eval, St.put, upd_app, iniT_app, avOf, avOf1, nom, lenP, builtinP, isMapA, U7, U8, PmL, simprocAttr, PmT]; try (with_reducible (first | exact co_refl _ | exact co_own _ _ _ | exact co_nilsB | exact co_nilsL _ _)))))
  (with_reducible refine PW.nil2ownL XV.cd 5 47 4 (by decide) rfl rfl ?_)
  (with_reducible refine PW.loop (fun n s => ∃ (k : Nat), s.t 0 = vl R ∧ s.t 5 = .own 0 4 (encL XV.cd (someV R (l.take k))) ∧ s.t 8 = il l ∧ s.t 9 = .d (.int .i64 l.length) ∧ s.t 10 = .d (.int .i64 k) ∧ s.n = 24 ∧ s.m = ⟨[], [some ⟨47, 4, (someV R (l.take k)).length⟩]⟩ ∧ k ≤ l.length ∧ n = l.length - k) l.length ?_ ?_)
  · exact ⟨0, rfl, rfl, rfl, rfl, rfl, rfl, rfl, Nat.zero_le _, rfl⟩
  rintro n ⟨t, nn, m⟩ ⟨k, h0, h5, h8, h9, h10, hn, hm, hk, hnk⟩ - -
  simp only at h0 h5 h8 h9 h10 hn hm
  subst hn hm hnk
  have hsl := someV_len R (l.take k)
  rw [List.length_take, Nat.min_eq_left hk] at hsl
  by_cases hlt : (k : Int) < l.length
  · have hlt' := eq_true hlt
    obtain ⟨x, hx⟩ : ∃ x, l[k]? = some x := ⟨_, List.getElem?_eq_getElem (by omega)⟩
    have hxr := hl x (List.mem_of_getElem? hx)
    have hw : IntKind.i64.wrap ((k : Int) + 1) = k + 1 := IntWalk.i64_in ((k : Int) + 1) (by omega)
    obtain ⟨i, rfl⟩ : ∃ i : Nat, x = i := ⟨x.toNat, by omega⟩
    obtain ⟨v, hv⟩ : ∃ v, R[i]? = some v := ⟨_, List.getElem?_eq_getElem (by omega)⟩
    have hva : valAt R i = v := by unfold valAt; rw [List.getD_eq_getElem?_getD, Int.toNat_natCast, hv]; rfl
    have ht : someV R (l.take (k + 1)) = someV R (l.take k) ++ [v] := by rw [List.take_add_one, hx, Option.toList_some, someV_snoc, hva]
    repeat' (first
      | ((with_reducible (first
       | (refine PW.seq fun K1 hK1 => ?_) | (refine PW.region fun K2 hK2 => ?_) | ((refine hK3 _ ?_; clear hK3)) | ((refine opsP_nil ?_; refine hK2 _ ?_; clear hK2)) | (refine litX_old ?_) | (refine litC_data ?_) 
       | (refine PW.block ?_) | (refine PW.skip ?_) | ((refine hX1 ?_; clear hX1 hY1; try simp only [hb])) )))
      | (((with_reducible refine And.intro ?_ ?_); (focus (first | omega | (simp; done) | assumption))))
      | ((simp only [thenP, blockP]; (try ((repeat (fail_if_success (with_reducible refine hK1 _ ?_)); clear hK1); (with_reducible refine hK1 _ ?_); clear hK1))))
      | (((first | (((with_reducible refine opsP_cons fun K3 hK3 => ?_); simp only [wantP, opP, valP, Ur, Us, List.mapM_cons, List.mapM_nil, Uw, Ux])) | ((with_reducible refine PW.condM fun X1 Y1 hX1 hY1 => ?_)) | (skip)); simp (disch := omega) only [St.eval, St.put, upd_app, avOf, avOf1, cellsA, AV.okv, loadA, binP, intsP, intP, nilP, builtinP, appP, srcA, srcTy, isBsl, U3, U4, U5, slA, elA, dv1, Ua, Uc, Uf, Ug, Un, Up, Ur, Us, Ut, Uu, Uv, List.mapM_cons, List.mapM_nil, Uw, Ux, V0, V1, V2, V4, Option.bind_eq_bind, Option.pure_def, V7, V9, UU9, Vr, PmL, simprocAttr, PmT, h0, h5, h8, h9, h10, hlt', hx, hv, hw, eI, XV.cd, hsl, condP, condB_t]; try (with_reducible (first | exact co_refl _ | exact co_own _ _ _ | exact co_nilsB | exact co_nilsL _ _)))))
    refine ⟨l.length - (k + 1), by omega, k + 1, ?_, ?_, ?_, ?_, ?_, ?_, ?_, by omega, rfl⟩
    all_goals (simp only [St.cut, Mem.cut, fg, upd_app, Nat.reduceEqDiff, ↓reduceIte, List.take_nil, List.map_nil, List.take_succ_cons, Nat.zero_lt_one, Nat.reduceAdd, List.length_append, List.length_cons, List.length_nil, Int.natCast_add, Int.cast_ofNat_Int, h0, h8, h9, ht, encL_cd1, hsl]; try rfl)
  have hkl : k = l.length := by omega
  subst hkl
  rw [List.take_length] at h5
  have hlt' := eq_false hlt
  repeat' (first
    | ((with_reducible (first
     | (refine PW.seq fun K1 hK1 => ?_) | (refine PW.region fun K2 hK2 => ?_) | ((refine hK3 _ ?_; clear hK3)) | ((refine opsP_nil ?_; refine hK2 _ ?_; clear hK2)) 
     | (refine PW.exit ?_) | (refine PW.ret ?_) | ((refine hY1 ?_; clear hX1 hY1; try simp only [hb])) )))
    | (((with_reducible refine cC_pure ?_ (hC) (fun _ => ?_)); (focus ((repeat' constructor) <;> (simp only [purAs, purA, Vf, Bool.and_self, h0, h5, h8, h9, h10, hlt']; done)))))
    | ((simp only [thenP, blockP, ↓reduceIte]; (try ((repeat (fail_if_success (with_reducible refine hK1 _ ?_)); clear hK1); (with_reducible refine hK1 _ ?_); clear hK1))))
    | (((first | (((with_reducible refine opsP_cons fun K3 hK3 => ?_); simp only [wantP, opP, valP, Ur, Us])) | ((with_reducible refine PW.condM fun X1 Y1 hX1 hY1 => ?_)) | (skip)); simp (disch := omega) only [St.eval, St.put, upd_app, binP, intsP, intP, nilP, slA, Uq, Uv, Ve, PmL, simprocAttr, h5, h9, h10, hlt', retQ, resP, tupA, fg, condP, condB_f]; try (with_reducible (first | exact co_refl _ | exact co_own _ _ _ | exact co_nilsB | exact co_nilsL _ _)))))
set_option maxHeartbeats 4000000 in
theorem pSomeB (R : List XV) (l : List Int) (hl : ∀ i ∈ l, 0 ≤ i ∧ i < R.length) (hll : l.length ≤ 1048576) : PFun Tryd.prog 53 [.bsl 0 0 R.length R.length 4, il l] ⟨[some (47, cX R)], []⟩ (vl (someV R l)) ⟨[some (47, cX R)], []⟩ := by
  refine fun_intro Tryd.func53 rfl rfl rfl 24 rfl ⟨Nat.le_refl _, Nat.le_refl _⟩ (fun hh => ?_)
  have hml : maxLen = 9223372036854775807 := rfl
  have hcl := cX_len R
  have hC := pClipV (someV R l)
  repeat' (first
    | ((with_reducible (first
     | (refine PW.seq fun K1 hK1 => ?_) | (refine PW.region fun K2 hK2 => ?_) | ((refine hK3 _ ?_; clear hK3)) | ((refine opsP_nil ?_; refine hK2 _ ?_; clear hK2)) 
     | (refine PW.block ?_) )))
    | ((simp only [thenP]; (try ((repeat (fail_if_success (with_reducible refine hK1 _ ?_)); clear hK1); (with_reducible refine hK1 _ ?_); clear hK1))))
    | (((first | (((with_reducible refine opsP_cons fun K3 hK3 => ?_); simp only [wantP, opP, valP, Ur, Us])) | (skip)); simp (disch := omega) only [St.eval, St.put, upd_app, iniT_app, avOf, avOf1, lenP, builtinP, isMapA, U7, U8, Uf, Ug, V9, PmL, simprocAttr, PmT]; try (with_reducible (first | exact co_refl _ | exact co_own _ _ _ | exact co_nilsB | exact co_nilsL _ _)))))
  (with_reducible refine PW.nil2ownL XV.cd 5 47 4 (by decide) rfl rfl ?_)
  (with_reducible refine PW.loop (fun n s => ∃ (k : Nat), s.t 0 = .bsl 0 0 R.length R.length 4 ∧ s.t 5 = .own 0 4 (encL XV.cd (someV R (l.take k))) ∧ s.t 8 = il l ∧ s.t 9 = .d (.int .i64 l.length) ∧ s.t 10 = .d (.int .i64 k) ∧ s.n = 24 ∧ s.m = ⟨[some (47, cX R)], [some ⟨47, 4, (someV R (l.take k)).length⟩]⟩ ∧ k ≤ l.length ∧ n = l.length - k) l.length ?_ ?_)
  · exact ⟨0, rfl, rfl, rfl, rfl, rfl, rfl, rfl, Nat.zero_le _, rfl⟩
  rintro n ⟨t, nn, m⟩ ⟨k, h0, h5, h8, h9, h10, hn, hm, hk, hnk⟩ - -
  simp only at h0 h5 h8 h9 h10 hn hm
  subst hn hm hnk
  have hsl := someV_len R (l.take k)
  rw [List.length_take, Nat.min_eq_left hk] at hsl
  by_cases hlt : (k : Int) < l.length
  · have hlt' := eq_true hlt
    obtain ⟨x, hx⟩ : ∃ x, l[k]? = some x := ⟨_, List.getElem?_eq_getElem (by omega)⟩
    have hxr := hl x (List.mem_of_getElem? hx)
    have hw : IntKind.i64.wrap ((k : Int) + 1) = k + 1 := IntWalk.i64_in ((k : Int) + 1) (by omega)
    obtain ⟨i, rfl⟩ : ∃ i : Nat, x = i := ⟨x.toNat, by omega⟩
    obtain ⟨v, hv⟩ : ∃ v, R[i]? = some v := ⟨_, List.getElem?_eq_getElem (by omega)⟩
    have hva : valAt R i = v := by unfold valAt; rw [List.getD_eq_getElem?_getD, Int.toNat_natCast, hv]; rfl
    have ht : someV R (l.take (k + 1)) = someV R (l.take k) ++ [v] := by rw [List.take_add_one, hx, Option.toList_some, someV_snoc, hva]
    have hdr := cX_drop hv
    have hdl : 4 ≤ ((cX R).drop (i * 4)).length := by rw [hdr]; simp
    rw [List.length_drop, hcl] at hdl
    repeat' (first
      | ((with_reducible (first
       | (refine PW.seq fun K1 hK1 => ?_) | (refine PW.region fun K2 hK2 => ?_) | ((refine hK3 _ ?_; clear hK3)) | ((refine opsP_nil ?_; refine hK2 _ ?_; clear hK2)) | (refine litX_old ?_) | (refine litC_data ?_) 
       | (refine PW.block ?_) | (refine PW.skip ?_) | ((refine hX1 ?_; clear hX1 hY1; try simp only [hb])) )))
      | (((with_reducible refine And.intro ?_ ?_); (focus (first | omega | (simp; done) | assumption))))
      | ((simp only [thenP, blockP]; (try ((repeat (fail_if_success (with_reducible refine hK1 _ ?_)); clear hK1); (with_reducible refine hK1 _ ?_); clear hK1))))
      | (((first | (((with_reducible refine opsP_cons fun K3 hK3 => ?_); simp only [wantP, opP, valP, Ur, Us, List.mapM_cons, List.mapM_nil, Uw, Ux])) | ((with_reducible refine PW.condM fun X1 Y1 hX1 hY1 => ?_)) | (skip)); simp (disch := omega) only [St.eval, St.put, upd_app, avOf, avOf1, cellsA, AV.okv, loadA, binP, intsP, intP, nilP, builtinP, appP, srcA, srcTy, isBsl, U3, U4, U5, slA, elA, dv1, Ua, Uc, Uf, Ug, Un, Uo, Ur, Us, Ut, Uu, Uv, List.mapM_cons, List.mapM_nil, Uw, Ux, V0, V1, V2, V4, Option.bind_eq_bind, Option.pure_def, V7, V9, UU9, PmL, simprocAttr, PmT, h0, h5, h8, h9, h10, hlt', hx, hdr, hw, eI, hsl, condP, condB_t]; try (with_reducible (first | exact co_refl _ | exact co_own _ _ _ | exact co_nilsB | exact co_nilsL _ _)))))
    refine ⟨l.length - (k + 1), by omega, k + 1, ?_, ?_, ?_, ?_, ?_, ?_, ?_, by omega, rfl⟩
    all_goals (simp only [St.cut, Mem.cut, fg, upd_app, Nat.reduceEqDiff, ↓reduceIte, List.take_nil, List.map_nil, List.take_succ_cons, List.map_cons, Option.map_some, Nat.zero_lt_one, Nat.reduceAdd, List.length_append, List.length_cons, List.length_nil, Int.natCast_add, Int.cast_ofNat_Int, h0, h8, h9, ht, encL_cd1, hsl, cX_fgs]; try rfl)
  have hkl : k = l.length := by omega
  subst hkl
  rw [List.take_length] at h5
  have hlt' := eq_false hlt
  repeat' (first
    | ((with_reducible (first
     | (refine PW.seq fun K1 hK1 => ?_) | (refine PW.region fun K2 hK2 => ?_) | ((refine hK3 _ ?_; clear hK3)) | ((refine opsP_nil ?_; refine hK2 _ ?_; clear hK2)) 
     | (refine PW.exit ?_) | (refine PW.ret ?_) | ((refine hY1 ?_; clear hX1 hY1; try simp only [hb])) )))
    | (((with_reducible refine cC_pure ?_ (hC) (fun _ => ?_)); (focus ((repeat' constructor) <;> (simp only [purAs, purA, Vf, Bool.and_self, h0, h5, h8, h9, h10, hlt']; done)))))
    | ((simp only [thenP, blockP, ↓reduceIte]; (try ((repeat (fail_if_success (with_reducible refine hK1 _ ?_)); clear hK1); (with_reducible refine hK1 _ ?_); clear hK1))))
    | (((first | (((with_reducible refine opsP_cons fun K3 hK3 => ?_); simp only [wantP, opP, valP, Ur, Us])) | ((with_reducible refine PW.condM fun X1 Y1 hX1 hY1 => ?_)) | (skip)); simp (disch := omega) only [St.eval, St.put, upd_app, binP, intsP, intP, nilP, slA, Uf, Ug, Uq, Uv, V9, Ve, PmL, simprocAttr, h5, h9, h10, hlt', retQ, resP, tupA, fg, condP, condB_f]; try (with_reducible (first | exact co_refl _ | exact co_own _ _ _ | exact co_nilsB | exact co_nilsL _ _)))))
  all_goals exact end_box (cX_fgs _ _ _)
theorem pHasPrefix (l m : List Int) : Pure Tryd.prog 52 [bs l, bs m] (.d (.bool (decide (m.length ≤ l.length) && decide (l.take m.length = m)))) := by
  refine pure_intro Tryd.func52 rfl rfl rfl 18 rfl (fun hh => ?_)
  by_cases h : (m.length : Int) ≤ l.length
  · have h' := eq_true h
    rw [decide_eq_true (by omega : m.length ≤ l.length), Bool.true_and]
    repeat' (first
      | ((with_reducible (first
       | (refine PW.seq fun K1 hK1 => ?_) | (refine PW.region fun K2 hK2 => ?_) | ((refine hK3 _ ?_; clear hK3)) | ((refine opsP_nil ?_; refine hK2 _ ?_; clear hK2)) | ((refine Exists.intro _ (Exists.intro _ (And.intro rfl (And.intro rfl (And.intro ?_ ?_)))); focus omega)) 
       | (refine PW.ret ?_) )))
      | (((with_reducible refine cC_pure ?_ (pEqual ?_ ?_) (fun _ => ?_)); (focus ((repeat' (first | (refine .cons ?_ ?_) | (exact .nil) | (exact .d _) )) <;> (simp only [purAs, purA, Vf, Bool.and_self, h']; done)))))
      | ((simp only [thenP]; (try ((repeat (fail_if_success (with_reducible refine hK1 _ ?_)); clear hK1); (with_reducible refine hK1 _ ?_); clear hK1))))
      | (((first | (((with_reducible refine opsP_cons fun K3 hK3 => ?_); simp only [wantP, opP, valP, Ur, Us])) | (skip)); simp (disch := omega) only [wantB_tt, St.eval, St.put, upd_app, iniT_app, avOf, avOf1, nom, lenP, binP, intsP, intP, nilP, sliceP, boundLo, boundHi, builtinP, isMapA, slA, U7, U8, Ua, Ub, Uk, Uv, Uz, V2, V3, V4, V7, V8, Ve, UU2, UU4, PmL, simprocAttr, PmT, h', retQ, resP, tupA, fg]; try (with_reducible (first | exact co_refl _ | exact co_own _ _ _ | exact co_nilsB | exact co_nilsL _ _)))))
  · have h' := eq_false h
    rw [decide_eq_false (by omega : ¬ m.length ≤ l.length), Bool.false_and]
    repeat' (first
      | ((with_reducible (first
       | (refine PW.seq fun K1 hK1 => ?_) | (refine PW.region fun K2 hK2 => ?_) | ((refine hK3 _ ?_; clear hK3)) | ((refine opsP_nil ?_; refine hK2 _ ?_; clear hK2)) 
       | (refine PW.ret ?_) )))
      | ((simp only [thenP]; (try ((repeat (fail_if_success (with_reducible refine hK1 _ ?_)); clear hK1); (with_reducible refine hK1 _ ?_); clear hK1))))
      | (((first | (((with_reducible refine opsP_cons fun K3 hK3 => ?_); simp only [wantP, opP, valP, Ur, Us])) | (skip)); simp (disch := omega) only [wantB_ft, St.eval, St.put, upd_app, iniT_app, avOf, avOf1, nom, lenP, binP, intsP, intP, nilP, sliceP, builtinP, isMapA, slA, U7, U8, Ua, Ub, Uv, Uz, V4, Ve, PmL, simprocAttr, PmT, h', retQ, resP, tupA, fg]; try (with_reducible (first | exact co_refl _ | exact co_own _ _ _ | exact co_nilsB | exact co_nilsL _ _)))))
end PM
end Go.Proofs.YtfkemeamimcnjaaDoor
