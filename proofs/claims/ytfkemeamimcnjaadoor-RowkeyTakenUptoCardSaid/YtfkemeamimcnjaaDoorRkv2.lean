/- rowkey in the abstract: some values of a row. rowkey in the abstract: TakeEntry. -/
import Derived.Test.YtfkemeamimcnjaaDoorRkt3
namespace Go.Proofs.YtfkemeamimcnjaaDoor
open Go.RowKit
set_option maxRecDepth 100000
namespace PM
theorem pClipV (R : List XV) : Pure Tryd.prog 82 [vl R] (vl R) := by
  refine pure_intro Tryd.func82 rfl rfl rfl 9 rfl (fun hh => ?_)
  have hl := (has_sl (hh (vl R) (by simp))).1
  rw [encL_len] at hl
  have hml : maxLen = 9223372036854775807 := rfl
  have hk : (encL XV.cd R).take R.length = encL XV.cd R := List.take_of_length_le (by rw [encL_len]; exact Nat.le_refl _)
  repeat' (first
    | ((with_reducible (first
     | (refine PW.seq fun K1 hK1 => ?_) | (refine PW.region fun K2 hK2 => ?_) | ((refine hK3 _ ?_; clear hK3)) | ((refine opsP_nil ?_; refine hK2 _ ?_; clear hK2)) | ((refine Exists.intro _ (Exists.intro _ (And.intro rfl (And.intro rfl (And.intro ?_ ?_)))); focus omega)) 
     | (refine PW.ret ?_) )))
    | ((simp only [thenP]; (try ((repeat (fail_if_success (with_reducible refine hK1 _ ?_)); clear hK1); (with_reducible refine hK1 _ ?_); clear hK1))))
    | (((first | (((with_reducible refine opsP_cons fun K3 hK3 => ?_); simp only [wantP, opP, valP, Ur, Us])) | (skip)); simp (disch := omega) only [St.eval, St.put, upd_app, iniT_app, avOf, avOf1, nom, lenP, sliceP, boundLo, boundHi, builtinP, isMapA, U7, Uk, Uq, V2, V3, V7, V8, Ve, UU2, UU4, PmL, simprocAttr, PmT, retQ, resP, tupA, fg]; try (with_reducible (first | exact co_refl _ | exact co_own _ _ _ | exact co_nilsB | exact co_nilsL _ _)))))
def someV (R : List XV) (l : List Int) : List XV := l.map (valAt R)
theorem someV_snoc (R : List XV) (l : List Int) (i : Int) : someV R (l ++ [i]) = someV R l ++ [valAt R i] := by unfold someV; simp
theorem someV_len (R : List XV) (l : List Int) : (someV R l).length = l.length := by unfold someV; simp
theorem encL_cd1 {R : List XV} {v : XV} : encL XV.cd (R ++ [v]) = encL XV.cd R ++ [[.int .i64 v.ty, .bool v.null, .int .i64 v.n, .str v.s]] := by unfold encL; rw [List.map_append]; rfl
set_option maxHeartbeats 4000000 in
theorem pSomeD (R : List XV) (l : List Int) (hl : ∀ i ∈ l, 0 ≤ i ∧ i < R.length) (hll : l.length ≤ 1048576) : Pure Tryd.prog 53 [vl R, il l] (vl (someV R l)) := by
  refine pure_intro Tryd.func53 rfl rfl rfl 24 rfl (fun hh => ?_)
  have hml : maxLen = 9223372036854775807 := rfl
  have hRl := (has_sl (hh (vl R) (by simp))).1
  rw [encL_len] at hRl
  have hC := pClipV (someV R l)
  repeat' (first
    | ((with_reducible (first
     | (refine PW.seq fun K1 hK1 => ?_) | (refine PW.region fun K2 hK2 => ?_) | ((refine hK3 _ ?_; clear hK3)) | ((refine opsP_nil ?_; refine hK2 _ ?_; clear hK2)) 
     | (refine PW.block ?_) )))
    | ((simp only [thenP]; (try ((repeat (fail_if_success (with_reducible refine hK1 _ ?_)); clear hK1); (with_reducible refine hK1 _ ?_); clear hK1))))
    | (((first | (((with_reducible refine opsP_cons fun K3 hK3 => ?_); simp only [wantP, opP, valP, Ur, Us])) | (skip)); simp (disch := omega) only [St.eval, St.put, upd_app, iniT_app, avOf, avOf1, nom, lenP, builtinP, isMapA, U7, U8, PmL, simprocAttr, PmT]; try (with_reducible (first | exact co_refl _ | exact co_own _ _ _ | exact co_nilsB | exact co_nilsL _ _)))))
  (with_reducible refine PW.nil2ownL XV.cd 5 47 4 (by decide) rfl rfl ?_)
  (with_reducible refine PW.loop (fun n s => ∃ (k : Nat), s.t 0 = vl R ∧ s.t 5 = .own 0 4 (encL XV.cd (someV R (l.take k))) ∧ s.t 8 = il l ∧ s.t 9 = .d (.int .i64 l.length) ∧ s.t 10 = .d (.int .i64 k) ∧ s.n = 24 ∧ s.m = ⟨[], [some ⟨47, 4, (someV R (l.take k)).length⟩]⟩ ∧ k ≤ l.length ∧ n = l.length - k) l.length ?_ ?_)
  · exact ⟨0, rfl, rfl, rfl, rfl, rfl, rfl, rfl, Nat.zero_le _, rfl⟩
  rintro n ⟨t, nn, m⟩ ⟨k, h0, h5, h8, h9, h10, hn, hm, hk, hnk⟩ - -
  simp only at h0 h5 h8 h9 h10 hn hm
  subst hn hm hnk
  have hsl := someV_len R (l.take k)
  rw [List.length_take, Nat.min_eq_left hk] at hsl
  by_cases hlt : (k : Int) < l.length
  · have hlt' := eq_true hlt
    obtain ⟨x, hx⟩ : ∃ x, l[k]? = some x := ⟨_, List.getElem?_eq_getElem (by omega)⟩
    have hxr := hl x (List.mem_of_getElem? hx)
    have hw : IntKind.i64.wrap ((k : Int) + 1) = k + 1 := IntWalk.i64_in ((k : Int) + 1) (by omega)
    obtain ⟨i, rfl⟩ : ∃ i : Nat, x = i := ⟨x.toNat, by omega⟩
    obtain ⟨v, hv⟩ : ∃ v, R[i]? = some v := ⟨_, List.getElem?_eq_getElem (by omega)⟩
    have hva : valAt R i = v := by unfold valAt; rw [List.getD_eq_getElem?_getD, Int.toNat_natCast, hv]; rfl
    have ht : someV R (l.take (k + 1)) = someV R (l.take k) ++ [v] := by rw [List.take_add_one, hx, Option.toList_some, someV_snoc, hva]
    repeat' (first
      | ((with_reducible (first
       | (refine PW.seq fun K1 hK1 => ?_) | (refine PW.region fun K2 hK2 => ?_) | ((refine hK3 _ ?_; clear hK3)) | ((refine opsP_nil ?_; refine hK2 _ ?_; clear hK2)) | (refine litX_old ?_) | (refine litC_data ?_) 
       | (refine PW.block ?_) | (refine PW.skip ?_) | ((refine hX1 ?_; clear hX1 hY1; try simp only [hb])) )))
      | (((with_reducible refine And.intro ?_ ?_); (focus (first | omega | (simp; done) | assumption))))
      | ((simp only [thenP, blockP]; (try ((repeat (fail_if_success (with_reducible refine hK1 _ ?_)); clear hK1); (with_reducible refine hK1 _ ?_); clear hK1))))
      | (((first | (((with_reducible refine opsP_cons fun K3 hK3 => ?_); simp only [wantP, opP, valP, Ur, Us, List.mapM_cons, List.mapM_nil, Uw, Ux])) | ((with_reducible refine PW.condM fun X1 Y1 hX1 hY1 => ?_)) | (skip)); simp (disch := omega) only [St.eval, St.put, upd_app, avOf, avOf1, cellsA, AV.okv, loadA, binP, intsP, intP, nilP, builtinP, appP, srcA, srcTy, isBsl, U3, U4, U5, slA, elA, dv1, Ua, Uc, Uf, Ug, Un, Up, Ur, Us, Ut, Uu, Uv, List.mapM_cons, List.mapM_nil, Uw, Ux, V0, V1, V2, V4, Option.bind_eq_bind, Option.pure_def, V7, V9, UU9, Vr, PmL, simprocAttr, PmT, h0, h5, h8, h9, h10, hlt', hx, hv, hw, eI, XV.cd, hsl, condP, condB_t]; try (with_reducible (first | exact co_refl _ | exact co_own _ _ _ | exact co_nilsB | exact co_nilsL _ _)))))
    refine ⟨l.length - (k + 1), by omega, k + 1, ?_, ?_, ?_, ?_, ?_, ?_, ?_, by omega, rfl⟩
    all_goals (simp only [St.cut, Mem.cut, fg, upd_app, Nat.reduceEqDiff, ↓reduceIte, List.take_nil, List.map_nil, List.take_succ_cons, Nat.zero_lt_one, Nat.reduceAdd, List.length_append, List.length_cons, List.length_nil, Int.natCast_add, Int.cast_ofNat_Int, h0, h8, h9, ht, encL_cd1, hsl]; try rfl)
  have hkl : k = l.length := by omega
  subst hkl
  rw [List.take_length] at h5
  have hlt' := eq_false hlt
  repeat' (first
    | ((with_reducible (first
     | (refine PW.seq fun K1 hK1 => ?_) | (refine PW.region fun K2 hK2 => ?_) | ((refine hK3 _ ?_; clear hK3)) | ((refine opsP_nil ?_; refine hK2 _ ?_; clear hK2)) 
     | (refine PW.exit ?_) | (refine PW.ret ?_) | ((refine hY1 ?_; clear hX1 hY1; try simp only [hb])) )))
    | (((with_reducible refine cC_pure ?_ (hC) (fun _ => ?_)); (focus ((repeat' constructor) <;> (simp only [purAs, purA, Vf, Bool.and_self, h0, h5, h8, h9, h10, hlt']; done)))))
    | ((simp only [thenP, blockP, ↓reduceIte]; (try ((repeat (fail_if_success (with_reducible refine hK1 _ ?_)); clear hK1); (with_reducible refine hK1 _ ?_); clear hK1))))
    | (((first | (((with_reducible refine opsP_cons fun K3 hK3 => ?_); simp only [wantP, opP, valP, Ur, Us])) | ((with_reducible refine PW.condM fun X1 Y1 hX1 hY1 => ?_)) | (skip)); simp (disch := omega) only [St.eval, St.put, upd_app, binP, intsP, intP, nilP, slA, Uq, Uv, Ve, PmL, simprocAttr, h5, h9, h10, hlt', retQ, resP, tupA, fg, condP, condB_f]; try (with_reducible (first | exact co_refl _ | exact co_own _ _ _ | exact co_nilsB | exact co_nilsL _ _)))))
set_option maxHeartbeats 4000000 in
theorem pSomeB (R : List XV) (l : List Int) (hl : ∀ i ∈ l, 0 ≤ i ∧ i < R.length) (hll : l.length ≤ 1048576) : PFun Tryd.prog 53 [.bsl 0 0 R.length R.length 4, il l] ⟨[some (47, cX R)], []⟩ (vl (someV R l)) ⟨[some (47, cX R)], []⟩ := by
  refine fun_intro Tryd.func53 rfl rfl rfl 24 rfl ⟨Nat.le_refl _, Nat.le_refl _⟩ (fun hh => ?_)
  have hml : maxLen = 9223372036854775807 := rfl
  have hcl := cX_len R
  have hC := pClipV (someV R l)
  repeat' (first
    | ((with_reducible (first
     | (refine PW.seq fun K1 hK1 => ?_) | (refine PW.region fun K2 hK2 => ?_) | ((refine hK3 _ ?_; clear hK3)) | ((refine opsP_nil ?_; refine hK2 _ ?_; clear hK2)) 
     | (refine PW.block ?_) )))
    | ((simp only [thenP]; (try ((repeat (fail_if_success (with_reducible refine hK1 _ ?_)); clear hK1); (with_reducible refine hK1 _ ?_); clear hK1))))
    | (((first | (((with_reducible refine opsP_cons fun K3 hK3 => ?_); simp only [wantP, opP, valP, Ur, Us])) | (skip)); simp (disch := omega) only [St.eval, St.put, upd_app, iniT_app, avOf, avOf1, lenP, builtinP, isMapA, U7, U8, Uf, Ug, V9, PmL, simprocAttr, PmT]; try (with_reducible (first | exact co_refl _ | exact co_own _ _ _ | exact co_nilsB | exact co_nilsL _ _)))))
  (with_reducible refine PW.nil2ownL XV.cd 5 47 4 (by decide) rfl rfl ?_)
  (with_reducible refine PW.loop (fun n s => ∃ (k : Nat), s.t 0 = .bsl 0 0 R.length R.length 4 ∧ s.t 5 = .own 0 4 (encL XV.cd (someV R (l.take k))) ∧ s.t 8 = il l ∧ s.t 9 = .d (.int .i64 l.length) ∧ s.t 10 = .d (.int .i64 k) ∧ s.n = 24 ∧ s.m = ⟨[some (47, cX R)], [some ⟨47, 4, (someV R (l.take k)).length⟩]⟩ ∧ k ≤ l.length ∧ n = l.length - k) l.length ?_ ?_)
  · exact ⟨0, rfl, rfl, rfl, rfl, rfl, rfl, rfl, Nat.zero_le _, rfl⟩
  rintro n ⟨t, nn, m⟩ ⟨k, h0, h5, h8, h9, h10, hn, hm, hk, hnk⟩ - -
  simp only at h0 h5 h8 h9 h10 hn hm
  subst hn hm hnk
  have hsl := someV_len R (l.take k)
  rw [List.length_take, Nat.min_eq_left hk] at hsl
  by_cases hlt : (k : Int) < l.length
  · have hlt' := eq_true hlt
    obtain ⟨x, hx⟩ : ∃ x, l[k]? = some x := ⟨_, List.getElem?_eq_getElem (by omega)⟩
    have hxr := hl x (List.mem_of_getElem? hx)
    have hw : IntKind.i64.wrap ((k : Int) + 1) = k + 1 := IntWalk.i64_in ((k : Int) + 1) (by omega)
    obtain ⟨i, rfl⟩ : ∃ i : Nat, x = i := ⟨x.toNat, by omega⟩
    obtain ⟨v, hv⟩ : ∃ v, R[i]? = some v := ⟨_, List.getElem?_eq_getElem (by omega)⟩
    have hva : valAt R i = v := by unfold valAt; rw [List.getD_eq_getElem?_getD, Int.toNat_natCast, hv]; rfl
    have ht : someV R (l.take (k + 1)) = someV R (l.take k) ++ [v] := by rw [List.take_add_one, hx, Option.toList_some, someV_snoc, hva]
    have hdr := cX_drop hv
    have hdl : 4 ≤ ((cX R).drop (i * 4)).length := by rw [hdr]; simp
    rw [List.length_drop, hcl] at hdl
    repeat' (first
      | ((with_reducible (first
       | (refine PW.seq fun K1 hK1 => ?_) | (refine PW.region fun K2 hK2 => ?_) | ((refine hK3 _ ?_; clear hK3)) | ((refine opsP_nil ?_; refine hK2 _ ?_; clear hK2)) | (refine litX_old ?_) | (refine litC_data ?_) 
       | (refine PW.block ?_) | (refine PW.skip ?_) | ((refine hX1 ?_; clear hX1 hY1; try simp only [hb])) )))
      | (((with_reducible refine And.intro ?_ ?_); (focus (first | omega | (simp; done) | assumption))))
      | ((simp only [thenP, blockP]; (try ((repeat (fail_if_success (with_reducible refine hK1 _ ?_)); clear hK1); (with_reducible refine hK1 _ ?_); clear hK1))))
      | (((first | (((with_reducible refine opsP_cons fun K3 hK3 => ?_); simp only [wantP, opP, valP, Ur, Us, List.mapM_cons, List.mapM_nil, Uw, Ux])) | ((with_reducible refine PW.condM fun X1 Y1 hX1 hY1 => ?_)) | (skip)); simp (disch := omega) only [St.eval, St.put, upd_app, avOf, avOf1, cellsA, AV.okv, loadA, binP, intsP, intP, nilP, builtinP, appP, srcA, srcTy, isBsl, U3, U4, U5, slA, elA, dv1, Ua, Uc, Uf, Ug, Un, Uo, Ur, Us, Ut, Uu, Uv, List.mapM_cons, List.mapM_nil, Uw, Ux, V0, V1, V2, V4, Option.bind_eq_bind, Option.pure_def, V7, V9, UU9, PmL, simprocAttr, PmT, h0, h5, h8, h9, h10, hlt', hx, hdr, hw, eI, hsl, condP, condB_t]; try (with_reducible (first | exact co_refl _ | exact co_own _ _ _ | exact co_nilsB | exact co_nilsL _ _)))))
    refine ⟨l.length - (k + 1), by omega, k + 1, ?_, ?_, ?_, ?_, ?_, ?_, ?_, by omega, rfl⟩
    all_goals (simp only [St.cut, Mem.cut, fg, upd_app, Nat.reduceEqDiff, ↓reduceIte, List.take_nil, List.map_nil, List.take_succ_cons, List.map_cons, Option.map_some, Nat.zero_lt_one, Nat.reduceAdd, List.length_append, List.length_cons, List.length_nil, Int.natCast_add, Int.cast_ofNat_Int, h0, h8, h9, ht, encL_cd1, hsl, cX_fgs]; try rfl)
  have hkl : k = l.length := by omega
  subst hkl
  rw [List.take_length] at h5
  have hlt' := eq_false hlt
  repeat' (first
    | ((with_reducible (first
     | (refine PW.seq fun K1 hK1 => ?_) | (refine PW.region fun K2 hK2 => ?_) | ((refine hK3 _ ?_; clear hK3)) | ((refine opsP_nil ?_; refine hK2 _ ?_; clear hK2)) 
     | (refine PW.exit ?_) | (refine PW.ret ?_) | ((refine hY1 ?_; clear hX1 hY1; try simp only [hb])) )))
    | (((with_reducible refine cC_pure ?_ (hC) (fun _ => ?_)); (focus ((repeat' constructor) <;> (simp only [purAs, purA, Vf, Bool.and_self, h0, h5, h8, h9, h10, hlt']; done)))))
    | ((simp only [thenP, blockP, ↓reduceIte]; (try ((repeat (fail_if_success (with_reducible refine hK1 _ ?_)); clear hK1); (with_reducible refine hK1 _ ?_); clear hK1))))
    | (((first | (((with_reducible refine opsP_cons fun K3 hK3 => ?_); simp only [wantP, opP, valP, Ur, Us])) | ((with_reducible refine PW.condM fun X1 Y1 hX1 hY1 => ?_)) | (skip)); simp (disch := omega) only [St.eval, St.put, upd_app, binP, intsP, intP, nilP, slA, Uf, Ug, Uq, Uv, V9, Ve, PmL, simprocAttr, h5, h9, h10, hlt', retQ, resP, tupA, fg, condP, condB_f]; try (with_reducible (first | exact co_refl _ | exact co_own _ _ _ | exact co_nilsB | exact co_nilsL _ _)))))
  all_goals exact end_box (cX_fgs _ _ _)
theorem pHasPrefix (l m : List Int) : Pure Tryd.prog 52 [bs l, bs m] (.d (.bool (decide (m.length ≤ l.length) && decide (l.take m.length = m)))) := by
  refine pure_intro Tryd.func52 rfl rfl rfl 18 rfl (fun hh => ?_)
  by_cases h : (m.length : Int) ≤ l.length
  · have h' := eq_true h
    rw [decide_eq_true (by omega : m.length ≤ l.length), Bool.true_and]
    repeat' (first
      | ((with_reducible (first
       | (refine PW.seq fun K1 hK1 => ?_) | (refine PW.region fun K2 hK2 => ?_) | ((refine hK3 _ ?_; clear hK3)) | ((refine opsP_nil ?_; refine hK2 _ ?_; clear hK2)) | ((refine Exists.intro _ (Exists.intro _ (And.intro rfl (And.intro rfl (And.intro ?_ ?_)))); focus omega)) 
       | (refine PW.ret ?_) )))
      | (((with_reducible refine cC_pure ?_ (pEqual ?_ ?_) (fun _ => ?_)); (focus ((repeat' (first | (refine .cons ?_ ?_) | (exact .nil) | (exact .d _) )) <;> (simp only [purAs, purA, Vf, Bool.and_self, h']; done)))))
      | ((simp only [thenP]; (try ((repeat (fail_if_success (with_reducible refine hK1 _ ?_)); clear hK1); (with_reducible refine hK1 _ ?_); clear hK1))))
      | (((first | (((with_reducible refine opsP_cons fun K3 hK3 => ?_); simp only [wantP, opP, valP, Ur, Us])) | (skip)); simp (disch := omega) only [wantB_tt, St.eval, St.put, upd_app, iniT_app, avOf, avOf1, nom, lenP, binP, intsP, intP, nilP, sliceP, boundLo, boundHi, builtinP, isMapA, slA, U7, U8, Ua, Ub, Uk, Uv, Uz, V2, V3, V4, V7, V8, Ve, UU2, UU4, PmL, simprocAttr, PmT, h', retQ, resP, tupA, fg]; try (with_reducible (first | exact co_refl _ | exact co_own _ _ _ | exact co_nilsB | exact co_nilsL _ _)))))
  · have h' := eq_false h
    rw [decide_eq_false (by omega : ¬ m.length ≤ l.length), Bool.false_and]
    repeat' (first
      | ((with_reducible (first
       | (refine PW.seq fun K1 hK1 => ?_) | (refine PW.region fun K2 hK2 => ?_) | ((refine hK3 _ ?_; clear hK3)) | ((refine opsP_nil ?_; refine hK2 _ ?_; clear hK2)) 
       | (refine PW.ret ?_) )))
      | ((simp only [thenP]; (try ((repeat (fail_if_success (with_reducible refine hK1 _ ?_)); clear hK1); (with_reducible refine hK1 _ ?_); clear hK1))))
      | (((first | (((with_reducible refine opsP_cons fun K3 hK3 => ?_); simp only [wantP, opP, valP, Ur, Us])) | (skip)); simp (disch := omega) only [wantB_ft, St.eval, St.put, upd_app, iniT_app, avOf, avOf1, nom, lenP, binP, intsP, intP, nilP, sliceP, builtinP, isMapA, slA, U7, U8, Ua, Ub, Uv, Uz, V4, Ve, PmL, simprocAttr, PmT, h', retQ, resP, tupA, fg]; try (with_reducible (first | exact co_refl _ | exact co_own _ _ _ | exact co_nilsB | exact co_nilsL _ _)))))
end PM
end Go.Proofs.YtfkemeamimcnjaaDoor
namespace Go.Proofs.YtfkemeamimcnjaaDoor
open Go.RowKit
set_option maxRecDepth 100000
namespace PM
/-- what columns have that were not read -/
def defV (c : Col) : XV := ⟨c.ty, !c.nn, 0, []⟩
def ent1 (T : Tb) (X : Idx) (K : List Int) : List XV × Rdr := keysS T X.cols (T.cols.map defV, K.drop 17, false)
def ent2 (T : Tb) (X : Idx) (K : List Int) : List XV × Rdr := keysS T T.key (ent1 T X K)
def takeEntS (T : Tb) (X : Idx) (K V : List Int) : List XV × List XV × Int :=
  if tabled T X.cols = false then ([], [], 1)
  else if 0 < V.length ∨ 256 < K.length ∨ ¬ (17 ≤ K.length ∧ K.take 17 = begB [T.id, X.id]) then ([], [], 200)
  else if (ent2 T X K).2.2 = true ∨ entryKV T X (ent2 T X K).1 ≠ (K, [], 0) then ([], [], 200)
  else (someV (ent1 T X K).1 X.cols, someV (ent2 T X K).1 T.key, 0)
def entR (x : List XV × List XV × Int) : AV := .tup [vl x.1, vl x.2.1, .d (.int .i64 x.2.2)]
theorem co_ent0 (n : Int) : Co (.tup [.nils, .nils, .d (.int .i64 n)]) (.tup [vl [], vl [], .d (.int .i64 n)]) := by
  have h : Co .nils (vl []) := co_nilsL _ _
  unfold Co
  exact ⟨_, rfl, cos_cons h (cos_cons h (cos_refl _))⟩
theorem entryKV_v (T : Tb) (X : Idx) (R : List XV) : (entryKV T X R).2.1 = [] := by
  unfold entryKV
  split
  · rfl
  · split
    · rfl
    · split <;> rfl
set_option maxHeartbeats 8000000 in
theorem pTakeEntry (T : Tb) (X : Idx) (K V : List Int) (hT : T.cols.length ≤ 1048576 ∧ T.key.length ≤ 1048576) (hX : X.cols.length ≤ 1048576) (hV : V.length ≤ 1048576) (hKl : K.length ≤ 1048576) : Pure Tryd.prog 18 [T.v, X.av, .agg [bs K, bs V]] (entR (takeEntS T X K V)) := by
  refine pure_intro Tryd.func18 rfl rfl rfl 118 rfl (fun hh => ?_)
  have hml : maxLen = 9223372036854775807 := rfl
  have hC := pTabled T X.cols
  cases ht : tabled T X.cols
  · have hu : takeEntS T X K V = ([], [], 1) := by unfold takeEntS; rw [if_pos ht]
    rw [ht] at hC
    rw [hu]
    obtain ⟨tid, tnm, tcols, tkey, tix⟩ := T
    unfold Tb.v Tb.c at hC
    repeat' (first
      | ((with_reducible (first
       | (refine PW.seq fun K1 hK1 => ?_) | (refine PW.region fun K2 hK2 => ?_) | ((refine hK3 _ ?_; clear hK3)) | ((refine opsP_nil ?_; refine hK2 _ ?_; clear hK2)) 
       | (refine PW.ret ?_) | ((refine hX1 ?_; clear hX1 hY1; try simp only [hb])) )))
      | (((with_reducible refine cC_pure ?_ (hC) (fun _ => ?_)); (focus ((repeat' constructor) <;> (simp only [purAs, purA, Vf, Bool.and_self, Tb.v, Tb.c, Idx.av, entR]; done)))))
      | ((simp only [thenP]; (try ((repeat (fail_if_success (with_reducible refine hK1 _ ?_)); clear hK1); (with_reducible refine hK1 _ ?_); clear hK1))))
      | (((first | (((with_reducible refine opsP_cons fun K3 hK3 => ?_); simp only [wantP, opP, valP, Ur, Us])) | ((with_reducible refine PW.condM fun X1 Y1 hX1 hY1 => ?_)) | (skip)); simp (disch := omega) only [St.eval, St.put, upd_app, iniT_app, avOf, avOf1, nom, cellsA, AV.okv, loadA, unP, U7, U8, Ua, Ub, Uf, Ug, Uk, Ul, Un, Up, Ut, Uu, Uv, V9, Ve, Vr, PmL, simprocAttr, PmT, Tb.v, Tb.c, Idx.av, entR, retQ, resP, tupA, fg, fgs, condP, condB_t]; try (with_reducible (first | exact co_refl _ | exact co_own _ _ _ | exact co_nilsB | exact co_nilsL _ _)))))
    exact co_ent0 _
  rw [ht] at hC
  have hB := pBegin [T.id, X.id] (by simp)
  have hbl := begB_len [T.id, X.id]
  have hu : takeEntS T X K V = if 0 < V.length ∨ 256 < K.length ∨ ¬ (17 ≤ K.length ∧ K.take 17 = begB [T.id, X.id]) then ([], [], 200)
    else if (ent2 T X K).2.2 = true ∨ entryKV T X (ent2 T X K).1 ≠ (K, [], 0) then ([], [], 200)
    else (someV (ent1 T X K).1 X.cols, someV (ent2 T X K).1 T.key, 0) := by unfold takeEntS; rw [if_neg (by rw [ht]; simp)]
  have hP := pHasPrefix K (begB [T.id, X.id])
  obtain ⟨kb, hkb⟩ : ∃ b, begB [T.id, X.id] = b := ⟨_, rfl⟩
  rw [hkb] at hB hbl hP hu
  rw [show 1 + [T.id, X.id].length * 8 = 17 from rfl] at hbl
  have hbl' : (kb.length : Int) = 17 := by rw [hbl]; rfl
  rw [hbl] at hP
  by_cases hV0 : (0 : Int) < V.length
  · have hV0' := eq_true hV0
    rw [if_pos (.inl (by omega))] at hu
    rw [hu]
    obtain ⟨tid, tnm, tcols, tkey, tix⟩ := T
    unfold Tb.v Tb.c at hC
    repeat' (first
      | ((with_reducible (first
       | (refine PW.seq fun K1 hK1 => ?_) | (refine PW.region fun K2 hK2 => ?_) | ((refine hK3 _ ?_; clear hK3)) | ((refine opsP_nil ?_; refine hK2 _ ?_; clear hK2)) | (refine litX_old ?_) | (refine litC_data ?_) 
       | (refine PW.skip ?_) | (refine PW.ret ?_) | ((refine hX1 ?_; clear hX1 hY1; try simp only [hb])) | ((refine hY1 ?_; clear hX1 hY1; try simp only [hb])) )))
      | (((with_reducible refine cC_pure ?_ (hC) (fun _ => ?_)); (focus ((repeat' constructor) <;> (simp only [purAs, purA, Vf, Bool.and_self, Tb.v, Tb.c, Idx.av, entR, eI, hV0']; done)))))
      | (((with_reducible refine cC_pure ?_ (hB) (fun _ => ?_)); (focus ((repeat' constructor) <;> (simp only [purAs, purA, Vf, Bool.and_self, Tb.v, Tb.c, Idx.av, entR, eI, hV0']; done)))))
      | ((simp only [thenP]; (try ((repeat (fail_if_success (with_reducible refine hK1 _ ?_)); clear hK1); (with_reducible refine hK1 _ ?_); clear hK1))))
      | (((first | (((with_reducible refine opsP_cons fun K3 hK3 => ?_); simp only [wantP, opP, valP, Ur, Us, List.mapM_cons, List.mapM_nil, Uw, Ux])) | ((with_reducible refine PW.condM fun X1 Y1 hX1 hY1 => ?_)) | (skip)); simp (disch := omega) only [wantB_tf, St.eval, St.put, upd_app, iniT_app, avOf, avOf1, nom, cellsA, AV.okv, loadA, lenP, binP, intsP, intP, nilP, unP, builtinP, isMapA, U3, U4, U5, slA, elA, dv1, U7, U8, Ua, Ub, Uf, Ug, Uk, Ul, Un, Up, Ut, Uu, Uv, List.mapM_cons, List.mapM_nil, Uw, Ux, Uz, V0, V1, V4, Option.bind_eq_bind, Option.pure_def, V9, Va, Ve, UU9, Vr, PmL, simprocAttr, PmT, Tb.v, Tb.c, Idx.av, entR, hV0', retQ, resP, tupA, fg, fgs, condP, condB_t, condB_f]; try (with_reducible (first | exact co_refl _ | exact co_own _ _ _ | exact co_nilsB | exact co_nilsL _ _)))))
    exact co_ent0 _
  have hV0' := eq_false hV0
  by_cases hK0 : (256 : Int) < K.length
  · have hK0' := eq_true hK0
    rw [if_pos (.inr (.inl (by omega)))] at hu
    rw [hu]
    obtain ⟨tid, tnm, tcols, tkey, tix⟩ := T
    unfold Tb.v Tb.c at hC
    repeat' (first
      | ((with_reducible (first
       | (refine PW.seq fun K1 hK1 => ?_) | (refine PW.region fun K2 hK2 => ?_) | ((refine hK3 _ ?_; clear hK3)) | ((refine opsP_nil ?_; refine hK2 _ ?_; clear hK2)) | (refine litX_old ?_) | (refine litC_data ?_) 
       | (refine PW.skip ?_) | (refine PW.ret ?_) | ((refine hX1 ?_; clear hX1 hY1; try simp only [hb])) | ((refine hY1 ?_; clear hX1 hY1; try simp only [hb])) )))
      | (((with_reducible refine cC_pure ?_ (hC) (fun _ => ?_)); (focus ((repeat' constructor) <;> (simp only [purAs, purA, Vf, Bool.and_self, Tb.v, Tb.c, Idx.av, entR, eI, hV0', hK0']; done)))))
      | (((with_reducible refine cC_pure ?_ (hB) (fun _ => ?_)); (focus ((repeat' constructor) <;> (simp only [purAs, purA, Vf, Bool.and_self, Tb.v, Tb.c, Idx.av, entR, eI, hV0', hK0']; done)))))
      | ((simp only [thenP]; (try ((repeat (fail_if_success (with_reducible refine hK1 _ ?_)); clear hK1); (with_reducible refine hK1 _ ?_); clear hK1))))
      | (((first | (((with_reducible refine opsP_cons fun K3 hK3 => ?_); simp only [wantP, opP, valP, Ur, Us, List.mapM_cons, List.mapM_nil, Uw, Ux])) | ((with_reducible refine PW.condM fun X1 Y1 hX1 hY1 => ?_)) | (skip)); simp (disch := omega) only [wantB_ff, wantB_tf, St.eval, St.put, upd_app, iniT_app, avOf, avOf1, nom, cellsA, AV.okv, loadA, lenP, binP, intsP, intP, nilP, unP, builtinP, isMapA, U3, U4, U5, slA, elA, dv1, U7, U8, Ua, Ub, Uf, Ug, Uk, Ul, Un, Up, Ut, Uu, Uv, List.mapM_cons, List.mapM_nil, Uw, Ux, Uz, V0, V1, V4, Option.bind_eq_bind, Option.pure_def, V9, Va, Ve, UU9, Vr, PmL, simprocAttr, PmT, Tb.v, Tb.c, Idx.av, entR, hV0', hK0', retQ, resP, tupA, fg, fgs, condP, condB_t, condB_f]; try (with_reducible (first | exact co_refl _ | exact co_own _ _ _ | exact co_nilsB | exact co_nilsL _ _)))))
    exact co_ent0 _
  have hK0' := eq_false hK0
  cases hpf : (decide (17 ≤ K.length) && decide (K.take 17 = kb))
  · rw [hpf] at hP
    rw [if_pos (.inr (.inr (by simpa using hpf)))] at hu
    rw [hu]
    obtain ⟨tid, tnm, tcols, tkey, tix⟩ := T
    unfold Tb.v Tb.c at hC
    repeat' (first
      | ((with_reducible (first
       | (refine PW.seq fun K1 hK1 => ?_) | (refine PW.region fun K2 hK2 => ?_) | ((refine hK3 _ ?_; clear hK3)) | ((refine opsP_nil ?_; refine hK2 _ ?_; clear hK2)) | (refine litX_old ?_) | (refine litC_data ?_) 
       | (refine PW.skip ?_) | (refine PW.ret ?_) | ((refine hX1 ?_; clear hX1 hY1; try simp only [hb])) | ((refine hY1 ?_; clear hX1 hY1; try simp only [hb])) )))
      | (((with_reducible refine cC_pure ?_ (hC) (fun _ => ?_)); (focus ((repeat' constructor) <;> (simp only [purAs, purA, Vf, Bool.and_self, Tb.v, Tb.c, Idx.av, entR, eI, hV0', hK0']; done)))))
      | (((with_reducible refine cC_pure ?_ (hB) (fun _ => ?_)); (focus ((repeat' constructor) <;> (simp only [purAs, purA, Vf, Bool.and_self, Tb.v, Tb.c, Idx.av, entR, eI, hV0', hK0']; done)))))
      | (((with_reducible refine cC_pure ?_ (hP) (fun _ => ?_)); (focus ((repeat' constructor) <;> (simp only [purAs, purA, Vf, Bool.and_self, Tb.v, Tb.c, Idx.av, entR, eI, hV0', hK0']; done)))))
      | ((simp only [thenP]; (try ((repeat (fail_if_success (with_reducible refine hK1 _ ?_)); clear hK1); (with_reducible refine hK1 _ ?_); clear hK1))))
      | (((first | (((with_reducible refine opsP_cons fun K3 hK3 => ?_); simp only [wantP, opP, valP, Ur, Us, List.mapM_cons, List.mapM_nil, Uw, Ux])) | ((with_reducible refine PW.condM fun X1 Y1 hX1 hY1 => ?_)) | (skip)); simp (disch := omega) only [wantB_ff, St.eval, St.put, upd_app, iniT_app, avOf, avOf1, nom, cellsA, AV.okv, loadA, lenP, binP, intsP, intP, nilP, unP, builtinP, isMapA, U3, U4, U5, slA, elA, dv1, U7, U8, Ua, Ub, Uf, Ug, Uk, Ul, Un, Up, Ut, Uu, Uv, List.mapM_cons, List.mapM_nil, Uw, Ux, Uz, V0, V1, V4, Option.bind_eq_bind, Option.pure_def, V9, Va, Ve, UU9, Vr, PmL, simprocAttr, PmT, Tb.v, Tb.c, Idx.av, entR, hV0', hK0', retQ, resP, tupA, fg, fgs, condP, condB_t, condB_f]; try (with_reducible (first | exact co_refl _ | exact co_own _ _ _ | exact co_nilsB | exact co_nilsL _ _)))))
    exact co_ent0 _
  rw [hpf] at hP
  simp only [Bool.and_eq_true, decide_eq_true_eq] at hpf
  rw [if_neg (by rw [not_or, not_or]; exact ⟨by omega, by omega, by simpa using hpf⟩)] at hu
  have h17 := hpf.1
  have hin := tabled_in ht
  have hk1 := pKeys T X.cols (T.cols.map defV) (K.drop 17, false) hin.2 (by simp) (by simp only [List.length_drop]; omega)
  rw [show keysS T X.cols (T.cols.map defV, K.drop 17, false) = ent1 T X K from rfl, List.length_map] at hk1
  have hl1 : (ent1 T X K).1.length = T.cols.length := by unfold ent1; rw [keysS_len]; simp
  have hl2 : (ent2 T X K).1.length = T.cols.length := by unfold ent2; rw [keysS_len, hl1]
  have hr1 : (ent1 T X K).2.1.length ≤ K.length := by unfold ent1; refine Nat.le_trans (keysS_rlen _ _ _) ?_; simp
  have hk2 := pKeys T T.key (ent1 T X K).1 (ent1 T X K).2 hin.1 hl1 (by omega)
  rw [show keysS T T.key ((ent1 T X K).1, (ent1 T X K).2) = ent2 T X K from rfl, hl1] at hk2
  have hs1 := pSomeB (ent1 T X K).1 X.cols (by rw [hl1]; exact hin.2) hX
  have hs2 := pSomeD (ent2 T X K).1 T.key (by rw [hl2]; exact hin.1) hT.2
  have hrow := pEntry T X (ent2 T X K).1 (by rw [hl2]; exact hT.1) hT.2 hX
  have hev := entryKV_v T X (ent2 T X K).1
  rw [hl1] at hs1
  obtain ⟨⟨R1, l1, bad1⟩, h1⟩ : ∃ r, ent1 T X K = r := ⟨_, rfl⟩
  obtain ⟨⟨R2, l2, bad2⟩, h2⟩ : ∃ r, ent2 T X K = r := ⟨_, rfl⟩
  rw [h1] at hk1 hk2 hs1 hl1 hu
  rw [h2] at hk2 hs2 hrow hu hl2 hev
  obtain ⟨⟨kk, vv, ee⟩, hkv⟩ : ∃ r, entryKV T X R2 = r := ⟨_, rfl⟩
  simp only at hk1 hk2 hs1 hs2 hrow hu hl1 hl2 hev
  rw [hkv] at hrow hu hev
  simp only at hev
  subst hev
  unfold kvR at hrow
  simp only at hrow
  obtain ⟨D, hD⟩ : ∃ d, K.drop 17 = d := ⟨_, rfl⟩
  rw [hD] at hk1
  obtain ⟨N, hN⟩ : ∃ n, T.cols.length = n := ⟨_, rfl⟩
  have hNs : N ≤ 1048576 := by omega
  rw [hN] at hk1 hk2 hs1 hl1 hl2
  have hcN : ((N : Nat) : Int).toNat = N := by omega
  have hrep : (List.replicate N [AV.d (.int .i64 0), .d (.bool false), .d (.int .i64 0), .d (.str [])]).flatten = cX (List.replicate N z4) := cX_rep N
  clear h1 h2 hkv hl1 hin hT
  obtain ⟨F1, hF1⟩ : ∃ F, someV R1 X.cols = F := ⟨_, rfl⟩
  obtain ⟨F2, hF2⟩ : ∃ F, someV R2 T.key = F := ⟨_, rfl⟩
  rw [hF1] at hs1 hu
  rw [hF2] at hs2 hu
  obtain ⟨tid, tnm, tcols, tkey, tix⟩ := T
  obtain ⟨xid, xnm, xcols, xu⟩ := X
  simp only at hN hk1 hk2 hs2
  unfold Tb.v Tb.c kM rdC at hk1 hk2
  unfold Tb.v Tb.c at hC hrow
  unfold Idx.av at hrow
  simp only at hk1 hk2 hrow hC hs1
  repeat' (first
    | ((with_reducible (first
     | (refine PW.seq fun K1 hK1 => ?_) | (refine PW.region fun K2 hK2 => ?_) | ((refine hK3 _ ?_; clear hK3)) | ((refine opsP_nil ?_; refine hK2 _ ?_; clear hK2)) | (refine litX_old ?_) | (refine litC_data ?_) 
     | (refine PW.block ?_) | (refine PW.skip ?_) | ((refine hY1 ?_; clear hX1 hY1; try simp only [hb])) )))
    | (((with_reducible refine cC_pure ?_ (hC) (fun _ => ?_)); (focus ((repeat' constructor) <;> (simp only [purAs, purA, Vf, Bool.and_self, Tb.v, Tb.c, Idx.av, eI, hV0', hK0', hN, hcN, hrep]; done)))))
    | (((with_reducible refine cC_pure ?_ (hB) (fun _ => ?_)); (focus ((repeat' constructor) <;> (simp only [purAs, purA, Vf, Bool.and_self, Tb.v, Tb.c, Idx.av, eI, hV0', hK0', hN, hcN, hrep]; done)))))
    | (((with_reducible refine cC_pure ?_ (hP) (fun _ => ?_)); (focus ((repeat' constructor) <;> (simp only [purAs, purA, Vf, Bool.and_self, Tb.v, Tb.c, Idx.av, eI, hV0', hK0', hN, hcN, hrep]; done)))))
    | (((with_reducible refine And.intro ?_ ?_); (focus (first | omega | (simp; done) | assumption))))
    | ((simp only [thenP]; (try ((repeat (fail_if_success (with_reducible refine hK1 _ ?_)); clear hK1); (with_reducible refine hK1 _ ?_); clear hK1))))
    | (((first | (((with_reducible refine opsP_consD (d := 48) fun K3 hK3 => ?_); simp only [wantP, opP]; (with_reducible refine litX_box ?_))) | (((with_reducible refine opsP_cons fun K3 hK3 => ?_); simp only [wantP, opP, valP, Ur, Us, List.mapM_cons, List.mapM_nil, Uw, Ux])) | ((with_reducible refine PW.condM fun X1 Y1 hX1 hY1 => ?_)) | (skip)); simp (disch := omega) only [wantB_ff, St.eval, St.put, upd_app, iniT_app, avOf, avOf1, nom, cellsA, AV.okv, loadA, lenP, binP, intsP, intP, nilP, unP, builtinP, isMapA, U3, U4, U5, slA, elA, dv1, U7, U8, Ua, Ub, Uf, Ug, Uk, Ul, Un, Up, Ut, Uu, Uv, List.mapM_cons, List.mapM_nil, Uw, Ux, Uz, V0, V1, V4, Option.bind_eq_bind, Option.pure_def, V9, Va, Ve, Int.cast_ofNat_Int, UU9, Vr, Vs, PmL, simprocAttr, PmT, Tb.v, Tb.c, Idx.av, hV0', hK0', hN, hcN, hrep, condP, condB_f]; try (with_reducible (first | exact co_refl _ | exact co_own _ _ _ | exact co_nilsB | exact co_nilsL _ _)))))
  (with_reducible refine PW.loop (fun n s => ∃ (k : Nat) (Rk : List XV), s.t 3 = .ptr 0 0 ∧ s.t 4 = .ptr 1 0 ∧ s.t 5 = .ptr 2 0 ∧ s.t 9 = bs kb ∧ s.t 10 = .bsl 3 0 N N 4 ∧ s.t 50 = .d (.sl 7 (encL Col.c tcols)) ∧ s.t 51 = .d (.int .i64 N) ∧ s.t 52 = .d (.int .i64 k) ∧ s.n = 118 ∧ s.m = ⟨[some (26, Tb.c ⟨tid, tnm, tcols, tkey, tix⟩), some (42, [.d (.int .i64 xid), .d (.str xnm), .d (.sl 1 (encL eI xcols)), .d (.bool xu)]), some (31, [bs K, bs V]), some (47, cX Rk)], []⟩ ∧ k ≤ N ∧ Rk.length = N ∧ (∀ j, j < k → Rk[j]? = (tcols.map defV)[j]?) ∧ n = N - k) N ?_ ?_)
  · exact ⟨0, List.replicate N z4, rfl, rfl, rfl, rfl, rfl, rfl, rfl, rfl, rfl, rfl, Nat.zero_le _, by simp, fun j hj => absurd hj (by omega), rfl⟩
  rintro n ⟨t, nn, m⟩ ⟨k, Rk, q3, q4, q5, q9, q10, q50, q51, q52, hn, hm, hk, hkl, hdf, hnk⟩ - -
  simp only at q3 q4 q5 q9 q10 q50 q51 q52 hn hm
  subst hn hm hnk
  by_cases hlt : (k : Int) < N
  · have hlt' := eq_true hlt
    obtain ⟨c, hc⟩ : ∃ x, tcols[k]? = some x := ⟨_, List.getElem?_eq_getElem (by omega)⟩
    have hw : IntKind.i64.wrap ((k : Int) + 1) = k + 1 := IntWalk.i64_in ((k : Int) + 1) (by omega)
    have hset := cX_set Rk k c.ty (!c.nn) 0 [] (by omega)
    have hcl := cX_len Rk
    repeat' (first
      | ((with_reducible (first
       | (refine PW.seq fun K1 hK1 => ?_) | (refine PW.region fun K2 hK2 => ?_) | ((refine hK3 _ ?_; clear hK3)) | ((refine opsP_nil ?_; refine hK2 _ ?_; clear hK2)) 
       | (refine PW.block ?_) | (refine PW.skip ?_) | ((refine hX1 ?_; clear hX1 hY1; try simp only [hb])) )))
      | (((with_reducible refine And.intro ?_ ?_); (focus (first | omega | (simp; done) | assumption))))
      | ((simp only [thenP, blockP]; (try ((repeat (fail_if_success (with_reducible refine hK1 _ ?_)); clear hK1); (with_reducible refine hK1 _ ?_); clear hK1))))
      | (((first | (((with_reducible refine opsP_cons fun K3 hK3 => ?_); simp only [wantP, opP, valP, Ur, Us])) | ((with_reducible refine PW.condM fun X1 Y1 hX1 hY1 => ?_)) | (skip)); simp (disch := omega) only [St.eval, St.put, upd_app, avOf, avOf1, cellsA, AV.okv, loadA, binP, intsP, intP, nilP, unP, slA, putCells, fillA, buildA, Ua, Ub, Uc, Ud, Uf, Ug, Uk, Ul, Un, Up, Ur, Us, Ut, Uu, V2, V7, V9, Ve, Vt, UU2, UU3, Vr, PmL, simprocAttr, PmT, Tb.c, q10, q50, q51, q52, hlt', hc, hw, Col.c, hset, hcl, condP, condB_t]; try (with_reducible (first | exact co_refl _ | exact co_own _ _ _ | exact co_nilsB | exact co_nilsL _ _)))))
    refine ⟨N - (k + 1), by omega, k + 1, Rk.set k (defV c), ?_, ?_, ?_, ?_, ?_, ?_, ?_, ?_, ?_, ?_, by omega, by simpa using hkl, ?_, rfl⟩
    case refine_11 =>
      intro j hj
      by_cases hjk : j = k
      · subst hjk
        rw [List.getElem?_set_self (by omega), List.getElem?_map, hc]
        rfl
      · rw [List.getElem?_set_ne (by omega)]
        exact hdf j (by omega)
    all_goals (simp only [St.cut, Mem.cut, fg, fgs, upd_app, Nat.reduceEqDiff, ↓reduceIte, List.take_nil, List.map_nil, List.take_succ_cons, List.take_zero, List.map_cons, Option.map_some, Nat.reduceLT, Int.natCast_add, Int.cast_ofNat_Int, q3, q4, q5, q9, q10, q50, q51, cX_fgs, defV]; try rfl)
  have hkl2 : k = N := by omega
  subst hkl2
  have hlt' := eq_false hlt
  have hRk : Rk = tcols.map defV := List.ext_getElem? fun j => by
    by_cases hj : j < k
    · exact hdf j hj
    · rw [List.getElem?_eq_none (by omega), List.getElem?_eq_none (by rw [List.length_map]; omega)]
  subst hRk
  repeat' (first
    | (((with_reducible refine callP_b2 (i := 4) (j := 3) (by decide) ?_ ?_ ?_ ?_ hk1 (fun _ => ?_)); (focus (exact rfl)); (focus (exact rfl)); (focus (exact rfl)); (focus (exact ⟨rfl, rfl, cX_pur _, cX_pur _, rfl⟩)); simp only [List.set_cons_succ, List.set_cons_zero]))
    | (((with_reducible refine callP_b2 (i := 4) (j := 3) (by decide) ?_ ?_ ?_ ?_ hk2 (fun _ => ?_)); (focus (exact rfl)); (focus (exact rfl)); (focus (exact rfl)); (focus (exact ⟨rfl, rfl, cX_pur _, cX_pur _, rfl⟩)); simp only [List.set_cons_succ, List.set_cons_zero]))
    | (((with_reducible refine callP_b1 (i := 3) ?_ ?_ ?_ hs1 (fun _ => ?_)); (focus (exact rfl)); (focus (exact rfl)); (focus (exact ⟨cX_pur _, cX_pur _, rfl⟩)); simp only [List.set_cons_succ, List.set_cons_zero]))
    | (((with_reducible refine PW.freezeR (id := 16) 10 3 0 k k 4 (xs := encL XV.cd R2) (b := (47, cX R2)) ?_ ?_ ?_ ?_); (focus (simp only [upd_app, simprocAttr, q10])); (focus (exact rfl)); (focus (exact view_cX (by decide) rfl hl2))))
    | ((with_reducible (first
     | (refine PW.seq fun K1 hK1 => ?_) | (refine PW.region fun K2 hK2 => ?_) | ((refine hK3 _ ?_; clear hK3)) | ((refine opsP_nil ?_; refine hK2 _ ?_; clear hK2)) | ((refine Exists.intro _ (Exists.intro _ (And.intro rfl (And.intro rfl (And.intro ?_ ?_)))); focus omega)) 
     | (refine PW.skip ?_) | (refine PW.exit ?_) | (refine PW.ret ?_) | ((refine hX1 ?_; clear hX1 hY1; try simp only [hb])) | ((refine hY1 ?_; clear hX1 hY1; try simp only [hb])) )))
    | (((first | (with_reducible refine wantB_intro (fun hb => ?_) (fun hb => ?_)) | (with_reducible refine condB_intro (fun hb => ?_) (fun hb => ?_))) <;> ((try (have hp := hb; simp only [PmH] at hp)); try simp only [hb, Bool.not_false])))
    | (((with_reducible refine cC_pure ?_ (hrow) (fun _ => ?_)); (focus ((repeat' constructor) <;> (simp only [purAs, purA, Vf, Bool.and_self, Tb.v, Tb.c, q3, q4, q5, q9, q10, q50, q51, q52, hlt', hbl', hD]; done)))))
    | (((with_reducible refine cC_pure ?_ (pEqual ?_ ?_) (fun _ => ?_)); (focus ((repeat' (first | (refine .cons ?_ ?_) | (exact .nil) | (exact .d _) )) <;> (simp only [purAs, purA, Vf, Bool.and_self, Tb.v, Tb.c, q3, q4, q5, q9, q10, q50, q51, q52, hlt', hbl', hD]; done)))))
    | (((with_reducible refine cC_pure ?_ (hs2) (fun _ => ?_)); (focus ((repeat' constructor) <;> (simp only [purAs, purA, Vf, Bool.and_self, Tb.v, Tb.c, q3, q4, q5, q9, q10, q50, q51, q52, hlt', hbl', hD]; done)))))
    | ((simp only [thenP, blockP, ↓reduceIte]; (try ((repeat (fail_if_success (with_reducible refine hK1 _ ?_)); clear hK1); (with_reducible refine hK1 _ ?_); clear hK1))))
    | (((first | (((with_reducible refine opsP_cons fun K3 hK3 => ?_); simp only [wantP, opP, valP, Ur, Us])) | ((with_reducible refine PW.condM fun X1 Y1 hX1 hY1 => ?_)) | (skip)); simp (disch := omega) only [wantB_ff, wantB_tf, St.eval, St.put, upd_app, avOf, avOf1, cellsA, AV.okv, loadA, lenP, binP, intsP, intP, eqP, nilP, sliceP, boundLo, boundHi, unP, builtinP, isMapA, slA, putCells, fillA, buildA, Ua, Ub, Uc, Ud, Uf, Ug, Uk, Ul, Un, Up, Uq, Ut, Uu, Uv, Uz, V2, V3, V4, V7, V9, Va, Ve, Vt, UU2, UU3, UU4, Vr, PmL, simprocAttr, PmT, Tb.c, q3, q4, q5, q9, q10, q51, q52, hlt', hbl', hD, retQ, resP, tupA, fg, fgs, condP, condB_t, condB_f]; try (with_reducible (first | exact co_refl _ | exact co_own _ _ _ | exact co_nilsB | exact co_nilsL _ _)))))
  all_goals first
    | (rw [hu, if_pos (by simp_all)]; exact co_ent0 _)
    | (rw [hu, if_neg (by simp_all)]; exact co_refl _)
end PM
end Go.Proofs.YtfkemeamimcnjaaDoor
