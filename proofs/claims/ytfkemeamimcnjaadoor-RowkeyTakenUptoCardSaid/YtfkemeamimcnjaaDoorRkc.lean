/- rowkey, plainly: values in their ranges, what was laid down; the law's comparisons. -/
import Derived.Test.YtfkemeamimcnjaaDoorRkb
namespace Go.Proofs.YtfkemeamimcnjaaDoor
open Go.RowKit
set_option maxRecDepth 100000
namespace PM
/-- a value's cells are in their ranges -/
def okX (v : XV) : Prop := (-9223372036854775808 ≤ v.n ∧ v.n ≤ 9223372036854775807) ∧ Rng v.s
theorem fitsV_1 {v : XV} (h : fitsV v 1 = true) : v.ty = 1 ∧ v.s = [] := by
  unfold fitsV at h
  simp only [Bool.and_eq_true, decide_eq_true_eq, show ¬ ((1 : Int) = 3) by omega, show ¬ ((1 : Int) = 2) by omega, if_false] at h
  exact ⟨h.1, h.2.2⟩
theorem fitsV_2 {v : XV} (h : fitsV v 2 = true) : v.ty = 2 ∧ v.s = [] ∧ (v.n = 0 ∨ v.n = 1) := by
  unfold fitsV at h
  simp only [Bool.and_eq_true, Bool.or_eq_true, decide_eq_true_eq, show ¬ ((2 : Int) = 3) by omega, if_false, if_true] at h
  exact ⟨h.1, h.2.2.1, h.2.2.2⟩
theorem fitsV_3 {v : XV} (h : fitsV v 3 = true) : v.ty = 3 ∧ v.n = 0 := by
  unfold fitsV at h
  simp only [Bool.and_eq_true, decide_eq_true_eq, if_true] at h
  exact ⟨h.1, h.2.2.1⟩
theorem keysOf_cons (R : List XV) (i : Int) (l : List Int) : keysOf R (i :: l) = colKey (valAt R i) ++ keysOf R l := by unfold keysOf; simp
/-- what a row that was laid down tells of itself -/
theorem rowKV_ok {T : Tb} {R : List XV} (h : (rowKV T R).2.2 = 0) : tabled T T.key = true ∧ rowFits R T.cols = true ∧ (rowKV T R).1 = keyB T R := by
  unfold rowKV at h ⊢
  by_cases h1 : tabled T T.key = false
  · rw [if_pos h1] at h; simp at h
  · rw [if_neg h1] at h ⊢
    by_cases h2 : rowFits R T.cols = false
    · rw [if_pos h2] at h; simp at h
    · rw [if_neg h2] at h ⊢
      by_cases h3 : 256 < (keyB T R).length ∨ 65536 < (valsFrom T.key 0 R).length
      · rw [if_pos h3] at h; simp at h
      · rw [if_neg h3]
        exact ⟨by simpa using h1, by simpa using h2, rfl⟩
theorem entryKV_ok {T : Tb} {X : Idx} {R : List XV} (h : (entryKV T X R).2.2 = 0) : tabled T X.cols = true ∧ rowFits R T.cols = true ∧ (entryKV T X R).1 = entB T X R := by
  unfold entryKV at h ⊢
  by_cases h1 : tabled T X.cols = false
  · rw [if_pos h1] at h; simp at h
  · rw [if_neg h1] at h ⊢
    by_cases h2 : rowFits R T.cols = false
    · rw [if_pos h2] at h; simp at h
    · rw [if_neg h2] at h ⊢
      by_cases h3 : 256 < (entB T X R).length
      · rw [if_pos h3] at h; simp at h
      · rw [if_neg h3]
        exact ⟨by simpa using h1, by simpa using h2, rfl⟩
theorem okX_of {k : Nat} {A : List XV} (h : Has (.d (.sl k (encL XV.cd A)))) : ∀ v ∈ A, okX v := by
  intro v hv
  have h2 := (has_sl h).2 (XV.cd v) (List.mem_map.2 ⟨v, hv, rfl⟩)
  have hn := has_int (h2 (.int .i64 v.n) (by simp [XV.cd]))
  have hs := has_str (h2 (.str v.s) (by simp [XV.cd]))
  rw [wf_i64] at hn
  simp only [Bool.and_eq_true, decide_eq_true_eq] at hn
  exact ⟨hn, hs.1⟩
theorem pSameKV (k v : List Int) : Pure Tryd.prog 12 [.agg [bs k, bs v], .agg [bs k, bs v]] (.d (.bool true)) := by
  refine pure_intro Tryd.func12 rfl rfl rfl 21 rfl (fun hh => ?_)
  repeat' (first
    | ((with_reducible (first
     | (refine PW.seq fun K1 hK1 => ?_) | (refine PW.region fun K2 hK2 => ?_) | ((refine hK3 _ ?_; clear hK3)) | ((refine opsP_nil ?_; refine hK2 _ ?_; clear hK2)) 
     | (refine PW.ret ?_) )))
    | ((simp only [thenP]; (try ((repeat (fail_if_success (with_reducible refine hK1 _ ?_)); clear hK1); (with_reducible refine hK1 _ ?_); clear hK1))))
    | (((first | (((with_reducible refine opsP_cons fun K3 hK3 => ?_); simp only [wantP, opP, valP])) | (skip)); simp (disch := omega) only [wantB_tt, St.eval, St.put, upd_app, iniT_app, avOf, avOf1, nom, cellsA, AV.okv, loadA, binP, strP, nilP, convP, slA, U7, U8, Ua, Ub, Uf, Ug, Uk, Ul, Ut, Uu, Uz, V4, V9, Va, Ve, PmL, simprocAttr, PmT, retQ, resP, tupA, fg]; try (with_reducible (first | exact co_refl _ | exact co_own _ _ _ | exact co_nilsB | exact co_nilsL _ _)))))
set_option maxHeartbeats 2000000 in
theorem pSameV (R : List XV) : Pure Tryd.prog 14 [vl R, vl R] (.d (.bool true)) := by
  refine pure_intro Tryd.func14 rfl rfl rfl 26 rfl (fun hh => ?_)
  have hml : maxLen = 9223372036854775807 := rfl
  have hl := (has_sl (hh (vl R) (by simp))).1
  rw [encL_len] at hl
  repeat' (first
    | ((with_reducible (first
     | (refine PW.seq fun K1 hK1 => ?_) | (refine PW.region fun K2 hK2 => ?_) | ((refine hK3 _ ?_; clear hK3)) | ((refine opsP_nil ?_; refine hK2 _ ?_; clear hK2)) | (refine PW.block ?_) | (refine PW.skip ?_)
     | ((refine hY1 ?_; clear hX1 hY1; try simp only [hb])) )))
    | ((simp only [thenP]; (try ((repeat (fail_if_success (with_reducible refine hK1 _ ?_)); clear hK1); (with_reducible refine hK1 _ ?_); clear hK1))))
    | (((first | (((with_reducible refine opsP_cons fun K3 hK3 => ?_); simp only [wantP, opP, valP, Ur, Us])) | ((with_reducible refine PW.condM fun X1 Y1 hX1 hY1 => ?_)) | (skip)); simp (disch := omega) only [St.eval, St.put, upd_app, iniT_app, avOf, avOf1, nom, lenP, binP, intsP, intP, nilP, builtinP, isMapA, slA, U7, U8, PmL, simprocAttr, PmT, condP, condB_f]; try (with_reducible (first | exact co_refl _ | exact co_own _ _ _ | exact co_nilsB | exact co_nilsL _ _)))))
  (with_reducible refine PW.loop (fun n s => ∃ (k : Nat), s.t 0 = vl R ∧ s.t 1 = vl R ∧ s.t 5 = .d (.int .i64 k) ∧ s.n = 26 ∧ s.m = nom ∧ k ≤ R.length ∧ n = R.length - k) R.length ?_ ?_)
  · exact ⟨0, rfl, rfl, rfl, rfl, rfl, Nat.zero_le _, rfl⟩
  rintro n ⟨t, nn, m⟩ ⟨k, h0, h1, h5, hn, hm, hk, hnk⟩ - -
  simp only at h0 h1 h5 hn hm
  subst hn hm hnk
  by_cases hlt : (k : Int) < R.length
  · have hlt' := eq_true hlt
    obtain ⟨v, hv⟩ : ∃ v, R[k]? = some v := ⟨_, List.getElem?_eq_getElem (by omega)⟩
    have hw : IntKind.i64.wrap ((k : Int) + 1) = k + 1 := IntWalk.i64_in ((k : Int) + 1) (by omega)
    repeat' (first
      | ((with_reducible (first
       | (refine PW.seq fun K1 hK1 => ?_) | (refine PW.region fun K2 hK2 => ?_) | ((refine hK3 _ ?_; clear hK3)) | ((refine opsP_nil ?_; refine hK2 _ ?_; clear hK2)) | (refine PW.block ?_) | (refine PW.skip ?_)
       | ((refine hX1 ?_; clear hX1 hY1; try simp only [hb])) | ((refine hY1 ?_; clear hX1 hY1; try simp only [hb])) | ((refine opsO_nil ?_; refine hK2 _ ?_; clear hK2)) )))
      | (((with_reducible refine PW.drawR (id := 6) mixed [] [(0, true), (1, true), (2, true), (3, true), (4, true), (5, true), (6, true), (7, true), (8, true)] (by kernel_rfl) (by decide) fun K2 hK2 => ?_)))
      | (((with_reducible refine And.intro ?_ ?_); (focus (first | omega | (simp; done) | assumption))))
      | ((simp only [thenP, blockP]; (try ((repeat (fail_if_success (with_reducible refine hK1 _ ?_)); clear hK1); (with_reducible refine hK1 _ ?_); clear hK1))))
      | (((first | (((with_reducible refine opsP_cons fun K3 hK3 => ?_); simp only [wantP, opP, valP, Ur, Us])) | (((with_reducible refine opsO_first (o := ?_) ?_ fun K3 hK3 => ?_); rotate_left 1; (focus (simp only [Uz, Ub, Ua] <;> rfl)); simp only [wantP, firstP, valP])) | ((with_reducible refine PW.condM fun X1 Y1 hX1 hY1 => ?_)) | (skip)); simp (disch := omega) only [St.eval, St.put, upd_app, avOf, avOf1, nom, loadA, lenP, binP, intsP, intP, eqP, nilP, builtinP, dvEqC, eqAll, isMapA, slA, Ua, Ub, Uf, Ug, Un, Up, Ur, Us, V2, V7, V9, Ve, UU9, Vr, PmL, simprocAttr, PmT, h0, h1, h5, hlt', hv, hw, XV.cd, condP, condB_t, condB_f, firstOk]; try (with_reducible (first | exact co_refl _ | exact co_own _ _ _ | exact co_nilsB | exact co_nilsL _ _)))))
    refine ⟨R.length - (k + 1), by omega, k + 1, ?_, ?_, ?_, ?_, ?_, by omega, rfl⟩
    all_goals (simp only [St.cut, Mem.cut, fg, upd_app, Nat.reduceEqDiff, ↓reduceIte, List.take_nil, List.map_nil, Int.natCast_add, Int.cast_ofNat_Int, h0, h1]; try rfl)
  have hlt' := eq_false hlt
  repeat' (first
    | ((with_reducible (first
     | (refine PW.seq fun K1 hK1 => ?_) | (refine PW.region fun K2 hK2 => ?_) | ((refine hK3 _ ?_; clear hK3)) | ((refine opsP_nil ?_; refine hK2 _ ?_; clear hK2)) 
     | (refine PW.exit ?_) | (refine PW.ret ?_) | ((refine hY1 ?_; clear hX1 hY1; try simp only [hb])) )))
    | ((simp only [thenP, blockP, ↓reduceIte]; (try ((repeat (fail_if_success (with_reducible refine hK1 _ ?_)); clear hK1); (with_reducible refine hK1 _ ?_); clear hK1))))
    | (((first | (((with_reducible refine opsP_cons fun K3 hK3 => ?_); simp only [wantP, opP, valP, Ur, Us])) | ((with_reducible refine PW.condM fun X1 Y1 hX1 hY1 => ?_)) | (skip)); simp (disch := omega) only [St.eval, St.put, upd_app, avOf, avOf1, nom, lenP, binP, intsP, intP, nilP, builtinP, isMapA, slA, PmL, simprocAttr, PmT, h0, h5, hlt', retQ, resP, tupA, fg, condP, condB_f]; try (with_reducible (first | exact co_refl _ | exact co_own _ _ _ | exact co_nilsB | exact co_nilsL _ _)))))
theorem rowKV_small (T : Tb) (R : List XV) : (rowKV T R).1.length ≤ 256 ∧ (rowKV T R).2.1.length ≤ 65536 := by
  unfold rowKV
  split
  · simp
  · split
    · simp
    · split
      · simp
      · rename_i h
        rw [not_or] at h
        exact ⟨by simp only; omega, by simp only; omega⟩
end PM
end Go.Proofs.YtfkemeamimcnjaaDoor
