/- rowkey: RowkeyRows in the abstract, and its walk. -/
import Derived.Test.YtfkemeamimcnjaaDoorRkt5
import Derived.Test.YtfkemeamimcnjaaDoorRkOpen
namespace Go.Proofs.YtfkemeamimcnjaaDoor
open Go.RowKit
set_option maxRecDepth 100000
namespace PM
theorem pSameKV (k v : List Int) : Pure Tryd.prog 12 [.agg [bs k, bs v], .agg [bs k, bs v]] (.d (.bool true)) := by
  refine pure_intro Tryd.func12 rfl rfl rfl 21 rfl (fun hh => ?_)
  repeat' (first
    | ((with_reducible (first
     | (refine PW.seq fun K1 hK1 => ?_) | (refine PW.region fun K2 hK2 => ?_) | ((refine hK3 _ ?_; clear hK3)) | ((refine opsP_nil ?_; refine hK2 _ ?_; clear hK2)) 
     | (refine PW.ret ?_) )))
    | ((simp only [thenP]; (try ((repeat (fail_if_success (with_reducible refine hK1 _ ?_)); clear hK1); (with_reducible refine hK1 _ ?_); clear hK1))))
    | (((first | (((with_reducible refine opsP_cons fun K3 hK3 => ?_); simp only [wantP, opP, valP])) | (skip)); simp (disch := omega) only [wantB_tt, St.eval, St.put, upd_app, iniT_app, avOf, avOf1, nom, cellsA, AV.okv, loadA, binP, strP, nilP, convP, slA, U7, U8, Ua, Ub, Uf, Ug, Uk, Ul, Ut, Uu, Uz, V4, V9, Va, Ve, PmL, simprocAttr, PmT, retQ, resP, tupA, fg]; try (with_reducible (first | exact co_refl _ | exact co_own _ _ _ | exact co_nilsB | exact co_nilsL _ _)))))
set_option maxHeartbeats 2000000 in
theorem pSameV (R : List XV) : Pure Tryd.prog 14 [vl R, vl R] (.d (.bool true)) := by
  refine pure_intro Tryd.func14 rfl rfl rfl 26 rfl (fun hh => ?_)
  have hml : maxLen = 9223372036854775807 := rfl
  have hl := (has_sl (hh (vl R) (by simp))).1
  rw [encL_len] at hl
  repeat' (first
    | ((with_reducible (first
     | (refine PW.seq fun K1 hK1 => ?_) | (refine PW.region fun K2 hK2 => ?_) | ((refine hK3 _ ?_; clear hK3)) | ((refine opsP_nil ?_; refine hK2 _ ?_; clear hK2)) | (refine PW.block ?_) | (refine PW.skip ?_)
     | ((refine hY1 ?_; clear hX1 hY1; try simp only [hb])) )))
    | ((simp only [thenP]; (try ((repeat (fail_if_success (with_reducible refine hK1 _ ?_)); clear hK1); (with_reducible refine hK1 _ ?_); clear hK1))))
    | (((first | (((with_reducible refine opsP_cons fun K3 hK3 => ?_); simp only [wantP, opP, valP, Ur, Us])) | ((with_reducible refine PW.condM fun X1 Y1 hX1 hY1 => ?_)) | (skip)); simp (disch := omega) only [St.eval, St.put, upd_app, iniT_app, avOf, avOf1, nom, lenP, binP, intsP, intP, nilP, builtinP, isMapA, slA, U7, U8, PmL, simprocAttr, PmT, condP, condB_f]; try (with_reducible (first | exact co_refl _ | exact co_own _ _ _ | exact co_nilsB | exact co_nilsL _ _)))))
  (with_reducible refine PW.loop (fun n s => ∃ (k : Nat), s.t 0 = vl R ∧ s.t 1 = vl R ∧ s.t 5 = .d (.int .i64 k) ∧ s.n = 26 ∧ s.m = nom ∧ k ≤ R.length ∧ n = R.length - k) R.length ?_ ?_)
  · exact ⟨0, rfl, rfl, rfl, rfl, rfl, Nat.zero_le _, rfl⟩
  rintro n ⟨t, nn, m⟩ ⟨k, h0, h1, h5, hn, hm, hk, hnk⟩ - -
  simp only at h0 h1 h5 hn hm
  subst hn hm hnk
  by_cases hlt : (k : Int) < R.length
  · have hlt' := eq_true hlt
    obtain ⟨v, hv⟩ : ∃ v, R[k]? = some v := ⟨_, List.getElem?_eq_getElem (by omega)⟩
    have hw : IntKind.i64.wrap ((k : Int) + 1) = k + 1 := IntWalk.i64_in ((k : Int) + 1) (by omega)
    repeat' (first
      | ((with_reducible (first
       | (refine PW.seq fun K1 hK1 => ?_) | (refine PW.region fun K2 hK2 => ?_) | ((refine hK3 _ ?_; clear hK3)) | ((refine opsP_nil ?_; refine hK2 _ ?_; clear hK2)) | (refine PW.block ?_) | (refine PW.skip ?_)
       | ((refine hX1 ?_; clear hX1 hY1; try simp only [hb])) | ((refine hY1 ?_; clear hX1 hY1; try simp only [hb])) | ((refine opsO_nil ?_; refine hK2 _ ?_; clear hK2)) )))
      | (((with_reducible refine PW.drawR (id := 6) mixed [] [(0, true), (1, true), (2, true), (3, true), (4, true), (5, true), (6, true), (7, true), (8, true)] (by kernel_rfl) (by decide) fun K2 hK2 => ?_)))
      | (((with_reducible refine And.intro ?_ ?_); (focus (first | omega | (simp; done) | assumption))))
      | ((simp only [thenP, blockP]; (try ((repeat (fail_if_success (with_reducible refine hK1 _ ?_)); clear hK1); (with_reducible refine hK1 _ ?_); clear hK1))))
      | (((first | (((with_reducible refine opsP_cons fun K3 hK3 => ?_); simp only [wantP, opP, valP, Ur, Us])) | (((with_reducible refine opsO_first (o := ?_) ?_ fun K3 hK3 => ?_); rotate_left 1; (focus (simp only [Uz, Ub, Ua] <;> rfl)); simp only [wantP, firstP, valP])) | ((with_reducible refine PW.condM fun X1 Y1 hX1 hY1 => ?_)) | (skip)); simp (disch := omega) only [St.eval, St.put, upd_app, avOf, avOf1, nom, loadA, lenP, binP, intsP, intP, eqP, nilP, builtinP, dvEqC, eqAll, isMapA, slA, Ua, Ub, Uf, Ug, Un, Up, Ur, Us, V2, V7, V9, Ve, UU9, Vr, PmL, simprocAttr, PmT, h0, h1, h5, hlt', hv, hw, XV.cd, condP, condB_t, condB_f, firstOk]; try (with_reducible (first | exact co_refl _ | exact co_own _ _ _ | exact co_nilsB | exact co_nilsL _ _)))))
    refine ⟨R.length - (k + 1), by omega, k + 1, ?_, ?_, ?_, ?_, ?_, by omega, rfl⟩
    all_goals (simp only [St.cut, Mem.cut, fg, upd_app, Nat.reduceEqDiff, ↓reduceIte, List.take_nil, List.map_nil, Int.natCast_add, Int.cast_ofNat_Int, h0, h1]; try rfl)
  have hlt' := eq_false hlt
  repeat' (first
    | ((with_reducible (first
     | (refine PW.seq fun K1 hK1 => ?_) | (refine PW.region fun K2 hK2 => ?_) | ((refine hK3 _ ?_; clear hK3)) | ((refine opsP_nil ?_; refine hK2 _ ?_; clear hK2)) 
     | (refine PW.exit ?_) | (refine PW.ret ?_) | ((refine hY1 ?_; clear hX1 hY1; try simp only [hb])) )))
    | ((simp only [thenP, blockP, ↓reduceIte]; (try ((repeat (fail_if_success (with_reducible refine hK1 _ ?_)); clear hK1); (with_reducible refine hK1 _ ?_); clear hK1))))
    | (((first | (((with_reducible refine opsP_cons fun K3 hK3 => ?_); simp only [wantP, opP, valP, Ur, Us])) | ((with_reducible refine PW.condM fun X1 Y1 hX1 hY1 => ?_)) | (skip)); simp (disch := omega) only [St.eval, St.put, upd_app, avOf, avOf1, nom, lenP, binP, intsP, intP, nilP, builtinP, isMapA, slA, PmL, simprocAttr, PmT, h0, h5, hlt', retQ, resP, tupA, fg, condP, condB_f]; try (with_reducible (first | exact co_refl _ | exact co_own _ _ _ | exact co_nilsB | exact co_nilsL _ _)))))
theorem rowKV_small (T : Tb) (R : List XV) : (rowKV T R).1.length ≤ 256 ∧ (rowKV T R).2.1.length ≤ 65536 := by
  unfold rowKV
  split
  · simp
  · split
    · simp
    · split
      · simp
      · rename_i h
        rw [not_or] at h
        exact ⟨by simp only; omega, by simp only; omega⟩
set_option maxHeartbeats 8000000 in
theorem pRowkeyRows (T : Tb) (R : List XV) (hT : tbSmall T) (hR : R.length ≤ 1048576) : Pure Tryd.prog 3 [T.v, vl R] (.d (.bool true)) := by
  refine pure_intro Tryd.func3 rfl rfl rfl 57 rfl (fun hh => ?_)
  have ok := okX_of (hh (vl R) (by simp))
  have hS := pShown
  have h1 := pRRow T R hR hT.2.1
  have h2 := pRow T R hR hT.2.1
  have hsm := rowKV_small T R
  have hbk := fun h => takeRowS_back (T := T) (R := R) h ok
  obtain ⟨⟨kk, vv, ee⟩, hkv⟩ : ∃ r, rowKV T R = r := ⟨_, rfl⟩
  rw [hkv] at h1 h2 hsm hbk
  simp only at hsm hbk
  unfold kvR at h1 h2
  simp only at h1 h2
  have h3 := pTakeRow T kk vv ⟨hT.1, hT.2.1⟩ (by omega) (by omega)
  have h4 := pSameKV kk vv
  have h5 := pSameV R
  by_cases he : ee = 0
  · subst he
    rw [hbk rfl] at h3
    unfold rowR at h3
    simp only at h3
    obtain ⟨tid, tnm, tcols, tkey, tix⟩ := T
    unfold Tb.v Tb.c at h1 h2 h3
    repeat' (first
      | ((with_reducible (first
       | (refine PW.seq fun K1 hK1 => ?_) | (refine PW.region fun K2 hK2 => ?_) | ((refine hK3 _ ?_; clear hK3)) | ((refine opsP_nil ?_; refine hK2 _ ?_; clear hK2)) 
       | (refine PW.skip ?_) | (refine PW.ret ?_) | ((refine hY1 ?_; clear hX1 hY1; try simp only [hb])) )))
      | (((with_reducible refine cC_pure ?_ (hS) (fun _ => ?_)); (focus ((repeat' constructor) <;> (simp only [purAs, purA, Vf, Bool.and_self, Tb.v, Tb.c]; done)))))
      | (((with_reducible refine cC_pure ?_ (h1) (fun _ => ?_)); (focus ((repeat' constructor) <;> (simp only [purAs, purA, Vf, Bool.and_self, Tb.v, Tb.c]; done)))))
      | (((with_reducible refine cC_pure ?_ (h2) (fun _ => ?_)); (focus ((repeat' constructor) <;> (simp only [purAs, purA, Vf, Bool.and_self, Tb.v, Tb.c]; done)))))
      | (((with_reducible refine cC_pure ?_ (h3) (fun _ => ?_)); (focus ((repeat' constructor) <;> (simp only [purAs, purA, Vf, Bool.and_self, Tb.v, Tb.c]; done)))))
      | (((with_reducible refine cC_pure ?_ (h4) (fun _ => ?_)); (focus ((repeat' constructor) <;> (simp only [purAs, purA, Vf, Bool.and_self, Tb.v, Tb.c]; done)))))
      | (((with_reducible refine cC_pure ?_ (h5) (fun _ => ?_)); (focus ((repeat' constructor) <;> (simp only [purAs, purA, Vf, Bool.and_self, Tb.v, Tb.c]; done)))))
      | ((simp only [thenP]; (try ((repeat (fail_if_success (with_reducible refine hK1 _ ?_)); clear hK1); (with_reducible refine hK1 _ ?_); clear hK1))))
      | (((first | (((with_reducible refine opsP_cons fun K3 hK3 => ?_); simp only [wantP, opP, valP, Ur, Us])) | ((with_reducible refine PW.condM fun X1 Y1 hX1 hY1 => ?_)) | (skip)); simp (disch := omega) only [wantB_tt, wantB_ff, St.eval, St.put, upd_app, iniT_app, avOf, avOf1, nom, cellsA, AV.okv, loadA, binP, intsP, intP, nilP, unP, slA, putCells, U7, U8, Ua, Ub, Uc, Ud, Uf, Ug, Uk, Un, Up, Ut, Uu, Uv, Uz, V4, V9, Ve, Vr, PmL, simprocAttr, PmT, Tb.v, Tb.c, retQ, resP, tupA, fg, condP, condB_f]; try (with_reducible (first | exact co_refl _ | exact co_own _ _ _ | exact co_nilsB | exact co_nilsL _ _)))))
  · have he' := eq_false he
    obtain ⟨tid, tnm, tcols, tkey, tix⟩ := T
    unfold Tb.v Tb.c at h1 h2
    repeat' (first
      | ((with_reducible (first
       | (refine PW.seq fun K1 hK1 => ?_) | (refine PW.region fun K2 hK2 => ?_) | ((refine hK3 _ ?_; clear hK3)) | ((refine opsP_nil ?_; refine hK2 _ ?_; clear hK2)) 
       | (refine PW.skip ?_) | (refine PW.ret ?_) | ((refine hX1 ?_; clear hX1 hY1; try simp only [hb])) | ((refine hY1 ?_; clear hX1 hY1; try simp only [hb])) )))
      | (((with_reducible refine cC_pure ?_ (hS) (fun _ => ?_)); (focus ((repeat' constructor) <;> (simp only [purAs, purA, Vf, Bool.and_self, Tb.v, Tb.c, he']; done)))))
      | (((with_reducible refine cC_pure ?_ (h1) (fun _ => ?_)); (focus ((repeat' constructor) <;> (simp only [purAs, purA, Vf, Bool.and_self, Tb.v, Tb.c, he']; done)))))
      | (((with_reducible refine cC_pure ?_ (h2) (fun _ => ?_)); (focus ((repeat' constructor) <;> (simp only [purAs, purA, Vf, Bool.and_self, Tb.v, Tb.c, he']; done)))))
      | (((with_reducible refine cC_pure ?_ (h4) (fun _ => ?_)); (focus ((repeat' constructor) <;> (simp only [purAs, purA, Vf, Bool.and_self, Tb.v, Tb.c, he']; done)))))
      | ((simp only [thenP]; (try ((repeat (fail_if_success (with_reducible refine hK1 _ ?_)); clear hK1); (with_reducible refine hK1 _ ?_); clear hK1))))
      | (((first | (((with_reducible refine opsP_cons fun K3 hK3 => ?_); simp only [wantP, opP, valP, Ur, Us])) | ((with_reducible refine PW.condM fun X1 Y1 hX1 hY1 => ?_)) | (skip)); simp (disch := omega) only [wantB_ff, St.eval, St.put, upd_app, iniT_app, avOf, avOf1, nom, cellsA, AV.okv, loadA, binP, intsP, intP, nilP, unP, slA, putCells, U7, U8, Ua, Ub, Uc, Ud, Uf, Ug, Uk, Un, Up, Ut, Uu, Uv, Uz, V4, V9, Vr, PmL, simprocAttr, PmT, Tb.v, Tb.c, he', retQ, resP, tupA, fg, condP, condB_t, condB_f]; try (with_reducible (first | exact co_refl _ | exact co_own _ _ _ | exact co_nilsB | exact co_nilsL _ _)))))
end PM
open PM
/-- the walk of RowkeyRows -/
theorem rows_walk (v0 v1 : Value) (T : Tb) (R : List XV) (w : World) (h0 : RelA G0 nom w T.v v0) (h1 : RelA G0 nom w (vl R) v1) (hT : tbSmall T) (hR : R.length ≤ 1048576) :
    Calls Tryd.prog 3 #[v0, v1] w (Ret (.bool true) w) := by
  have hc := calls_of_pure (vs := [v0, v1]) Tryd.func3 rfl rfl (pRowkeyRows T R hT hR) (.cons h0 (.cons h1 .nil))
  refine hc.mono fun e w' ⟨v', G', k1, k2, k3, k4⟩ => ⟨?_, k2⟩
  rw [k1, k4.bool]
end Go.Proofs.YtfkemeamimcnjaaDoor
