/- rowkey: RowkeyEntries in the abstract, and its walk. -/
import Derived.Test.YtfkemeamimcnjaaDoorRkv3
import Derived.Test.YtfkemeamimcnjaaDoorRkOpen
import Derived.Test.YtfkemeamimcnjaaDoorRkShown
namespace Go.Proofs.YtfkemeamimcnjaaDoor
open Go.RowKit
set_option maxRecDepth 100000
namespace PM
set_option maxHeartbeats 8000000 in
theorem pRowkeyEntries (T : Tb) (X : Idx) (R : List XV) (hT : tbSmall T) (hX : X.cols.length ≤ 1048576) (hR : R.length ≤ 1048576) : Pure Tryd.prog 5 [T.v, X.av, vl R] (.d (.bool true)) := by
  refine pure_intro Tryd.func5 rfl rfl rfl 113 rfl (fun hh => ?_)
  have hml : maxLen = 9223372036854775807 := rfl
  have ok := okX_of (hh (vl R) (by simp))
  have hS := pShown
  have h1 := pREntry T X R hR hT.2.1 hX
  have h2 := pEntry T X R hR hT.2.1 hX
  have hbk := fun h => takeEntS_back (T := T) (X := X) (R := R) h ok
  have hok := entryKV_ok (T := T) (X := X) (R := R)
  have hv := entryKV_v T X R
  obtain ⟨⟨kk, vv, ee⟩, hkv⟩ : ∃ r, entryKV T X R = r := ⟨_, rfl⟩
  rw [hkv] at h1 h2 hbk hv hok
  simp only at hbk hv hok
  subst hv
  unfold kvR at h1 h2
  simp only at h1 h2
  have h4 := pSameKV kk []
  by_cases he : ee = 0
  case neg =>
    have he' := eq_false he
    obtain ⟨tid, tnm, tcols, tkey, tix⟩ := T
    obtain ⟨xid, xnm, xcols, xu⟩ := X
    unfold Tb.v Tb.c Idx.av at h1 h2
    simp only at h1 h2
    repeat' (first
      | ((with_reducible (first
       | (refine PW.seq fun K1 hK1 => ?_) | (refine PW.region fun K2 hK2 => ?_) | ((refine hK3 _ ?_; clear hK3)) | ((refine opsP_nil ?_; refine hK2 _ ?_; clear hK2)) | (refine PW.skip ?_)
       | (refine PW.ret ?_) | ((refine hX1 ?_; clear hX1 hY1; try simp only [hb])) | ((refine hY1 ?_; clear hX1 hY1; try simp only [hb])) )))
      | (((with_reducible refine cC_pure ?_ (hS) (fun _ => ?_)); (focus ((repeat' constructor) <;> (simp only [purAs, purA, Vf, Bool.and_self, Tb.v, Tb.c, Idx.av, he']; done)))))
      | (((with_reducible refine cC_pure ?_ (h1) (fun _ => ?_)); (focus ((repeat' constructor) <;> (simp only [purAs, purA, Vf, Bool.and_self, Tb.v, Tb.c, Idx.av, he']; done)))))
      | (((with_reducible refine cC_pure ?_ (h2) (fun _ => ?_)); (focus ((repeat' constructor) <;> (simp only [purAs, purA, Vf, Bool.and_self, Tb.v, Tb.c, Idx.av, he']; done)))))
      | (((with_reducible refine cC_pure ?_ (h4) (fun _ => ?_)); (focus ((repeat' constructor) <;> (simp only [purAs, purA, Vf, Bool.and_self, Tb.v, Tb.c, Idx.av, he']; done)))))
      | ((simp only [thenP]; (try ((repeat (fail_if_success (with_reducible refine hK1 _ ?_)); clear hK1); (with_reducible refine hK1 _ ?_); clear hK1))))
      | (((first | (((with_reducible refine opsP_cons fun K3 hK3 => ?_); simp only [wantP, opP, valP, Ur, Us])) | ((with_reducible refine PW.condM fun X1 Y1 hX1 hY1 => ?_)) | (skip)); simp (disch := omega) only [wantB_ff, St.eval, St.put, upd_app, iniT_app, avOf, avOf1, nom, cellsA, AV.okv, loadA, binP, intsP, intP, nilP, unP, slA, putCells, U7, U8, Ua, Ub, Uc, Ud, Uf, Ug, Uk, Un, Up, Ut, Uu, Uv, Uz, V4, V9, Vr, PmL, simprocAttr, PmT, Tb.v, Tb.c, Idx.av, he', retQ, resP, tupA, fg, condP, condB_t, condB_f]; try (with_reducible (first | exact co_refl _ | exact co_own _ _ _ | exact co_nilsB | exact co_nilsL _ _)))))
  subst he
  obtain ⟨hb, hkl⟩ := hbk rfl
  obtain ⟨ht, hf, -⟩ := hok rfl
  have h3 := pTakeEntry T X kk [] ⟨hT.1, hT.2.1⟩ hX (by simp) (by omega)
  rw [hb] at h3
  unfold entR at h3
  have hlen : R.length = T.cols.length := Classical.byContradiction fun h => by rw [rowFits_len h] at hf; cases hf
  have hin := tabled_in ht
  rw [← hlen] at hin
  have hlx := someV_len R X.cols
  have hlk := someV_len R T.key
  have hgx : ∀ (k : Nat) (i : Int), X.cols[k]? = some i → (someV R X.cols)[k]? = some (valAt R i) := fun k i h => by unfold someV; rw [List.getElem?_map, h]; rfl
  have hgk : ∀ (k : Nat) (i : Int), T.key[k]? = some i → (someV R T.key)[k]? = some (valAt R i) := fun k i h => by unfold someV; rw [List.getElem?_map, h]; rfl
  have hXl := hX
  have hKl := hT.2.1
  obtain ⟨F1, hF1⟩ : ∃ F, someV R X.cols = F := ⟨_, rfl⟩
  obtain ⟨F2, hF2⟩ : ∃ F, someV R T.key = F := ⟨_, rfl⟩
  rw [hF1] at h3 hlx hgx
  rw [hF2] at h3 hlk hgk
  clear hF1 hF2 hb hbk hok hkv hT hX hkl ht hf
  obtain ⟨tid, tnm, tcols, tkey, tix⟩ := T
  obtain ⟨xid, xnm, xcols, xu⟩ := X
  unfold Tb.v Tb.c Idx.av at h1 h2 h3
  simp only at h1 h2 h3 hlx hlk hgx hgk hin hXl hKl
  repeat' (first
    | ((with_reducible (first
     | (refine PW.seq fun K1 hK1 => ?_) | (refine PW.region fun K2 hK2 => ?_) | ((refine hK3 _ ?_; clear hK3)) | ((refine opsP_nil ?_; refine hK2 _ ?_; clear hK2)) | (refine PW.block ?_) | (refine PW.skip ?_)
     | ((refine hY1 ?_; clear hX1 hY1; try simp only [hb])) )))
    | (((with_reducible refine cC_pure ?_ (hS) (fun _ => ?_)); (focus ((repeat' constructor) <;> (simp only [purAs, purA, Vf, Bool.and_self, Tb.v, Tb.c, Idx.av, eI, hlx, hlk]; done)))))
    | (((with_reducible refine cC_pure ?_ (h1) (fun _ => ?_)); (focus ((repeat' constructor) <;> (simp only [purAs, purA, Vf, Bool.and_self, Tb.v, Tb.c, Idx.av, eI, hlx, hlk]; done)))))
    | (((with_reducible refine cC_pure ?_ (h2) (fun _ => ?_)); (focus ((repeat' constructor) <;> (simp only [purAs, purA, Vf, Bool.and_self, Tb.v, Tb.c, Idx.av, eI, hlx, hlk]; done)))))
    | (((with_reducible refine cC_pure ?_ (h3) (fun _ => ?_)); (focus ((repeat' constructor) <;> (simp only [purAs, purA, Vf, Bool.and_self, Tb.v, Tb.c, Idx.av, eI, hlx, hlk]; done)))))
    | (((with_reducible refine cC_pure ?_ (h4) (fun _ => ?_)); (focus ((repeat' constructor) <;> (simp only [purAs, purA, Vf, Bool.and_self, Tb.v, Tb.c, Idx.av, eI, hlx, hlk]; done)))))
    | ((simp only [thenP]; (try ((repeat (fail_if_success (with_reducible refine hK1 _ ?_)); clear hK1); (with_reducible refine hK1 _ ?_); clear hK1))))
    | (((first | (((with_reducible refine opsP_cons fun K3 hK3 => ?_); simp only [wantP, opP, valP, Ur, Us])) | ((with_reducible refine PW.condM fun X1 Y1 hX1 hY1 => ?_)) | (skip)); simp (disch := omega) only [wantB_ff, St.eval, St.put, upd_app, iniT_app, avOf, avOf1, nom, cellsA, AV.okv, loadA, lenP, binP, intsP, intP, nilP, unP, builtinP, isMapA, slA, putCells, U7, U8, Ua, Ub, Uc, Ud, Uf, Ug, Uk, Ul, Un, Up, Ut, Uu, Uv, Uz, V4, V9, Ve, Vr, PmL, simprocAttr, PmT, Tb.v, Tb.c, Idx.av, hlx, hlk, condP, condB_f]; try (with_reducible (first | exact co_refl _ | exact co_own _ _ _ | exact co_nilsB | exact co_nilsL _ _)))))
  (with_reducible refine PW.loop (fun n s => ∃ (k : Nat), s.t 2 = vl R ∧ s.t 3 = .ptr 0 0 ∧ s.t 4 = .ptr 1 0 ∧ s.t 13 = vl F1 ∧ s.t 14 = vl F2 ∧ s.t 16 = .d (.int .i64 k) ∧ s.n = 113 ∧ s.m = ⟨[some (26, Tb.c ⟨tid, tnm, tcols, tkey, tix⟩), some (42, [.d (.int .i64 xid), .d (.str xnm), .d (.sl 1 (encL eI xcols)), .d (.bool xu)]), some (31, [bs kk, bs []]), some (31, [bs kk, bs []])], []⟩ ∧ k ≤ F1.length ∧ n = F1.length - k) F1.length ?_ ?_)
  · exact ⟨0, rfl, rfl, rfl, rfl, rfl, rfl, rfl, rfl, Nat.zero_le _, rfl⟩
  rintro n ⟨t, nn, m⟩ ⟨k, q2, q3, q4, q13, q14, q16, hn, hm, hk, hnk⟩ - -
  simp only at q2 q3 q4 q13 q14 q16 hn hm
  subst hn hm hnk
  by_cases hlt : (k : Int) < F1.length
  · have hlt' := eq_true hlt
    obtain ⟨x, hx⟩ : ∃ x, xcols[k]? = some x := ⟨_, List.getElem?_eq_getElem (by omega)⟩
    have hxr := hin.2 x (List.mem_of_getElem? hx)
    have hw : IntKind.i64.wrap ((k : Int) + 1) = k + 1 := IntWalk.i64_in ((k : Int) + 1) (by omega)
    have hg := hgx k x hx
    obtain ⟨i, rfl⟩ : ∃ i : Nat, x = i := ⟨x.toNat, by omega⟩
    obtain ⟨v, hv⟩ : ∃ v, R[i]? = some v := ⟨_, List.getElem?_eq_getElem (by omega)⟩
    have hva : valAt R i = v := by unfold valAt; rw [List.getD_eq_getElem?_getD, Int.toNat_natCast, hv]; rfl
    rw [hva] at hg
    repeat' (first
      | ((with_reducible (first
       | (refine PW.seq fun K1 hK1 => ?_) | (refine PW.region fun K2 hK2 => ?_) | ((refine hK3 _ ?_; clear hK3)) | ((refine opsP_nil ?_; refine hK2 _ ?_; clear hK2)) | (refine PW.block ?_) | (refine PW.skip ?_)
       | ((refine hX1 ?_; clear hX1 hY1; try simp only [hb])) | ((refine hY1 ?_; clear hX1 hY1; try simp only [hb])) | ((refine opsO_nil ?_; refine hK2 _ ?_; clear hK2)) )))
      | (((with_reducible refine PW.draw (id := 15) mixed [1] [] [(0, true), (1, true), (2, true), (3, true), (4, true), (5, true), (6, true), (7, true), (8, true), (9, true), (10, true), (11, true), (12, true)] (by kernel_rfl) (by decide) fun K2 hK2 => ?_)))
      | (((with_reducible refine And.intro ?_ ?_); (focus (first | omega | (simp; done) | assumption))))
      | ((simp only [thenP, blockP]; (try ((repeat (fail_if_success (with_reducible refine hK1 _ ?_)); clear hK1); (with_reducible refine hK1 _ ?_); clear hK1))))
      | (((first | (((with_reducible refine opsP_cons fun K3 hK3 => ?_); simp only [wantP, opP, valP, Ur, Us])) | (((with_reducible refine opsO_first (o := ?_) ?_ fun K3 hK3 => ?_); rotate_left 1; (focus (simp only [Uz, Ub, Ua] <;> rfl)); simp only [wantP, firstP, valP])) | ((with_reducible refine PW.condM fun X1 Y1 hX1 hY1 => ?_)) | (skip)); simp (disch := omega) only [St.eval, St.put, upd_app, avOf, avOf1, loadA, lenP, binP, intsP, intP, eqP, nilP, builtinP, dvEqC, eqAll, isMapA, slA, Ua, Ub, Uf, Ug, Uk, Ul, Un, Up, Ur, Us, V2, V7, V9, Ve, UU9, Vr, PmL, simprocAttr, PmT, Tb.c, eI, q2, q4, q13, q16, hlt', hx, hg, hv, hw, XV.cd, condP, condB_t, condB_f, firstOk, List.mem_cons]; try (with_reducible (first | exact co_refl _ | exact co_own _ _ _ | exact co_nilsB | exact co_nilsL _ _)))))
    refine ⟨F1.length - (k + 1), by omega, k + 1, ?_, ?_, ?_, ?_, ?_, ?_, ?_, ?_, by omega, rfl⟩
    all_goals (simp only [St.cut, Mem.cut, fg, fgs, upd_app, Nat.reduceEqDiff, ↓reduceIte, List.take_nil, List.map_nil, List.take_succ_cons, List.map_cons, Option.map_some, Nat.reduceLT, Int.natCast_add, Int.cast_ofNat_Int, q2, q3, q4, q13, q14]; try rfl)
  have hlt' := eq_false hlt
  repeat' (first
    | ((with_reducible (first
     | (refine PW.seq fun K1 hK1 => ?_) | (refine PW.region fun K2 hK2 => ?_) | ((refine hK3 _ ?_; clear hK3)) | ((refine opsP_nil ?_; refine hK2 _ ?_; clear hK2)) | (refine PW.block ?_) 
     | (refine PW.exit ?_) | ((refine hY1 ?_; clear hX1 hY1; try simp only [hb])) )))
    | ((simp only [thenP, blockP, ↓reduceIte]; (try ((repeat (fail_if_success (with_reducible refine hK1 _ ?_)); clear hK1); (with_reducible refine hK1 _ ?_); clear hK1))))
    | (((first | (((with_reducible refine opsP_cons fun K3 hK3 => ?_); simp only [wantP, opP, valP, Ur, Us])) | ((with_reducible refine PW.condM fun X1 Y1 hX1 hY1 => ?_)) | (skip)); simp (disch := omega) only [St.eval, St.put, upd_app, avOf, avOf1, lenP, binP, intsP, intP, nilP, builtinP, isMapA, slA, PmL, simprocAttr, PmT, Tb.c, q13, q16, hlt', condP, condB_f]; try (with_reducible (first | exact co_refl _ | exact co_own _ _ _ | exact co_nilsB | exact co_nilsL _ _)))))
  (with_reducible refine PW.loop (fun n s => ∃ (k : Nat), s.t 2 = vl R ∧ s.t 3 = .ptr 0 0 ∧ s.t 4 = .ptr 1 0 ∧ s.t 14 = vl F2 ∧ s.t 17 = .d (.int .i64 k) ∧ s.n = 113 ∧ s.m = ⟨[some (26, Tb.c ⟨tid, tnm, tcols, tkey, tix⟩), some (42, [.d (.int .i64 xid), .d (.str xnm), .d (.sl 1 (encL eI xcols)), .d (.bool xu)]), some (31, [bs kk, bs []]), some (31, [bs kk, bs []])], []⟩ ∧ k ≤ F2.length ∧ n = F2.length - k) F2.length ?_ ?_)
  · exact ⟨0, by simp only [upd_app, simprocAttr, q2], by simp only [upd_app, simprocAttr, q3], by simp only [upd_app, simprocAttr, q4], by simp only [upd_app, simprocAttr, q14], by simp only [upd_app, simprocAttr], rfl, rfl, Nat.zero_le _, rfl⟩
  rintro n ⟨t, nn, m⟩ ⟨k, q2, q3, q4, q14, q17, hn, hm, hk, hnk⟩ - -
  simp only at q2 q3 q4 q14 q17 hn hm
  subst hn hm hnk
  by_cases hlt : (k : Int) < F2.length
  · have hlt' := eq_true hlt
    obtain ⟨x, hx⟩ : ∃ x, tkey[k]? = some x := ⟨_, List.getElem?_eq_getElem (by omega)⟩
    have hxr := hin.1 x (List.mem_of_getElem? hx)
    have hw : IntKind.i64.wrap ((k : Int) + 1) = k + 1 := IntWalk.i64_in ((k : Int) + 1) (by omega)
    have hg := hgk k x hx
    obtain ⟨i, rfl⟩ : ∃ i : Nat, x = i := ⟨x.toNat, by omega⟩
    obtain ⟨v, hv⟩ : ∃ v, R[i]? = some v := ⟨_, List.getElem?_eq_getElem (by omega)⟩
    have hva : valAt R i = v := by unfold valAt; rw [List.getD_eq_getElem?_getD, Int.toNat_natCast, hv]; rfl
    rw [hva] at hg
    repeat' (first
      | ((with_reducible (first
       | (refine PW.seq fun K1 hK1 => ?_) | (refine PW.region fun K2 hK2 => ?_) | ((refine hK3 _ ?_; clear hK3)) | ((refine opsP_nil ?_; refine hK2 _ ?_; clear hK2)) | (refine PW.block ?_) | (refine PW.skip ?_)
       | ((refine hX1 ?_; clear hX1 hY1; try simp only [hb])) | ((refine hY1 ?_; clear hX1 hY1; try simp only [hb])) | ((refine opsO_nil ?_; refine hK2 _ ?_; clear hK2)) )))
      | (((with_reducible refine PW.draw (id := 20) mixed [0] [] [(0, true), (1, true), (2, true), (3, true), (4, true), (5, true), (6, true), (7, true), (8, true), (9, true), (10, true), (11, true), (12, true)] (by kernel_rfl) (by decide) fun K2 hK2 => ?_)))
      | (((with_reducible refine And.intro ?_ ?_); (focus (first | omega | (simp; done) | assumption))))
      | ((simp only [thenP, blockP]; (try ((repeat (fail_if_success (with_reducible refine hK1 _ ?_)); clear hK1); (with_reducible refine hK1 _ ?_); clear hK1))))
      | (((first | (((with_reducible refine opsP_cons fun K3 hK3 => ?_); simp only [wantP, opP, valP, Ur, Us])) | (((with_reducible refine opsO_first (o := ?_) ?_ fun K3 hK3 => ?_); rotate_left 1; (focus (simp only [Uz, Ub, Ua] <;> rfl)); simp only [wantP, firstP, valP])) | ((with_reducible refine PW.condM fun X1 Y1 hX1 hY1 => ?_)) | (skip)); simp (disch := omega) only [St.eval, St.put, upd_app, avOf, avOf1, loadA, lenP, binP, intsP, intP, eqP, nilP, builtinP, dvEqC, eqAll, isMapA, slA, Ua, Ub, Uf, Ug, Uk, Ul, Un, Up, Ur, Us, V2, V7, V9, Ve, UU9, Vr, PmL, simprocAttr, PmT, Tb.c, eI, q2, q3, q14, q17, hlt', hx, hg, hv, hw, XV.cd, condP, condB_t, condB_f, firstOk, List.mem_cons]; try (with_reducible (first | exact co_refl _ | exact co_own _ _ _ | exact co_nilsB | exact co_nilsL _ _)))))
    refine ⟨F2.length - (k + 1), by omega, k + 1, ?_, ?_, ?_, ?_, ?_, ?_, ?_, by omega, rfl⟩
    all_goals (simp only [St.cut, Mem.cut, fg, fgs, upd_app, Nat.reduceEqDiff, ↓reduceIte, List.take_nil, List.map_nil, List.take_succ_cons, List.map_cons, Option.map_some, Nat.reduceLT, Int.natCast_add, Int.cast_ofNat_Int, q2, q3, q4, q14]; try rfl)
  have hlt' := eq_false hlt
  repeat' (first
    | ((with_reducible (first
     | (refine PW.seq fun K1 hK1 => ?_) | (refine PW.region fun K2 hK2 => ?_) | ((refine hK3 _ ?_; clear hK3)) | ((refine opsP_nil ?_; refine hK2 _ ?_; clear hK2)) 
     | (refine PW.exit ?_) | (refine PW.ret ?_) | ((refine hY1 ?_; clear hX1 hY1; try simp only [hb])) )))
    | ((simp only [thenP, blockP, ↓reduceIte]; (try ((repeat (fail_if_success (with_reducible refine hK1 _ ?_)); clear hK1); (with_reducible refine hK1 _ ?_); clear hK1))))
    | (((first | (((with_reducible refine opsP_cons fun K3 hK3 => ?_); simp only [wantP, opP, valP, Ur, Us])) | ((with_reducible refine PW.condM fun X1 Y1 hX1 hY1 => ?_)) | (skip)); simp (disch := omega) only [St.eval, St.put, upd_app, avOf, avOf1, lenP, binP, intsP, intP, nilP, builtinP, isMapA, slA, PmL, simprocAttr, PmT, Tb.c, q14, q17, hlt', retQ, resP, tupA, fg, condP, condB_f]; try (with_reducible (first | exact co_refl _ | exact co_own _ _ _ | exact co_nilsB | exact co_nilsL _ _)))))
end PM
open PM
/-- the walk of RowkeyEntries -/
theorem entries_walk (v0 v1 v2 : Value) (T : Tb) (X : Idx) (R : List XV) (w : World) (h0 : RelA G0 nom w T.v v0) (h1 : RelA G0 nom w X.av v1) (h2 : RelA G0 nom w (vl R) v2) (hT : tbSmall T) (hX : X.cols.length ≤ 1048576) (hR : R.length ≤ 1048576) :
    Calls Tryd.prog 5 #[v0, v1, v2] w (Ret (.bool true) w) := by
  have hc := calls_of_pure (vs := [v0, v1, v2]) Tryd.func5 rfl rfl (pRowkeyEntries T X R hT hX hR) (.cons h0 (.cons h1 (.cons h2 .nil)))
  refine hc.mono fun e w' ⟨v', G', k1, k2, k3, k4⟩ => ⟨?_, k2⟩
  rw [k1, k4.bool]
end Go.Proofs.YtfkemeamimcnjaaDoor
