/- rowkey in the abstract: the reader's keys. -/
import Derived.Test.YtfkemeamimcnjaaDoorRkt2
namespace Go.Proofs.YtfkemeamimcnjaaDoor
open Go.RowKit
set_option maxRecDepth 100000
namespace PM
theorem textsK : TextsBy 74 Codec.tkL := ⟨fun l h => pTakeKeyText l (by omega), fun l _ _ => ⟨(tkL_bd l).1, (tkL_bd l).2.1⟩⟩
theorem textsT : TextsBy 48 Codec.takeTextF := ⟨fun l _ => pTakeText l, fun l hr h => by
  have hb := Codec.lenF_bd hr 0 (by decide)
  unfold Codec.takeTextF at h ⊢
  split at h
  · rename_i hz
    simp only at h
    exact absurd h hz
  · rename_i hz
    rw [if_neg hz]
    have := hb.2.2 (by omega)
    simp only
    omega⟩
theorem end_box2 {e1 e2 : TypeId} {cs1 cs2 : List AV} {bx : List (Option (TypeId × List AV))} {r : AV} {rw_ : List (Option RowI)} (h1 : fgs 2 0 cs1 = cs1) (h2 : fgs 2 0 cs2 = cs2) : Co r r ∧ SubM ⟨some (e1, cs1) :: some (e2, cs2) :: bx, rw_⟩ ⟨[some (e1, cs1), some (e2, cs2)], []⟩ := by
  refine ⟨co_refl _, by simp, by simp, fun j e cs hj => ?_, fun j i hj => by simp at hj⟩
  match j with
  | 0 =>
    simp at hj
    obtain ⟨rfl, rfl⟩ := hj
    exact ⟨cs1, rfl, by show Cos (fgs 2 0 cs1) cs1; rw [h1]; exact cos_refl _⟩
  | 1 =>
    simp at hj
    obtain ⟨rfl, rfl⟩ := hj
    exact ⟨cs2, rfl, by show Cos (fgs 2 0 cs2) cs2; rw [h2]; exact cos_refl _⟩
  | j + 2 => simp at hj
abbrev kM (st : Rdr) (R : List XV) : Mem := ⟨[some (79, rdC st), some (47, cX R)], []⟩
set_option maxHeartbeats 4000000 in
theorem pKeys (T : Tb) (l : List Int) (R : List XV) (st : Rdr) (hl : ∀ i ∈ l, 0 ≤ i ∧ i < T.cols.length) (hR : R.length = T.cols.length) (hst : st.1.length ≤ 100000000) :
    PFun Tryd.prog 46 [.ptr 0 0, T.v, il l, .bsl 1 0 R.length R.length 4] (kM st R) (.tup []) (kM (keysS T l (R, st)).2 (keysS T l (R, st)).1) := by
  refine fun_intro Tryd.func46 rfl rfl rfl 28 rfl ⟨by simp, Nat.le_refl _⟩ (fun hh => ?_)
  have hml : maxLen = 9223372036854775807 := rfl
  have hll := (has_sl (hh (il l) (by simp))).1
  rw [encL_len] at hll
  have hTy : ∀ i : Nat, ∀ c : Col, T.cols[i]? = some c → tyAt T i = c.ty := fun i c h => by unfold tyAt; rw [Int.toNat_natCast, List.getD_eq_getElem?_getD, h]; rfl
  obtain ⟨nR, hnR⟩ : ∃ n, R.length = n := ⟨_, rfl⟩
  rw [hnR]
  have hK := fun k : Nat => keysS_len T (l.take k) (R, st)
  have hK2 := fun k : Nat => keysS_rlen T (l.take k) (R, st)
  have hsn := fun (k : Nat) (x : Int) (hx : l[k]? = some x) => keysS_snoc T x (l.take k) (R, st)
  obtain ⟨tid, tnm, tcols, tkey, tix⟩ := T
  repeat' (first
    | ((with_reducible (first
     | (refine PW.seq fun K1 hK1 => ?_) | (refine PW.region fun K2 hK2 => ?_) | ((refine hK3 _ ?_; clear hK3)) | ((refine opsP_nil ?_; refine hK2 _ ?_; clear hK2)) 
     | (refine PW.block ?_) )))
    | ((simp only [thenP]; (try ((repeat (fail_if_success (with_reducible refine hK1 _ ?_)); clear hK1); (with_reducible refine hK1 _ ?_); clear hK1))))
    | (((first | (((with_reducible refine opsP_cons fun K3 hK3 => ?_); simp only [wantP, opP, valP, Ur, Us])) | (skip)); simp (disch := omega) only [St.eval, St.put, upd_app, iniT_app, avOf, avOf1, cellsA, AV.okv, lenP, builtinP, isMapA, U7, U8, Uf, Ug, Ut, Uu, V9, PmL, simprocAttr, PmT, Tb.v, Tb.c]; try (with_reducible (first | exact co_refl _ | exact co_own _ _ _ | exact co_nilsB | exact co_nilsL _ _)))))
  (with_reducible refine PW.loop (fun n s => ∃ (k : Nat), s.t 0 = .ptr 0 0 ∧ s.t 3 = .bsl 1 0 nR nR 4 ∧ s.t 5 = .ptr 2 0 ∧ s.t 10 = il l ∧ s.t 11 = .d (.int .i64 l.length) ∧ s.t 12 = .d (.int .i64 k) ∧ s.n = 28 ∧ s.m = ⟨[some (79, rdC (keysS ⟨tid, tnm, tcols, tkey, tix⟩ (l.take k) (R, st)).2), some (47, cX (keysS ⟨tid, tnm, tcols, tkey, tix⟩ (l.take k) (R, st)).1), some (26, Tb.c ⟨tid, tnm, tcols, tkey, tix⟩)], []⟩ ∧ k ≤ l.length ∧ n = l.length - k) l.length ?_ ?_)
  · exact ⟨0, rfl, rfl, rfl, rfl, rfl, rfl, rfl, rfl, Nat.zero_le _, rfl⟩
  rintro n ⟨t, nn, m⟩ ⟨k, h0, h3, h5, h10, h11, h12, hn, hm, hk, hnk⟩ - -
  simp only at h0 h3 h5 h10 h11 h12 hn hm
  subst hn hm hnk
  by_cases hlt : (k : Int) < l.length
  · have hlt' := eq_true hlt
    obtain ⟨x, hx⟩ : ∃ x, l[k]? = some x := ⟨_, List.getElem?_eq_getElem (by omega)⟩
    have hxr := hl x (List.mem_of_getElem? hx)
    have hw : IntKind.i64.wrap ((k : Int) + 1) = k + 1 := IntWalk.i64_in ((k : Int) + 1) (by omega)
    obtain ⟨i, rfl⟩ : ∃ i : Nat, x = i := ⟨x.toNat, by omega⟩
    simp only at hxr hR
    obtain ⟨c, hc⟩ : ∃ c, tcols[i]? = some c := ⟨_, List.getElem?_eq_getElem (by omega)⟩
    have hty := hTy i c hc
    have hs := hsn k i hx
    have hkl := hK k
    have hkl2 := hK2 k
    rw [hty] at hs
    have ht : l.take (k + 1) = l.take k ++ [(i : Int)] := by rw [List.take_add_one, hx, Option.toList_some]
    rw [← ht] at hs
    obtain ⟨⟨R1, l1, bad1⟩, h1⟩ : ∃ r, keysS ⟨tid, tnm, tcols, tkey, tix⟩ (l.take k) (R, st) = r := ⟨_, rfl⟩
    rw [h1] at hs hkl hkl2
    simp only at hs hkl hkl2
    have hV := pValue textsK 2 c.ty (l1, bad1) (by simp only; omega)
    obtain ⟨⟨⟨xa, xb, xc, xd⟩, l2, bad2⟩, hv⟩ : ∃ r, valS Codec.tkL 2 c.ty (l1, bad1) = r := ⟨_, rfl⟩
    rw [hv] at hV hs
    unfold rdM rdC at hV
    unfold XV.v XV.c at hV
    simp only at hV hs
    rw [Int.toNat_natCast] at hs
    have hset := cX_set R1 i xa xb xc xd (by omega)
    have hcl := cX_len R1
    have hil : (i : Int) < nR := by omega
    rw [h1] at *
    simp only [rdC]
    repeat' (first
      | ((with_reducible (first
       | (refine PW.seq fun K1 hK1 => ?_) | (refine PW.region fun K2 hK2 => ?_) | ((refine hK3 _ ?_; clear hK3)) | ((refine opsP_nil ?_; refine hK2 _ ?_; clear hK2)) 
       | (refine PW.block ?_) | (refine PW.skip ?_) | ((refine hX1 ?_; clear hX1 hY1; try simp only [hb])) )))
      | (((with_reducible refine cC_recv (cs := ?_) ?_ ?_ ?_ ?_ (hV) (fun _ => ?_)); rotate_left 1; (focus (first | exact rfl | (simp only [Ua, Ub]; rfl))); (focus ((repeat' constructor) <;> (simp only [purAs, purA, Vf, Bool.and_self, Tb.c, h0, h3, h5, h10, h11, h12, hlt', hx, hc, hw, eI, Col.c, hset, hcl]; done))); (focus ((repeat' constructor) <;> (simp only [purAs, purA, Vf, Bool.and_self, Tb.c, h0, h3, h5, h10, h11, h12, hlt', hx, hc, hw, eI, Col.c, hset, hcl]; done))); (focus (simp only [purAs, purA, Bool.and_self]; done))))
      | (((with_reducible refine And.intro ?_ ?_); (focus (first | omega | (simp; done) | assumption))))
      | ((simp only [thenP, blockP]; (try ((repeat (fail_if_success (with_reducible refine hK1 _ ?_)); clear hK1); (with_reducible refine hK1 _ ?_); clear hK1))))
      | (((first | (((with_reducible refine opsP_cons fun K3 hK3 => ?_); simp only [wantP, opP, valP, Ur, Us])) | ((with_reducible refine PW.condM fun X1 Y1 hX1 hY1 => ?_)) | (skip)); simp (disch := omega) only [St.eval, St.put, upd_app, avOf, avOf1, cellsA, AV.okv, loadA, binP, intsP, intP, nilP, slA, putCells, Ua, Ub, Uc, Ud, Uf, Ug, Uk, Ul, Ur, Us, Uv, V2, V7, V9, Ve, PmL, simprocAttr, PmT, Tb.c, h0, h3, h5, h10, h11, h12, hlt', hx, hc, hw, eI, Col.c, hset, hcl, condP, condB_t]; try (with_reducible (first | exact co_refl _ | exact co_own _ _ _ | exact co_nilsB | exact co_nilsL _ _)))))
    refine ⟨l.length - (k + 1), by omega, k + 1, ?_, ?_, ?_, ?_, ?_, ?_, ?_, ?_, by omega, rfl⟩
    all_goals (simp only [St.cut, Mem.cut, fg, fgs, upd_app, Nat.reduceEqDiff, ↓reduceIte, List.take_nil, List.map_nil, List.take_succ_cons, List.map_cons, Option.map_some, Nat.reduceLT, Int.natCast_add, Int.cast_ofNat_Int, h0, h3, h5, h10, h11, hs, cX_fgs]; try rfl)
  have hkl : k = l.length := by omega
  subst hkl
  have hlt' := eq_false hlt
  rw [List.take_length] at *
  repeat' (first
    | ((with_reducible (first
     | (refine PW.seq fun K1 hK1 => ?_) | (refine PW.region fun K2 hK2 => ?_) | ((refine hK3 _ ?_; clear hK3)) | ((refine opsP_nil ?_; refine hK2 _ ?_; clear hK2)) 
     | (refine PW.exit ?_) | ((refine hY1 ?_; clear hX1 hY1; try simp only [hb])) )))
    | ((simp only [thenP, blockP, ↓reduceIte]; (try ((repeat (fail_if_success (with_reducible refine hK1 _ ?_)); clear hK1); (with_reducible refine hK1 _ ?_); clear hK1))))
    | (((first | (((with_reducible refine opsP_cons fun K3 hK3 => ?_); simp only [wantP, opP, valP])) | ((with_reducible refine PW.condM fun X1 Y1 hX1 hY1 => ?_)) | (skip)); simp (disch := omega) only [St.eval, St.put, upd_app, binP, intsP, intP, nilP, slA, PmL, simprocAttr, h11, h12, hlt', retQ, resP, tupA, fg, fgs, condP, condB_f]; try (with_reducible (first | exact co_refl _ | exact co_own _ _ _ | exact co_nilsB | exact co_nilsL _ _)))))
  all_goals exact end_box2 rfl (cX_fgs _ _ _)
end PM
end Go.Proofs.YtfkemeamimcnjaaDoor
