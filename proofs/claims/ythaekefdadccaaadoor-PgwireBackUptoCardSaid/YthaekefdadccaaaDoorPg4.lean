/- pgwire in the abstract: a client's message is read. pgwire in the abstract: the document's reading of a client's message. -/
import Derived.Test.YthaekefdadccaaaDoorPg3
import Derived.Test.YthaekefdadccaaaDoorPg2
namespace Go.Proofs.YthaekefdadccaaaDoor
open Go.RowKit
namespace PM
set_option maxRecDepth 100000 in
set_option maxHeartbeats 4000000 in
theorem pMessage (tag : Int) (b : List Int) (_ht : 0 ≤ tag ∧ tag ≤ 255) : Pure Tryd.prog 33 [.d (.int .u8 tag), bs b] (.tup [(bodyS tag b).1.v, .d (.int .i64 (bodyS tag b).2)]) := by
  refine pure_intro Tryd.func33 rfl rfl rfl 30 rfl (fun hh => ?_)
  cases hc : cut0 b with
  | none =>
    have e1 : pgText b false = ([], b, true) := by unfold pgText; rw [hc]
    have e2 : bodyS tag b = if tag = 81 then (zF, 230) else if tag = 88 then (if b = [] then ({ zF with kind := 5 }, 0) else (zF, 230)) else ({ zF with kind := 6, tag := tag }, 0) := by unfold bodyS; rw [hc]
    have hbl : b = [] ↔ b.length = 0 := by simp
    repeat' (first
      | ((with_reducible (first
       | (refine PW.seq fun K1 hK1 => ?_) | (refine PW.region fun K2 hK2 => ?_) | ((refine hK3 _ ?_; clear hK3)) | ((refine opsP_nil ?_; refine hK2 _ ?_; clear hK2))
       | (refine PW.block ?_) | (refine PW.skip ?_) | (refine PW.ret ?_) | ((refine hX1 ?_; clear hX1 hY1; try simp only [hb])) | ((refine hY1 ?_; clear hX1 hY1; try simp only [hb])) )))
      | (((first | (with_reducible refine wantB_intro (fun hb => ?_) (fun hb => ?_)) | (with_reducible refine condB_intro (fun hb => ?_) (fun hb => ?_))) <;> ((try (have hp := hb; simp only [PmH] at hp)); try simp only [hb, Bool.not_true, Bool.not_false])))
      | (((with_reducible refine cC_recv (cs := ?_) ?_ ?_ ?_ ?_ (pPgText ?_ ?_) (fun _ => ?_)); rotate_left 1; (focus (first | exact rfl | (simp only [Ua, Ub]; rfl))); (focus ((with_reducible (repeat' (first | (refine .cons ?_ ?_) | (exact .nil) | (exact .d _) ))) <;> (simp only [purAs, purA, Vf, Bool.and_self, e1]; done))); (focus ((with_reducible (repeat' (first | (exact .nil) ))) <;> (simp only [purAs, purA, Vf, Bool.and_self, e1]; done))); (focus (simp only [purAs, purA, Bool.and_self]; done))))
      | (((with_reducible refine cC_recv (cs := ?_) ?_ ?_ ?_ ?_ (pPgWhole ?_ ?_) (fun _ => ?_)); rotate_left 1; (focus (first | exact rfl | (simp only [Ua, Ub]; rfl))); (focus ((with_reducible (repeat' (first | (refine .cons ?_ ?_) | (exact .nil) | (exact .d _) | (exact .nilsB) ))) <;> (simp only [purAs, purA, Vf, Bool.and_self, e1]; done))); (focus ((with_reducible (repeat' (first | (exact .nil) ))) <;> (simp only [purAs, purA, Vf, Bool.and_self, e1]; done))); (focus (simp only [purAs, purA, Bool.and_self]; done))))
      | ((simp only [thenP, blockP]; (try ((repeat (fail_if_success (with_reducible refine hK1 _ ?_)); clear hK1); (with_reducible refine hK1 _ ?_); clear hK1))))
      | (((first | (((with_reducible refine opsP_cons fun K3 hK3 => ?_); simp only [wantP, opP, valP, Ur, Us])) | ((with_reducible refine PW.condM fun X1 Y1 hX1 hY1 => ?_)) | (skip)); simp (disch := omega) only [St.eval, St.put, upd_app, iniT_app, avOf, avOf1, nom, cellsA, AV.okv, loadA, binP, intsP, intP, nilP, unP, slA, putCells, fillA, buildA, U7, U8, Ua, Ub, Uc, Ud, Uf, Ug, Uk, Un, Up, Ut, Uu, Uv, V9, Va, Vd, Ve, Vt, UU2, UU3, Vr, PmL, simprocAttr, PmT, e1, retQ, resP, tupA, fg, fgs, condP, condB_t, condB_f]; try (with_reducible (first | exact co_refl _ | exact co_own _ _ _ | exact co_nilsB | exact co_nilsL _ _)))))
    all_goals (try (focus ((try simp only [e2, hbl, zF]); (repeat' split) <;> (first | (exfalso; omega) | ((try ((with_reducible refine And.intro ?_ ?_); rotate_left 1; (focus (first | exact subM_row1 | exact subM_nom _ | (refine subM_box1 ?_; simp only [fgs, fg]; (repeat' (first | exact cos_refl _ | refine cos_cons ?_ ?_ | exact co_refl _ | exact co_nilsB | exact co_own _ _ _ | exact co_nilsL _ _ | exact co_nils _ | refine co_agg ?_ | refine co_tup ?_)); done))))); (first | ((repeat' (first | exact cos_refl _ | refine cos_cons ?_ ?_ | exact co_refl _ | exact co_nilsB | exact co_own _ _ _ | exact co_nilsL _ _ | exact co_nils _ | refine co_agg ?_ | refine co_tup ?_)); done) | (refine co_eq ?_; simp_all; done))) | (exfalso; simp_all; done)))))
  | some p =>
    obtain ⟨a, r⟩ := p
    have e1 : pgText b false = (a, r, false) := by unfold pgText; rw [hc]; simp
    have e2 : bodyS tag b = if tag = 81 then (if r = [] then ({ zF with kind := 4, text := a }, 0) else (zF, 230)) else if tag = 88 then (zF, 230) else ({ zF with kind := 6, tag := tag }, 0) := by
      have : b ≠ [] := by rintro rfl; cases hc
      unfold bodyS
      rw [hc]
      cases r <;> simp [this]
    have hrl : r = [] ↔ r.length = 0 := by simp
    have hb0 : b.length ≠ 0 := by have := cut0_len hc; omega
    repeat' (first
      | ((with_reducible (first
       | (refine PW.seq fun K1 hK1 => ?_) | (refine PW.region fun K2 hK2 => ?_) | ((refine hK3 _ ?_; clear hK3)) | ((refine opsP_nil ?_; refine hK2 _ ?_; clear hK2))
       | (refine PW.block ?_) | (refine PW.skip ?_) | (refine PW.ret ?_) | ((refine hX1 ?_; clear hX1 hY1; try simp only [hb])) | ((refine hY1 ?_; clear hX1 hY1; try simp only [hb])) )))
      | (((first | (with_reducible refine wantB_intro (fun hb => ?_) (fun hb => ?_)) | (with_reducible refine condB_intro (fun hb => ?_) (fun hb => ?_))) <;> ((try (have hp := hb; simp only [PmH] at hp)); try simp only [hb, Bool.not_true, Bool.not_false])))
      | (((with_reducible refine cC_recv (cs := ?_) ?_ ?_ ?_ ?_ (pPgText ?_ ?_) (fun _ => ?_)); rotate_left 1; (focus (first | exact rfl | (simp only [Ua, Ub]; rfl))); (focus ((with_reducible (repeat' (first | (refine .cons ?_ ?_) | (exact .nil) | (exact .d _) ))) <;> (simp only [purAs, purA, Vf, Bool.and_self, e1]; done))); (focus ((with_reducible (repeat' (first | (exact .nil) ))) <;> (simp only [purAs, purA, Vf, Bool.and_self, e1]; done))); (focus (simp only [purAs, purA, Bool.and_self]; done))))
      | (((with_reducible refine cC_recv (cs := ?_) ?_ ?_ ?_ ?_ (pPgWhole ?_ ?_) (fun _ => ?_)); rotate_left 1; (focus (first | exact rfl | (simp only [Ua, Ub]; rfl))); (focus ((with_reducible (repeat' (first | (refine .cons ?_ ?_) | (exact .nil) | (exact .d _) | (exact .nilsB) ))) <;> (simp only [purAs, purA, Vf, Bool.and_self, e1]; done))); (focus ((with_reducible (repeat' (first | (exact .nil) ))) <;> (simp only [purAs, purA, Vf, Bool.and_self, e1]; done))); (focus (simp only [purAs, purA, Bool.and_self]; done))))
      | ((simp only [thenP, blockP]; (try ((repeat (fail_if_success (with_reducible refine hK1 _ ?_)); clear hK1); (with_reducible refine hK1 _ ?_); clear hK1))))
      | ((with_reducible omega))
      | (((first | (((with_reducible refine opsP_cons fun K3 hK3 => ?_); simp only [wantP, opP, valP, Ur, Us])) | ((with_reducible refine PW.condM fun X1 Y1 hX1 hY1 => ?_)) | (skip)); simp (disch := omega) only [St.eval, St.put, upd_app, iniT_app, avOf, avOf1, nom, cellsA, AV.okv, loadA, binP, intsP, intP, nilP, unP, slA, putCells, fillA, buildA, U7, U8, Ua, Ub, Uc, Ud, Uf, Ug, Uk, Un, Up, Ut, Uu, Uv, V9, Va, Vd, Ve, Vt, UU2, UU3, Vr, PmL, simprocAttr, PmT, e1, retQ, resP, tupA, fg, fgs, condP, condB_f]; try (with_reducible (first | exact co_refl _ | exact co_own _ _ _ | exact co_nilsB | exact co_nilsL _ _)))))
    all_goals (try (focus ((try simp only [e2, hrl, zF]); (repeat' split) <;> (first | (exfalso; omega) | ((try ((with_reducible refine And.intro ?_ ?_); rotate_left 1; (focus (first | exact subM_row1 | exact subM_nom _ | (refine subM_box1 ?_; simp only [fgs, fg]; (repeat' (first | exact cos_refl _ | refine cos_cons ?_ ?_ | exact co_refl _ | exact co_nilsB | exact co_own _ _ _ | exact co_nilsL _ _ | exact co_nils _ | refine co_agg ?_ | refine co_tup ?_)); done))))); (first | ((repeat' (first | exact cos_refl _ | refine cos_cons ?_ ?_ | exact co_refl _ | exact co_nilsB | exact co_own _ _ _ | exact co_nilsL _ _ | exact co_nils _ | refine co_agg ?_ | refine co_tup ?_)); done) | (refine co_eq ?_; simp_all; done))) | (exfalso; simp_all; done)))))
end PM
end Go.Proofs.YthaekefdadccaaaDoor
namespace Go.Proofs.YthaekefdadccaaaDoor
open Go.RowKit
namespace PM
def endS (b : List Int) (at_ : Nat) : Int := match cut0 (b.drop at_) with
  | none => -1
  | some (a, _) => ((at_ + a.length : Nat) : Int)
theorem endS_next {b : List Int} {k : Nat} {x : Int} (hx : b[k]? = some x) (h : x ≠ 0) : endS b (k + 1) = endS b k := by
  have hd : b.drop k = x :: b.drop (k + 1) := by
    obtain ⟨hk, rfl⟩ := List.getElem?_eq_some_iff.1 hx
    exact List.drop_eq_getElem_cons hk
  unfold endS
  rw [hd, cut0, if_neg h]
  cases cut0 (b.drop (k + 1)) with
  | none => rfl
  | some p => obtain ⟨a, r⟩ := p; simp; omega
theorem endS_zero {b : List Int} {k : Nat} {x : Int} (hx : b[k]? = some x) (h : x = 0) : endS b k = k := by
  have hd : b.drop k = x :: b.drop (k + 1) := by
    obtain ⟨hk, rfl⟩ := List.getElem?_eq_some_iff.1 hx
    exact List.drop_eq_getElem_cons hk
  unfold endS
  rw [hd, cut0, if_pos h]
  simp
theorem endS_none {b : List Int} {k : Nat} (h : b.length ≤ k) : endS b k = -1 := by
  unfold endS
  rw [List.drop_eq_nil_of_le h]
  rfl
set_option maxRecDepth 100000 in
theorem pEnd (b : List Int) (at_ : Nat) : Pure Tryd.prog 30 [bs b, .d (.int .i64 at_)] (.d (.int .i64 (endS b at_))) := by
  refine pure_intro Tryd.func30 rfl rfl rfl 19 rfl (fun hh => ?_)
  obtain ⟨hr, hml⟩ := has_bytes (hh (bs b) (by simp))
  have hmx : maxLen = 9223372036854775807 := rfl
  have hat := has_int (hh (.d (.int .i64 at_)) (by simp))
  rw [wf_i64] at hat
  simp only [Bool.and_eq_true, decide_eq_true_eq] at hat
  repeat' (first
    | ((with_reducible (first
     | (refine PW.seq fun K1 hK1 => ?_) | (refine PW.region fun K2 hK2 => ?_) | ((refine hK3 _ ?_; clear hK3)) | ((refine opsP_nil ?_; refine hK2 _ ?_; clear hK2))
     | (refine PW.block ?_) )))
    | ((simp only [thenP]; (try ((repeat (fail_if_success (with_reducible refine hK1 _ ?_)); clear hK1); (with_reducible refine hK1 _ ?_); clear hK1))))
    | (((first | (((with_reducible refine opsP_cons fun K3 hK3 => ?_); simp only [wantP, opP, valP])) | (skip)); simp (disch := omega) only [St.eval, St.put, upd_app, iniT_app, avOf, avOf1, nom, U7, U8, PmL, simprocAttr]; try (with_reducible (first | exact co_refl _ | exact co_own _ _ _ | exact co_nilsB | exact co_nilsL _ _)))))
  (with_reducible refine PW.loop (fun n s => ∃ k : Nat, s.t 0 = bs b ∧ s.t 5 = .d (.int .i64 k) ∧ s.n = 19 ∧ s.m = nom ∧ n = b.length - k ∧ endS b k = endS b at_ ∧ k ≤ 9223372036854775807) (b.length - at_) ?_ ?_)
  · exact ⟨at_, rfl, rfl, rfl, rfl, rfl, rfl, by omega⟩
  rintro n ⟨t, nn, m⟩ ⟨k, h0, h5, hn, hm, hnk, hs, hk⟩ - -
  simp only at h0 h5 hn hm
  subst hn hm
  by_cases hlt : (k : Int) < b.length
  · have hlt' := eq_true hlt
    obtain ⟨x, hx⟩ := get_lt (b := b) (i := k) (by omega)
    repeat' (first
      | ((with_reducible (first
       | (refine PW.seq fun K1 hK1 => ?_) | (refine PW.region fun K2 hK2 => ?_) | ((refine hK3 _ ?_; clear hK3)) | ((refine opsP_nil ?_; refine hK2 _ ?_; clear hK2))
       | (refine PW.block ?_) | (refine PW.skip ?_) | (refine PW.ret ?_) | ((refine hX1 ?_; clear hX1 hY1; try simp only [hb])) | ((refine hY1 ?_; clear hX1 hY1; try simp only [hb])) )))
      | (((first | (with_reducible refine wantB_intro (fun hb => ?_) (fun hb => ?_)) | (with_reducible refine condB_intro (fun hb => ?_) (fun hb => ?_))) <;> ((try (have hp := hb; simp only [PmH] at hp)); try simp only [hb, Bool.not_true, Bool.not_false])))
      | (((with_reducible refine And.intro ?_ ?_); (focus (first | omega | (simp; done) | assumption))))
      | ((simp only [thenP, blockP]; (try ((repeat (fail_if_success (with_reducible refine hK1 _ ?_)); clear hK1); (with_reducible refine hK1 _ ?_); clear hK1))))
      | (((first | (((with_reducible refine opsP_cons fun K3 hK3 => ?_); simp only [wantP, opP, valP, Ur, Us])) | ((with_reducible refine PW.condM fun X1 Y1 hX1 hY1 => ?_)) | (skip)); simp (disch := omega) only [St.eval, St.put, upd_app, avOf, avOf1, nom, loadA, lenP, binP, intsP, intP, nilP, builtinP, isMapA, slA, Ug, Ur, Us, V2, V7, Ve, Vs, PmL, simprocAttr, PmT, h0, h5, hlt', hx, retQ, resP, tupA, fg, condP, condB_t]; try (with_reducible (first | exact co_refl _ | exact co_own _ _ _ | exact co_nilsB | exact co_nilsL _ _)))))
    · refine co_eq ?_
      rw [← hs, endS_zero hx (by simpa using hb)]
    · refine ⟨b.length - (k + 1), by omega, k + 1, ?_, ?_, ?_, ?_, rfl, ?_, by omega⟩
      case refine_5 => rw [endS_next hx (by simpa using hb)]; exact hs
      all_goals (simp only [St.cut, Mem.cut, fg, upd_app, Nat.reduceEqDiff, ↓reduceIte, List.take_nil, List.map_nil, Int.natCast_add, Int.cast_ofNat_Int, h0]; try rfl)
  · have hlt' := eq_false hlt
    repeat' (first
      | ((with_reducible (first
       | (refine PW.seq fun K1 hK1 => ?_) | (refine PW.region fun K2 hK2 => ?_) | ((refine hK3 _ ?_; clear hK3)) | ((refine opsP_nil ?_; refine hK2 _ ?_; clear hK2)) | (refine PW.exit ?_) | (refine PW.ret ?_) | ((refine hY1 ?_; clear hX1 hY1; try simp only [hb])) )))
      | ((simp only [thenP, blockP, ↓reduceIte]; (try ((repeat (fail_if_success (with_reducible refine hK1 _ ?_)); clear hK1); (with_reducible refine hK1 _ ?_); clear hK1))))
      | (((first | (((with_reducible refine opsP_cons fun K3 hK3 => ?_); simp only [wantP, opP, valP, Ur, Us])) | ((with_reducible refine PW.condM fun X1 Y1 hX1 hY1 => ?_)) | (skip)); simp (disch := omega) only [St.eval, St.put, upd_app, avOf, avOf1, nom, lenP, binP, intsP, intP, nilP, builtinP, isMapA, slA, PmL, simprocAttr, PmT, h0, h5, hlt', retQ, resP, tupA, fg, condP, condB_f]; try (with_reducible (first | exact co_refl _ | exact co_own _ _ _ | exact co_nilsB | exact co_nilsL _ _)))))
    refine co_eq ?_
    rw [← hs, endS_none (by omega)]
end PM
end Go.Proofs.YthaekefdadccaaaDoor
