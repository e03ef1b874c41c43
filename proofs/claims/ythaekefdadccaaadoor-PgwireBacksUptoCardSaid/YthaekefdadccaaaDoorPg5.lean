/- pgwire in the abstract: the document's reading of a client's message. -/
import Derived.Test.YthaekefdadccaaaDoorPg2
namespace Go.Proofs.YthaekefdadccaaaDoor
open Go.RowKit
namespace PM
def endS (b : List Int) (at_ : Nat) : Int := match cut0 (b.drop at_) with
  | none => -1
  | some (a, _) => ((at_ + a.length : Nat) : Int)
theorem endS_next {b : List Int} {k : Nat} {x : Int} (hx : b[k]? = some x) (h : x ≠ 0) : endS b (k + 1) = endS b k := by
  have hd : b.drop k = x :: b.drop (k + 1) := by
    obtain ⟨hk, rfl⟩ := List.getElem?_eq_some_iff.1 hx
    exact List.drop_eq_getElem_cons hk
  unfold endS
  rw [hd, cut0, if_neg h]
  cases cut0 (b.drop (k + 1)) with
  | none => rfl
  | some p => obtain ⟨a, r⟩ := p; simp; omega
theorem endS_zero {b : List Int} {k : Nat} {x : Int} (hx : b[k]? = some x) (h : x = 0) : endS b k = k := by
  have hd : b.drop k = x :: b.drop (k + 1) := by
    obtain ⟨hk, rfl⟩ := List.getElem?_eq_some_iff.1 hx
    exact List.drop_eq_getElem_cons hk
  unfold endS
  rw [hd, cut0, if_pos h]
  simp
theorem endS_none {b : List Int} {k : Nat} (h : b.length ≤ k) : endS b k = -1 := by
  unfold endS
  rw [List.drop_eq_nil_of_le h]
  rfl
set_option maxRecDepth 100000 in
theorem pEnd (b : List Int) (at_ : Nat) : Pure Tryd.prog 30 [bs b, .d (.int .i64 at_)] (.d (.int .i64 (endS b at_))) := by
  refine pure_intro Tryd.func30 rfl rfl rfl 19 rfl (fun hh => ?_)
  obtain ⟨hr, hml⟩ := has_bytes (hh (bs b) (by simp))
  have hmx : maxLen = 9223372036854775807 := rfl
  have hat := has_int (hh (.d (.int .i64 at_)) (by simp))
  rw [wf_i64] at hat
  simp only [Bool.and_eq_true, decide_eq_true_eq] at hat
  repeat' (first
    | (with_reducible (first
      | refine PW.seq fun K1 hK1 => ?_
      | refine PW.region fun K2 hK2 => ?_
      | (refine hK3 _ ?_; clear hK3)
      | (refine opsP_nil ?_; refine hK2 _ ?_; clear hK2)
      | refine litX_old ?_
      | refine litC_data ?_
      | (refine Exists.intro _ (Exists.intro _ (And.intro rfl (And.intro rfl (And.intro ?_ ?_)))); focus omega)
      | (refine hK1 _ ?_; clear hK1)
      | refine nilC_intro (fun hz => ?_) ?_
      | refine PW.block ?_
      | refine PW.skip ?_
      | refine PW.exit ?_
      | refine PW.ret ?_
      | (refine hX1 ?_; clear hX1 hY1; try simp only [hb])
      | (refine hY1 ?_; clear hX1 hY1; try simp only [hb])
      | exact co_refl _
      | exact co_own _ _ _
      | exact co_nilsB
      | exact co_nilsL _ _))
    | ((first | (with_reducible refine wantB_intro (fun hb => ?_) (fun hb => ?_)) | (with_reducible refine condB_intro (fun hb => ?_) (fun hb => ?_))) <;> ((try (have hp := hb; simp only [Bool.and_eq_true, Bool.or_eq_true, Bool.not_eq_true', Bool.not_eq_false', Bool.and_eq_false_iff, Bool.or_eq_false_iff, Bool.not_eq_eq_eq_not, Bool.not_true, Bool.not_false, decide_eq_true_eq, decide_eq_false_iff_not, Int.not_lt, Int.not_le, beq_iff_eq, beq_eq_false_iff_ne, ne_eq] at hp)); try simp only [hb, Bool.not_true, Bool.not_false]))
    | ((with_reducible refine And.intro ?_ ?_); (focus (first | omega | (simp; done) | assumption)))
    | (simp only [thenP]; (try ((repeat (fail_if_success (with_reducible refine hK1 _ ?_)); clear hK1); (with_reducible refine hK1 _ ?_); clear hK1)))
    | (with_reducible omega)
    | (assumption)
    | ((first | ((with_reducible refine opsP_cons fun K3 hK3 => ?_); simp only [wantP, opP, valP]) | (with_reducible refine PW.condM fun X1 Y1 hX1 hY1 => ?_) | skip); simp (disch := omega) only [St.eval, St.put, upd_app, iniT_app, avOf, avOf1, wf_i64, nom, U7, U8, Nat.reduceLT, Nat.reduceEqDiff, Int.reduceLE, Int.reduceNeg, Vu, Vf, ↓reduceIte]; try (with_reducible (first | exact co_refl _ | exact co_own _ _ _ | exact co_nilsB | exact co_nilsL _ _))))
  (with_reducible refine PW.loop (fun n s => ∃ k : Nat, s.t 0 = bs b ∧ s.t 5 = .d (.int .i64 k) ∧ s.n = 19 ∧ s.m = nom ∧ n = b.length - k ∧ endS b k = endS b at_ ∧ k ≤ 9223372036854775807) (b.length - at_) ?_ ?_)
  · exact ⟨at_, rfl, rfl, rfl, rfl, rfl, rfl, by omega⟩
  rintro n ⟨t, nn, m⟩ ⟨k, h0, h5, hn, hm, hnk, hs, hk⟩ - -
  simp only at h0 h5 hn hm
  subst hn hm
  by_cases hlt : (k : Int) < b.length
  · have hlt' := eq_true hlt
    obtain ⟨x, hx⟩ := get_lt (b := b) (i := k) (by omega)
    repeat' (first
      | (with_reducible (first
        | refine PW.seq fun K1 hK1 => ?_
        | refine PW.region fun K2 hK2 => ?_
        | (refine hK3 _ ?_; clear hK3)
        | (refine opsP_nil ?_; refine hK2 _ ?_; clear hK2)
        | refine litX_old ?_
        | refine litC_data ?_
        | (refine Exists.intro _ (Exists.intro _ (And.intro rfl (And.intro rfl (And.intro ?_ ?_)))); focus omega)
        | (refine hK1 _ ?_; clear hK1)
        | refine nilC_intro (fun hz => ?_) ?_
        | refine PW.block ?_
        | refine PW.skip ?_
        | refine PW.exit ?_
        | refine PW.ret ?_
        | (refine hX1 ?_; clear hX1 hY1; try simp only [hb])
        | (refine hY1 ?_; clear hX1 hY1; try simp only [hb])
        | exact co_refl _
        | exact co_own _ _ _
        | exact co_nilsB
        | exact co_nilsL _ _))
      | ((first | (with_reducible refine wantB_intro (fun hb => ?_) (fun hb => ?_)) | (with_reducible refine condB_intro (fun hb => ?_) (fun hb => ?_))) <;> ((try (have hp := hb; simp only [decide_eq_true_eq, decide_eq_false_iff_not] at hp)); try simp only [hb, Bool.not_true, Bool.not_false]))
      | ((with_reducible refine And.intro ?_ ?_); (focus (first | omega | (simp; done) | assumption)))
      | (simp only [thenP, blockP]; (try ((repeat (fail_if_success (with_reducible refine hK1 _ ?_)); clear hK1); (with_reducible refine hK1 _ ?_); clear hK1)))
      | (with_reducible omega)
      | (assumption)
      | ((first | ((with_reducible refine opsP_cons fun K3 hK3 => ?_); simp only [wantP, opP, valP, List.map_cons, List.map_nil]) | (with_reducible refine PW.condM fun X1 Y1 hX1 hY1 => ?_) | skip); simp (disch := omega) only [St.eval, St.put, upd_app, avOf, avOf1, wf_i64, wf_u8, nom, loadA, lenP, binP, intsP, intP, nilP, builtinP, wi_i64, isMapA, slA, encB_len, encB_get, Ug, Ur, Us, V2, V7, Nat.reduceLT, Nat.reduceEqDiff, Ve, Int.reduceLE, Int.reduceNeg, Vu, Vf, ↓reduceIte, Vp, reduceCtorEq, Vw, Vz, UU0, Vs, sz5, el22, Tryd.underlying22, h0, h5, hlt', hx, retQ, resP, tupA, fg, condP, condB_t]; try (with_reducible (first | exact co_refl _ | exact co_own _ _ _ | exact co_nilsB | exact co_nilsL _ _))))
    · refine co_eq ?_
      rw [← hs, endS_zero hx (by simpa using hb)]
    · refine ⟨b.length - (k + 1), by omega, k + 1, ?_, ?_, ?_, ?_, rfl, ?_, by omega⟩
      case refine_5 => rw [endS_next hx (by simpa using hb)]; exact hs
      all_goals (simp only [St.cut, Mem.cut, fg, upd_app, Nat.reduceEqDiff, ↓reduceIte, List.take_nil, List.map_nil, Int.natCast_add, Int.cast_ofNat_Int, h0]; try rfl)
  · have hlt' := eq_false hlt
    repeat' (first
      | (with_reducible (first
        | refine PW.seq fun K1 hK1 => ?_
        | refine PW.region fun K2 hK2 => ?_
        | (refine hK3 _ ?_; clear hK3)
        | (refine opsP_nil ?_; refine hK2 _ ?_; clear hK2)
        | refine litX_old ?_
        | refine litC_data ?_
        | (refine Exists.intro _ (Exists.intro _ (And.intro rfl (And.intro rfl (And.intro ?_ ?_)))); focus omega)
        | (refine hK1 _ ?_; clear hK1)
        | refine nilC_intro (fun hz => ?_) ?_
        | refine PW.block ?_
        | refine PW.skip ?_
        | refine PW.exit ?_
        | refine PW.ret ?_
        | (refine hX1 ?_; clear hX1 hY1; try simp only [hb])
        | (refine hY1 ?_; clear hX1 hY1; try simp only [hb])
        | exact co_refl _
        | exact co_own _ _ _
        | exact co_nilsB
        | exact co_nilsL _ _))
      | ((first | (with_reducible refine wantB_intro (fun hb => ?_) (fun hb => ?_)) | (with_reducible refine condB_intro (fun hb => ?_) (fun hb => ?_))) <;> ((try (have hp := hb; simp only [Bool.and_eq_true, Bool.or_eq_true, Bool.not_eq_true', Bool.not_eq_false', Bool.and_eq_false_iff, Bool.or_eq_false_iff, Bool.not_eq_eq_eq_not, Bool.not_true, Bool.not_false, decide_eq_true_eq, decide_eq_false_iff_not, Int.not_lt, Int.not_le, beq_iff_eq, beq_eq_false_iff_ne, ne_eq] at hp)); try simp only [hb, Bool.not_true, Bool.not_false]))
      | ((with_reducible refine And.intro ?_ ?_); (focus (first | omega | (simp; done) | assumption)))
      | (simp only [thenP, blockP, ↓reduceIte]; (try ((repeat (fail_if_success (with_reducible refine hK1 _ ?_)); clear hK1); (with_reducible refine hK1 _ ?_); clear hK1)))
      | (with_reducible omega)
      | (assumption)
      | ((first | ((with_reducible refine opsP_cons fun K3 hK3 => ?_); simp only [wantP, opP, valP, List.map_cons, List.map_nil]) | (with_reducible refine PW.condM fun X1 Y1 hX1 hY1 => ?_) | skip); simp (disch := omega) only [St.eval, St.put, upd_app, avOf, avOf1, wf_i64, nom, lenP, binP, intsP, intP, nilP, builtinP, isMapA, slA, encB_len, Nat.reduceLT, Nat.reduceEqDiff, Int.reduceLE, Int.reduceNeg, Vu, Vv, Vf, ↓reduceIte, Vp, reduceCtorEq, Vw, Vz, UU0, Tryd.underlying22, h0, h5, hlt', retQ, resP, tupA, fg, condP, condB_f]; try (with_reducible (first | exact co_refl _ | exact co_own _ _ _ | exact co_nilsB | exact co_nilsL _ _))))
    refine co_eq ?_
    rw [← hs, endS_none (by omega)]
end PM
end Go.Proofs.YthaekefdadccaaaDoor
