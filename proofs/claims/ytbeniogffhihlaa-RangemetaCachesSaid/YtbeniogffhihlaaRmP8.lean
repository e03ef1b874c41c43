/- rangemeta in the abstract: the reference's In, Share, Meet, Find. -/
import Derived.Test.YtbeniogffhihlaaRmP4
set_option linter.unusedVariables false
set_option linter.unusedSimpArgs false
namespace Go.Proofs.Ytbeniogffhihlaa
open Go.RowKit
namespace PM
theorem lex_ge (l m : List Int) : (!lexLt l m) = decide (0 ≤ cmpB l m) := by
  rw [lex_neg]
  by_cases h : cmpB l m < 0
  · simp [h]
  · simp [h]; omega
theorem lex_gt (l m : List Int) : (!(lexLt l m || decide (l = m))) = decide (0 < cmpB l m) := by
  rw [lex_le]
  by_cases h : cmpB l m ≤ 0
  · simp [h]
  · simp [h]; omega
set_option maxRecDepth 100000 in
set_option maxHeartbeats 2000000 in
theorem pIn (f t k : List Int) : Pure Try.prog 23 [.agg [bs f, bs t], bs k] (.d (.bool (spH f t k))) := by
  refine pure_intro Try.func23 rfl rfl rfl 25 rfl (fun hh => ?_)
  repeat' (first
    | ((with_reducible (first
     | (refine PW.seq fun K1 hK1 => ?_) | (refine PW.region fun K2 hK2 => ?_) | ((refine hK3 _ ?_; clear hK3)) | ((refine opsP_nil ?_; refine hK2 _ ?_; clear hK2)) 
     | (refine PW.ret ?_) )))
    | (((first | (with_reducible refine wantB_intro (fun hb => ?_) (fun hb => ?_)) | (with_reducible refine condB_intro (fun hb => ?_) (fun hb => ?_))) <;> ((try (have hp := hb; simp only [PmH] at hp)); try simp only [hb, Bool.not_true, Bool.not_false])))
    | ((simp only [thenP]; (try ((repeat (fail_if_success (with_reducible refine hK1 _ ?_)); clear hK1); (with_reducible refine hK1 _ ?_); clear hK1))))
    | (((first | (((with_reducible refine opsP_cons fun K3 hK3 => ?_); simp only [wantP, opP, valP, Ur, Us])) | (skip)); simp (disch := omega) only [wantB_tt, wantB_ff, wantB_tf, wantB_ft, St.eval, St.put, upd_app, iniT_app, avOf, avOf1, nom, cellsA, AV.okv, loadA, lenP, binP, intsP, intP, strP, eqP, nilP, convP, builtinP, isMapA, slA, U7, U8, Ua, Ub, Ug, Uk, Ul, Ut, Uz, V4, V9, Va, Ve, PmL, simprocAttr, PmT, retQ, resP, tupA, fg]; try (with_reducible (first | exact co_refl _ | exact co_own _ _ _ | exact co_nilsB | exact co_nilsL _ _)))))
  all_goals (try (simp only [lex_neg] at *))
  all_goals (try (refine co_eq ?_))
  all_goals (try (simp_all [spH]))
  all_goals (try (repeat' (first | (refine And.intro ?_ ?_) | split)))
  all_goals (try (first | rfl | omega))
set_option maxRecDepth 100000 in
set_option maxHeartbeats 2000000 in
theorem pRShare (f t g u : List Int) : Pure Try.prog 51 [.agg [bs f, bs t], .agg [bs g, bs u]] (.agg [bs (shF f g), bs (shT t u)]) := by
  refine pure_intro Try.func51 rfl rfl rfl 44 rfl (fun hh => ?_)
  repeat' (first
    | ((with_reducible (first
     | (refine PW.seq fun K1 hK1 => ?_) | (refine PW.region fun K2 hK2 => ?_) | ((refine hK3 _ ?_; clear hK3)) | ((refine opsP_nil ?_; refine hK2 _ ?_; clear hK2)) 
     | (refine PW.skip ?_) | (refine PW.ret ?_) | ((refine hX1 ?_; clear hX1 hY1; try simp only [hb])) | ((refine hY1 ?_; clear hX1 hY1; try simp only [hb])) )))
    | (((first | (with_reducible refine wantB_intro (fun hb => ?_) (fun hb => ?_)) | (with_reducible refine condB_intro (fun hb => ?_) (fun hb => ?_))) <;> ((try (have hp := hb; simp only [PmH] at hp)); try simp only [hb, Bool.not_true, Bool.not_false])))
    | ((simp only [thenP]; (try ((repeat (fail_if_success (with_reducible refine hK1 _ ?_)); clear hK1); (with_reducible refine hK1 _ ?_); clear hK1))))
    | (((first | (((with_reducible refine opsP_cons fun K3 hK3 => ?_); simp only [wantP, opP, valP, Ur, Us])) | ((with_reducible refine PW.condM fun X1 Y1 hX1 hY1 => ?_)) | (skip)); simp (disch := omega) only [wantB_tt, wantB_ff, wantB_tf, wantB_ft, St.eval, St.put, upd_app, iniT_app, avOf, avOf1, nom, cellsA, AV.okv, loadA, lenP, binP, intsP, intP, strP, nilP, convP, builtinP, isMapA, slA, putCells, fillA, buildA, U7, U8, Ua, Ub, Uc, Ud, Uf, Ug, Uk, Ul, Un, Up, Ut, Uu, Uz, V4, V9, Va, Vd, Ve, Vt, UU2, UU3, Vr, PmL, simprocAttr, PmT, lex_gt, retQ, resP, tupA, fg, fgs, condP, condB_t, condB_f]; try (with_reducible (first | exact co_refl _ | exact co_own _ _ _ | exact co_nilsB | exact co_nilsL _ _)))))
  all_goals (try (simp only [lex_neg] at *))
  all_goals (try (refine co_eq ?_))
  all_goals (try (simp_all [shF, shT]))
  all_goals (try (repeat' (first | (refine And.intro ?_ ?_) | split)))
  all_goals (try (first | rfl | omega))
set_option maxRecDepth 100000 in
set_option maxHeartbeats 2000000 in
theorem pRMeet (f t g u : List Int) : Pure Try.prog 31 [.agg [bs f, bs t], .agg [bs g, bs u]] (.d (.bool (spM f t g u))) := by
  refine pure_intro Try.func31 rfl rfl rfl 28 rfl (fun hh => ?_)
  repeat' (first
    | ((with_reducible (first
     | (refine PW.seq fun K1 hK1 => ?_) | (refine PW.region fun K2 hK2 => ?_) | ((refine hK3 _ ?_; clear hK3)) | ((refine opsP_nil ?_; refine hK2 _ ?_; clear hK2)) 
     | (refine PW.ret ?_) )))
    | (((first | (with_reducible refine wantB_intro (fun hb => ?_) (fun hb => ?_)) | (with_reducible refine condB_intro (fun hb => ?_) (fun hb => ?_))) <;> ((try (have hp := hb; simp only [PmH] at hp)); try simp only [hb, Bool.not_true])))
    | (((with_reducible refine cC_pure ?_ (pREmpty ?_ ?_) (fun _ => ?_)); (focus ((repeat' (first | (refine .cons ?_ ?_) | (exact .nil) | (exact .d _) | (refine .agg ?_) )); done))))
    | (((with_reducible refine cC_pure ?_ (pRShare ?_ ?_ ?_ ?_) (fun _ => ?_)); (focus ((repeat' (first | (refine .cons ?_ ?_) | (exact .nil) | (exact .d _) | (refine .agg ?_) )); done))))
    | ((simp only [thenP]; (try ((repeat (fail_if_success (with_reducible refine hK1 _ ?_)); clear hK1); (with_reducible refine hK1 _ ?_); clear hK1))))
    | (((first | (((with_reducible refine opsP_cons fun K3 hK3 => ?_); simp only [wantP, opP, valP, Ur, Us])) | (skip)); simp (disch := omega) only [wantB_tt, wantB_ft, St.eval, St.put, upd_app, iniT_app, avOf, avOf1, nom, cellsA, AV.okv, loadA, unP, putCells, U7, U8, Ua, Ub, Uc, Ud, Uf, Ug, Uk, Un, Up, Ut, Uu, Uv, Uz, V4, V9, Ve, Vr, PmL, simprocAttr, PmT, retQ, resP, tupA, fg]; try (with_reducible (first | exact co_refl _ | exact co_own _ _ _ | exact co_nilsB | exact co_nilsL _ _)))))
  all_goals (try (refine co_eq ?_))
  all_goals (try (simp_all [spM]))
  all_goals (try (repeat' (first | (refine And.intro ?_ ?_) | split)))
  all_goals (try (first | rfl | omega))
def findS (k : List Int) : List Rg → Option Rg
  | [] => none
  | x :: l => if spH x.f x.t k then some x else findS k l
def rg0 : Rg := ⟨0, [], [], 0⟩
set_option maxRecDepth 100000 in
set_option maxHeartbeats 2000000 in
theorem pRFind (l : List Rg) (key : List Int) : Pure Try.prog 18 [rl l, bs key] (.tup [((findS key l).getD rg0).v, .d (.bool (findS key l).isSome)]) := by
  refine pure_intro Try.func18 rfl rfl rfl 27 rfl (fun hh => ?_)
  have hmax := (has_sl (hh (rl l) (by simp))).1
  rw [encL_len] at hmax
  have hmx : maxLen = 9223372036854775807 := rfl
  repeat' (first
    | ((with_reducible (first
     | (refine PW.seq fun K1 hK1 => ?_) | (refine PW.region fun K2 hK2 => ?_) | ((refine hK3 _ ?_; clear hK3)) | ((refine opsP_nil ?_; refine hK2 _ ?_; clear hK2)) 
     | (refine PW.block ?_) )))
    | ((simp only [thenP]; (try ((repeat (fail_if_success (with_reducible refine hK1 _ ?_)); clear hK1); (with_reducible refine hK1 _ ?_); clear hK1))))
    | (((first | (((with_reducible refine opsP_cons fun K3 hK3 => ?_); simp only [wantP, opP, valP])) | (skip)); simp (disch := omega) only [St.eval, St.put, avOf, avOf1, nom, Ug, Ut, PmL, simprocAttr, PmT]; try (with_reducible (first | exact co_refl _ | exact co_own _ _ _ | exact co_nilsB | exact co_nilsL _ _)))))
  (with_reducible refine PW.loop (fun n s => ∃ k : Nat, s.t 0 = rl l ∧ s.t 1 = bs key ∧ s.t 4 = .ptr 0 0 ∧ s.t 5 = .d (.bool false) ∧ s.t 6 = .d (.int .i64 k) ∧ s.n = 27 ∧ s.m = ⟨[some (39, [.d (.int .i64 0), .nils, .nils, .d (.int .i64 0)])], []⟩ ∧ k ≤ l.length ∧ n = l.length - k ∧ findS key (l.drop k) = findS key l) l.length ?_ ?_)
  · exact ⟨0, rfl, rfl, rfl, rfl, rfl, rfl, rfl, Nat.zero_le _, rfl, rfl⟩
  rintro n ⟨t, nn, m⟩ ⟨k, h0, h1, h4, h5, h6, hn, hm, hk, hnk, hs⟩ - -
  simp only at h0 h1 h4 h5 h6 hn hm
  subst hn hm
  by_cases hlt : (k : Int) < l.length
  · have hlt' := eq_true hlt
    have hw : IntKind.i64.wrap ((k : Int) + 1) = k + 1 := IntWalk.i64_in ((k : Int) + 1) (by omega)
    obtain ⟨x, hx⟩ : ∃ x, l[k]? = some x := ⟨_, List.getElem?_eq_getElem (by omega)⟩
    repeat' (first
      | ((with_reducible (first
       | (refine PW.seq fun K1 hK1 => ?_) | (refine PW.region fun K2 hK2 => ?_) | ((refine hK3 _ ?_; clear hK3)) | ((refine opsP_nil ?_; refine hK2 _ ?_; clear hK2)) 
       | (refine PW.block ?_) | (refine PW.skip ?_) | (refine PW.ret ?_) | ((refine hX1 ?_; clear hX1 hY1; try simp only [hb])) | ((refine hY1 ?_; clear hX1 hY1; try simp only [hb])) )))
      | (((first | (with_reducible refine wantB_intro (fun hb => ?_) (fun hb => ?_)) | (with_reducible refine condB_intro (fun hb => ?_) (fun hb => ?_))) <;> ((try (have hp := hb; simp only [PmH, beq_iff_eq, beq_eq_false_iff_ne, ne_eq] at hp)); try simp only [hb, Bool.not_true, Bool.not_false])))
      | (((with_reducible refine cC_pure ?_ (pIn ?_ ?_ ?_) (fun _ => ?_)); (focus ((repeat' (first | (refine .cons ?_ ?_) | (exact .nil) | (exact .d _) | (refine .agg ?_) )) <;> (simp only [purAs, purA, Vf, Bool.and_self, h0, h1, h4, h5, h6, hlt', hx, hw, Rg.c]; done)))))
      | (((with_reducible refine And.intro ?_ ?_); (focus (first | omega | (simp; done) | assumption))))
      | ((simp only [thenP, blockP]; (try ((repeat (fail_if_success (with_reducible refine hK1 _ ?_)); clear hK1); (with_reducible refine hK1 _ ?_); clear hK1))))
      | (((first | (((with_reducible refine opsP_cons fun K3 hK3 => ?_); simp only [wantP, opP, valP, Ur, Us])) | ((with_reducible refine PW.condM fun X1 Y1 hX1 hY1 => ?_)) | (skip)); simp (disch := omega) only [St.eval, St.put, upd_app, avOf, avOf1, cellsA, AV.okv, loadA, lenP, binP, intsP, intP, nilP, builtinP, isMapA, slA, putCells, Ua, Uc, Ud, Uf, Ug, Uk, Ul, Un, Uo, Up, Ur, Us, Uv, V2, V7, V9, Vr, PmL, simprocAttr, PmT, h0, h1, h4, h6, hlt', hx, hw, Rg.c, retQ, resP, tupA, fg, fgs, condP, condB_t]; try (with_reducible (first | exact co_refl _ | exact co_own _ _ _ | exact co_nilsB | exact co_nilsL _ _)))))
    · have e : findS key l = some x := by rw [← hs, drop_cons hx, findS, if_pos hb]
      rw [e]
      exact co_refl _
    · refine ⟨l.length - (k + 1), by omega, k + 1, ?_, ?_, ?_, ?_, ?_, ?_, ?_, by omega, rfl, ?_⟩
      case refine_8 => rw [← hs, drop_cons hx, findS, if_neg (by simp [hb])]
      all_goals (simp only [St.cut, Mem.cut, fg, fgs, upd_app, Nat.reduceEqDiff, ↓reduceIte, List.take_nil, List.map_nil, List.take_succ_cons, List.map_cons, Option.map_some, Nat.zero_lt_one, Int.natCast_add, Int.cast_ofNat_Int, h0, h1, h4, h5]; try rfl)
  · have hlt' := eq_false hlt
    repeat' (first
      | ((with_reducible (first
       | (refine PW.seq fun K1 hK1 => ?_) | (refine PW.region fun K2 hK2 => ?_) | ((refine hK3 _ ?_; clear hK3)) | ((refine opsP_nil ?_; refine hK2 _ ?_; clear hK2)) 
       | (refine PW.exit ?_) | (refine PW.ret ?_) | ((refine hY1 ?_; clear hX1 hY1; try simp only [hb])) )))
      | ((simp only [thenP, blockP, ↓reduceIte]; (try ((repeat (fail_if_success (with_reducible refine hK1 _ ?_)); clear hK1); (with_reducible refine hK1 _ ?_); clear hK1))))
      | (((first | (((with_reducible refine opsP_cons fun K3 hK3 => ?_); simp only [wantP, opP, valP, Ur, Us])) | ((with_reducible refine PW.condM fun X1 Y1 hX1 hY1 => ?_)) | (skip)); simp (disch := omega) only [St.eval, St.put, upd_app, avOf, avOf1, cellsA, AV.okv, loadA, lenP, binP, intsP, intP, nilP, builtinP, isMapA, slA, putCells, fillA, buildA, Ua, Uc, Ud, Uf, Ug, Uk, Un, Up, V9, Ve, Vr, PmL, simprocAttr, PmT, h0, h4, h6, hlt', retQ, resP, tupA, fg, fgs, condP, condB_f]; try (with_reducible (first | exact co_refl _ | exact co_own _ _ _ | exact co_nilsB | exact co_nilsL _ _)))))
    have e : findS key l = none := by rw [← hs, List.drop_eq_nil_of_le (by omega)]; rfl
    rw [e]
    exact co_tup (cos_cons (co_agg (cos_cons (co_refl _) (cos_cons co_nilsB (cos_cons co_nilsB (cos_refl _))))) (cos_refl _))
end PM
end Go.Proofs.Ytbeniogffhihlaa
