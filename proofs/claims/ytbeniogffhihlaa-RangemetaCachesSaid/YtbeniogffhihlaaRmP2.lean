/- rangemeta in the abstract: the reference's small functions; lists. -/
import Derived.Test.YtbeniogffhihlaaRmP
import Derived.Test.YtbeniogffhihlaaPmD
set_option linter.unusedVariables false
set_option linter.unusedSimpArgs false
namespace Go.Proofs.Ytbeniogffhihlaa
open Go.RowKit
namespace PM
abbrev rl (l : List Rg) : AV := .d (.sl 4 (encL Rg.c l))
set_option maxRecDepth 100000 in
theorem pSame (x y : Rg) : Pure Try.prog 21 [x.v, y.v] (.d (.bool (x.same y))) := by
  refine pure_intro Try.func21 rfl rfl rfl 39 rfl (fun hh => ?_)
  repeat' (first
    | ((with_reducible (first
     | (refine PW.seq fun K1 hK1 => ?_) | (refine PW.region fun K2 hK2 => ?_) | ((refine hK3 _ ?_; clear hK3)) | ((refine opsP_nil ?_; refine hK2 _ ?_; clear hK2)) 
     | (refine PW.ret ?_) )))
    | (((first | (with_reducible refine wantB_intro (fun hb => ?_) (fun hb => ?_)) | (with_reducible refine condB_intro (fun hb => ?_) (fun hb => ?_))) <;> ((try (have hp := hb; simp only [PmH] at hp)); try simp only [hb, Bool.not_true])))
    | ((simp only [thenP]; (try ((repeat (fail_if_success (with_reducible refine hK1 _ ?_)); clear hK1); (with_reducible refine hK1 _ ?_); clear hK1))))
    | (((first | (((with_reducible refine opsP_cons fun K3 hK3 => ?_); simp only [wantP, opP, valP])) | (skip)); simp (disch := omega) only [wantB_tt, wantB_ft, St.eval, St.put, upd_app, iniT_app, avOf, avOf1, nom, cellsA, AV.okv, loadA, binP, intsP, intP, strP, eqP, nilP, convP, slA, U7, U8, Ua, Ub, Uf, Ug, Uk, Ul, Ut, Uu, Uz, V4, V9, Va, Ve, PmL, simprocAttr, PmT, retQ, resP, tupA, fg]; try (with_reducible (first | exact co_refl _ | exact co_own _ _ _ | exact co_nilsB | exact co_nilsL _ _)))))
  all_goals (try (refine co_eq ?_))
  all_goals (try (simp_all [Rg.same]))
  all_goals (try (repeat' (first | (refine And.intro ?_ ?_) | split)))
  all_goals (try (first | rfl | omega))
def sameL : List Rg → List Rg → Bool
  | [], [] => true
  | x :: a, y :: b => x.same y && sameL a b
  | _, _ => false
theorem sameL_len : ∀ {a b : List Rg}, a.length ≠ b.length → sameL a b = false
  | [], [], h => absurd rfl h
  | [], _ :: _, _ => rfl
  | _ :: _, [], _ => rfl
  | x :: a, y :: b, h => by unfold sameL; rw [sameL_len (by simpa using h), Bool.and_false]
theorem sameL_nil {a b : List Rg} (h : a.length = 0) (h' : b.length = 0) : sameL a b = true := by
  rw [List.eq_nil_of_length_eq_zero h, List.eq_nil_of_length_eq_zero h']; rfl
theorem drop_cons {α : Type} {l : List α} {k : Nat} {x : α} (h : l[k]? = some x) : l.drop k = x :: l.drop (k + 1) := by
  obtain ⟨hk, rfl⟩ := List.getElem?_eq_some_iff.1 h
  exact List.drop_eq_getElem_cons hk
theorem sameL_drop {a b : List Rg} {k : Nat} {x y : Rg} (hx : a[k]? = some x) (hy : b[k]? = some y) : sameL (a.drop k) (b.drop k) = (x.same y && sameL (a.drop (k + 1)) (b.drop (k + 1))) := by
  rw [drop_cons hx, drop_cons hy, sameL]
set_option maxRecDepth 100000 in
theorem pSameRanges (a b : List Rg) : Pure Try.prog 16 [rl a, rl b] (.d (.bool (sameL a b))) := by
  refine pure_intro Try.func16 rfl rfl rfl 29 rfl (fun hh => ?_)
  repeat' (first
    | ((with_reducible (first
     | (refine PW.seq fun K1 hK1 => ?_) | (refine PW.region fun K2 hK2 => ?_) | ((refine hK3 _ ?_; clear hK3)) | ((refine opsP_nil ?_; refine hK2 _ ?_; clear hK2)) | (refine PW.block ?_) | (refine PW.skip ?_)
     | (refine PW.ret ?_) | ((refine hX1 ?_; clear hX1 hY1; try simp only [hb])) | ((refine hY1 ?_; clear hX1 hY1; try simp only [hb])) )))
    | (((first | (with_reducible refine wantB_intro (fun hb => ?_) (fun hb => ?_)) | (with_reducible refine condB_intro (fun hb => ?_) (fun hb => ?_))) <;> ((try (have hp := hb; simp only [PmH] at hp)); try simp only [hb, Bool.not_true, Bool.not_false])))
    | ((simp only [thenP]; (try ((repeat (fail_if_success (with_reducible refine hK1 _ ?_)); clear hK1); (with_reducible refine hK1 _ ?_); clear hK1))))
    | (((first | (((with_reducible refine opsP_cons fun K3 hK3 => ?_); simp only [wantP, opP, valP, Ur, Us])) | ((with_reducible refine PW.condM fun X1 Y1 hX1 hY1 => ?_)) | (skip)); simp (disch := omega) only [St.eval, St.put, upd_app, iniT_app, avOf, avOf1, nom, lenP, binP, intsP, intP, nilP, builtinP, isMapA, slA, U7, U8, PmL, simprocAttr, PmT, retQ, resP, tupA, fg, condP]; try (with_reducible (first | exact co_refl _ | exact co_own _ _ _ | exact co_nilsB | exact co_nilsL _ _)))))
  case refine_1 => refine co_eq ?_; rw [sameL_len (by simp_all; omega)]
  have hlen : a.length = b.length := by simp at hb; omega
  have hmax := (has_sl (hh (rl a) (by simp))).1
  rw [encL_len] at hmax
  have hmx : maxLen = 9223372036854775807 := rfl
  (with_reducible refine PW.loop (fun n s => ∃ k : Nat, s.t 0 = rl a ∧ s.t 1 = rl b ∧ s.t 5 = .d (.int .i64 k) ∧ s.n = 29 ∧ s.m = nom ∧ k ≤ a.length ∧ n = a.length - k ∧ sameL (a.drop k) (b.drop k) = sameL a b) a.length ?_ ?_)
  · exact ⟨0, rfl, rfl, rfl, rfl, rfl, Nat.zero_le _, rfl, rfl⟩
  rintro n ⟨t, nn, m⟩ ⟨k, h0, h1, h5, hn, hm, hk, hnk, hs⟩ - -
  simp only at h0 h1 h5 hn hm
  subst hn hm
  by_cases hlt : (k : Int) < a.length
  · have hlt' := eq_true hlt
    have hw : IntKind.i64.wrap ((k : Int) + 1) = k + 1 := IntWalk.i64_in ((k : Int) + 1) (by omega)
    obtain ⟨x, hx⟩ : ∃ x, a[k]? = some x := ⟨_, List.getElem?_eq_getElem (by omega)⟩
    obtain ⟨y, hy⟩ : ∃ x, b[k]? = some x := ⟨_, List.getElem?_eq_getElem (by omega)⟩
    repeat' (first
      | ((with_reducible (first
       | (refine PW.seq fun K1 hK1 => ?_) | (refine PW.region fun K2 hK2 => ?_) | ((refine hK3 _ ?_; clear hK3)) | ((refine opsP_nil ?_; refine hK2 _ ?_; clear hK2)) | (refine PW.block ?_) | (refine PW.skip ?_)
       | (refine PW.ret ?_) | ((refine hX1 ?_; clear hX1 hY1; try simp only [hb])) | ((refine hY1 ?_; clear hX1 hY1; try simp only [hb])) | ((refine opsO_nil ?_; refine hK2 _ ?_; clear hK2)) | ((refine keepA_intro ?_ ?_; focus (first | exact keep_same _ _ | exact keep_box _ _ _ _ | exact keep_hd _ _ _ _ _ | exact keep_02 _ _ _ _ _ _ _ | exact keep_1 _ _ _ _ _ _ _))))))
      | (((first | (with_reducible refine wantB_intro (fun hb => ?_) (fun hb => ?_)) | (with_reducible refine condB_intro (fun hb => ?_) (fun hb => ?_))) <;> ((try (have hp := hb; simp only [PmH] at hp)); try simp only [hb, Bool.not_true, Bool.not_false])))
      | (((with_reducible refine cC_pure ?_ (pSame ?_ ?_) (fun _ => ?_)); (focus ((repeat' (first | (refine .cons ?_ ?_) | (exact .nil) | (exact .d _) | (refine .agg ?_) )) <;> (simp only [purAs, purA, Vf, Bool.and_self, h0, h1, h5, hlt', hx, hy, hw, Rg.c]; done)))))
      | (((with_reducible refine PW.drawR (id := 6) mixed [] [(0, true), (1, true), (2, true), (3, true), (4, true), (5, true), (6, true), (7, true), (8, false), (9, true)] (by kernel_rfl) (by decide) fun K2 hK2 => ?_)))
      | (((with_reducible refine And.intro ?_ ?_); (focus (first | omega | (simp; done) | assumption))))
      | ((simp only [thenP, blockP]; (try ((repeat (fail_if_success (with_reducible refine hK1 _ ?_)); clear hK1); (with_reducible refine hK1 _ ?_); clear hK1))))
      | (((first | (((with_reducible refine opsP_cons fun K3 hK3 => ?_); simp only [wantP, opP, valP, Ur, Us])) | (((with_reducible refine opsO_first (o := ?_) ?_ fun K3 hK3 => ?_); rotate_left 1; (focus (simp only [Uz, Ub, Ua] <;> rfl)); simp only [wantP, firstP, valP])) | (((with_reducible refine opsO_only (o := ?_) ?_ fun K3 hK3 => ?_); rotate_left 1; (focus (simp only [Uz, Ub, Ua] <;> rfl)); simp only [wantP, opP, Ur, Us, Uw, Ux])) | ((with_reducible refine PW.condM fun X1 Y1 hX1 hY1 => ?_)) | (skip)); simp (disch := omega) only [St.eval, St.put, upd_app, avOf, avOf1, nom, loadA, lenP, binP, intsP, intP, nilP, unP, builtinP, isMapA, slA, Uf, Ug, Un, Up, Ur, Us, Uv, V1, V2, V7, V9, Ve, Vr, PmL, simprocAttr, PmT, h0, h1, h5, hlt', hx, hy, hw, Rg.c, retQ, resP, tupA, fg, condP, condB_t, firstOk]; try (with_reducible (first | exact co_refl _ | exact co_own _ _ _ | exact co_nilsB | exact co_nilsL _ _)))))
    · refine co_eq ?_
      have hq := sameL_drop hx hy
      simp only [Bool.not_eq_true'] at hb
      rw [← hs, hq, hb, Bool.false_and]
    · have hq := sameL_drop hx hy
      simp only [Bool.not_eq_false'] at hb
      rw [hb, Bool.true_and] at hq
      refine ⟨a.length - (k + 1), by omega, k + 1, ?_, ?_, ?_, ?_, ?_, by omega, rfl, hq ▸ hs⟩
      all_goals (simp only [St.cut, Mem.cut, fg, upd_app, Nat.reduceEqDiff, ↓reduceIte, List.take_nil, List.map_nil, Int.natCast_add, Int.cast_ofNat_Int, h0, h1]; try rfl)
  · have hlt' := eq_false hlt
    repeat' (first
      | ((with_reducible (first
       | (refine PW.seq fun K1 hK1 => ?_) | (refine PW.region fun K2 hK2 => ?_) | ((refine hK3 _ ?_; clear hK3)) | ((refine opsP_nil ?_; refine hK2 _ ?_; clear hK2)) 
       | (refine PW.exit ?_) | (refine PW.ret ?_) | ((refine hY1 ?_; clear hX1 hY1; try simp only [hb])) )))
      | ((simp only [thenP, blockP, ↓reduceIte]; (try ((repeat (fail_if_success (with_reducible refine hK1 _ ?_)); clear hK1); (with_reducible refine hK1 _ ?_); clear hK1))))
      | (((first | (((with_reducible refine opsP_cons fun K3 hK3 => ?_); simp only [wantP, opP, valP, Ur, Us])) | ((with_reducible refine PW.condM fun X1 Y1 hX1 hY1 => ?_)) | (skip)); simp (disch := omega) only [St.eval, St.put, upd_app, avOf, avOf1, nom, lenP, binP, intsP, intP, nilP, builtinP, isMapA, slA, PmL, simprocAttr, PmT, h0, h5, hlt', retQ, resP, tupA, fg, condP, condB_f]; try (with_reducible (first | exact co_refl _ | exact co_own _ _ _ | exact co_nilsB | exact co_nilsL _ _)))))
    refine co_eq ?_
    rw [← hs, sameL_nil (by simp; omega) (by simp; omega)]
end PM
end Go.Proofs.Ytbeniogffhihlaa
