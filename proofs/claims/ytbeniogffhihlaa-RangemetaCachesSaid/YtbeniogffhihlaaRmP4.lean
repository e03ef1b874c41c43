/- rangemeta in the abstract: the reference's spans; looking in a list with any predicate. -/
import Derived.Test.YtbeniogffhihlaaRmP2
set_option linter.unusedVariables false
set_option linter.unusedSimpArgs false
namespace Go.Proofs.Ytbeniogffhihlaa
open Go.RowKit
namespace PM
theorem cmpB_lex : ∀ (l m : List Int), cmpB l m = if lexLt l m then -1 else if l = m then 0 else 1
  | [], [] => by simp [cmpB, lexLt]
  | [], y :: m => by simp [cmpB, lexLt]
  | x :: l, [] => by simp [cmpB, lexLt]
  | x :: l, y :: m => by
    rw [cmpB, cmpB_lex l m, show lexLt (x :: l) (y :: m) = (decide (x < y) || (decide (x = y) && lexLt l m)) from rfl]
    by_cases h1 : x < y
    · simp [h1]
    · by_cases h2 : y < x
      · have : x ≠ y := by omega
        simp [h1, h2, this]
      · have : x = y := by omega
        subst this
        simp
theorem lexLt_irr : ∀ l : List Int, lexLt l l = false
  | [] => rfl
  | x :: l => by unfold lexLt; simp [lexLt_irr l]
theorem lex_neg (l m : List Int) : lexLt l m = decide (cmpB l m < 0) := by
  rw [cmpB_lex]
  split
  · rename_i h; rw [h]; rfl
  · rename_i h; split <;> simpa using h
theorem lex_le (l m : List Int) : (lexLt l m || decide (l = m)) = decide (cmpB l m ≤ 0) := by
  rw [cmpB_lex]
  split
  · rename_i h; rw [h]; rfl
  · rename_i h
    split
    · rename_i h2; simp [h2]
    · rename_i h2; simp [h2, h]
set_option maxRecDepth 100000 in
theorem pREmpty (f t : List Int) : Pure Try.prog 24 [.agg [bs f, bs t]] (.d (.bool (spE f t))) := by
  refine pure_intro Try.func24 rfl rfl rfl 16 rfl (fun hh => ?_)
  repeat' (first
    | ((with_reducible (first
     | (refine PW.seq fun K1 hK1 => ?_) | (refine PW.region fun K2 hK2 => ?_) | ((refine hK3 _ ?_; clear hK3)) | ((refine opsP_nil ?_; refine hK2 _ ?_; clear hK2)) 
     | (refine PW.ret ?_) )))
    | (((first | (with_reducible refine wantB_intro (fun hb => ?_) (fun hb => ?_)) | (with_reducible refine condB_intro (fun hb => ?_) (fun hb => ?_))) <;> ((try (have hp := hb; simp only [PmH] at hp)); try simp only [hb, Bool.not_true])))
    | ((simp only [thenP]; (try ((repeat (fail_if_success (with_reducible refine hK1 _ ?_)); clear hK1); (with_reducible refine hK1 _ ?_); clear hK1))))
    | (((first | (((with_reducible refine opsP_cons fun K3 hK3 => ?_); simp only [wantP, opP, valP, Ur, Us])) | (skip)); simp (disch := omega) only [wantB_tt, wantB_ft, St.eval, St.put, upd_app, iniT_app, avOf, avOf1, nom, cellsA, AV.okv, loadA, lenP, binP, intsP, intP, strP, nilP, convP, builtinP, isMapA, slA, U7, Ua, Ub, Ug, Uk, Ul, Ut, Uz, V4, V9, Va, Ve, PmL, simprocAttr, PmT, lex_le, retQ, resP, tupA, fg]; try (with_reducible (first | exact co_refl _ | exact co_own _ _ _ | exact co_nilsB | exact co_nilsL _ _)))))
  all_goals (try (refine co_eq ?_))
  all_goals (try (simp_all [spE]))
  all_goals (try (repeat' (first | (refine And.intro ?_ ?_) | split)))
  all_goals (try (first | rfl | omega))
set_option maxRecDepth 100000 in
theorem pCount (n : Int) : Pure Try.prog 81 [.d (.int .i64 n)] (.d (.bool (decide (0 ≤ n) && decide (n ≤ 9007199254740991)))) := by
  refine pure_intro Try.func81 rfl rfl rfl 9 rfl (fun hh => ?_)
  repeat' (first
    | ((with_reducible (first
     | (refine PW.seq fun K1 hK1 => ?_) | (refine PW.region fun K2 hK2 => ?_) | ((refine hK3 _ ?_; clear hK3)) | ((refine opsP_nil ?_; refine hK2 _ ?_; clear hK2)) 
     | (refine PW.ret ?_) )))
    | (((first | (with_reducible refine wantB_intro (fun hb => ?_) (fun hb => ?_)) | (with_reducible refine condB_intro (fun hb => ?_) (fun hb => ?_))) <;> ((try (have hp := hb; simp only [PmH] at hp)); try simp only [hb, Bool.not_true])))
    | ((simp only [thenP]; (try ((repeat (fail_if_success (with_reducible refine hK1 _ ?_)); clear hK1); (with_reducible refine hK1 _ ?_); clear hK1))))
    | (((first | (((with_reducible refine opsP_cons fun K3 hK3 => ?_); simp only [wantP, opP, valP])) | (skip)); simp (disch := omega) only [wantB_tt, wantB_ft, St.eval, St.put, upd_app, iniT_app, avOf, avOf1, nom, binP, intsP, intP, nilP, slA, U7, Ua, Ub, Uz, V4, Ve, PmL, simprocAttr, retQ, resP, tupA, fg]; try (with_reducible (first | exact co_refl _ | exact co_own _ _ _ | exact co_nilsB | exact co_nilsL _ _)))))
  all_goals (try (refine co_eq ?_))
  all_goals (try (simp_all))
  all_goals (try (repeat' (first | (refine And.intro ?_ ?_) | split)))
  all_goals (try (first | rfl | omega))
set_option maxRecDepth 100000 in
theorem pRRight (x : Rg) : Pure Try.prog 53 [x.v] (.d (.bool x.right)) := by
  refine pure_intro Try.func53 rfl rfl rfl 45 rfl (fun hh => ?_)
  repeat' (first
    | ((with_reducible (first
     | (refine PW.seq fun K1 hK1 => ?_) | (refine PW.region fun K2 hK2 => ?_) | ((refine hK3 _ ?_; clear hK3)) | ((refine opsP_nil ?_; refine hK2 _ ?_; clear hK2)) 
     | (refine PW.ret ?_) )))
    | (((first | (with_reducible refine wantB_intro (fun hb => ?_) (fun hb => ?_)) | (with_reducible refine condB_intro (fun hb => ?_) (fun hb => ?_))) <;> ((try (have hp := hb; simp only [PmH] at hp)); try simp only [hb, Bool.not_true])))
    | (((with_reducible refine cC_pure ?_ (pCount ?_) (fun _ => ?_)); (focus ((repeat' (first | (refine .cons ?_ ?_) | (exact .nil) | (exact .d _) )); done))))
    | (((with_reducible refine cC_pure ?_ (pREmpty ?_ ?_) (fun _ => ?_)); (focus ((repeat' (first | (refine .cons ?_ ?_) | (exact .nil) | (exact .d _) | (refine .agg ?_) )); done))))
    | ((simp only [thenP]; (try ((repeat (fail_if_success (with_reducible refine hK1 _ ?_)); clear hK1); (with_reducible refine hK1 _ ?_); clear hK1))))
    | (((first | (((with_reducible refine opsP_cons fun K3 hK3 => ?_); simp only [wantP, opP, valP, Ur, Us])) | (skip)); simp (disch := omega) only [wantB_tt, wantB_ft, St.eval, St.put, upd_app, iniT_app, avOf, avOf1, nom, cellsA, AV.okv, loadA, lenP, binP, intsP, intP, nilP, unP, builtinP, isMapA, slA, U7, Ua, Ub, Uf, Ug, Uk, Ul, Un, Uo, Ut, Uv, Uz, V4, V9, Va, Ve, PmL, simprocAttr, PmT, retQ, resP, tupA, fg]; try (with_reducible (first | exact co_refl _ | exact co_own _ _ _ | exact co_nilsB | exact co_nilsL _ _)))))
  all_goals (try (refine co_eq ?_))
  all_goals (try (simp_all [Rg.right]))
  all_goals (try (repeat' (first | (refine And.intro ?_ ?_) | split)))
  all_goals (try (first | rfl | omega))
def fIdx (p : Rg → Bool) (k : Int) : List Rg → Int
  | [] => -1
  | x :: l => if p x then k else fIdx p (k + 1) l
set_option maxRecDepth 100000 in
theorem pIndex (g : Nat) (cap : List AV) (hcap : purAs cap = true) (p : Rg → Bool) (hp : ∀ x : Rg, Pure Try.prog g (x.v :: cap) (.d (.bool (p x)))) (l : List Rg) : Pure Try.prog 42 [rl l, .fn g cap] (.d (.int .i64 (fIdx p 0 l))) := by
  refine pure_intro Try.func42 rfl rfl rfl 19 rfl (fun hh => ?_)
  have hmax := (has_sl (hh (rl l) (by simp))).1
  rw [encL_len] at hmax
  have hmx : maxLen = 9223372036854775807 := rfl
  repeat' (first
    | ((with_reducible (first
     | (refine PW.seq fun K1 hK1 => ?_) | (refine PW.region fun K2 hK2 => ?_) | ((refine hK3 _ ?_; clear hK3)) | ((refine opsP_nil ?_; refine hK2 _ ?_; clear hK2)) 
     | (refine PW.block ?_) )))
    | ((simp only [thenP]; (try ((repeat (fail_if_success (with_reducible refine hK1 _ ?_)); clear hK1); (with_reducible refine hK1 _ ?_); clear hK1))))
    | (((first | (((with_reducible refine opsP_cons fun K3 hK3 => ?_); simp only [wantP, opP, valP, Ur, Us])) | (skip)); simp (disch := omega) only [St.eval, St.put, upd_app, iniT_app, avOf, avOf1, nom, lenP, builtinP, isMapA, U7, PmL, simprocAttr, PmT]; try (with_reducible (first | exact co_refl _ | exact co_own _ _ _ | exact co_nilsB | exact co_nilsL _ _)))))
  (with_reducible refine PW.loop (fun n s => ∃ k : Nat, s.t 0 = rl l ∧ s.t 1 = .fn g cap ∧ s.t 7 = .d (.int .i64 l.length) ∧ s.t 8 = .d (.int .i64 k) ∧ s.n = 19 ∧ s.m = nom ∧ k ≤ l.length ∧ n = l.length - k ∧ fIdx p k (l.drop k) = fIdx p 0 l) l.length ?_ ?_)
  · exact ⟨0, rfl, rfl, rfl, rfl, rfl, rfl, Nat.zero_le _, rfl, rfl⟩
  rintro n ⟨t, nn, m⟩ ⟨k, h0, h1, h7, h8, hn, hm, hk, hnk, hs⟩ - -
  simp only at h0 h1 h7 h8 hn hm
  subst hn hm
  by_cases hlt : (k : Int) < l.length
  · have hlt' := eq_true hlt
    have hw : IntKind.i64.wrap ((k : Int) + 1) = k + 1 := IntWalk.i64_in ((k : Int) + 1) (by omega)
    obtain ⟨x, hx⟩ : ∃ x, l[k]? = some x := ⟨_, List.getElem?_eq_getElem (by omega)⟩
    repeat' (first
      | ((with_reducible (first
       | (refine PW.seq fun K1 hK1 => ?_) | (refine PW.region fun K2 hK2 => ?_) | ((refine hK3 _ ?_; clear hK3)) | ((refine opsP_nil ?_; refine hK2 _ ?_; clear hK2)) 
       | (refine PW.block ?_) | (refine PW.skip ?_) | (refine PW.ret ?_) | ((refine hX1 ?_; clear hX1 hY1; try simp only [hb])) | ((refine hY1 ?_; clear hX1 hY1; try simp only [hb])) )))
      | (((first | (with_reducible refine wantB_intro (fun hb => ?_) (fun hb => ?_)) | (with_reducible refine condB_intro (fun hb => ?_) (fun hb => ?_))) <;> ((try (have hp := hb; simp only [PmH, beq_iff_eq, beq_eq_false_iff_ne, ne_eq] at hp)); try simp only [hb, Bool.not_true, Bool.not_false])))
      | (((with_reducible refine cC_pure ?_ (hp ?_) (fun _ => ?_)); (focus ((repeat' (first | (refine .cons ?_ ?_) | (exact .nil) | (exact .d _) | (refine .agg ?_) | (refine .rf _ ?_))) <;> (simp only [hcap]; done)))))
      | (((with_reducible refine And.intro ?_ ?_); (focus (first | omega | (simp; done) | assumption))))
      | ((simp only [thenP, blockP]; (try ((repeat (fail_if_success (with_reducible refine hK1 _ ?_)); clear hK1); (with_reducible refine hK1 _ ?_); clear hK1))))
      | (((first | (((with_reducible refine opsP_cons fun K3 hK3 => ?_); simp only [wantP, opP, valP, Ur, Us])) | ((with_reducible refine PW.condM fun X1 Y1 hX1 hY1 => ?_)) | (skip)); simp (disch := omega) only [St.eval, St.put, upd_app, avOf, avOf1, nom, loadA, binP, intsP, intP, nilP, slA, Uf, Ug, Un, Up, Ur, Us, Ut, Uu, V2, V7, V9, Ve, Vr, PmL, simprocAttr, PmT, h0, h1, h7, h8, hlt', hx, hw, Rg.c, retQ, resP, tupA, fg, condP, condB_t]; try (with_reducible (first | exact co_refl _ | exact co_own _ _ _ | exact co_nilsB | exact co_nilsL _ _)))))
    · refine co_eq ?_
      rw [← hs, drop_cons hx, fIdx, if_pos hb]
    · refine ⟨l.length - (k + 1), by omega, k + 1, ?_, ?_, ?_, ?_, ?_, ?_, by omega, rfl, ?_⟩
      case refine_7 => rw [← hs, drop_cons hx, fIdx, if_neg (by simp [hb])]; rfl
      all_goals (simp only [St.cut, Mem.cut, fg, upd_app, Nat.reduceEqDiff, ↓reduceIte, List.take_nil, List.map_nil, Int.natCast_add, Int.cast_ofNat_Int, h0, h1, h7]; try rfl)
      all_goals (congr 2; exact fgs_pur cap hcap)
  · have hlt' := eq_false hlt
    repeat' (first
      | ((with_reducible (first
       | (refine PW.seq fun K1 hK1 => ?_) | (refine PW.region fun K2 hK2 => ?_) | ((refine hK3 _ ?_; clear hK3)) | ((refine opsP_nil ?_; refine hK2 _ ?_; clear hK2)) 
       | (refine PW.exit ?_) | (refine PW.ret ?_) | ((refine hY1 ?_; clear hX1 hY1; try simp only [hb])) )))
      | ((simp only [thenP, blockP, ↓reduceIte]; (try ((repeat (fail_if_success (with_reducible refine hK1 _ ?_)); clear hK1); (with_reducible refine hK1 _ ?_); clear hK1))))
      | (((first | (((with_reducible refine opsP_cons fun K3 hK3 => ?_); simp only [wantP, opP, valP])) | ((with_reducible refine PW.condM fun X1 Y1 hX1 hY1 => ?_)) | (skip)); simp (disch := omega) only [St.eval, St.put, upd_app, avOf, avOf1, nom, binP, intsP, intP, nilP, slA, PmL, simprocAttr, h7, h8, hlt', retQ, resP, tupA, fg, condP, condB_f]; try (with_reducible (first | exact co_refl _ | exact co_own _ _ _ | exact co_nilsB | exact co_nilsL _ _)))))
    refine co_eq ?_
    rw [← hs, List.drop_eq_nil_of_le (by omega)]
    rfl
theorem fIdx_any (p : Rg → Bool) : ∀ (l : List Rg) (k : Int), 0 ≤ k → decide (0 ≤ fIdx p k l) = l.any p
  | [], k, _ => rfl
  | x :: l, k, hk => by
    rw [fIdx, List.any_cons, ← fIdx_any p l (k + 1) (by omega)]
    split
    · rename_i h; simp [h, hk]
    · rename_i h; simp [h]
set_option maxRecDepth 100000 in
theorem pContains (g : Nat) (cap : List AV) (hcap : purAs cap = true) (p : Rg → Bool) (hp : ∀ x : Rg, Pure Try.prog g (x.v :: cap) (.d (.bool (p x)))) (l : List Rg) : Pure Try.prog 62 [rl l, .fn g cap] (.d (.bool (l.any p))) := by
  refine pure_intro Try.func62 rfl rfl rfl 9 rfl (fun hh => ?_)
  repeat' (first
    | ((with_reducible (first
     | (refine PW.seq fun K1 hK1 => ?_) | (refine PW.region fun K2 hK2 => ?_) | ((refine hK3 _ ?_; clear hK3)) | ((refine opsP_nil ?_; refine hK2 _ ?_; clear hK2)) 
     | (refine PW.ret ?_) )))
    | (((with_reducible refine cC_pure ?_ (pIndex g cap hcap p hp ?_) (fun _ => ?_)); (focus ((repeat' (first | (refine .cons ?_ ?_) | (exact .nil) | (exact .d _) | (refine .fn ?_) | (refine .rf _ ?_))) <;> (simp only [hcap]; done)))))
    | ((simp only [thenP]; (try ((repeat (fail_if_success (with_reducible refine hK1 _ ?_)); clear hK1); (with_reducible refine hK1 _ ?_); clear hK1))))
    | (((first | (((with_reducible refine opsP_cons fun K3 hK3 => ?_); simp only [wantP, opP, valP, Ur, Us])) | (skip)); simp (disch := omega) only [St.eval, St.put, upd_app, iniT_app, avOf, avOf1, nom, binP, intsP, intP, nilP, slA, U7, U8, Uv, Ve, PmL, simprocAttr, retQ, resP, tupA, fg]; try (with_reducible (first | exact co_refl _ | exact co_own _ _ _ | exact co_nilsB | exact co_nilsL _ _)))))
  refine co_eq ?_
  rw [fIdx_any p l 0 (by omega)]
set_option maxRecDepth 100000 in
theorem pBytes1 (x : Rg) : Pure Try.prog 63 [x.v] (.d (.bool (!x.right))) := by
  refine pure_intro Try.func63 rfl rfl rfl 6 rfl (fun hh => ?_)
  repeat' (first
    | ((with_reducible (first
     | (refine PW.seq fun K1 hK1 => ?_) | (refine PW.region fun K2 hK2 => ?_) | ((refine hK3 _ ?_; clear hK3)) | ((refine opsP_nil ?_; refine hK2 _ ?_; clear hK2)) 
     | (refine PW.ret ?_) )))
    | (((with_reducible refine cC_pure ?_ (pright ?_) (fun _ => ?_)); (focus ((repeat' (first | (refine .cons ?_ ?_) | (exact .nil) | (exact .d _) | (refine .agg ?_) )); done))))
    | ((simp only [thenP]; (try ((repeat (fail_if_success (with_reducible refine hK1 _ ?_)); clear hK1); (with_reducible refine hK1 _ ?_); clear hK1))))
    | (((first | (((with_reducible refine opsP_cons fun K3 hK3 => ?_); simp only [wantP, opP, valP, Ur, Us])) | (skip)); simp (disch := omega) only [St.eval, St.put, upd_app, iniT_app, avOf, avOf1, nom, cellsA, AV.okv, loadA, unP, U7, Ua, Uf, Ug, Uk, Un, Up, Ut, Uv, V9, Ve, Vr, PmL, simprocAttr, PmT, retQ, resP, tupA, fg]; try (with_reducible (first | exact co_refl _ | exact co_own _ _ _ | exact co_nilsB | exact co_nilsL _ _)))))
end PM
end Go.Proofs.Ytbeniogffhihlaa
