/- expr in the abstract: whether a text is like a pattern, the program's way. -/
import Derived.Test.YtndomnknjlihhaaDoorExP
import Derived.Test.YtndomnknjlihhaaDoorPgLib
set_option linter.unusedVariables false
set_option linter.unusedSimpArgs false
namespace Go.Proofs.YtndomnknjlihhaaDoor
open Go.RowKit
namespace PM
set_option maxRecDepth 100000 in
theorem pSign (Q : List Int) (p : Nat) (c : Int) (hp : p ≤ Q.length) : Pure Tryd.prog 24 [.d (.str Q), .d (.int .i64 p), .d (.int .u8 c)] (.tup [.d (.int .i64 (signS Q p c).1), .d (.bool (signS Q p c).2)]) := by
  refine pure_intro Tryd.func24 rfl rfl rfl 41 rfl (fun hh => ?_)
  have hmx : maxLen = 9223372036854775807 := rfl
  have hl := (has_str (hh (.d (.str Q)) (by simp))).2
  unfold signS
  cases hq : Q[p]? with
  | none =>
    have := List.getElem?_eq_none_iff.1 hq
    have h1 : ((p : Int) = (Q.length : Int)) = True := eq_true (by omega)
    repeat' (first
      | ((with_reducible (first
       | (refine PW.seq fun K1 hK1 => ?_) | (refine PW.region fun K2 hK2 => ?_) | ((refine hK3 _ ?_; clear hK3)) | ((refine opsP_nil ?_; refine hK2 _ ?_; clear hK2)) | (refine PW.block ?_) 
       | (refine PW.ret ?_) | ((refine hX1 ?_; clear hX1 hY1; try simp only [hb])) )))
      | ((simp only [thenP, blockP]; (try ((repeat (fail_if_success (with_reducible refine hK1 _ ?_)); clear hK1); (with_reducible refine hK1 _ ?_); clear hK1))))
      | (((first | (((with_reducible refine opsP_cons fun K3 hK3 => ?_); simp only [wantP, opP, valP, Ur, Us])) | ((with_reducible refine PW.condM fun X1 Y1 hX1 hY1 => ?_)) | (skip)); simp (disch := omega) only [St.eval, St.put, upd_app, iniT_app, avOf, avOf1, nom, lenP, binP, intsP, intP, nilP, builtinP, isMapA, slA, U7, U8, PmL, simprocAttr, PmT, h1, retQ, resP, tupA, fg, fgs, condP, condB_t]; try (with_reducible (first | exact co_refl _ | exact co_own _ _ _ | exact co_nilsB | exact co_nilsL _ _)))))
  | some d =>
    have := (List.getElem?_eq_some_iff.1 hq).1
    have h1 : ((p : Int) = (Q.length : Int)) = False := eq_false (by omega)
    have hw : IntKind.i64.wrap ((p : Int) + 1) = p + 1 := IntWalk.i64_in ((p : Int) + 1) (by omega)
    by_cases h2 : d = 95
    · have h2' := eq_true h2
      repeat' (first
        | ((with_reducible (first
         | (refine PW.seq fun K1 hK1 => ?_) | (refine PW.region fun K2 hK2 => ?_) | ((refine hK3 _ ?_; clear hK3)) | ((refine opsP_nil ?_; refine hK2 _ ?_; clear hK2)) | (refine PW.block ?_) 
         | (refine PW.ret ?_) | ((refine hX1 ?_; clear hX1 hY1; try simp only [hb])) | ((refine hY1 ?_; clear hX1 hY1; try simp only [hb])) )))
        | (((with_reducible refine And.intro ?_ ?_); (focus (first | omega | (simp; done) | assumption))))
        | ((simp only [thenP, blockP]; (try ((repeat (fail_if_success (with_reducible refine hK1 _ ?_)); clear hK1); (with_reducible refine hK1 _ ?_); clear hK1))))
        | (((first | (((with_reducible refine opsP_cons fun K3 hK3 => ?_); simp only [wantP, opP, valP, Ur, Us])) | ((with_reducible refine PW.condM fun X1 Y1 hX1 hY1 => ?_)) | (skip)); simp (disch := omega) only [St.eval, St.put, upd_app, iniT_app, avOf, avOf1, nom, lenP, binP, intsP, intP, nilP, builtinP, isMapA, slA, U7, U8, V7, PmL, simprocAttr, PmT, h1, hq, h2', retQ, resP, tupA, fg, fgs, condP, condB_t, condB_f]; try (with_reducible (first | exact co_refl _ | exact co_own _ _ _ | exact co_nilsB | exact co_nilsL _ _)))))
    · have h2' := eq_false h2
      by_cases h3 : d = 92
      · have h3' := eq_true h3
        cases hq2 : Q[p + 1]? with
        | none =>
          have := List.getElem?_eq_none_iff.1 hq2
          have h4 : ((p : Int) + 1 < (Q.length : Int)) = False := eq_false (by omega)
          subst h3
          repeat' (first
            | ((with_reducible (first
             | (refine PW.seq fun K1 hK1 => ?_) | (refine PW.region fun K2 hK2 => ?_) | ((refine hK3 _ ?_; clear hK3)) | ((refine opsP_nil ?_; refine hK2 _ ?_; clear hK2)) | (refine PW.block ?_) | (refine PW.skip ?_)
             | (refine PW.ret ?_) | ((refine hY1 ?_; clear hX1 hY1; try simp only [hb])) | ((refine opsO_nil ?_; refine hK2 _ ?_; clear hK2)) )))
            | (((with_reducible refine PW.drawR (id := 7) mixed [] [(0, true), (1, true), (2, true), (3, true), (4, true), (5, true), (6, true)] (by kernel_rfl) (by decide) fun K2 hK2 => ?_)))
            | (((with_reducible refine And.intro ?_ ?_); (focus (first | omega | (simp; done) | assumption))))
            | ((simp only [thenP, blockP, ↓reduceIte]; (try ((repeat (fail_if_success (with_reducible refine hK1 _ ?_)); clear hK1); (with_reducible refine hK1 _ ?_); clear hK1))))
            | (((first | (((with_reducible refine opsP_cons fun K3 hK3 => ?_); simp only [wantP, opP, valP, Ur, Us])) | (((with_reducible refine opsO_first (o := ?_) ?_ fun K3 hK3 => ?_); rotate_left 1; (focus (simp only [Uz, Ub, Ua] <;> rfl)); simp only [wantP, firstP, valP])) | ((with_reducible refine PW.condM fun X1 Y1 hX1 hY1 => ?_)) | (skip)); simp (disch := omega) only [wantB_tt, St.eval, St.put, upd_app, iniT_app, avOf, avOf1, nom, lenP, binP, intsP, intP, nilP, builtinP, isMapA, slA, U7, U8, Ua, Ub, Uz, V4, V7, Ve, PmL, simprocAttr, PmT, h1, hq, h2', hw, h4, retQ, resP, tupA, fg, fgs, condP, condB_f, firstOk]; try (with_reducible (first | exact co_refl _ | exact co_own _ _ _ | exact co_nilsB | exact co_nilsL _ _)))))
        | some e =>
          have := (List.getElem?_eq_some_iff.1 hq2).1
          have h4 : ((p : Int) + 1 < (Q.length : Int)) = True := eq_true (by omega)
          have h5 : ((p : Int) + 1).toNat = p + 1 := by omega
          repeat' (first
            | ((with_reducible (first
             | (refine PW.seq fun K1 hK1 => ?_) | (refine PW.region fun K2 hK2 => ?_) | ((refine hK3 _ ?_; clear hK3)) | ((refine opsP_nil ?_; refine hK2 _ ?_; clear hK2)) | (refine PW.block ?_) 
             | (refine PW.ret ?_) | ((refine hX1 ?_; clear hX1 hY1; try simp only [hb])) | ((refine hY1 ?_; clear hX1 hY1; try simp only [hb])) | ((refine opsO_nil ?_; refine hK2 _ ?_; clear hK2)) )))
            | (((with_reducible refine PW.drawR (id := 6) mixed [] [(0, true), (1, true), (2, true), (3, true), (4, true), (5, true), (6, true), (7, true)] (by kernel_rfl) (by decide) fun K2 hK2 => ?_)))
            | (((with_reducible refine And.intro ?_ ?_); (focus (first | omega | (simp; done) | assumption))))
            | ((simp only [thenP, blockP]; (try ((repeat (fail_if_success (with_reducible refine hK1 _ ?_)); clear hK1); (with_reducible refine hK1 _ ?_); clear hK1))))
            | (((first | (((with_reducible refine opsP_cons fun K3 hK3 => ?_); simp only [wantP, opP, valP, Ur, Us])) | (((with_reducible refine opsO_first (o := ?_) ?_ fun K3 hK3 => ?_); rotate_left 1; (focus (simp only [Uz, Ub, Ua] <;> rfl)); simp only [wantP, firstP, valP])) | ((with_reducible refine PW.condM fun X1 Y1 hX1 hY1 => ?_)) | (skip)); simp (disch := omega) only [wantB_tt, St.eval, St.put, upd_app, iniT_app, avOf, avOf1, nom, lenP, binP, intsP, intP, nilP, builtinP, isMapA, slA, U7, U8, Ua, Ub, Uz, V4, V7, PmL, simprocAttr, PmT, h1, hq, h2', h3', hw, h4, h5, hq2, retQ, resP, tupA, fg, fgs, condP, condB_t, condB_f, firstOk]; try (with_reducible (first | exact co_refl _ | exact co_own _ _ _ | exact co_nilsB | exact co_nilsL _ _)))))
      · have h3' := eq_false h3
        repeat' (first
          | ((with_reducible (first
           | (refine PW.seq fun K1 hK1 => ?_) | (refine PW.region fun K2 hK2 => ?_) | ((refine hK3 _ ?_; clear hK3)) | ((refine opsP_nil ?_; refine hK2 _ ?_; clear hK2)) | (refine PW.block ?_) | (refine PW.skip ?_)
           | (refine PW.ret ?_) | ((refine hY1 ?_; clear hX1 hY1; try simp only [hb])) | ((refine opsO_nil ?_; refine hK2 _ ?_; clear hK2)) )))
          | (((with_reducible refine PW.drawR (id := 7) mixed [] [(0, true), (1, true), (2, true), (3, true), (4, true), (5, true), (6, true)] (by kernel_rfl) (by decide) fun K2 hK2 => ?_)))
          | (((with_reducible refine And.intro ?_ ?_); (focus (first | omega | (simp; done) | assumption))))
          | ((simp only [thenP, blockP]; (try ((repeat (fail_if_success (with_reducible refine hK1 _ ?_)); clear hK1); (with_reducible refine hK1 _ ?_); clear hK1))))
          | (((first | ((with_reducible (first | refine opsP_consMt (d := ?_) (dj := ?_) (b := ?_) (r := ?_) ?_ ?_ (fun hb => ?_) (fun K3 hK3 => ?_) | refine opsP_consMf (d := ?_) (dj := ?_) (b := ?_) (r := ?_) ?_ ?_ (fun hb => ?_) (fun K3 hK3 => ?_))); rotate_left 3; (focus exact rfl); (focus (simp only [upd_app, simprocAttr]; exact rfl))) | ((with_reducible (first | refine opsP_consNt (d := ?_) (dj := ?_) (b := ?_) (r := ?_) (c := ?_) ?_ ?_ (fun hb => ?_) (fun K3 hK3 => ?_) | refine opsP_consNf (d := ?_) (dj := ?_) (b := ?_) (r := ?_) (c := ?_) ?_ ?_ (fun hb => ?_) (fun K3 hK3 => ?_))); rotate_left 4; (focus exact rfl); (focus (simp only [St.put, upd_app, iniT_app, simprocAttr, mrg_t, mrg_f]; exact rfl)))); (focus (simp only [opP, valP, Ur, Us]; (try (simp only [Bool.and_eq_true, Bool.not_eq_true'] at hb)); (try (have hp := hb; simp only [PmH, beq_iff_eq, beq_eq_false_iff_ne, ne_eq] at hp)); simp (disch := omega) only [St.eval, upd_app, iniT_app, avOf, avOf1, binP, nilP, builtinP, maplenP, isMapA, slA, U7, U8, PmL, simprocAttr, hb]; (repeat' (first | (exact rfl) | ((refine And.intro ?_ ?_); (focus (exact rfl)); (exact rfl)) | (refine And.intro (by first | omega | (simp; done) | assumption) ?_))); done)); (try simp only [St.put, Nat.reduceLT, ↓reduceIte, mrg_f])))
          | (((first | (((with_reducible refine opsP_cons fun K3 hK3 => ?_); simp only [wantP, opP, valP, Ur, Us])) | (((with_reducible refine opsO_first (o := ?_) ?_ fun K3 hK3 => ?_); rotate_left 1; (focus (simp only [Uz, Ub, Ua] <;> rfl)); simp only [wantP, firstP, valP])) | ((with_reducible refine PW.condM fun X1 Y1 hX1 hY1 => ?_)) | (skip)); simp (disch := omega) only [wantB_ft, St.eval, St.put, upd_app, iniT_app, avOf, avOf1, nom, lenP, binP, intsP, intP, nilP, builtinP, isMapA, slA, U7, U8, Ua, Ub, Uz, V4, V7, Ve, PmL, simprocAttr, PmT, h1, hq, h2', h3', retQ, resP, tupA, fg, fgs, condP, condB_f, firstOk]; try (with_reducible (first | exact co_refl _ | exact co_own _ _ _ | exact co_nilsB | exact co_nilsL _ _)))))
def stI : Option Nat → Int
  | none => -1
  | some k => k
/-- what a round lowers -/
def meaK (L : Nat) (st : Option Nat) (mk : Nat) : Nat := match st with
  | none => L + 1
  | some _ => L - mk
def mea (L N a p : Nat) (st : Option Nat) (mk : Nat) : Nat := meaK L st mk * (L + N + 2) + ((L - a) + (N - p))
theorem mea_star {L N a p : Nat} {st : Option Nat} {mk : Nat} (hp : p < N) (hm : ∀ k, st = some k → mk ≤ a) : mea L N a (p + 1) (some (p + 1)) a < mea L N a p st mk := by
  unfold mea
  have : meaK L (some (p + 1)) a * (L + N + 2) ≤ meaK L st mk * (L + N + 2) := Nat.mul_le_mul_right _ (by
    cases st with
    | none => simp only [meaK]; omega
    | some k => have := hm k rfl; simp only [meaK]; omega)
  exact Nat.lt_of_le_of_lt (Nat.add_le_add_right this _) (Nat.add_lt_add_left (by omega) _)
theorem mea_is {L N a p n : Nat} {st : Option Nat} {mk : Nat} (ha : a < L) : mea L N (a + 1) (p + n) st mk < mea L N a p st mk := by
  unfold mea
  exact Nat.add_lt_add_left (by omega) _
theorem mea_back {L N a p k mk : Nat} (hm : mk < L) : mea L N (mk + 1) k (some k) (mk + 1) < mea L N a p (some k) mk := by
  unfold mea
  have : meaK L (some k) mk * (L + N + 2) = meaK L (some k) (mk + 1) * (L + N + 2) + (L + N + 2) := by
    simp only [meaK]
    rw [show L - mk = (L - (mk + 1)) + 1 by omega, Nat.add_mul, Nat.one_mul]
  rw [this]
  generalize meaK L (some k) (mk + 1) * (L + N + 2) = X
  omega
set_option maxRecDepth 100000 in
set_option maxHeartbeats 4000000 in
theorem pLike (T Q : List Int) : Pure Tryd.prog 12 [.d (.str T), .d (.str Q)] (.d (.bool (likeM (signs Q) T))) := by
  refine pure_intro Tryd.func12 rfl rfl rfl 58 rfl (fun hh => ?_)
  have hmx : maxLen = 9223372036854775807 := rfl
  obtain ⟨rT, lT⟩ := has_str (hh (.d (.str T)) (by simp))
  obtain ⟨rQ, lQ⟩ := has_str (hh (.d (.str Q)) (by simp))
  obtain ⟨ans, hans⟩ : ∃ r, likeM (signs Q) T = r := ⟨_, rfl⟩
  rw [hans]
  repeat' (first
    | ((with_reducible (first
     | (refine PW.seq fun K1 hK1 => ?_) | (refine PW.region fun K2 hK2 => ?_) | ((refine hK3 _ ?_; clear hK3)) | ((refine opsP_nil ?_; refine hK2 _ ?_; clear hK2)) 
     | (refine PW.block ?_) )))
    | ((simp only [thenP]; (try ((repeat (fail_if_success (with_reducible refine hK1 _ ?_)); clear hK1); (with_reducible refine hK1 _ ?_); clear hK1))))
    | (((first | (((with_reducible refine opsP_cons fun K3 hK3 => ?_); simp only [wantP, opP, valP])) | (skip)); simp (disch := omega) only [St.eval, St.put, avOf, avOf1, nom, PmL, simprocAttr]; try (with_reducible (first | exact co_refl _ | exact co_own _ _ _ | exact co_nilsB | exact co_nilsL _ _)))))
  (with_reducible refine PW.loop (fun n s => ∃ (a p : Nat) (st : Option Nat) (mk : Nat), s.t 0 = .d (.str T) ∧ s.t 1 = .d (.str Q) ∧ s.t 5 = .d (.int .i64 a) ∧ s.t 6 = .d (.int .i64 p) ∧ s.t 7 = .d (.int .i64 (stI st)) ∧ s.t 8 = .d (.int .i64 mk) ∧ s.n = 58 ∧ s.m = nom ∧ Gr T Q ans a p st mk ∧ n = mea T.length Q.length a p st mk) (mea T.length Q.length 0 0 none 0) ?_ ?_)
  · exact ⟨0, 0, none, 0, rfl, rfl, rfl, rfl, rfl, rfl, rfl, rfl, ⟨Nat.zero_le _, Nat.zero_le _, hans.symm⟩, rfl⟩
  rintro n ⟨t, nn, m⟩ ⟨a, p, st, mk, h0, h1, h5, h6, h7, h8, hn, hm, hg, hnk⟩ - -
  simp only at h0 h1 h5 h6 h7 h8 hn hm
  subst hn hm
  subst hnk
  have hap := hg.1
  have hpp := hg.2.1
  by_cases hlt : (a : Int) < T.length
  · have hlt' := eq_true hlt
    obtain ⟨c, hc⟩ : ∃ c, T[a]? = some c := ⟨_, List.getElem?_eq_getElem (by omega)⟩
    have hcr := rT c (List.mem_of_getElem? hc)
    have hwa : IntKind.i64.wrap ((a : Int) + 1) = a + 1 := IntWalk.i64_in ((a : Int) + 1) (by omega)
    have hS := pSign Q p c hpp
    obtain ⟨⟨sn, sb⟩, hs⟩ : ∃ r, signS Q p c = r := ⟨_, rfl⟩
    rw [hs] at hS
    simp only at hS
    by_cases hq7 : Q[p]? = some 37
    · have := (List.getElem?_eq_some_iff.1 hq7).1
      have hpl : ((p : Int) < (Q.length : Int)) = True := eq_true (by omega)
      have hwp : IntKind.i64.wrap ((p : Int) + 1) = p + 1 := IntWalk.i64_in ((p : Int) + 1) (by omega)
      repeat' (first
        | ((with_reducible (first
         | (refine PW.seq fun K1 hK1 => ?_) | (refine PW.region fun K2 hK2 => ?_) | ((refine hK3 _ ?_; clear hK3)) | ((refine opsP_nil ?_; refine hK2 _ ?_; clear hK2)) 
         | (refine PW.block ?_) | (refine PW.skip ?_) | ((refine hX1 ?_; clear hX1 hY1; try simp only [hb])) )))
        | (((with_reducible refine cC_pure ?_ (hS) (fun _ => ?_)); (focus ((repeat' constructor) <;> (simp only [purAs, purA, Vf, Bool.and_self, h0, h1, h5, h6, h7, h8, hlt', hc, hpl, hq7, hwp]; done)))))
        | (((with_reducible refine And.intro ?_ ?_); (focus (first | omega | (simp; done) | assumption))))
        | ((simp only [thenP, blockP]; (try ((repeat (fail_if_success (with_reducible refine hK1 _ ?_)); clear hK1); (with_reducible refine hK1 _ ?_); clear hK1))))
        | (((first | ((with_reducible (first | refine opsP_consMt (d := ?_) (dj := ?_) (b := ?_) (r := ?_) ?_ ?_ (fun hb => ?_) (fun K3 hK3 => ?_) | refine opsP_consMf (d := ?_) (dj := ?_) (b := ?_) (r := ?_) ?_ ?_ (fun hb => ?_) (fun K3 hK3 => ?_))); rotate_left 3; (focus exact rfl); (focus (simp only [upd_app, simprocAttr]; exact rfl))) | ((with_reducible (first | refine opsP_consNt (d := ?_) (dj := ?_) (b := ?_) (r := ?_) (c := ?_) ?_ ?_ (fun hb => ?_) (fun K3 hK3 => ?_) | refine opsP_consNf (d := ?_) (dj := ?_) (b := ?_) (r := ?_) (c := ?_) ?_ ?_ (fun hb => ?_) (fun K3 hK3 => ?_))); rotate_left 4; (focus exact rfl); (focus (simp only [St.put, upd_app, iniT_app, simprocAttr, mrg_t, mrg_f]; exact rfl)))); (focus (simp only [opP, valP]; (try (simp only at hb)); (try (have hp := hb; simp only [PmH, beq_iff_eq, beq_eq_false_iff_ne, ne_eq] at hp)); simp (disch := omega) only [St.eval, upd_app, avOf, avOf1, binP, intsP, intP, nilP, slA, V7, PmL, simprocAttr, PmT, h1, h6, hq7]; (repeat' (first | (exact rfl) | ((refine And.intro ?_ ?_); (focus (exact rfl)); (exact rfl)) | (refine And.intro (by first | omega | (simp; done) | assumption) ?_) | ((with_reducible refine cC_pure ?_ (hS) (fun _ => ?_)); (focus ((repeat' constructor) <;> (simp only [purAs, purA, Vf, Bool.and_self, h0, h1, h5, h6, h7, h8, hlt', hc, hpl, hq7, hwp]; done)))))); done)); (try simp only [St.put, Nat.reduceLT, ↓reduceIte, mrg_t])))
        | (((first | (((with_reducible refine opsP_cons fun K3 hK3 => ?_); simp only [wantP, opP, valP, Ur, Us])) | ((with_reducible refine PW.condM fun X1 Y1 hX1 hY1 => ?_)) | (skip)); simp (disch := omega) only [St.eval, St.put, upd_app, avOf, avOf1, nom, lenP, binP, intsP, intP, nilP, builtinP, isMapA, slA, Ua, Ub, Ug, Uv, V7, PmL, simprocAttr, PmT, h0, h1, h5, h6, hlt', hc, hpl, hwp, condP, condB_t]; try (with_reducible (first | exact co_refl _ | exact co_own _ _ _ | exact co_nilsB | exact co_nilsL _ _)))))
      refine ⟨_, mea_star (by omega) (fun k hk => ?_), a, p + 1, some (p + 1), a, ?_, ?_, ?_, ?_, ?_, ?_, ?_, ?_, gr_star hg (by omega) hq7, rfl⟩
      · subst hk; exact hg.2.2.2.1
      all_goals (simp only [St.cut, Mem.cut, fg, upd_app, Nat.reduceEqDiff, ↓reduceIte, List.take_nil, List.map_nil, Int.natCast_add, Int.cast_ofNat_Int, h0, h1, h5, stI]; try rfl)
    · obtain ⟨hT1, hT2⟩ := sign_spec (c := c) rQ hq7 (T.drop (a + 1))
      rw [hs] at hT1 hT2
      simp only at hT1 hT2
      rw [← dropG hc] at hT2
      cases hq : Q[p]? with
      | none =>
        have := List.getElem?_eq_none_iff.1 hq
        have hpl : ((p : Int) < (Q.length : Int)) = False := eq_false (by omega)
        cases sb with
        | true =>
          obtain ⟨s, k, -, hk, hkl, -⟩ := hT1 rfl
          omega
        | false =>
          cases st with
          | none =>
            repeat' (first
              | ((with_reducible (first
               | (refine PW.seq fun K1 hK1 => ?_) | (refine PW.region fun K2 hK2 => ?_) | ((refine hK3 _ ?_; clear hK3)) | ((refine opsP_nil ?_; refine hK2 _ ?_; clear hK2)) 
               | (refine PW.block ?_) | (refine PW.skip ?_) | (refine PW.ret ?_) | ((refine hX1 ?_; clear hX1 hY1; try simp only [hb])) | ((refine hY1 ?_; clear hX1 hY1; try simp only [hb])) )))
              | (((with_reducible refine cC_pure ?_ (hS) (fun _ => ?_)); (focus ((repeat' constructor) <;> (simp only [purAs, purA, Vf, Bool.and_self, h0, h1, h5, h6, h7, h8, hlt', hc, hpl, stI]; done)))))
              | (((with_reducible refine And.intro ?_ ?_); (focus (first | omega | (simp; done) | assumption))))
              | ((simp only [thenP, blockP]; (try ((repeat (fail_if_success (with_reducible refine hK1 _ ?_)); clear hK1); (with_reducible refine hK1 _ ?_); clear hK1))))
              | (((first | ((with_reducible (first | refine opsP_consMt (d := ?_) (dj := ?_) (b := ?_) (r := ?_) ?_ ?_ (fun hb => ?_) (fun K3 hK3 => ?_) | refine opsP_consMf (d := ?_) (dj := ?_) (b := ?_) (r := ?_) ?_ ?_ (fun hb => ?_) (fun K3 hK3 => ?_))); rotate_left 3; (focus exact rfl); (focus (simp only [upd_app, simprocAttr]; exact rfl))) | ((with_reducible (first | refine opsP_consNt (d := ?_) (dj := ?_) (b := ?_) (r := ?_) (c := ?_) ?_ ?_ (fun hb => ?_) (fun K3 hK3 => ?_) | refine opsP_consNf (d := ?_) (dj := ?_) (b := ?_) (r := ?_) (c := ?_) ?_ ?_ (fun hb => ?_) (fun K3 hK3 => ?_))); rotate_left 4; (focus exact rfl); (focus (simp only [St.put, upd_app, iniT_app, simprocAttr, mrg_t, mrg_f]; exact rfl)))); (focus (simp only [opP, valP]; (try (simp only [Bool.and_eq_true, Bool.not_eq_true'] at hb)); (try (have hp := hb; simp only [PmH, beq_iff_eq, beq_eq_false_iff_ne, ne_eq] at hp)); simp (disch := omega) only [St.eval, upd_app, avOf, avOf1, binP, eqP, nilP, slA, PmL, simprocAttr, h1, h6, hb]; (repeat' (first | (exact rfl) | ((refine And.intro ?_ ?_); (focus (exact rfl)); (exact rfl)) | (refine And.intro (by first | omega | (simp; done) | assumption) ?_) | ((with_reducible refine cC_pure ?_ (hS) (fun _ => ?_)); (focus ((repeat' constructor) <;> (simp only [purAs, purA, Vf, Bool.and_self, h0, h1, h5, h6, h7, h8, hlt', hc, hpl, stI]; done)))))); done)); (try simp only [St.put, Nat.reduceLT, ↓reduceIte, mrg_f])))
              | (((first | (((with_reducible refine opsP_cons fun K3 hK3 => ?_); simp only [wantP, opP, valP, Ur, Us])) | ((with_reducible refine PW.condM fun X1 Y1 hX1 hY1 => ?_)) | (skip)); simp (disch := omega) only [wantB_ft, St.eval, St.put, upd_app, avOf, avOf1, nom, lenP, binP, intsP, intP, eqP, nilP, builtinP, isMapA, slA, Ua, Ub, Uv, Uz, V4, V7, PmL, simprocAttr, PmT, h0, h1, h5, h6, h7, hlt', hc, hpl, stI, retQ, resP, tupA, fg, condP, condB_t, condB_f]; try (with_reducible (first | exact co_refl _ | exact co_own _ _ _ | exact co_nilsB | exact co_nilsL _ _)))))
            exact co_eq (by rw [gr_no hg (hT2 rfl)])
          | some k =>
            have hk0 : (0 ≤ (k : Int)) = True := eq_true (by omega)
            have hmk : mk < T.length := by have := hg.2.2.2.1; omega
            have hwm : IntKind.i64.wrap ((mk : Int) + 1) = mk + 1 := IntWalk.i64_in ((mk : Int) + 1) (by omega)
            repeat' (first
              | ((with_reducible (first
               | (refine PW.seq fun K1 hK1 => ?_) | (refine PW.region fun K2 hK2 => ?_) | ((refine hK3 _ ?_; clear hK3)) | ((refine opsP_nil ?_; refine hK2 _ ?_; clear hK2)) 
               | (refine PW.block ?_) | (refine PW.skip ?_) | ((refine hX1 ?_; clear hX1 hY1; try simp only [hb])) | ((refine hY1 ?_; clear hX1 hY1; try simp only [hb])) )))
              | (((with_reducible refine cC_pure ?_ (hS) (fun _ => ?_)); (focus ((repeat' constructor) <;> (simp only [purAs, purA, Vf, Bool.and_self, h0, h1, h5, h6, h7, h8, hlt', hc, hpl, stI, hk0, hwm]; done)))))
              | (((with_reducible refine And.intro ?_ ?_); (focus (first | omega | (simp; done) | assumption))))
              | ((simp only [thenP, blockP]; (try ((repeat (fail_if_success (with_reducible refine hK1 _ ?_)); clear hK1); (with_reducible refine hK1 _ ?_); clear hK1))))
              | (((first | ((with_reducible (first | refine opsP_consMt (d := ?_) (dj := ?_) (b := ?_) (r := ?_) ?_ ?_ (fun hb => ?_) (fun K3 hK3 => ?_) | refine opsP_consMf (d := ?_) (dj := ?_) (b := ?_) (r := ?_) ?_ ?_ (fun hb => ?_) (fun K3 hK3 => ?_))); rotate_left 3; (focus exact rfl); (focus (simp only [upd_app, simprocAttr]; exact rfl))) | ((with_reducible (first | refine opsP_consNt (d := ?_) (dj := ?_) (b := ?_) (r := ?_) (c := ?_) ?_ ?_ (fun hb => ?_) (fun K3 hK3 => ?_) | refine opsP_consNf (d := ?_) (dj := ?_) (b := ?_) (r := ?_) (c := ?_) ?_ ?_ (fun hb => ?_) (fun K3 hK3 => ?_))); rotate_left 4; (focus exact rfl); (focus (simp only [St.put, upd_app, iniT_app, simprocAttr, mrg_t, mrg_f]; exact rfl)))); (focus (simp only [opP, valP]; (try (simp only [Bool.and_eq_true, Bool.not_eq_true'] at hb)); (try (have hp := hb; simp only [PmH, beq_iff_eq, beq_eq_false_iff_ne, ne_eq] at hp)); simp (disch := omega) only [St.eval, upd_app, avOf, avOf1, binP, eqP, nilP, slA, PmL, simprocAttr, h1, h6, hb]; (repeat' (first | (exact rfl) | ((refine And.intro ?_ ?_); (focus (exact rfl)); (exact rfl)) | (refine And.intro (by first | omega | (simp; done) | assumption) ?_) | ((with_reducible refine cC_pure ?_ (hS) (fun _ => ?_)); (focus ((repeat' constructor) <;> (simp only [purAs, purA, Vf, Bool.and_self, h0, h1, h5, h6, h7, h8, hlt', hc, hpl, stI, hk0, hwm]; done)))))); done)); (try simp only [St.put, Nat.reduceLT, ↓reduceIte, mrg_f])))
              | (((first | (((with_reducible refine opsP_cons fun K3 hK3 => ?_); simp only [wantP, opP, valP, Ur, Us])) | ((with_reducible refine PW.condM fun X1 Y1 hX1 hY1 => ?_)) | (skip)); simp (disch := omega) only [wantB_ft, St.eval, St.put, upd_app, avOf, avOf1, nom, lenP, binP, intsP, intP, eqP, nilP, builtinP, isMapA, slA, Ua, Ub, Ug, Uv, Uz, V4, V7, PmL, simprocAttr, PmT, h0, h1, h5, h6, h7, h8, hlt', hc, hpl, stI, hk0, hwm, condP, condB_t, condB_f]; try (with_reducible (first | exact co_refl _ | exact co_own _ _ _ | exact co_nilsB | exact co_nilsL _ _)))))
            refine ⟨_, mea_back hmk, mk + 1, k, some k, mk + 1, ?_, ?_, ?_, ?_, ?_, ?_, ?_, ?_, gr_back hg (by omega) (hT2 rfl), rfl⟩
            all_goals (simp only [St.cut, Mem.cut, fg, upd_app, Nat.reduceEqDiff, ↓reduceIte, List.take_nil, List.map_nil, Int.natCast_add, Int.cast_ofNat_Int, h0, h1, h7, stI]; try rfl)
      | some d =>
        have := (List.getElem?_eq_some_iff.1 hq).1
        have hpl : ((p : Int) < (Q.length : Int)) = True := eq_true (by omega)
        have hd7 : (d = 37) = False := eq_false (fun h => hq7 (h ▸ hq))
        cases sb with
        | true =>
          obtain ⟨s, k, hsn, hk, hkl, hs1, hs2, hs3⟩ := hT1 rfl
          subst hsn
          have hwp : IntKind.i64.wrap ((p : Int) + (k : Int)) = p + k := IntWalk.i64_in ((p : Int) + k) (by omega)
          repeat' (first
            | ((with_reducible (first
             | (refine PW.seq fun K1 hK1 => ?_) | (refine PW.region fun K2 hK2 => ?_) | ((refine hK3 _ ?_; clear hK3)) | ((refine opsP_nil ?_; refine hK2 _ ?_; clear hK2)) 
             | (refine PW.block ?_) | (refine PW.skip ?_) | ((refine hX1 ?_; clear hX1 hY1; try simp only [hb])) | ((refine hY1 ?_; clear hX1 hY1; try simp only [hb])) )))
            | (((with_reducible refine cC_pure ?_ (hS) (fun _ => ?_)); (focus ((repeat' constructor) <;> (simp only [purAs, purA, Vf, Bool.and_self, h0, h1, h5, h6, h7, h8, hlt', hc, hpl, hq, hd7, hwp, hwa]; done)))))
            | (((with_reducible refine And.intro ?_ ?_); (focus (first | omega | (simp; done) | assumption))))
            | ((simp only [thenP, blockP]; (try ((repeat (fail_if_success (with_reducible refine hK1 _ ?_)); clear hK1); (with_reducible refine hK1 _ ?_); clear hK1))))
            | (((first | ((with_reducible (first | refine opsP_consMt (d := ?_) (dj := ?_) (b := ?_) (r := ?_) ?_ ?_ (fun hb => ?_) (fun K3 hK3 => ?_) | refine opsP_consMf (d := ?_) (dj := ?_) (b := ?_) (r := ?_) ?_ ?_ (fun hb => ?_) (fun K3 hK3 => ?_))); rotate_left 3; (focus exact rfl); (focus (simp only [upd_app, simprocAttr]; exact rfl))) | ((with_reducible (first | refine opsP_consNt (d := ?_) (dj := ?_) (b := ?_) (r := ?_) (c := ?_) ?_ ?_ (fun hb => ?_) (fun K3 hK3 => ?_) | refine opsP_consNf (d := ?_) (dj := ?_) (b := ?_) (r := ?_) (c := ?_) ?_ ?_ (fun hb => ?_) (fun K3 hK3 => ?_))); rotate_left 4; (focus exact rfl); (focus (simp only [St.put, upd_app, iniT_app, simprocAttr, mrg_t, mrg_f]; exact rfl)))); (focus (simp only [opP, valP]; (try (simp only at hb)); (try (have hp := hb; simp only [PmH, beq_iff_eq, beq_eq_false_iff_ne, ne_eq] at hp)); simp (disch := omega) only [St.eval, upd_app, avOf, avOf1, binP, intsP, intP, nilP, slA, V7, PmL, simprocAttr, PmT, h1, h6, hq, hd7]; (repeat' (first | (exact rfl) | ((refine And.intro ?_ ?_); (focus (exact rfl)); (exact rfl)) | (refine And.intro (by first | omega | (simp; done) | assumption) ?_) | ((with_reducible refine cC_pure ?_ (hS) (fun _ => ?_)); (focus ((repeat' constructor) <;> (simp only [purAs, purA, Vf, Bool.and_self, h0, h1, h5, h6, h7, h8, hlt', hc, hpl, hq, hd7, hwp, hwa]; done)))))); done)); (try simp only [St.put, Nat.reduceLT, ↓reduceIte, mrg_t])))
            | (((first | (((with_reducible refine opsP_cons fun K3 hK3 => ?_); simp only [wantP, opP, valP, Ur, Us])) | ((with_reducible refine PW.condM fun X1 Y1 hX1 hY1 => ?_)) | (skip)); simp (disch := omega) only [St.eval, St.put, upd_app, avOf, avOf1, nom, lenP, binP, intsP, intP, nilP, builtinP, isMapA, slA, Ua, Ub, Ug, Uv, V7, PmL, simprocAttr, PmT, h0, h1, h5, h6, hlt', hc, hpl, hwp, hwa, condP, condB_t, condB_f]; try (with_reducible (first | exact co_refl _ | exact co_own _ _ _ | exact co_nilsB | exact co_nilsL _ _)))))
          refine ⟨_, mea_is (n := k) (by omega), a + 1, p + k, st, mk, ?_, ?_, ?_, ?_, ?_, ?_, ?_, ?_, gr_is hg hc hkl hs1 hs2 hs3, rfl⟩
          all_goals (simp only [St.cut, Mem.cut, fg, upd_app, Nat.reduceEqDiff, ↓reduceIte, List.take_nil, List.map_nil, Int.natCast_add, Int.cast_ofNat_Int, h0, h1, h7, h8]; try rfl)
        | false =>
          cases st with
          | none =>
            repeat' (first
              | ((with_reducible (first
               | (refine PW.seq fun K1 hK1 => ?_) | (refine PW.region fun K2 hK2 => ?_) | ((refine hK3 _ ?_; clear hK3)) | ((refine opsP_nil ?_; refine hK2 _ ?_; clear hK2)) 
               | (refine PW.block ?_) | (refine PW.skip ?_) | (refine PW.ret ?_) | ((refine hX1 ?_; clear hX1 hY1; try simp only [hb])) | ((refine hY1 ?_; clear hX1 hY1; try simp only [hb])) )))
              | (((with_reducible refine cC_pure ?_ (hS) (fun _ => ?_)); (focus ((repeat' constructor) <;> (simp only [purAs, purA, Vf, Bool.and_self, h0, h1, h5, h6, h7, h8, hlt', hc, hpl, hq, hd7, stI]; done)))))
              | (((with_reducible refine And.intro ?_ ?_); (focus (first | omega | (simp; done) | assumption))))
              | ((simp only [thenP, blockP]; (try ((repeat (fail_if_success (with_reducible refine hK1 _ ?_)); clear hK1); (with_reducible refine hK1 _ ?_); clear hK1))))
              | (((first | ((with_reducible (first | refine opsP_consMt (d := ?_) (dj := ?_) (b := ?_) (r := ?_) ?_ ?_ (fun hb => ?_) (fun K3 hK3 => ?_) | refine opsP_consMf (d := ?_) (dj := ?_) (b := ?_) (r := ?_) ?_ ?_ (fun hb => ?_) (fun K3 hK3 => ?_))); rotate_left 3; (focus exact rfl); (focus (simp only [upd_app, simprocAttr]; exact rfl))) | ((with_reducible (first | refine opsP_consNt (d := ?_) (dj := ?_) (b := ?_) (r := ?_) (c := ?_) ?_ ?_ (fun hb => ?_) (fun K3 hK3 => ?_) | refine opsP_consNf (d := ?_) (dj := ?_) (b := ?_) (r := ?_) (c := ?_) ?_ ?_ (fun hb => ?_) (fun K3 hK3 => ?_))); rotate_left 4; (focus exact rfl); (focus (simp only [St.put, upd_app, iniT_app, simprocAttr, mrg_t, mrg_f]; exact rfl)))); (focus (simp only [opP, valP]; (try (simp only at hb)); (try (have hp := hb; simp only [PmH, beq_iff_eq, beq_eq_false_iff_ne, ne_eq] at hp)); simp (disch := omega) only [St.eval, upd_app, avOf, avOf1, binP, intsP, intP, nilP, slA, V7, PmL, simprocAttr, PmT, h1, h6, hq, hd7]; (repeat' (first | (exact rfl) | ((refine And.intro ?_ ?_); (focus (exact rfl)); (exact rfl)) | (refine And.intro (by first | omega | (simp; done) | assumption) ?_) | ((with_reducible refine cC_pure ?_ (hS) (fun _ => ?_)); (focus ((repeat' constructor) <;> (simp only [purAs, purA, Vf, Bool.and_self, h0, h1, h5, h6, h7, h8, hlt', hc, hpl, hq, hd7, stI]; done)))))); done)); (try simp only [St.put, Nat.reduceLT, ↓reduceIte, mrg_t])))
              | (((first | (((with_reducible refine opsP_cons fun K3 hK3 => ?_); simp only [wantP, opP, valP, Ur, Us])) | ((with_reducible refine PW.condM fun X1 Y1 hX1 hY1 => ?_)) | (skip)); simp (disch := omega) only [St.eval, St.put, upd_app, avOf, avOf1, nom, lenP, binP, intsP, intP, nilP, builtinP, isMapA, slA, Ua, Ub, Uv, V7, PmL, simprocAttr, PmT, h0, h1, h5, h6, h7, hlt', hc, hpl, stI, retQ, resP, tupA, fg, condP, condB_t, condB_f]; try (with_reducible (first | exact co_refl _ | exact co_own _ _ _ | exact co_nilsB | exact co_nilsL _ _)))))
            exact co_eq (by rw [gr_no hg (hT2 rfl)])
          | some k =>
            have hk0 : (0 ≤ (k : Int)) = True := eq_true (by omega)
            have hmk : mk < T.length := by have := hg.2.2.2.1; omega
            have hwm : IntKind.i64.wrap ((mk : Int) + 1) = mk + 1 := IntWalk.i64_in ((mk : Int) + 1) (by omega)
            repeat' (first
              | ((with_reducible (first
               | (refine PW.seq fun K1 hK1 => ?_) | (refine PW.region fun K2 hK2 => ?_) | ((refine hK3 _ ?_; clear hK3)) | ((refine opsP_nil ?_; refine hK2 _ ?_; clear hK2)) 
               | (refine PW.block ?_) | (refine PW.skip ?_) | ((refine hX1 ?_; clear hX1 hY1; try simp only [hb])) | ((refine hY1 ?_; clear hX1 hY1; try simp only [hb])) )))
              | (((with_reducible refine cC_pure ?_ (hS) (fun _ => ?_)); (focus ((repeat' constructor) <;> (simp only [purAs, purA, Vf, Bool.and_self, h0, h1, h5, h6, h7, h8, hlt', hc, hpl, hq, hd7, stI, hk0, hwm]; done)))))
              | (((with_reducible refine And.intro ?_ ?_); (focus (first | omega | (simp; done) | assumption))))
              | ((simp only [thenP, blockP]; (try ((repeat (fail_if_success (with_reducible refine hK1 _ ?_)); clear hK1); (with_reducible refine hK1 _ ?_); clear hK1))))
              | (((first | ((with_reducible (first | refine opsP_consMt (d := ?_) (dj := ?_) (b := ?_) (r := ?_) ?_ ?_ (fun hb => ?_) (fun K3 hK3 => ?_) | refine opsP_consMf (d := ?_) (dj := ?_) (b := ?_) (r := ?_) ?_ ?_ (fun hb => ?_) (fun K3 hK3 => ?_))); rotate_left 3; (focus exact rfl); (focus (simp only [upd_app, simprocAttr]; exact rfl))) | ((with_reducible (first | refine opsP_consNt (d := ?_) (dj := ?_) (b := ?_) (r := ?_) (c := ?_) ?_ ?_ (fun hb => ?_) (fun K3 hK3 => ?_) | refine opsP_consNf (d := ?_) (dj := ?_) (b := ?_) (r := ?_) (c := ?_) ?_ ?_ (fun hb => ?_) (fun K3 hK3 => ?_))); rotate_left 4; (focus exact rfl); (focus (simp only [St.put, upd_app, iniT_app, simprocAttr, mrg_t, mrg_f]; exact rfl)))); (focus (simp only [opP, valP]; (try (simp only at hb)); (try (have hp := hb; simp only [PmH, beq_iff_eq, beq_eq_false_iff_ne, ne_eq] at hp)); simp (disch := omega) only [St.eval, upd_app, avOf, avOf1, binP, intsP, intP, nilP, slA, V7, PmL, simprocAttr, PmT, h1, h6, hq, hd7]; (repeat' (first | (exact rfl) | ((refine And.intro ?_ ?_); (focus (exact rfl)); (exact rfl)) | (refine And.intro (by first | omega | (simp; done) | assumption) ?_) | ((with_reducible refine cC_pure ?_ (hS) (fun _ => ?_)); (focus ((repeat' constructor) <;> (simp only [purAs, purA, Vf, Bool.and_self, h0, h1, h5, h6, h7, h8, hlt', hc, hpl, hq, hd7, stI, hk0, hwm]; done)))))); done)); (try simp only [St.put, Nat.reduceLT, ↓reduceIte, mrg_t])))
              | (((first | (((with_reducible refine opsP_cons fun K3 hK3 => ?_); simp only [wantP, opP, valP, Ur, Us])) | ((with_reducible refine PW.condM fun X1 Y1 hX1 hY1 => ?_)) | (skip)); simp (disch := omega) only [St.eval, St.put, upd_app, avOf, avOf1, nom, lenP, binP, intsP, intP, nilP, builtinP, isMapA, slA, Ua, Ub, Ug, Uv, V7, PmL, simprocAttr, PmT, h0, h1, h5, h6, h7, h8, hlt', hc, hpl, stI, hk0, hwm, condP, condB_t, condB_f]; try (with_reducible (first | exact co_refl _ | exact co_own _ _ _ | exact co_nilsB | exact co_nilsL _ _)))))
            refine ⟨_, mea_back hmk, mk + 1, k, some k, mk + 1, ?_, ?_, ?_, ?_, ?_, ?_, ?_, ?_, gr_back hg (by omega) (hT2 rfl), rfl⟩
            all_goals (simp only [St.cut, Mem.cut, fg, upd_app, Nat.reduceEqDiff, ↓reduceIte, List.take_nil, List.map_nil, Int.natCast_add, Int.cast_ofNat_Int, h0, h1, h7, stI]; try rfl)
  · have hlt' := eq_false hlt
    have haT : a = T.length := by omega
    subst haT
    have hT := pTrim (Q.drop p) [37] (by decide) (by intro x hx; simp at hx; omega)
    repeat' (first
      | ((with_reducible (first
       | (refine PW.seq fun K1 hK1 => ?_) | (refine PW.region fun K2 hK2 => ?_) | ((refine hK3 _ ?_; clear hK3)) | ((refine opsP_nil ?_; refine hK2 _ ?_; clear hK2)) | ((refine Exists.intro _ (Exists.intro _ (And.intro rfl (And.intro rfl (And.intro ?_ ?_)))); focus omega)) 
       | (refine PW.exit ?_) | (refine PW.ret ?_) | ((refine hY1 ?_; clear hX1 hY1; try simp only [hb])) )))
      | (((with_reducible refine cC_pure ?_ (hT) (fun _ => ?_)); (focus ((repeat' constructor) <;> (simp only [purAs, purA, Vf, Bool.and_self, h0, h1, h5, h6, h7, h8, hlt']; done)))))
      | ((simp only [thenP, blockP, ↓reduceIte]; (try ((repeat (fail_if_success (with_reducible refine hK1 _ ?_)); clear hK1); (with_reducible refine hK1 _ ?_); clear hK1))))
      | (((first | (((with_reducible refine opsP_cons fun K3 hK3 => ?_); simp only [wantP, opP, valP, Ur, Us])) | ((with_reducible refine PW.condM fun X1 Y1 hX1 hY1 => ?_)) | (skip)); simp (disch := omega) only [St.eval, St.put, upd_app, avOf, avOf1, nom, lenP, binP, intsP, intP, strP, nilP, sliceP, boundLo, boundHi, builtinP, bsz, U1, isMapA, slA, Uf, Ug, Uq, Ur, Us, Uv, V2, V3, V7, V9, Ve, Int.cast_ofNat_Int, PmL, simprocAttr, PmT, h0, h1, h5, h6, hlt', retQ, resP, tupA, fg, condP, condB_f]; try (with_reducible (first | exact co_refl _ | exact co_own _ _ _ | exact co_nilsB | exact co_nilsL _ _)))))
    refine co_eq (congrArg (fun b => AV.d (.bool b)) ?_)
    rw [gr_end hg, signs_all _ (fun x hx => rQ x (List.mem_of_mem_drop hx)), Bool.eq_iff_iff]
    simp only [decide_eq_true_eq, List.all_eq_true]
    rw [trimN_nil (fun x hx => rQ x (List.mem_of_mem_drop hx)) (by intro x hx; simp at hx; omega)]
    simp
end PM
end Go.Proofs.YtndomnknjlihhaaDoor
