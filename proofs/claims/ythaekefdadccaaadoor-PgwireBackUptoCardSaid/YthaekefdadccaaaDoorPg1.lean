/- pgwire in the abstract: numbers, where a byte stands, a body's reader. -/
import Derived.Test.YthaekefdadccaaaDoorPgP
import Derived.Test.YthaekefdadccaaaDoorPmD
import Derived.Test.YthaekefdadccaaaDoorBytesFn
namespace Go.Proofs.YthaekefdadccaaaDoor
open Go.RowKit
namespace PM
theorem getD_of {b : List Int} {i : Nat} {x : Int} (h : b[i]? = some x) : b.getD i 0 = x := by rw [List.getD, h]; rfl
theorem get_lt {b : List Int} {i : Nat} (h : i < b.length) : ∃ x, b[i]? = some x := ⟨_, List.getElem?_eq_getElem h⟩
theorem rng_at {b : List Int} (h : Rng b) {i : Nat} {x : Int} (hx : b[i]? = some x) : 0 ≤ x ∧ x ≤ 255 := h x (List.mem_of_getElem? hx)
theorem i32v_get {b : List Int} {x0 x1 x2 x3 : Int} (h0 : b[0]? = some x0) (h1 : b[1]? = some x1) (h2 : b[2]? = some x2) (h3 : b[3]? = some x3) : i32v b = if 2147483648 ≤ ((x0 * 256 + x1) * 256 + x2) * 256 + x3 then ((x0 * 256 + x1) * 256 + x2) * 256 + x3 - 4294967296 else ((x0 * 256 + x1) * 256 + x2) * 256 + x3 := by
  unfold i32v
  rw [getD_of h0, getD_of h1, getD_of h2, getD_of h3]
theorem i32v_rng {b : List Int} (h : Rng b) : -2147483648 ≤ i32v b ∧ i32v b ≤ 2147483647 := by
  have h0 := h.getD 0; have h1 := h.getD 1; have h2 := h.getD 2; have h3 := h.getD 3
  unfold i32v
  simp only
  split <;> omega
set_option maxRecDepth 100000 in
theorem pI32 (b : List Int) (hb : 4 ≤ b.length) : Pure Tryd.prog 29 [bs b] (.d (.int .i64 (i32v b))) := by
  refine pure_intro Tryd.func29 rfl rfl rfl 22 rfl (fun hh => ?_)
  obtain ⟨hr, -⟩ := has_bytes (hh (bs b) (by simp))
  obtain ⟨x0, h0⟩ := get_lt (b := b) (i := 0) (by omega)
  obtain ⟨x1, h1⟩ := get_lt (b := b) (i := 1) (by omega)
  obtain ⟨x2, h2⟩ := get_lt (b := b) (i := 2) (by omega)
  obtain ⟨x3, h3⟩ := get_lt (b := b) (i := 3) (by omega)
  have r0 := rng_at hr h0; have r1 := rng_at hr h1; have r2 := rng_at hr h2; have r3 := rng_at hr h3
  have he : i32v b = if 2147483648 ≤ 256 * (256 * (256 * x0 + x1) + x2) + x3 then 256 * (256 * (256 * x0 + x1) + x2) + x3 - 4294967296 else 256 * (256 * (256 * x0 + x1) + x2) + x3 := by
    rw [i32v_get h0 h1 h2 h3]
    have : ((x0 * 256 + x1) * 256 + x2) * 256 + x3 = 256 * (256 * (256 * x0 + x1) + x2) + x3 := by omega
    rw [this]
  repeat' (first
    | ((with_reducible (first | (refine PW.seq fun K1 hK1 => ?_) | (refine PW.region fun K2 hK2 => ?_) | ((refine hK3 _ ?_; clear hK3)) | ((refine opsP_nil ?_; refine hK2 _ ?_; clear hK2)) | (refine PW.rounds (id := 0) 5 ?_) | (refine rounds_more fun K1 hK1 => ?_) | (refine PW.block ?_) | (refine PW.skip ?_) | (refine PW.exit ?_) | (refine PW.ret ?_) | ((refine hX1 ?_; clear hX1 hY1; try simp only [hb])) | ((refine hY1 ?_; clear hX1 hY1; try simp only [hb])) )))
    | (((first | (with_reducible refine wantB_intro (fun hb => ?_) (fun hb => ?_)) | (with_reducible refine condB_intro (fun hb => ?_) (fun hb => ?_))) <;> ((try (have hp := hb; simp only [PmH] at hp)); try simp only [hb, Bool.not_true, Bool.not_false])))
    | ((simp only [thenP, blockP, ↓reduceIte]; (try ((repeat (fail_if_success (with_reducible refine hK1 _ ?_)); clear hK1); (with_reducible refine hK1 _ ?_); clear hK1))))
    | (((first | (((with_reducible refine opsP_cons fun K3 hK3 => ?_); simp only [wantP, opP, valP])) | ((with_reducible refine PW.condM fun X1 Y1 hX1 hY1 => ?_)) | (skip)); simp (disch := omega) only [St.eval, St.put, upd_app, iniT_app, avOf, avOf1, nom, loadA, binP, intsP, intP, nilP, convP, slA, U7, Ur, Us, V2, V8, Ve, Vs, PmL, simprocAttr, PmT, h0, h1, h2, h3, retQ, resP, tupA, fg, condP, condB_t, condB_f]; try (with_reducible (first | exact co_refl _ | exact co_own _ _ _ | exact co_nilsB | exact co_nilsL _ _)))))
  all_goals
    refine co_eq (congrArg (fun n => AV.d (.int .i64 n)) ?_)
    rw [he]
    split <;> omega
set_option maxRecDepth 100000 in
theorem pNumber4 (b : List Int) (hb : 4 ≤ b.length) : Pure Tryd.prog 56 [bs b] (.d (.int .i64 (i32v b))) := by
  refine pure_intro Tryd.func56 rfl rfl rfl 27 rfl (fun hh => ?_)
  obtain ⟨hr, -⟩ := has_bytes (hh (bs b) (by simp))
  obtain ⟨x0, h0⟩ := get_lt (b := b) (i := 0) (by omega)
  obtain ⟨x1, h1⟩ := get_lt (b := b) (i := 1) (by omega)
  obtain ⟨x2, h2⟩ := get_lt (b := b) (i := 2) (by omega)
  obtain ⟨x3, h3⟩ := get_lt (b := b) (i := 3) (by omega)
  have r0 := rng_at hr h0; have r1 := rng_at hr h1; have r2 := rng_at hr h2; have r3 := rng_at hr h3
  repeat' (first
    | ((with_reducible (first | (refine PW.seq fun K1 hK1 => ?_) | (refine PW.region fun K2 hK2 => ?_) | ((refine hK3 _ ?_; clear hK3)) | ((refine opsP_nil ?_; refine hK2 _ ?_; clear hK2)) | (refine PW.ret ?_) | ((refine opsO_nil ?_; refine hK2 _ ?_; clear hK2)) )))
    | (((with_reducible refine PW.drawR (id := 1) mixed [] [(0, true), (1, true), (2, true), (3, true), (4, true), (5, true), (6, true), (7, true), (8, true), (9, true), (10, true), (11, true), (12, true), (13, true), (14, true), (15, true), (16, true), (17, true), (18, true), (19, true), (20, true), (21, true), (22, true), (23, true), (24, true)] (by kernel_rfl) (by decide) fun K2 hK2 => ?_)))
    | ((simp only [thenP]; (try ((repeat (fail_if_success (with_reducible refine hK1 _ ?_)); clear hK1); (with_reducible refine hK1 _ ?_); clear hK1))))
    | (((first | (((with_reducible refine opsP_cons fun K3 hK3 => ?_); simp only [wantP, opP, valP])) | (((with_reducible refine opsO_first (o := ?_) ?_ fun K3 hK3 => ?_); rotate_left 1; (focus (simp only [Uz, Ub, Ua] <;> rfl)); simp only [wantP, firstP, valP])) | (skip)); simp (disch := omega) only [St.eval, St.put, upd_app, iniT_app, avOf, avOf1, nom, loadA, binP, intsP, intP, convP, isBsl, slA, U7, Ur, Us, V2, V8, Ve, Vs, PmL, simprocAttr, PmT, h0, h1, h2, h3, retQ, resP, tupA, fg, firstOk]; try (with_reducible (first | exact co_refl _ | exact co_own _ _ _ | exact co_nilsB | exact co_nilsL _ _)))))
  refine co_eq ?_
  rw [be32 r0 r1 r2 r3, i32v_get h0 h1 h2 h3]
theorem idxI_cut : ∀ l : List Int, idxI l 0 = match cut0 l with | none => -1 | some (a, _) => (a.length : Int)
  | [] => rfl
  | x :: l => by
    unfold idxI cut0
    rw [idxI_cut l]
    by_cases h : x = 0
    · simp [h]
    · simp only [h, ↓reduceIte]
      cases cut0 l with
      | none => rfl
      | some p =>
        obtain ⟨a, r⟩ := p
        have : ¬ (a.length : Int) = -1 := by omega
        simp [this]
set_option maxRecDepth 100000 in
theorem pIndex0 (l : List Int) : Pure Tryd.prog 81 [bs l, .d (.int .u8 0)] (.d (.int .i64 (idxI l 0))) :=
  pure_of_calls Tryd.func81 rfl rfl fun G w vs hm ha => by
    unfold RelAs at ha
    obtain ⟨v1, vs, rfl, h1, ha⟩ := ha
    unfold RelAs at ha
    obtain ⟨v2, vs, rfl, h2, ha⟩ := ha
    unfold RelAs at ha
    subst ha
    obtain ⟨rfl, -⟩ := h2.int
    refine (index_any v1 l 0 w h1.dat.isB.1 (by omega)).mono fun e w' ⟨he, hw⟩ => ?_
    subst hw
    refine ⟨_, he, .refl _ _, relA_int ?_⟩
    have := idxI_rng l 0
    have hl := (has_bytes ⟨_, _, _, _, h1⟩).2
    have hml : maxLen = 9223372036854775807 := rfl
    rw [wf_i64]
    simp only [Bool.and_eq_true, decide_eq_true_eq]
    omega
abbrev pgM (b : List Int) (bad : Bool) : Mem := ⟨[some (99, [bs b, .d (.bool bad)])], []⟩
/-- so many bytes off the front -/
def pgTake (b : List Int) (bad : Bool) (n : Int) : List Int × List Int × Bool :=
  if n < 0 ∨ (b.length : Int) < n then ([], b, true) else (b.take n.toNat, b.drop n.toNat, bad)
theorem subM_box1 {e : TypeId} {cs cs' : List AV} {bx : List (Option (TypeId × List AV))} {rw_ : List (Option RowI)} (h : Cos (fgs 1 0 cs) cs') : SubM ⟨some (e, cs) :: bx, rw_⟩ ⟨[some (e, cs')], []⟩ := by
  refine ⟨by simp, by simp, fun j e1 cs1 hj => ?_, fun j i hj => by simp at hj⟩
  cases j with
  | zero =>
    simp at hj
    obtain ⟨rfl, rfl⟩ := hj
    exact ⟨cs, rfl, h⟩
  | succ j => simp at hj
set_option maxRecDepth 100000 in
theorem pPgTake (b : List Int) (bad : Bool) (n : Int) : PFun Tryd.prog 59 [.ptr 0 0, .d (.int .i64 n)] (pgM b bad) (bs (pgTake b bad n).1) (pgM (pgTake b bad n).2.1 (pgTake b bad n).2.2) := by
  refine fun_intro Tryd.func59 rfl rfl rfl 36 rfl ⟨Nat.le_refl _, Nat.le_refl _⟩ (fun hh => ?_)
  have hml := (has_int (hh (.d (.int .i64 n)) (by simp)))
  repeat' (first
    | ((with_reducible (first | (refine PW.seq fun K1 hK1 => ?_) | (refine PW.region fun K2 hK2 => ?_) | ((refine hK3 _ ?_; clear hK3)) | ((refine opsP_nil ?_; refine hK2 _ ?_; clear hK2)) | ((refine Exists.intro _ (Exists.intro _ (And.intro rfl (And.intro rfl (And.intro ?_ ?_)))); focus omega)) | (refine PW.skip ?_) | (refine PW.ret ?_) | ((refine hX1 ?_; clear hX1 hY1; try simp only [hb])) | ((refine hY1 ?_; clear hX1 hY1; try simp only [hb])) )))
    | (((first | (with_reducible refine wantB_intro (fun hb => ?_) (fun hb => ?_)) | (with_reducible refine condB_intro (fun hb => ?_) (fun hb => ?_))) <;> ((try (have hp := hb; simp only [PmH] at hp)); try simp only [hb, Bool.not_false])))
    | ((simp only [thenP]; (try ((repeat (fail_if_success (with_reducible refine hK1 _ ?_)); clear hK1); (with_reducible refine hK1 _ ?_); clear hK1))))
    | (((first | (((with_reducible refine opsP_cons fun K3 hK3 => ?_); simp only [wantP, opP, valP, Ur, Us])) | ((with_reducible refine PW.condM fun X1 Y1 hX1 hY1 => ?_)) | (skip)); simp (disch := omega) only [wantB_ff, wantB_tf, St.eval, St.put, upd_app, iniT_app, avOf, avOf1, cellsA, AV.okv, loadA, lenP, binP, intsP, intP, nilP, sliceP, boundLo, boundHi, builtinP, isMapA, slA, putCells, U7, U8, Ua, Ub, Uc, Ud, Uf, Ug, Uk, Um, Uo, Uq, Uz, V2, V3, V4, V7, V8, V9, Va, Ve, UU2, UU4, Vr, PmL, simprocAttr, PmT, retQ, resP, tupA, fg, condP, condB_t]; try (with_reducible (first | exact co_refl _ | exact co_own _ _ _ | exact co_nilsB | exact co_nilsL _ _)))))
  all_goals (try (focus ((try simp only [pgTake]); (repeat' split) <;> (first | (exfalso; omega) | ((try ((with_reducible refine And.intro ?_ ?_); rotate_left 1; (focus (first | exact subM_row1 | exact subM_nom _ | (refine subM_box1 ?_; simp only [fgs, fg]; (repeat' (first | exact cos_refl _ | refine cos_cons ?_ ?_ | exact co_refl _ | exact co_nilsB | exact co_own _ _ _ | exact co_nilsL _ _ | exact co_nils _ | refine co_agg ?_ | refine co_tup ?_)); done))))); (first | ((repeat' (first | exact cos_refl _ | refine cos_cons ?_ ?_ | exact co_refl _ | exact co_nilsB | exact co_own _ _ _ | exact co_nilsL _ _ | exact co_nils _ | refine co_agg ?_ | refine co_tup ?_)); done) | (refine co_eq ?_; simp_all; done))) | (exfalso; simp_all; done)))))
theorem pgTake_len (b : List Int) (bad : Bool) (n : Int) : (pgTake b bad n).1.length ≤ b.length ∧ (pgTake b bad n).2.1.length ≤ b.length := by
  unfold pgTake
  split <;> simp <;> omega
/-- a text up to a 0 -/
def pgText (b : List Int) (bad : Bool) : List Int × List Int × Bool := match cut0 b with
  | none => ([], b, true)
  | some (a, r) => (a, if bad = true then 0 :: r else r, bad)
set_option maxRecDepth 100000 in
theorem pPgText (b : List Int) (bad : Bool) : PFun Tryd.prog 58 [.ptr 0 0] (pgM b bad) (.d (.str (pgText b bad).1)) (pgM (pgText b bad).2.1 (pgText b bad).2.2) := by
  refine fun_intro Tryd.func58 rfl rfl rfl 22 rfl ⟨Nat.le_refl _, Nat.le_refl _⟩ (fun hh => ?_)
  have hi := idxI_cut b
  cases hc : cut0 b with
  | none =>
    rw [hc] at hi
    simp only at hi
    have e1 : pgTake b bad (-1) = ([], b, true) := if_pos (.inl (by decide))
    have e : pgText b bad = ([], b, true) := by unfold pgText; rw [hc]
    rw [e]
    repeat' (first
      | ((with_reducible (first
       | (refine PW.seq fun K1 hK1 => ?_) | (refine PW.region fun K2 hK2 => ?_) | ((refine hK3 _ ?_; clear hK3)) | ((refine opsP_nil ?_; refine hK2 _ ?_; clear hK2)) | (refine PW.skip ?_) | (refine PW.ret ?_) | ((refine hY1 ?_; clear hX1 hY1; try simp only [hb])) )))
      | (((with_reducible refine cC_recv (cs := ?_) ?_ ?_ ?_ ?_ (pPgTake ?_ ?_ ?_) (fun _ => ?_)); rotate_left 1; (focus (first | exact rfl | (simp only [Ua, Ub]; rfl))); (focus ((with_reducible (repeat' (first | (refine .cons ?_ ?_) | (exact .nil) | (exact .d _) ))) <;> (simp only [purAs, purA, Vf, Bool.and_self, hi, e1]; done))); (focus ((with_reducible (repeat' (first | (refine .cons ?_ ?_) | (exact .nil) | (exact .d _) ))) <;> (simp only [purAs, purA, Vf, Bool.and_self, hi, e1]; done))); (focus (simp only [purAs, purA, Bool.and_self]; done))))
      | (((with_reducible refine cC_pure ?_ (pIndex0 ?_) (fun _ => ?_)); (focus ((with_reducible (repeat' (first | (refine .cons ?_ ?_) | (exact .nil) | (exact .d _) ))) <;> (simp only [purAs, purA, Vf, Bool.and_self, hi, e1]; done)))))
      | ((simp only [thenP]; (try ((repeat (fail_if_success (with_reducible refine hK1 _ ?_)); clear hK1); (with_reducible refine hK1 _ ?_); clear hK1))))
      | (((first | (((with_reducible refine opsP_cons fun K3 hK3 => ?_); simp only [wantP, opP, valP, Ur, Us])) | ((with_reducible refine PW.condM fun X1 Y1 hX1 hY1 => ?_)) | (skip)); simp (disch := omega) only [St.eval, St.put, upd_app, iniT_app, avOf, avOf1, loadA, convP, unP, bsz, U1, U7, Ua, Uc, Uf, Ug, Uk, Ul, Us, Uv, V9, Va, Ve, Vs, PmL, simprocAttr, PmT, hi, e1, retQ, resP, tupA, fg, condP, condB_f]; try (with_reducible (first | exact co_refl _ | exact co_own _ _ _ | exact co_nilsB | exact co_nilsL _ _)))))
    all_goals (try (focus ((try simp only [pgTake]); (repeat' split) <;> (first | (exfalso; omega) | ((try ((with_reducible refine And.intro ?_ ?_); rotate_left 1; (focus (first | exact subM_row1 | exact subM_nom _ | (refine subM_box1 ?_; simp only [fgs, fg]; (repeat' (first | exact cos_refl _ | refine cos_cons ?_ ?_ | exact co_refl _ | exact co_nilsB | exact co_own _ _ _ | exact co_nilsL _ _ | exact co_nils _ | refine co_agg ?_ | refine co_tup ?_)); done))))); (first | ((repeat' (first | exact cos_refl _ | refine cos_cons ?_ ?_ | exact co_refl _ | exact co_nilsB | exact co_own _ _ _ | exact co_nilsL _ _ | exact co_nils _ | refine co_agg ?_ | refine co_tup ?_)); done) | (refine co_eq ?_; simp_all; done))) | (exfalso; simp_all; done)))))
  | some p =>
    obtain ⟨a, r⟩ := p
    rw [hc] at hi
    simp only at hi
    obtain ⟨hb, -⟩ := cut0_spec hc
    have e1 : pgTake b bad a.length = (a, 0 :: r, bad) := by
      unfold pgTake
      rw [if_neg (by rw [hb]; simp; omega)]
      rw [hb]
      simp
    have e2 : pgTake (0 :: r) bad 1 = ([0], r, bad) := by
      unfold pgTake
      rw [if_neg (by simp; omega)]
      simp
    have e : pgText b bad = (a, if bad = true then 0 :: r else r, bad) := by unfold pgText; rw [hc]
    rw [e]
    repeat' (first
      | ((with_reducible (first
       | (refine PW.seq fun K1 hK1 => ?_) | (refine PW.region fun K2 hK2 => ?_) | ((refine hK3 _ ?_; clear hK3)) | ((refine opsP_nil ?_; refine hK2 _ ?_; clear hK2)) | (refine PW.skip ?_) | (refine PW.ret ?_) | ((refine hX1 ?_; clear hX1 hY1; try simp only [hb])) | ((refine hY1 ?_; clear hX1 hY1; try simp only [hb])) )))
      | (((first | (with_reducible refine wantB_intro (fun hb => ?_) (fun hb => ?_)) | (with_reducible refine condB_intro (fun hb => ?_) (fun hb => ?_))) <;> ((try (have hp := hb; simp only [PmH] at hp)); try simp only [hb, Bool.not_true, Bool.not_false])))
      | (((with_reducible refine cC_recv (cs := ?_) ?_ ?_ ?_ ?_ (pPgTake ?_ ?_ ?_) (fun _ => ?_)); rotate_left 1; (focus (first | exact rfl | (simp only [Ua, Ub]; rfl))); (focus ((with_reducible (repeat' (first | (refine .cons ?_ ?_) | (exact .nil) | (exact .d _) ))) <;> (simp only [purAs, purA, Vf, Bool.and_self, hi, e1, e2]; done))); (focus ((with_reducible (repeat' (first | (refine .cons ?_ ?_) | (exact .nil) | (exact .d _) ))) <;> (simp only [purAs, purA, Vf, Bool.and_self, hi, e1, e2]; done))); (focus (simp only [purAs, purA, Bool.and_self]; done))))
      | (((with_reducible refine cC_pure ?_ (pIndex0 ?_) (fun _ => ?_)); (focus ((with_reducible (repeat' (first | (refine .cons ?_ ?_) | (exact .nil) | (exact .d _) ))) <;> (simp only [purAs, purA, Vf, Bool.and_self, hi, e1, e2]; done)))))
      | ((simp only [thenP]; (try ((repeat (fail_if_success (with_reducible refine hK1 _ ?_)); clear hK1); (with_reducible refine hK1 _ ?_); clear hK1))))
      | (((first | (((with_reducible refine opsP_cons fun K3 hK3 => ?_); simp only [wantP, opP, valP, Ur, Us])) | ((with_reducible refine PW.condM fun X1 Y1 hX1 hY1 => ?_)) | (skip)); simp (disch := omega) only [St.eval, St.put, upd_app, iniT_app, avOf, avOf1, loadA, convP, unP, bsz, U1, U7, Ua, Uc, Uf, Ug, Uk, Ul, Us, Uv, V9, Va, Ve, Vs, PmL, simprocAttr, PmT, hi, e1, e2, retQ, resP, tupA, fg, condP]; try (with_reducible (first | exact co_refl _ | exact co_own _ _ _ | exact co_nilsB | exact co_nilsL _ _)))))
    all_goals (try (focus ((try simp only [pgTake]); (repeat' split) <;> (first | (exfalso; omega) | ((try ((with_reducible refine And.intro ?_ ?_); rotate_left 1; (focus (first | exact subM_row1 | exact subM_nom _ | (refine subM_box1 ?_; simp only [fgs, fg]; (repeat' (first | exact cos_refl _ | refine cos_cons ?_ ?_ | exact co_refl _ | exact co_nilsB | exact co_own _ _ _ | exact co_nilsL _ _ | exact co_nils _ | refine co_agg ?_ | refine co_tup ?_)); done))))); (first | ((repeat' (first | exact cos_refl _ | refine cos_cons ?_ ?_ | exact co_refl _ | exact co_nilsB | exact co_own _ _ _ | exact co_nilsL _ _ | exact co_nils _ | refine co_agg ?_ | refine co_tup ?_)); done) | (refine co_eq ?_; simp_all; done))) | (exfalso; simp_all; done)))))
end PM
end Go.Proofs.YthaekefdadccaaaDoor
