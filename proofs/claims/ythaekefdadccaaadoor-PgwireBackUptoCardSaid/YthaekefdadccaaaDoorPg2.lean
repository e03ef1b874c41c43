/- pgwire in the abstract: the reader's numbers; a message of a client's. -/
import Derived.Test.YthaekefdadccaaaDoorPg1
namespace Go.Proofs.YthaekefdadccaaaDoor
open Go.RowKit
namespace PM
def pgNum (b : List Int) (bad : Bool) : Int × List Int × Bool := if b.length < 4 then (0, b, true) else (i32v b, b.drop 4, bad)
theorem wrap_i8 {x : Int} (h : 0 ≤ x ∧ x ≤ 255) : IntKind.i8.wrap x = if 128 ≤ x then x - 256 else x := by
  simp only [IntKind.wrap, IntKind.bits, IntKind.signed, Bool.true_and, decide_eq_true_eq, Int.reducePow, Nat.reduceSub, ge_iff_le]
  have : x % 256 = x := Int.emod_eq_of_lt h.1 (by omega)
  rw [this]
theorem shl8 : (2 : Int) ^ min 8 IntKind.i64.bits = 256 := by decide
set_option maxRecDepth 100000 in
theorem pPgNum (b : List Int) (bad : Bool) : PFun Tryd.prog 57 [.ptr 0 0, .d (.int .i64 4)] (pgM b bad) (.d (.int .i64 (pgNum b bad).1)) (pgM (pgNum b bad).2.1 (pgNum b bad).2.2) := by
  refine fun_introM Tryd.func57 rfl rfl rfl 31 rfl ⟨Nat.le_refl _, Nat.le_refl _⟩ (fun hh hM => ?_)
  obtain ⟨hr, -⟩ := has_bytes (hM.box (i := 0) rfl (bs b) (by simp))
  by_cases hl : b.length < 4
  · have e1 : pgTake b bad 4 = ([], b, true) := if_pos (.inr (by omega))
    have e : pgNum b bad = (0, b, true) := if_pos hl
    rw [e]
    repeat' (first
      | ((with_reducible (first
       | (refine PW.seq fun K1 hK1 => ?_) | (refine PW.region fun K2 hK2 => ?_) | ((refine hK3 _ ?_; clear hK3)) | ((refine opsP_nil ?_; refine hK2 _ ?_; clear hK2)) | (refine PW.rounds (id := 0) 5 ?_)
       | (refine rounds_more fun K1 hK1 => ?_) | (refine PW.block ?_) | (refine PW.exit ?_) | (refine PW.ret ?_) | ((refine hY1 ?_; clear hX1 hY1; try simp only [hb])) )))
      | (((with_reducible refine cC_recv (cs := ?_) ?_ ?_ ?_ ?_ (pPgTake ?_ ?_ ?_) (fun _ => ?_)); rotate_left 1; (focus (first | exact rfl | (simp only [Ua, Ub]; rfl))); (focus ((with_reducible (repeat' (first | (refine .cons ?_ ?_) | (exact .nil) | (exact .d _) ))) <;> (simp only [purAs, purA, Vf, Bool.and_self, e1]; done))); (focus ((with_reducible (repeat' (first | (refine .cons ?_ ?_) | (exact .nil) | (exact .d _) ))) <;> (simp only [purAs, purA, Vf, Bool.and_self, e1]; done))); (focus (simp only [purAs, purA, Bool.and_self]; done))))
      | ((simp only [thenP, blockP, ↓reduceIte]; (try ((repeat (fail_if_success (with_reducible refine hK1 _ ?_)); clear hK1); (with_reducible refine hK1 _ ?_); clear hK1))))
      | (((first | (((with_reducible refine opsP_cons fun K3 hK3 => ?_); simp only [wantP, opP, valP, Ur, Us])) | ((with_reducible refine PW.condM fun X1 Y1 hX1 hY1 => ?_)) | (skip)); simp (disch := omega) only [St.eval, St.put, upd_app, iniT_app, avOf, avOf1, lenP, binP, intsP, intP, nilP, builtinP, isMapA, slA, U7, U8, Uc, Uf, Ug, Uv, V9, Ve, Int.cast_ofNat_Int, PmL, simprocAttr, PmT, e1, retQ, resP, tupA, fg, condP, condB_f]; try (with_reducible (first | exact co_refl _ | exact co_own _ _ _ | exact co_nilsB | exact co_nilsL _ _)))))
    all_goals (try (focus ((try simp only [pgTake]); (repeat' split) <;> (first | (exfalso; omega) | ((try ((with_reducible refine And.intro ?_ ?_); rotate_left 1; (focus (first | exact subM_row1 | exact subM_nom _ | (refine subM_box1 ?_; simp only [fgs, fg]; (repeat' (first | exact cos_refl _ | refine cos_cons ?_ ?_ | exact co_refl _ | exact co_nilsB | exact co_own _ _ _ | exact co_nilsL _ _ | exact co_nils _ | refine co_agg ?_ | refine co_tup ?_)); done))))); (first | ((repeat' (first | exact cos_refl _ | refine cos_cons ?_ ?_ | exact co_refl _ | exact co_nilsB | exact co_own _ _ _ | exact co_nilsL _ _ | exact co_nils _ | refine co_agg ?_ | refine co_tup ?_)); done) | (refine co_eq ?_; simp_all; done))) | (exfalso; simp_all; done)))))
  · obtain ⟨x0, h0⟩ := get_lt (b := b) (i := 0) (by omega)
    obtain ⟨x1, h1⟩ := get_lt (b := b) (i := 1) (by omega)
    obtain ⟨x2, h2⟩ := get_lt (b := b) (i := 2) (by omega)
    obtain ⟨x3, h3⟩ := get_lt (b := b) (i := 3) (by omega)
    have ht : b.take 4 = [x0, x1, x2, x3] := by
      rw [show (4 : Nat) = 0 + 1 + 1 + 1 + 1 from rfl, List.take_add_one, List.take_add_one, List.take_add_one, List.take_add_one, h0, h1, h2, h3]
      simp
    have e1 : pgTake b bad 4 = ([x0, x1, x2, x3], b.drop 4, bad) := by rw [← ht]; exact if_neg (by omega)
    have e : pgNum b bad = (i32v b, b.drop 4, bad) := if_neg hl
    rw [e]
    have hiv := i32v_get h0 h1 h2 h3
    have r0 := rng_at hr h0; have r1 := rng_at hr h1; have r2 := rng_at hr h2; have r3 := rng_at hr h3
    have hw8 := wrap_i8 r0
    obtain ⟨n0, hn0⟩ : ∃ n0, IntKind.i8.wrap x0 = n0 := ⟨_, rfl⟩
    rw [hn0] at hw8
    have rn0 : -128 ≤ n0 ∧ n0 ≤ 127 := by rw [hw8]; split <;> omega
    have o1 : IntKind.i64.wrap ((BitVec.ofInt IntKind.i64.bits (n0 * 256) ||| BitVec.ofInt IntKind.i64.bits x1).toNat : Int) = n0 * 256 + x1 := or_byte (by omega) (by omega) (by omega) (by omega)
    have o2 : IntKind.i64.wrap ((BitVec.ofInt IntKind.i64.bits ((n0 * 256 + x1) * 256) ||| BitVec.ofInt IntKind.i64.bits x2).toNat : Int) = (n0 * 256 + x1) * 256 + x2 := or_byte (by omega) (by omega) (by omega) (by omega)
    have o3 : IntKind.i64.wrap ((BitVec.ofInt IntKind.i64.bits (((n0 * 256 + x1) * 256 + x2) * 256) ||| BitVec.ofInt IntKind.i64.bits x3).toNat : Int) = ((n0 * 256 + x1) * 256 + x2) * 256 + x3 := or_byte (by omega) (by omega) (by omega) (by omega)
    have hz : ((n0 * 256 + x1) * 256 + x2) * 256 + x3 = i32v b := by
      rw [hiv, hw8]
      split <;> split <;> omega
    repeat' (first
      | ((with_reducible (first
       | (refine PW.seq fun K1 hK1 => ?_) | (refine PW.region fun K2 hK2 => ?_) | ((refine hK3 _ ?_; clear hK3)) | ((refine opsP_nil ?_; refine hK2 _ ?_; clear hK2)) | (refine PW.rounds (id := 0) 5 ?_)
       | (refine rounds_more fun K1 hK1 => ?_) | (refine PW.block ?_) | (refine PW.skip ?_) | (refine PW.exit ?_) | (refine PW.ret ?_) | ((refine hX1 ?_; clear hX1 hY1; try simp only [hb])) | ((refine hY1 ?_; clear hX1 hY1; try simp only [hb])) )))
      | (((with_reducible refine cC_recv (cs := ?_) ?_ ?_ ?_ ?_ (pPgTake ?_ ?_ ?_) (fun _ => ?_)); rotate_left 1; (focus (first | exact rfl | (simp only [Ua, Ub]; rfl))); (focus ((with_reducible (repeat' (first | (refine .cons ?_ ?_) | (exact .nil) | (exact .d _) ))) <;> (simp only [purAs, purA, Vf, Bool.and_self, e1, shl8, hn0, o1, o2, o3, hz]; done))); (focus ((with_reducible (repeat' (first | (refine .cons ?_ ?_) | (exact .nil) | (exact .d _) ))) <;> (simp only [purAs, purA, Vf, Bool.and_self, e1, shl8, hn0, o1, o2, o3, hz]; done))); (focus (simp only [purAs, purA, Bool.and_self]; done))))
      | ((simp only [thenP, blockP, ↓reduceIte]; (try ((repeat (fail_if_success (with_reducible refine hK1 _ ?_)); clear hK1); (with_reducible refine hK1 _ ?_); clear hK1))))
      | (((first | (((with_reducible refine opsP_cons fun K3 hK3 => ?_); simp only [wantP, opP, valP, Ur, Us])) | ((with_reducible refine PW.condM fun X1 Y1 hX1 hY1 => ?_)) | (skip)); simp (disch := omega) only [St.eval, St.put, upd_app, iniT_app, avOf, avOf1, loadA, lenP, binP, intsP, intP, nilP, convP, builtinP, isMapA, slA, U7, U8, Ua, Ub, Uc, Uf, Ug, Ur, Us, Uv, V2, V8, V9, Ve, Int.cast_ofNat_Int, Vs, PmL, simprocAttr, PmT, e1, shl8, hn0, o1, o2, o3, hz, retQ, resP, tupA, fg, condP, condB_t, condB_f]; try (with_reducible (first | exact co_refl _ | exact co_own _ _ _ | exact co_nilsB | exact co_nilsL _ _)))))
    all_goals (try (focus ((try simp only [pgTake]); (repeat' split) <;> (first | (exfalso; omega) | ((try ((with_reducible refine And.intro ?_ ?_); rotate_left 1; (focus (first | exact subM_row1 | exact subM_nom _ | (refine subM_box1 ?_; simp only [fgs, fg]; (repeat' (first | exact cos_refl _ | refine cos_cons ?_ ?_ | exact co_refl _ | exact co_nilsB | exact co_own _ _ _ | exact co_nilsL _ _ | exact co_nils _ | refine co_agg ?_ | refine co_tup ?_)); done))))); (first | ((repeat' (first | exact cos_refl _ | refine cos_cons ?_ ?_ | exact co_refl _ | exact co_nilsB | exact co_own _ _ _ | exact co_nilsL _ _ | exact co_nils _ | refine co_agg ?_ | refine co_tup ?_)); done) | (refine co_eq ?_; simp_all; done))) | (exfalso; simp_all; done)))))
set_option maxRecDepth 100000 in
theorem pPgWhole (b : List Int) (bad : Bool) : PFun Tryd.prog 60 [.ptr 0 0] (pgM b bad) (.d (.bool (!bad && decide (b.length = 0)))) (pgM b bad) := by
  refine fun_intro Tryd.func60 rfl rfl rfl 16 rfl ⟨Nat.le_refl _, Nat.le_refl _⟩ (fun hh => ?_)
  repeat' (first
    | ((with_reducible (first
     | (refine PW.seq fun K1 hK1 => ?_) | (refine PW.region fun K2 hK2 => ?_) | ((refine hK3 _ ?_; clear hK3)) | ((refine opsP_nil ?_; refine hK2 _ ?_; clear hK2))
     | (refine PW.ret ?_) )))
    | (((first | (with_reducible refine wantB_intro (fun hb => ?_) (fun hb => ?_)) | (with_reducible refine condB_intro (fun hb => ?_) (fun hb => ?_))) <;> ((try (have hp := hb; simp only [PmH] at hp)); try simp only [hb, Bool.not_true])))
    | ((simp only [thenP]; (try ((repeat (fail_if_success (with_reducible refine hK1 _ ?_)); clear hK1); (with_reducible refine hK1 _ ?_); clear hK1))))
    | (((first | (((with_reducible refine opsP_cons fun K3 hK3 => ?_); simp only [wantP, opP, valP, Ur, Us])) | (skip)); simp (disch := omega) only [wantB_tt, wantB_ft, St.eval, St.put, upd_app, iniT_app, avOf, avOf1, loadA, lenP, binP, intsP, intP, eqP, nilP, unP, builtinP, isMapA, slA, U7, Ua, Ub, Uf, Ug, Uk, Ul, Uz, V4, V9, Va, Ve, PmL, simprocAttr, PmT, retQ, resP, tupA, fg]; try (with_reducible (first | exact co_refl _ | exact co_own _ _ _ | exact co_nilsB | exact co_nilsL _ _)))))
  all_goals (try (focus ((try simp only [pgTake]); (repeat' split) <;> (first | (exfalso; omega) | ((try ((with_reducible refine And.intro ?_ ?_); rotate_left 1; (focus (first | exact subM_row1 | exact subM_nom _ | (refine subM_box1 ?_; simp only [fgs, fg]; (repeat' (first | exact cos_refl _ | refine cos_cons ?_ ?_ | exact co_refl _ | exact co_nilsB | exact co_own _ _ _ | exact co_nilsL _ _ | exact co_nils _ | refine co_agg ?_ | refine co_tup ?_)); done))))); (first | ((repeat' (first | exact cos_refl _ | refine cos_cons ?_ ?_ | exact co_refl _ | exact co_nilsB | exact co_own _ _ _ | exact co_nilsL _ _ | exact co_nils _ | refine co_agg ?_ | refine co_tup ?_)); done) | (refine co_eq ?_; simp_all; done))) | (exfalso; simp_all; done)))))
def frS (b : List Int) (head least most : Int) : Int × Int :=
  if (b.length : Int) < head + 4 then (0, 10) else if i32v (b.drop head.toNat) < least then (0, 230) else if most < i32v (b.drop head.toNat) then (0, 231) else if (b.length : Int) - head < i32v (b.drop head.toNat) then (0, 10) else (i32v (b.drop head.toNat), 0)
set_option maxRecDepth 100000 in
theorem pFramed (b : List Int) (head least most : Int) (h0 : 0 ≤ head) (h1 : head ≤ 100) : Pure Tryd.prog 31 [bs b, .d (.int .i64 head), .d (.int .i64 least), .d (.int .i64 most)] (.tup [.d (.int .i64 (frS b head least most).1), .d (.int .i64 (frS b head least most).2)]) := by
  refine pure_intro Tryd.func31 rfl rfl rfl 36 rfl (fun hh => ?_)
  obtain ⟨hr, hml⟩ := has_bytes (hh (bs b) (by simp))
  have hmx : maxLen = 9223372036854775807 := rfl
  by_cases hq : (b.length : Int) < head + 4
  · have hq' := eq_true hq
    repeat' (first
      | ((with_reducible (first
       | (refine PW.seq fun K1 hK1 => ?_) | (refine PW.region fun K2 hK2 => ?_) | ((refine hK3 _ ?_; clear hK3)) | ((refine opsP_nil ?_; refine hK2 _ ?_; clear hK2)) | (refine PW.ret ?_) | ((refine hX1 ?_; clear hX1 hY1; try simp only [hb])) )))
      | ((simp only [thenP]; (try ((repeat (fail_if_success (with_reducible refine hK1 _ ?_)); clear hK1); (with_reducible refine hK1 _ ?_); clear hK1))))
      | (((first | (((with_reducible refine opsP_cons fun K3 hK3 => ?_); simp only [wantP, opP, valP, Ur, Us])) | ((with_reducible refine PW.condM fun X1 Y1 hX1 hY1 => ?_)) | (skip)); simp (disch := omega) only [St.eval, St.put, upd_app, iniT_app, avOf, avOf1, nom, lenP, binP, intsP, intP, nilP, builtinP, isMapA, slA, U7, U8, PmL, simprocAttr, PmT, hq', retQ, resP, tupA, fg, fgs, condP, condB_t]; try (with_reducible (first | exact co_refl _ | exact co_own _ _ _ | exact co_nilsB | exact co_nilsL _ _)))))
    all_goals (try (focus ((try simp only [frS]); (repeat' split) <;> (first | (exfalso; omega) | ((try ((with_reducible refine And.intro ?_ ?_); rotate_left 1; (focus (first | exact subM_row1 | exact subM_nom _ | (refine subM_box1 ?_; simp only [fgs, fg]; (repeat' (first | exact cos_refl _ | refine cos_cons ?_ ?_ | exact co_refl _ | exact co_nilsB | exact co_own _ _ _ | exact co_nilsL _ _ | exact co_nils _ | refine co_agg ?_ | refine co_tup ?_)); done))))); (first | ((repeat' (first | exact cos_refl _ | refine cos_cons ?_ ?_ | exact co_refl _ | exact co_nilsB | exact co_own _ _ _ | exact co_nilsL _ _ | exact co_nils _ | refine co_agg ?_ | refine co_tup ?_)); done) | (refine co_eq ?_; simp_all; done))) | (exfalso; simp_all; done)))))
  · have hq' := eq_false hq
    have hN := pNumber4 (b.drop head.toNat) (by rw [List.length_drop]; omega)
    repeat' (first
      | ((with_reducible (first
       | (refine PW.seq fun K1 hK1 => ?_) | (refine PW.region fun K2 hK2 => ?_) | ((refine hK3 _ ?_; clear hK3)) | ((refine opsP_nil ?_; refine hK2 _ ?_; clear hK2)) | ((refine Exists.intro _ (Exists.intro _ (And.intro rfl (And.intro rfl (And.intro ?_ ?_)))); focus omega))
       | (refine PW.block ?_) | (refine PW.skip ?_) | (refine PW.ret ?_) | ((refine hX1 ?_; clear hX1 hY1; try simp only [hb])) | ((refine hY1 ?_; clear hX1 hY1; try simp only [hb])) )))
      | (((first | (with_reducible refine wantB_intro (fun hb => ?_) (fun hb => ?_)) | (with_reducible refine condB_intro (fun hb => ?_) (fun hb => ?_))) <;> ((try (have hp := hb; simp only [PmH] at hp)); try simp only [hb, Bool.not_true, Bool.not_false])))
      | (((with_reducible refine cC_pure ?_ (hN) (fun _ => ?_)); (focus ((with_reducible (repeat' constructor)) <;> (simp only [purAs, purA, Vf, Bool.and_self, hq']; done)))))
      | ((simp only [thenP, blockP]; (try ((repeat (fail_if_success (with_reducible refine hK1 _ ?_)); clear hK1); (with_reducible refine hK1 _ ?_); clear hK1))))
      | (((first | (((with_reducible refine opsP_cons fun K3 hK3 => ?_); simp only [wantP, opP, valP, Ur, Us])) | ((with_reducible refine PW.condM fun X1 Y1 hX1 hY1 => ?_)) | (skip)); simp (disch := omega) only [St.eval, St.put, upd_app, iniT_app, avOf, avOf1, nom, lenP, binP, intsP, intP, nilP, sliceP, boundLo, boundHi, builtinP, isMapA, slA, U7, U8, Uq, Uv, V2, V3, V7, Ve, UU2, UU4, PmL, simprocAttr, PmT, hq', retQ, resP, tupA, fg, fgs, condP, condB_f]; try (with_reducible (first | exact co_refl _ | exact co_own _ _ _ | exact co_nilsB | exact co_nilsL _ _)))))
    all_goals (try (focus ((try simp only [frS]); (repeat' split) <;> (first | (exfalso; omega) | ((try ((with_reducible refine And.intro ?_ ?_); rotate_left 1; (focus (first | exact subM_row1 | exact subM_nom _ | (refine subM_box1 ?_; simp only [fgs, fg]; (repeat' (first | exact cos_refl _ | refine cos_cons ?_ ?_ | exact co_refl _ | exact co_nilsB | exact co_own _ _ _ | exact co_nilsL _ _ | exact co_nils _ | refine co_agg ?_ | refine co_tup ?_)); done))))); (first | ((repeat' (first | exact cos_refl _ | refine cos_cons ?_ ?_ | exact co_refl _ | exact co_nilsB | exact co_own _ _ _ | exact co_nilsL _ _ | exact co_nils _ | refine co_agg ?_ | refine co_tup ?_)); done) | (refine co_eq ?_; simp_all; done))) | (exfalso; simp_all; done)))))
end PM
end Go.Proofs.YthaekefdadccaaaDoor
