/- pgwire in the abstract: a client's message is read. -/
import Derived.Test.YthaekefdadccaaaDoorPg3
namespace Go.Proofs.YthaekefdadccaaaDoor
open Go.RowKit
namespace PM
theorem cut0_body {b a r : List Int} (h : cut0 b = some (a, r)) : (!(false || false) && decide (r.length = 0)) = decide (r = []) := by cases r <;> simp
set_option maxRecDepth 100000 in
set_option maxHeartbeats 4000000 in
theorem pMessage (tag : Int) (b : List Int) (_ht : 0 ≤ tag ∧ tag ≤ 255) : Pure Tryd.prog 33 [.d (.int .u8 tag), bs b] (.tup [(bodyS tag b).1.v, .d (.int .i64 (bodyS tag b).2)]) := by
  refine pure_intro Tryd.func33 rfl rfl rfl 30 rfl (fun hh => ?_)
  cases hc : cut0 b with
  | none =>
    have e1 : pgText b false = ([], b, true) := by unfold pgText; rw [hc]
    have e2 : bodyS tag b = if tag = 81 then (zF, 230) else if tag = 88 then (if b = [] then ({ zF with kind := 5 }, 0) else (zF, 230)) else ({ zF with kind := 6, tag := tag }, 0) := by unfold bodyS; rw [hc]
    have hbl : b = [] ↔ b.length = 0 := by simp
    repeat' (first
      | (with_reducible (first
        | refine PW.seq fun K1 hK1 => ?_
        | refine PW.region fun K2 hK2 => ?_
        | (refine hK3 _ ?_; clear hK3)
        | (refine opsP_nil ?_; refine hK2 _ ?_; clear hK2)
        | refine litX_old ?_
        | refine litC_data ?_
        | (refine Exists.intro _ (Exists.intro _ (And.intro rfl (And.intro rfl (And.intro ?_ ?_)))); focus omega)
        | (refine hK1 _ ?_; clear hK1)
        | refine nilC_intro (fun hz => ?_) ?_
        | refine PW.block ?_
        | refine PW.skip ?_
        | refine PW.exit ?_
        | refine PW.ret ?_
        | (refine hX1 ?_; clear hX1 hY1; try simp only [hb])
        | (refine hY1 ?_; clear hX1 hY1; try simp only [hb])
        | exact co_refl _
        | exact co_own _ _ _
        | exact co_nilsB
        | exact co_nilsL _ _))
      | ((first | (with_reducible refine wantB_intro (fun hb => ?_) (fun hb => ?_)) | (with_reducible refine condB_intro (fun hb => ?_) (fun hb => ?_))) <;> ((try (have hp := hb; simp only [Bool.not_eq_eq_eq_not, Bool.not_true, Bool.not_false, decide_eq_true_eq, decide_eq_false_iff_not] at hp)); try simp only [hb, Bool.not_true, Bool.not_false]))
      | ((with_reducible refine callP_recv (cs := ?_) ?_ ?_ ?_ ?_ (pPgText ?_ ?_) (fun _ => ?_)); rotate_left 1; (focus (first | exact rfl | (simp only [List.getElem?_cons_zero, List.getElem?_cons_succ]; rfl))); (focus (repeat' (first | exact cos_refl _ | (refine cos_cons ?_ ?_) | exact co_refl _ | exact co_own _ _ _ | exact co_nilsB | exact co_nilsL _ _ | exact co_nils _ | (refine co_agg ?_) | (refine co_fn ?_)))); (focus (repeat' (first | exact cos_refl _ | (refine cos_cons ?_ ?_) | exact co_refl _ | exact co_own _ _ _ | exact co_nilsB | exact co_nilsL _ _ | exact co_nils _ | (refine co_agg ?_) | (refine co_fn ?_)))); (focus (simp only [purAs, purA, Bool.and_self])))
      | ((with_reducible refine callP_recv (cs := ?_) ?_ ?_ ?_ ?_ (pPgWhole ?_ ?_) (fun _ => ?_)); rotate_left 1; (focus (first | exact rfl | (simp only [List.getElem?_cons_zero, List.getElem?_cons_succ]; rfl))); (focus (repeat' (first | exact cos_refl _ | (refine cos_cons ?_ ?_) | exact co_refl _ | exact co_own _ _ _ | exact co_nilsB | exact co_nilsL _ _ | exact co_nils _ | (refine co_agg ?_) | (refine co_fn ?_)))); (focus (repeat' (first | exact cos_refl _ | (refine cos_cons ?_ ?_) | exact co_refl _ | exact co_own _ _ _ | exact co_nilsB | exact co_nilsL _ _ | exact co_nils _ | (refine co_agg ?_) | (refine co_fn ?_)))); (focus (simp only [purAs, purA, Bool.and_self])))
      | ((with_reducible refine And.intro ?_ ?_); (focus (first | omega | (simp; done) | assumption)))
      | (simp only [thenP, blockP]; (try ((repeat (fail_if_success (with_reducible refine hK1 _ ?_)); clear hK1); (with_reducible refine hK1 _ ?_); clear hK1)))
      | (with_reducible omega)
      | (assumption)
      | ((first | ((with_reducible refine opsP_cons fun K3 hK3 => ?_); simp only [wantP, opP, valP, List.map_cons, List.map_nil]) | (with_reducible refine PW.condM fun X1 Y1 hX1 hY1 => ?_) | skip); simp (disch := omega) only [St.eval, St.put, upd_app, iniT_app, avOf, avOf1, wf_i64, wf_u8, nom, cellsA, AV.okv, loadA, binP, intsP, intP, nilP, unP, slA, putCells, fillA, buildA, U7, U8, Ua, Ub, Uc, Ud, Uf, Ug, Uk, Un, Up, Ut, Uu, Uv, Nat.reduceLT, Nat.reduceLeDiff, Nat.reduceAdd, Nat.reduceEqDiff, V9, Va, Vd, Ve, Vt, Int.reduceLE, Int.reduceNeg, Vu, Vf, Vh, Vi, Vn, Vo, ↓reduceIte, reduceCtorEq, Vw, Vz, UU0, UU2, UU3, Vr, sz22, sz26, ze26, pl26, ze99, pl99, fi99_0, e1, retQ, resP, tupA, fg, fgs, condP, condB_t, condB_f]; try (with_reducible (first | exact co_refl _ | exact co_own _ _ _ | exact co_nilsB | exact co_nilsL _ _))))
    all_goals (try (focus ((try simp only [e2, hbl, zF]); (repeat' split) <;> (first | (exfalso; omega) | ((try ((with_reducible refine And.intro ?_ ?_); rotate_left 1; (focus (first | exact subM_row1 | exact subM_nom _ | (refine subM_box1 ?_; simp only [fgs, fg]; (repeat' (first | exact cos_refl _ | refine cos_cons ?_ ?_ | exact co_refl _ | exact co_nilsB | exact co_own _ _ _ | exact co_nilsL _ _ | exact co_nils _ | refine co_agg ?_ | refine co_tup ?_)); done))))); (first | ((repeat' (first | exact cos_refl _ | refine cos_cons ?_ ?_ | exact co_refl _ | exact co_nilsB | exact co_own _ _ _ | exact co_nilsL _ _ | exact co_nils _ | refine co_agg ?_ | refine co_tup ?_)); done) | (refine co_eq ?_; simp_all; done))) | (exfalso; simp_all; done)))))
  | some p =>
    obtain ⟨a, r⟩ := p
    have e1 : pgText b false = (a, r, false) := by unfold pgText; rw [hc]; simp
    have e2 : bodyS tag b = if tag = 81 then (if r = [] then ({ zF with kind := 4, text := a }, 0) else (zF, 230)) else if tag = 88 then (zF, 230) else ({ zF with kind := 6, tag := tag }, 0) := by
      have : b ≠ [] := by rintro rfl; cases hc
      unfold bodyS
      rw [hc]
      cases r <;> simp [this]
    have hrl : r = [] ↔ r.length = 0 := by simp
    have hb0 : b.length ≠ 0 := by have := cut0_len hc; omega
    repeat' (first
      | (with_reducible (first
        | refine PW.seq fun K1 hK1 => ?_
        | refine PW.region fun K2 hK2 => ?_
        | (refine hK3 _ ?_; clear hK3)
        | (refine opsP_nil ?_; refine hK2 _ ?_; clear hK2)
        | refine litX_old ?_
        | refine litC_data ?_
        | (refine Exists.intro _ (Exists.intro _ (And.intro rfl (And.intro rfl (And.intro ?_ ?_)))); focus omega)
        | (refine hK1 _ ?_; clear hK1)
        | refine nilC_intro (fun hz => ?_) ?_
        | refine PW.block ?_
        | refine PW.skip ?_
        | refine PW.exit ?_
        | refine PW.ret ?_
        | (refine hX1 ?_; clear hX1 hY1; try simp only [hb])
        | (refine hY1 ?_; clear hX1 hY1; try simp only [hb])
        | exact co_refl _
        | exact co_own _ _ _
        | exact co_nilsB
        | exact co_nilsL _ _))
      | ((first | (with_reducible refine wantB_intro (fun hb => ?_) (fun hb => ?_)) | (with_reducible refine condB_intro (fun hb => ?_) (fun hb => ?_))) <;> ((try (have hp := hb; simp only [Bool.not_eq_eq_eq_not, Bool.not_true, Bool.not_false, decide_eq_true_eq, decide_eq_false_iff_not] at hp)); try simp only [hb, Bool.not_true, Bool.not_false]))
      | ((with_reducible refine callP_recv (cs := ?_) ?_ ?_ ?_ ?_ (pPgText ?_ ?_) (fun _ => ?_)); rotate_left 1; (focus (first | exact rfl | (simp only [List.getElem?_cons_zero, List.getElem?_cons_succ]; rfl))); (focus (repeat' (first | exact cos_refl _ | (refine cos_cons ?_ ?_) | exact co_refl _ | exact co_own _ _ _ | exact co_nilsB | exact co_nilsL _ _ | exact co_nils _ | (refine co_agg ?_) | (refine co_fn ?_)))); (focus (repeat' (first | exact cos_refl _ | (refine cos_cons ?_ ?_) | exact co_refl _ | exact co_own _ _ _ | exact co_nilsB | exact co_nilsL _ _ | exact co_nils _ | (refine co_agg ?_) | (refine co_fn ?_)))); (focus (simp only [purAs, purA, Bool.and_self])))
      | ((with_reducible refine callP_recv (cs := ?_) ?_ ?_ ?_ ?_ (pPgWhole ?_ ?_) (fun _ => ?_)); rotate_left 1; (focus (first | exact rfl | (simp only [List.getElem?_cons_zero, List.getElem?_cons_succ]; rfl))); (focus (repeat' (first | exact cos_refl _ | (refine cos_cons ?_ ?_) | exact co_refl _ | exact co_own _ _ _ | exact co_nilsB | exact co_nilsL _ _ | exact co_nils _ | (refine co_agg ?_) | (refine co_fn ?_)))); (focus (repeat' (first | exact cos_refl _ | (refine cos_cons ?_ ?_) | exact co_refl _ | exact co_own _ _ _ | exact co_nilsB | exact co_nilsL _ _ | exact co_nils _ | (refine co_agg ?_) | (refine co_fn ?_)))); (focus (simp only [purAs, purA, Bool.and_self])))
      | ((with_reducible refine And.intro ?_ ?_); (focus (first | omega | (simp; done) | assumption)))
      | (simp only [thenP, blockP]; (try ((repeat (fail_if_success (with_reducible refine hK1 _ ?_)); clear hK1); (with_reducible refine hK1 _ ?_); clear hK1)))
      | (with_reducible omega)
      | (assumption)
      | ((first | ((with_reducible refine opsP_cons fun K3 hK3 => ?_); simp only [wantP, opP, valP, List.map_cons, List.map_nil]) | (with_reducible refine PW.condM fun X1 Y1 hX1 hY1 => ?_) | skip); simp (disch := omega) only [St.eval, St.put, upd_app, iniT_app, avOf, avOf1, wf_i64, wf_u8, nom, cellsA, AV.okv, loadA, binP, intsP, intP, nilP, unP, slA, putCells, fillA, buildA, U7, U8, Ua, Ub, Uc, Ud, Uf, Ug, Uk, Un, Up, Ut, Uu, Uv, Nat.reduceLT, Nat.reduceLeDiff, Nat.reduceAdd, Nat.reduceEqDiff, V9, Va, Vd, Ve, Vt, Int.reduceLE, Int.reduceNeg, Vu, Vf, Vh, Vn, Vo, ↓reduceIte, reduceCtorEq, Vw, Vz, UU0, UU2, UU3, Vr, sz22, sz26, ze26, pl26, ze99, pl99, fi99_0, e1, retQ, resP, tupA, fg, fgs, condP, condB_f]; try (with_reducible (first | exact co_refl _ | exact co_own _ _ _ | exact co_nilsB | exact co_nilsL _ _))))
    all_goals (try (focus ((try simp only [e2, hrl, zF]); (repeat' split) <;> (first | (exfalso; omega) | ((try ((with_reducible refine And.intro ?_ ?_); rotate_left 1; (focus (first | exact subM_row1 | exact subM_nom _ | (refine subM_box1 ?_; simp only [fgs, fg]; (repeat' (first | exact cos_refl _ | refine cos_cons ?_ ?_ | exact co_refl _ | exact co_nilsB | exact co_own _ _ _ | exact co_nilsL _ _ | exact co_nils _ | refine co_agg ?_ | refine co_tup ?_)); done))))); (first | ((repeat' (first | exact cos_refl _ | refine cos_cons ?_ ?_ | exact co_refl _ | exact co_nilsB | exact co_own _ _ _ | exact co_nilsL _ _ | exact co_nils _ | refine co_agg ?_ | refine co_tup ?_)); done) | (refine co_eq ?_; simp_all; done))) | (exfalso; simp_all; done)))))
end PM
end Go.Proofs.YthaekefdadccaaaDoor
