/- pgwire in the abstract: what may be written. -/
import Derived.Test.YthaekefdadccaaaDoorPg11
namespace Go.Proofs.YthaekefdadccaaaDoor
open Go.RowKit
namespace PM
set_option maxRecDepth 100000 in
theorem pCleanF (a : List Int) : Pure Tryd.prog 71 [.d (.str a)] (.d (.bool (has0 a))) := by
  refine pure_intro Tryd.func71 rfl rfl rfl 6 rfl (fun hh => ?_)
  have hI := pIndexS a 0 (by omega)
  repeat' (first
    | (with_reducible (first
      | refine PW.seq fun K1 hK1 => ?_
      | refine PW.region fun K2 hK2 => ?_
      | (refine hK3 _ ?_; clear hK3)
      | (refine opsP_nil ?_; refine hK2 _ ?_; clear hK2)
      | refine litX_old ?_
      | refine litC_data ?_
      | (refine Exists.intro _ (Exists.intro _ (And.intro rfl (And.intro rfl (And.intro ?_ ?_)))); focus omega)
      | (refine hK1 _ ?_; clear hK1)
      | refine nilC_intro (fun hz => ?_) ?_
      | refine PW.block ?_
      | refine PW.skip ?_
      | refine PW.exit ?_
      | refine PW.ret ?_
      | (refine hX1 ?_; clear hX1 hY1; try simp only [hb])
      | (refine hY1 ?_; clear hX1 hY1; try simp only [hb])
      | exact co_refl _
      | exact co_own _ _ _
      | exact co_nilsB
      | exact co_nilsL _ _))
    | ((first | (with_reducible refine wantB_intro (fun hb => ?_) (fun hb => ?_)) | (with_reducible refine condB_intro (fun hb => ?_) (fun hb => ?_))) <;> ((try (have hp := hb; simp only [Bool.and_eq_true, Bool.or_eq_true, Bool.not_eq_true', Bool.not_eq_false', Bool.and_eq_false_iff, Bool.or_eq_false_iff, Bool.not_eq_eq_eq_not, Bool.not_true, Bool.not_false, decide_eq_true_eq, decide_eq_false_iff_not, Int.not_lt, Int.not_le, beq_iff_eq, beq_eq_false_iff_ne, ne_eq] at hp)); try simp only [hb, Bool.not_true, Bool.not_false]))
    | ((with_reducible refine callP_pure ?_ ?_ (hI) (fun _ => ?_)); (focus (repeat' (first | exact cos_refl _ | (refine cos_cons ?_ ?_) | exact co_refl _ | exact co_own _ _ _ | exact co_nilsB | exact co_nilsL _ _ | exact co_nils _ | (refine co_agg ?_) | (refine co_fn ?_)))); (focus (simp only [purAs, purA, Bool.and_self, Bool.and_true])))
    | ((with_reducible refine And.intro ?_ ?_); (focus (first | omega | (simp; done) | assumption)))
    | (simp only [thenP, blockP, Nat.reduceEqDiff, ↓reduceIte]; (try ((repeat (fail_if_success (with_reducible refine hK1 _ ?_)); clear hK1); (with_reducible refine hK1 _ ?_); clear hK1)))
    | (with_reducible omega)
    | (assumption)
    | ((first | ((with_reducible refine opsP_cons fun K3 hK3 => ?_); simp only [wantP, opP, valP, List.toList_toArray, Array.toList_empty, List.map_cons, List.map_nil, List.mapM_cons, List.mapM_nil, List.all_cons, List.all_nil]) | (with_reducible refine PW.condM fun X1 Y1 hX1 hY1 => ?_) | skip); simp (disch := omega) only [wantP, wantB_tt, wantB_ff, wantB_tf, wantB_ft, opP, valP, St.eval, St.put, upd_app, iniT_app, avOf, avOf1, wf_i64, wf_u64, wf_u8, wf_i32, wf_u32, nom, cellsA, AV.okv, loadA, lenP, binP, intsP, intP, strP, eqP, nilP, convP, unP, builtinP, bsz, Array.toList_empty, List.size_toArray, UInt8.reduceToNat, wi_i64, wi_u64, wi_i32, wi_u32, wi_u8, wi_i8, dvEqC, eqAll, cellsV, maplenP, isMapA, isBsl, viewA, Nat.min_self, Option.isSome_some, List.flatten_cons, List.flatten_nil, List.replicate_zero, slA, putCells, fillA, buildA, elA, dv1, encB_len, encB_get, encB_append, encB_take, encB_drop, encB_snoc, encL_len, encL_get, encL_append, encL_take, encL_drop, bytesD_enc, bytesD_some, List.getD_cons_zero, List.getD_cons_succ, List.getD_nil, List.getElem?_cons_zero, List.getElem?_cons_succ, List.getElem?_nil, List.set_cons_zero, List.set_cons_succ, List.set_nil, List.length_cons, List.length_nil, List.length_map, List.length_append, List.length_set, List.drop_zero, List.drop_succ_cons, List.drop_nil, List.take_succ_cons, List.take_zero, List.take_nil, List.take_length, List.map_cons, List.map_nil, List.nil_append, List.cons_append, List.append_nil, List.mapM_cons, List.mapM_nil, List.all_cons, List.all_nil, List.toList_toArray, List.getElem?_toArray, List.range_succ, List.range_zero, Option.map_some, Option.map_none, Option.bind_some, Option.bind_none, Option.bind_eq_bind, Option.pure_def, Option.isSome_some, Option.isSome_none, Int.toNat_natCast, Int.toNat_zero, Nat.reduceLT, Nat.reduceLeDiff, Nat.reduceAdd, Nat.reduceMul, Nat.reduceSub, Nat.reduceEqDiff, Nat.reduceBEq, Nat.zero_add, Nat.add_zero, Nat.zero_mul, Nat.not_lt_zero, Nat.lt_irrefl, Nat.reduceGT, Nat.lt_add_one, gt_iff_lt, Int.reduceLE, Int.reduceLT, Int.reduceNeg, Int.reduceToNat, Int.reduceAdd, Int.reduceSub, Int.reduceMul, Int.cast_ofNat_Int, decide_true, decide_false, Bool.and_true, Bool.and_false, Bool.true_and, Bool.false_and, Bool.or_true, Bool.or_false, Bool.true_or, Bool.false_or, Bool.not_true, Bool.not_false, ite_same, ↓reduceIte, Bool.false_eq_true, reduceCtorEq, true_and, and_true, false_and, and_false, or_false, false_or, ne_eq, not_true_eq_false, not_false_eq_true, or_true, true_or, if_true, if_false, Int.natCast_add, BEq.rfl, beq_self_eq_true, Nat.le_refl, Int.le_refl, sz3, ze3, by3, zv3, cl3, ps3, st3, Tryd.underlying3, sz5, ze5, by5, zv5, cl5, ps5, st5, Tryd.underlying5, sz9, ze9, by9, zv9, cl9, ps9, st9, Tryd.underlying9, mrg_t, mrg_f, pick_or, pick_and, pick_or', pick_and', retQ, resP, tupA, fg, fgs, condP, condB_t, condB_f]; try (with_reducible (first | exact co_refl _ | exact co_own _ _ _ | exact co_nilsB | exact co_nilsL _ _))))
  all_goals (try (focus ((try simp only [has0]); (repeat' split) <;> (first | (exfalso; omega) | ((try ((with_reducible refine And.intro ?_ ?_); rotate_left 1; (focus (first | exact subM_row1 | exact subM_nom _ | (refine subM_box1 ?_; simp only [fgs, fg]; (repeat' (first | exact cos_refl _ | refine cos_cons ?_ ?_ | exact co_refl _ | exact co_nilsB | exact co_own _ _ _ | exact co_nilsL _ _ | exact co_nils _ | refine co_agg ?_ | refine co_tup ?_)); done))))); (first | ((repeat' (first | exact cos_refl _ | refine cos_cons ?_ ?_ | exact co_refl _ | exact co_nilsB | exact co_own _ _ _ | exact co_nilsL _ _ | exact co_nils _ | refine co_agg ?_ | refine co_tup ?_)); done) | (refine co_eq ?_; simp_all; done))) | (exfalso; simp_all; done)))))
set_option maxRecDepth 100000 in
theorem pIdx1 (a : List Int) : Pure Tryd.prog 85 [.d (.sl 1 [[.str a]]), .fn 71 []] (.d (.int .i64 (if has0 a then 0 else -1))) := by
  refine pure_intro Tryd.func85 rfl rfl rfl 19 rfl (fun hh => ?_)
  repeat' (first
    | (with_reducible (first
      | refine PW.seq fun K1 hK1 => ?_
      | refine PW.region fun K2 hK2 => ?_
      | (refine hK3 _ ?_; clear hK3)
      | (refine opsP_nil ?_; refine hK2 _ ?_; clear hK2)
      | refine litX_old ?_
      | refine litC_data ?_
      | (refine Exists.intro _ (Exists.intro _ (And.intro rfl (And.intro rfl (And.intro ?_ ?_)))); focus omega)
      | (refine hK1 _ ?_; clear hK1)
      | refine nilC_intro (fun hz => ?_) ?_
      | refine PW.rounds (id := 0) 2 ?_
      | refine rounds_more fun K1 hK1 => ?_
      | refine PW.block ?_
      | refine PW.skip ?_
      | refine PW.exit ?_
      | refine PW.ret ?_
      | (refine hX1 ?_; clear hX1 hY1; try simp only [hb])
      | (refine hY1 ?_; clear hX1 hY1; try simp only [hb])
      | exact co_refl _
      | exact co_own _ _ _
      | exact co_nilsB
      | exact co_nilsL _ _))
    | ((first | (with_reducible refine wantB_intro (fun hb => ?_) (fun hb => ?_)) | (with_reducible refine condB_intro (fun hb => ?_) (fun hb => ?_))) <;> ((try (have hp := hb; simp only [Bool.and_eq_true, Bool.or_eq_true, Bool.not_eq_true', Bool.not_eq_false', Bool.and_eq_false_iff, Bool.or_eq_false_iff, Bool.not_eq_eq_eq_not, Bool.not_true, Bool.not_false, decide_eq_true_eq, decide_eq_false_iff_not, Int.not_lt, Int.not_le, beq_iff_eq, beq_eq_false_iff_ne, ne_eq] at hp)); try simp only [hb, Bool.not_true, Bool.not_false]))
    | ((with_reducible refine callP_pure ?_ ?_ (pCleanF ?_) (fun _ => ?_)); (focus (repeat' (first | exact cos_refl _ | (refine cos_cons ?_ ?_) | exact co_refl _ | exact co_own _ _ _ | exact co_nilsB | exact co_nilsL _ _ | exact co_nils _ | (refine co_agg ?_) | (refine co_fn ?_)))); (focus (simp only [purAs, purA, Bool.and_self, Bool.and_true])))
    | ((with_reducible refine And.intro ?_ ?_); (focus (first | omega | (simp; done) | assumption)))
    | (simp only [thenP, blockP, Nat.reduceEqDiff, ↓reduceIte]; (try ((repeat (fail_if_success (with_reducible refine hK1 _ ?_)); clear hK1); (with_reducible refine hK1 _ ?_); clear hK1)))
    | (with_reducible omega)
    | (assumption)
    | ((first | ((with_reducible refine opsP_cons fun K3 hK3 => ?_); simp only [wantP, opP, valP, List.toList_toArray, Array.toList_empty, List.map_cons, List.map_nil, List.mapM_cons, List.mapM_nil, List.all_cons, List.all_nil]) | (with_reducible refine PW.condM fun X1 Y1 hX1 hY1 => ?_) | skip); simp (disch := omega) only [wantP, wantB_tt, wantB_ff, wantB_tf, wantB_ft, opP, valP, St.eval, St.put, upd_app, iniT_app, avOf, avOf1, wf_i64, wf_u64, wf_u8, wf_i32, wf_u32, nom, cellsA, AV.okv, loadA, lenP, binP, intsP, intP, strP, eqP, nilP, convP, unP, builtinP, bsz, Array.toList_empty, List.size_toArray, UInt8.reduceToNat, wi_i64, wi_u64, wi_i32, wi_u32, wi_u8, wi_i8, dvEqC, eqAll, cellsV, maplenP, isMapA, isBsl, viewA, Nat.min_self, Option.isSome_some, List.flatten_cons, List.flatten_nil, List.replicate_zero, slA, putCells, fillA, buildA, elA, dv1, encB_len, encB_get, encB_append, encB_take, encB_drop, encB_snoc, encL_len, encL_get, encL_append, encL_take, encL_drop, bytesD_enc, bytesD_some, List.getD_cons_zero, List.getD_cons_succ, List.getD_nil, List.getElem?_cons_zero, List.getElem?_cons_succ, List.getElem?_nil, List.set_cons_zero, List.set_cons_succ, List.set_nil, List.length_cons, List.length_nil, List.length_map, List.length_append, List.length_set, List.drop_zero, List.drop_succ_cons, List.drop_nil, List.take_succ_cons, List.take_zero, List.take_nil, List.take_length, List.map_cons, List.map_nil, List.nil_append, List.cons_append, List.append_nil, List.mapM_cons, List.mapM_nil, List.all_cons, List.all_nil, List.toList_toArray, List.getElem?_toArray, List.range_succ, List.range_zero, Option.map_some, Option.map_none, Option.bind_some, Option.bind_none, Option.bind_eq_bind, Option.pure_def, Option.isSome_some, Option.isSome_none, Int.toNat_natCast, Int.toNat_zero, Nat.reduceLT, Nat.reduceLeDiff, Nat.reduceAdd, Nat.reduceMul, Nat.reduceSub, Nat.reduceEqDiff, Nat.reduceBEq, Nat.zero_add, Nat.add_zero, Nat.zero_mul, Nat.not_lt_zero, Nat.lt_irrefl, Nat.reduceGT, Nat.lt_add_one, gt_iff_lt, Int.reduceLE, Int.reduceLT, Int.reduceNeg, Int.reduceToNat, Int.reduceAdd, Int.reduceSub, Int.reduceMul, Int.cast_ofNat_Int, decide_true, decide_false, Bool.and_true, Bool.and_false, Bool.true_and, Bool.false_and, Bool.or_true, Bool.or_false, Bool.true_or, Bool.false_or, Bool.not_true, Bool.not_false, ite_same, ↓reduceIte, Bool.false_eq_true, reduceCtorEq, true_and, and_true, false_and, and_false, or_false, false_or, ne_eq, not_true_eq_false, not_false_eq_true, or_true, true_or, if_true, if_false, Int.natCast_add, BEq.rfl, beq_self_eq_true, Nat.le_refl, Int.le_refl, sz3, ze3, by3, zv3, cl3, ps3, st3, Tryd.underlying3, sz9, ze9, by9, zv9, cl9, ps9, st9, Tryd.underlying9, sz115, ze115, by115, el115, is115, zv115, cl115, st115, Tryd.underlying115, mrg_t, mrg_f, pick_or, pick_and, pick_or', pick_and', retQ, resP, tupA, fg, fgs, condP, condB_t, condB_f]; try (with_reducible (first | exact co_refl _ | exact co_own _ _ _ | exact co_nilsB | exact co_nilsL _ _))))
  all_goals (try (focus ((try simp only [has0]); (repeat' split) <;> (first | (exfalso; omega) | ((try ((with_reducible refine And.intro ?_ ?_); rotate_left 1; (focus (first | exact subM_row1 | exact subM_nom _ | (refine subM_box1 ?_; simp only [fgs, fg]; (repeat' (first | exact cos_refl _ | refine cos_cons ?_ ?_ | exact co_refl _ | exact co_nilsB | exact co_own _ _ _ | exact co_nilsL _ _ | exact co_nils _ | refine co_agg ?_ | refine co_tup ?_)); done))))); (first | ((repeat' (first | exact cos_refl _ | refine cos_cons ?_ ?_ | exact co_refl _ | exact co_nilsB | exact co_own _ _ _ | exact co_nilsL _ _ | exact co_nils _ | refine co_agg ?_ | refine co_tup ?_)); done) | (refine co_eq ?_; simp_all; done))) | (exfalso; simp_all; done)))))
  all_goals (refine co_eq ?_; simp_all)
set_option maxRecDepth 100000 in
theorem pCon1 (a : List Int) : Pure Tryd.prog 70 [.d (.sl 1 [[.str a]]), .fn 71 []] (.d (.bool (has0 a))) := by
  refine pure_intro Tryd.func70 rfl rfl rfl 9 rfl (fun hh => ?_)
  repeat' (first
    | (with_reducible (first
      | refine PW.seq fun K1 hK1 => ?_
      | refine PW.region fun K2 hK2 => ?_
      | (refine hK3 _ ?_; clear hK3)
      | (refine opsP_nil ?_; refine hK2 _ ?_; clear hK2)
      | refine litX_old ?_
      | refine litC_data ?_
      | (refine Exists.intro _ (Exists.intro _ (And.intro rfl (And.intro rfl (And.intro ?_ ?_)))); focus omega)
      | (refine hK1 _ ?_; clear hK1)
      | refine nilC_intro (fun hz => ?_) ?_
      | refine PW.block ?_
      | refine PW.skip ?_
      | refine PW.exit ?_
      | refine PW.ret ?_
      | (refine hX1 ?_; clear hX1 hY1; try simp only [hb])
      | (refine hY1 ?_; clear hX1 hY1; try simp only [hb])
      | exact co_refl _
      | exact co_own _ _ _
      | exact co_nilsB
      | exact co_nilsL _ _))
    | ((first | (with_reducible refine wantB_intro (fun hb => ?_) (fun hb => ?_)) | (with_reducible refine condB_intro (fun hb => ?_) (fun hb => ?_))) <;> ((try (have hp := hb; simp only [Bool.and_eq_true, Bool.or_eq_true, Bool.not_eq_true', Bool.not_eq_false', Bool.and_eq_false_iff, Bool.or_eq_false_iff, Bool.not_eq_eq_eq_not, Bool.not_true, Bool.not_false, decide_eq_true_eq, decide_eq_false_iff_not, Int.not_lt, Int.not_le, beq_iff_eq, beq_eq_false_iff_ne, ne_eq] at hp)); try simp only [hb, Bool.not_true, Bool.not_false]))
    | ((with_reducible refine callP_pure ?_ ?_ (pIdx1 ?_) (fun _ => ?_)); (focus (repeat' (first | exact cos_refl _ | (refine cos_cons ?_ ?_) | exact co_refl _ | exact co_own _ _ _ | exact co_nilsB | exact co_nilsL _ _ | exact co_nils _ | (refine co_agg ?_) | (refine co_fn ?_)))); (focus (simp only [purAs, purA, Bool.and_self, Bool.and_true])))
    | ((with_reducible refine And.intro ?_ ?_); (focus (first | omega | (simp; done) | assumption)))
    | (simp only [thenP, blockP, Nat.reduceEqDiff, ↓reduceIte]; (try ((repeat (fail_if_success (with_reducible refine hK1 _ ?_)); clear hK1); (with_reducible refine hK1 _ ?_); clear hK1)))
    | (with_reducible omega)
    | (assumption)
    | ((first | ((with_reducible refine opsP_cons fun K3 hK3 => ?_); simp only [wantP, opP, valP, List.toList_toArray, Array.toList_empty, List.map_cons, List.map_nil, List.mapM_cons, List.mapM_nil, List.all_cons, List.all_nil]) | (with_reducible refine PW.condM fun X1 Y1 hX1 hY1 => ?_) | skip); simp (disch := omega) only [wantP, wantB_tt, wantB_ff, wantB_tf, wantB_ft, opP, valP, St.eval, St.put, upd_app, iniT_app, avOf, avOf1, wf_i64, wf_u64, wf_u8, wf_i32, wf_u32, nom, cellsA, AV.okv, loadA, lenP, binP, intsP, intP, strP, eqP, nilP, convP, unP, builtinP, bsz, Array.toList_empty, List.size_toArray, UInt8.reduceToNat, wi_i64, wi_u64, wi_i32, wi_u32, wi_u8, wi_i8, dvEqC, eqAll, cellsV, maplenP, isMapA, isBsl, viewA, Nat.min_self, Option.isSome_some, List.flatten_cons, List.flatten_nil, List.replicate_zero, slA, putCells, fillA, buildA, elA, dv1, encB_len, encB_get, encB_append, encB_take, encB_drop, encB_snoc, encL_len, encL_get, encL_append, encL_take, encL_drop, bytesD_enc, bytesD_some, List.getD_cons_zero, List.getD_cons_succ, List.getD_nil, List.getElem?_cons_zero, List.getElem?_cons_succ, List.getElem?_nil, List.set_cons_zero, List.set_cons_succ, List.set_nil, List.length_cons, List.length_nil, List.length_map, List.length_append, List.length_set, List.drop_zero, List.drop_succ_cons, List.drop_nil, List.take_succ_cons, List.take_zero, List.take_nil, List.take_length, List.map_cons, List.map_nil, List.nil_append, List.cons_append, List.append_nil, List.mapM_cons, List.mapM_nil, List.all_cons, List.all_nil, List.toList_toArray, List.getElem?_toArray, List.range_succ, List.range_zero, Option.map_some, Option.map_none, Option.bind_some, Option.bind_none, Option.bind_eq_bind, Option.pure_def, Option.isSome_some, Option.isSome_none, Int.toNat_natCast, Int.toNat_zero, Nat.reduceLT, Nat.reduceLeDiff, Nat.reduceAdd, Nat.reduceMul, Nat.reduceSub, Nat.reduceEqDiff, Nat.reduceBEq, Nat.zero_add, Nat.add_zero, Nat.zero_mul, Nat.not_lt_zero, Nat.lt_irrefl, Nat.reduceGT, Nat.lt_add_one, gt_iff_lt, Int.reduceLE, Int.reduceLT, Int.reduceNeg, Int.reduceToNat, Int.reduceAdd, Int.reduceSub, Int.reduceMul, Int.cast_ofNat_Int, decide_true, decide_false, Bool.and_true, Bool.and_false, Bool.true_and, Bool.false_and, Bool.or_true, Bool.or_false, Bool.true_or, Bool.false_or, Bool.not_true, Bool.not_false, ite_same, ↓reduceIte, Bool.false_eq_true, reduceCtorEq, true_and, and_true, false_and, and_false, or_false, false_or, ne_eq, not_true_eq_false, not_false_eq_true, or_true, true_or, if_true, if_false, Int.natCast_add, BEq.rfl, beq_self_eq_true, Nat.le_refl, Int.le_refl, sz3, ze3, by3, zv3, cl3, ps3, st3, Tryd.underlying3, sz9, ze9, by9, zv9, cl9, ps9, st9, Tryd.underlying9, sz115, ze115, by115, el115, is115, zv115, cl115, st115, Tryd.underlying115, retQ, resP, tupA, fg, fgs, condP, condB_t, condB_f]; try (with_reducible (first | exact co_refl _ | exact co_own _ _ _ | exact co_nilsB | exact co_nilsL _ _))))
  all_goals (refine co_eq ?_; cases has0 a <;> rfl)
set_option maxRecDepth 100000 in
theorem pClean1 (a : List Int) : Pure Tryd.prog 41 [.d (.sl 1 [[.str a]])] (.d (.bool (!has0 a))) := by
  refine pure_intro Tryd.func41 rfl rfl rfl 6 rfl (fun hh => ?_)
  repeat' (first
    | (with_reducible (first
      | refine PW.seq fun K1 hK1 => ?_
      | refine PW.region fun K2 hK2 => ?_
      | (refine hK3 _ ?_; clear hK3)
      | (refine opsP_nil ?_; refine hK2 _ ?_; clear hK2)
      | refine litX_old ?_
      | refine litC_data ?_
      | (refine Exists.intro _ (Exists.intro _ (And.intro rfl (And.intro rfl (And.intro ?_ ?_)))); focus omega)
      | (refine hK1 _ ?_; clear hK1)
      | refine nilC_intro (fun hz => ?_) ?_
      | refine PW.block ?_
      | refine PW.skip ?_
      | refine PW.exit ?_
      | refine PW.ret ?_
      | (refine hX1 ?_; clear hX1 hY1; try simp only [hb])
      | (refine hY1 ?_; clear hX1 hY1; try simp only [hb])
      | exact co_refl _
      | exact co_own _ _ _
      | exact co_nilsB
      | exact co_nilsL _ _))
    | ((first | (with_reducible refine wantB_intro (fun hb => ?_) (fun hb => ?_)) | (with_reducible refine condB_intro (fun hb => ?_) (fun hb => ?_))) <;> ((try (have hp := hb; simp only [Bool.and_eq_true, Bool.or_eq_true, Bool.not_eq_true', Bool.not_eq_false', Bool.and_eq_false_iff, Bool.or_eq_false_iff, Bool.not_eq_eq_eq_not, Bool.not_true, Bool.not_false, decide_eq_true_eq, decide_eq_false_iff_not, Int.not_lt, Int.not_le, beq_iff_eq, beq_eq_false_iff_ne, ne_eq] at hp)); try simp only [hb, Bool.not_true, Bool.not_false]))
    | ((with_reducible refine callP_pure ?_ ?_ (pCon1 ?_) (fun _ => ?_)); (focus (repeat' (first | exact cos_refl _ | (refine cos_cons ?_ ?_) | exact co_refl _ | exact co_own _ _ _ | exact co_nilsB | exact co_nilsL _ _ | exact co_nils _ | (refine co_agg ?_) | (refine co_fn ?_)))); (focus (simp only [purAs, purA, Bool.and_self, Bool.and_true])))
    | ((with_reducible refine And.intro ?_ ?_); (focus (first | omega | (simp; done) | assumption)))
    | (simp only [thenP, blockP, Nat.reduceEqDiff, ↓reduceIte]; (try ((repeat (fail_if_success (with_reducible refine hK1 _ ?_)); clear hK1); (with_reducible refine hK1 _ ?_); clear hK1)))
    | (with_reducible omega)
    | (assumption)
    | ((first | ((with_reducible refine opsP_cons fun K3 hK3 => ?_); simp only [wantP, opP, valP, List.toList_toArray, Array.toList_empty, List.map_cons, List.map_nil, List.mapM_cons, List.mapM_nil, List.all_cons, List.all_nil]) | (with_reducible refine PW.condM fun X1 Y1 hX1 hY1 => ?_) | skip); simp (disch := omega) only [wantP, wantB_tt, wantB_ff, wantB_tf, wantB_ft, opP, valP, St.eval, St.put, upd_app, iniT_app, avOf, avOf1, wf_i64, wf_u64, wf_u8, wf_i32, wf_u32, nom, cellsA, AV.okv, loadA, lenP, binP, intsP, intP, strP, eqP, nilP, convP, unP, builtinP, bsz, Array.toList_empty, List.size_toArray, UInt8.reduceToNat, wi_i64, wi_u64, wi_i32, wi_u32, wi_u8, wi_i8, dvEqC, eqAll, cellsV, maplenP, isMapA, isBsl, viewA, Nat.min_self, Option.isSome_some, List.flatten_cons, List.flatten_nil, List.replicate_zero, slA, putCells, fillA, buildA, elA, dv1, encB_len, encB_get, encB_append, encB_take, encB_drop, encB_snoc, encL_len, encL_get, encL_append, encL_take, encL_drop, bytesD_enc, bytesD_some, List.getD_cons_zero, List.getD_cons_succ, List.getD_nil, List.getElem?_cons_zero, List.getElem?_cons_succ, List.getElem?_nil, List.set_cons_zero, List.set_cons_succ, List.set_nil, List.length_cons, List.length_nil, List.length_map, List.length_append, List.length_set, List.drop_zero, List.drop_succ_cons, List.drop_nil, List.take_succ_cons, List.take_zero, List.take_nil, List.take_length, List.map_cons, List.map_nil, List.nil_append, List.cons_append, List.append_nil, List.mapM_cons, List.mapM_nil, List.all_cons, List.all_nil, List.toList_toArray, List.getElem?_toArray, List.range_succ, List.range_zero, Option.map_some, Option.map_none, Option.bind_some, Option.bind_none, Option.bind_eq_bind, Option.pure_def, Option.isSome_some, Option.isSome_none, Int.toNat_natCast, Int.toNat_zero, Nat.reduceLT, Nat.reduceLeDiff, Nat.reduceAdd, Nat.reduceMul, Nat.reduceSub, Nat.reduceEqDiff, Nat.reduceBEq, Nat.zero_add, Nat.add_zero, Nat.zero_mul, Nat.not_lt_zero, Nat.lt_irrefl, Nat.reduceGT, Nat.lt_add_one, gt_iff_lt, Int.reduceLE, Int.reduceLT, Int.reduceNeg, Int.reduceToNat, Int.reduceAdd, Int.reduceSub, Int.reduceMul, Int.cast_ofNat_Int, decide_true, decide_false, Bool.and_true, Bool.and_false, Bool.true_and, Bool.false_and, Bool.or_true, Bool.or_false, Bool.true_or, Bool.false_or, Bool.not_true, Bool.not_false, ite_same, ↓reduceIte, Bool.false_eq_true, reduceCtorEq, true_and, and_true, false_and, and_false, or_false, false_or, ne_eq, not_true_eq_false, not_false_eq_true, or_true, true_or, if_true, if_false, Int.natCast_add, BEq.rfl, beq_self_eq_true, Nat.le_refl, Int.le_refl, sz9, ze9, by9, zv9, cl9, ps9, st9, Tryd.underlying9, sz115, ze115, by115, el115, is115, zv115, cl115, st115, Tryd.underlying115, retQ, resP, tupA, fg, fgs, condP, condB_t, condB_f]; try (with_reducible (first | exact co_refl _ | exact co_own _ _ _ | exact co_nilsB | exact co_nilsL _ _))))
  all_goals (refine co_eq ?_; rfl)
set_option maxRecDepth 100000 in
theorem pIdx2 (a b : List Int) : Pure Tryd.prog 85 [.d (.sl 1 [[.str a], [.str b]]), .fn 71 []] (.d (.int .i64 (if has0 a then 0 else if has0 b then 1 else -1))) := by
  refine pure_intro Tryd.func85 rfl rfl rfl 19 rfl (fun hh => ?_)
  repeat' (first
    | (with_reducible (first
      | refine PW.seq fun K1 hK1 => ?_
      | refine PW.region fun K2 hK2 => ?_
      | (refine hK3 _ ?_; clear hK3)
      | (refine opsP_nil ?_; refine hK2 _ ?_; clear hK2)
      | refine litX_old ?_
      | refine litC_data ?_
      | (refine Exists.intro _ (Exists.intro _ (And.intro rfl (And.intro rfl (And.intro ?_ ?_)))); focus omega)
      | (refine hK1 _ ?_; clear hK1)
      | refine nilC_intro (fun hz => ?_) ?_
      | refine PW.rounds (id := 0) 3 ?_
      | refine rounds_more fun K1 hK1 => ?_
      | refine PW.block ?_
      | refine PW.skip ?_
      | refine PW.exit ?_
      | refine PW.ret ?_
      | (refine hX1 ?_; clear hX1 hY1; try simp only [hb])
      | (refine hY1 ?_; clear hX1 hY1; try simp only [hb])
      | exact co_refl _
      | exact co_own _ _ _
      | exact co_nilsB
      | exact co_nilsL _ _))
    | ((first | (with_reducible refine wantB_intro (fun hb => ?_) (fun hb => ?_)) | (with_reducible refine condB_intro (fun hb => ?_) (fun hb => ?_))) <;> ((try (have hp := hb; simp only [Bool.and_eq_true, Bool.or_eq_true, Bool.not_eq_true', Bool.not_eq_false', Bool.and_eq_false_iff, Bool.or_eq_false_iff, Bool.not_eq_eq_eq_not, Bool.not_true, Bool.not_false, decide_eq_true_eq, decide_eq_false_iff_not, Int.not_lt, Int.not_le, beq_iff_eq, beq_eq_false_iff_ne, ne_eq] at hp)); try simp only [hb, Bool.not_true, Bool.not_false]))
    | ((with_reducible refine callP_pure ?_ ?_ (pCleanF ?_) (fun _ => ?_)); (focus (repeat' (first | exact cos_refl _ | (refine cos_cons ?_ ?_) | exact co_refl _ | exact co_own _ _ _ | exact co_nilsB | exact co_nilsL _ _ | exact co_nils _ | (refine co_agg ?_) | (refine co_fn ?_)))); (focus (simp only [purAs, purA, Bool.and_self, Bool.and_true])))
    | ((with_reducible refine And.intro ?_ ?_); (focus (first | omega | (simp; done) | assumption)))
    | (simp only [thenP, blockP, Nat.reduceEqDiff, ↓reduceIte]; (try ((repeat (fail_if_success (with_reducible refine hK1 _ ?_)); clear hK1); (with_reducible refine hK1 _ ?_); clear hK1)))
    | (with_reducible omega)
    | (assumption)
    | ((first | ((with_reducible refine opsP_cons fun K3 hK3 => ?_); simp only [wantP, opP, valP, List.toList_toArray, Array.toList_empty, List.map_cons, List.map_nil, List.mapM_cons, List.mapM_nil, List.all_cons, List.all_nil]) | (with_reducible refine PW.condM fun X1 Y1 hX1 hY1 => ?_) | skip); simp (disch := omega) only [wantP, wantB_tt, wantB_ff, wantB_tf, wantB_ft, opP, valP, St.eval, St.put, upd_app, iniT_app, avOf, avOf1, wf_i64, wf_u64, wf_u8, wf_i32, wf_u32, nom, cellsA, AV.okv, loadA, lenP, binP, intsP, intP, strP, eqP, nilP, convP, unP, builtinP, bsz, Array.toList_empty, List.size_toArray, UInt8.reduceToNat, wi_i64, wi_u64, wi_i32, wi_u32, wi_u8, wi_i8, dvEqC, eqAll, cellsV, maplenP, isMapA, isBsl, viewA, Nat.min_self, Option.isSome_some, List.flatten_cons, List.flatten_nil, List.replicate_zero, slA, putCells, fillA, buildA, elA, dv1, encB_len, encB_get, encB_append, encB_take, encB_drop, encB_snoc, encL_len, encL_get, encL_append, encL_take, encL_drop, bytesD_enc, bytesD_some, List.getD_cons_zero, List.getD_cons_succ, List.getD_nil, List.getElem?_cons_zero, List.getElem?_cons_succ, List.getElem?_nil, List.set_cons_zero, List.set_cons_succ, List.set_nil, List.length_cons, List.length_nil, List.length_map, List.length_append, List.length_set, List.drop_zero, List.drop_succ_cons, List.drop_nil, List.take_succ_cons, List.take_zero, List.take_nil, List.take_length, List.map_cons, List.map_nil, List.nil_append, List.cons_append, List.append_nil, List.mapM_cons, List.mapM_nil, List.all_cons, List.all_nil, List.toList_toArray, List.getElem?_toArray, List.range_succ, List.range_zero, Option.map_some, Option.map_none, Option.bind_some, Option.bind_none, Option.bind_eq_bind, Option.pure_def, Option.isSome_some, Option.isSome_none, Int.toNat_natCast, Int.toNat_zero, Nat.reduceLT, Nat.reduceLeDiff, Nat.reduceAdd, Nat.reduceMul, Nat.reduceSub, Nat.reduceEqDiff, Nat.reduceBEq, Nat.zero_add, Nat.add_zero, Nat.zero_mul, Nat.not_lt_zero, Nat.lt_irrefl, Nat.reduceGT, Nat.lt_add_one, gt_iff_lt, Int.reduceLE, Int.reduceLT, Int.reduceNeg, Int.reduceToNat, Int.reduceAdd, Int.reduceSub, Int.reduceMul, Int.cast_ofNat_Int, decide_true, decide_false, Bool.and_true, Bool.and_false, Bool.true_and, Bool.false_and, Bool.or_true, Bool.or_false, Bool.true_or, Bool.false_or, Bool.not_true, Bool.not_false, ite_same, ↓reduceIte, Bool.false_eq_true, reduceCtorEq, true_and, and_true, false_and, and_false, or_false, false_or, ne_eq, not_true_eq_false, not_false_eq_true, or_true, true_or, if_true, if_false, Int.natCast_add, BEq.rfl, beq_self_eq_true, Nat.le_refl, Int.le_refl, sz3, ze3, by3, zv3, cl3, ps3, st3, Tryd.underlying3, sz9, ze9, by9, zv9, cl9, ps9, st9, Tryd.underlying9, sz115, ze115, by115, el115, is115, zv115, cl115, st115, Tryd.underlying115, mrg_t, mrg_f, pick_or, pick_and, pick_or', pick_and', retQ, resP, tupA, fg, fgs, condP, condB_t, condB_f]; try (with_reducible (first | exact co_refl _ | exact co_own _ _ _ | exact co_nilsB | exact co_nilsL _ _))))
  all_goals (try (focus ((try simp only [has0]); (repeat' split) <;> (first | (exfalso; omega) | ((try ((with_reducible refine And.intro ?_ ?_); rotate_left 1; (focus (first | exact subM_row1 | exact subM_nom _ | (refine subM_box1 ?_; simp only [fgs, fg]; (repeat' (first | exact cos_refl _ | refine cos_cons ?_ ?_ | exact co_refl _ | exact co_nilsB | exact co_own _ _ _ | exact co_nilsL _ _ | exact co_nils _ | refine co_agg ?_ | refine co_tup ?_)); done))))); (first | ((repeat' (first | exact cos_refl _ | refine cos_cons ?_ ?_ | exact co_refl _ | exact co_nilsB | exact co_own _ _ _ | exact co_nilsL _ _ | exact co_nils _ | refine co_agg ?_ | refine co_tup ?_)); done) | (refine co_eq ?_; simp_all; done))) | (exfalso; simp_all; done)))))
  all_goals (refine co_eq ?_; simp_all)
set_option maxRecDepth 100000 in
theorem pCon2 (a b : List Int) : Pure Tryd.prog 70 [.d (.sl 1 [[.str a], [.str b]]), .fn 71 []] (.d (.bool (has0 a || has0 b))) := by
  refine pure_intro Tryd.func70 rfl rfl rfl 9 rfl (fun hh => ?_)
  repeat' (first
    | (with_reducible (first
      | refine PW.seq fun K1 hK1 => ?_
      | refine PW.region fun K2 hK2 => ?_
      | (refine hK3 _ ?_; clear hK3)
      | (refine opsP_nil ?_; refine hK2 _ ?_; clear hK2)
      | refine litX_old ?_
      | refine litC_data ?_
      | (refine Exists.intro _ (Exists.intro _ (And.intro rfl (And.intro rfl (And.intro ?_ ?_)))); focus omega)
      | (refine hK1 _ ?_; clear hK1)
      | refine nilC_intro (fun hz => ?_) ?_
      | refine PW.block ?_
      | refine PW.skip ?_
      | refine PW.exit ?_
      | refine PW.ret ?_
      | (refine hX1 ?_; clear hX1 hY1; try simp only [hb])
      | (refine hY1 ?_; clear hX1 hY1; try simp only [hb])
      | exact co_refl _
      | exact co_own _ _ _
      | exact co_nilsB
      | exact co_nilsL _ _))
    | ((first | (with_reducible refine wantB_intro (fun hb => ?_) (fun hb => ?_)) | (with_reducible refine condB_intro (fun hb => ?_) (fun hb => ?_))) <;> ((try (have hp := hb; simp only [Bool.and_eq_true, Bool.or_eq_true, Bool.not_eq_true', Bool.not_eq_false', Bool.and_eq_false_iff, Bool.or_eq_false_iff, Bool.not_eq_eq_eq_not, Bool.not_true, Bool.not_false, decide_eq_true_eq, decide_eq_false_iff_not, Int.not_lt, Int.not_le, beq_iff_eq, beq_eq_false_iff_ne, ne_eq] at hp)); try simp only [hb, Bool.not_true, Bool.not_false]))
    | ((with_reducible refine callP_pure ?_ ?_ (pIdx2 ?_ ?_) (fun _ => ?_)); (focus (repeat' (first | exact cos_refl _ | (refine cos_cons ?_ ?_) | exact co_refl _ | exact co_own _ _ _ | exact co_nilsB | exact co_nilsL _ _ | exact co_nils _ | (refine co_agg ?_) | (refine co_fn ?_)))); (focus (simp only [purAs, purA, Bool.and_self, Bool.and_true])))
    | ((with_reducible refine And.intro ?_ ?_); (focus (first | omega | (simp; done) | assumption)))
    | (simp only [thenP, blockP, Nat.reduceEqDiff, ↓reduceIte]; (try ((repeat (fail_if_success (with_reducible refine hK1 _ ?_)); clear hK1); (with_reducible refine hK1 _ ?_); clear hK1)))
    | (with_reducible omega)
    | (assumption)
    | ((first | ((with_reducible refine opsP_cons fun K3 hK3 => ?_); simp only [wantP, opP, valP, List.toList_toArray, Array.toList_empty, List.map_cons, List.map_nil, List.mapM_cons, List.mapM_nil, List.all_cons, List.all_nil]) | (with_reducible refine PW.condM fun X1 Y1 hX1 hY1 => ?_) | skip); simp (disch := omega) only [wantP, wantB_tt, wantB_ff, wantB_tf, wantB_ft, opP, valP, St.eval, St.put, upd_app, iniT_app, avOf, avOf1, wf_i64, wf_u64, wf_u8, wf_i32, wf_u32, nom, cellsA, AV.okv, loadA, lenP, binP, intsP, intP, strP, eqP, nilP, convP, unP, builtinP, bsz, Array.toList_empty, List.size_toArray, UInt8.reduceToNat, wi_i64, wi_u64, wi_i32, wi_u32, wi_u8, wi_i8, dvEqC, eqAll, cellsV, maplenP, isMapA, isBsl, viewA, Nat.min_self, Option.isSome_some, List.flatten_cons, List.flatten_nil, List.replicate_zero, slA, putCells, fillA, buildA, elA, dv1, encB_len, encB_get, encB_append, encB_take, encB_drop, encB_snoc, encL_len, encL_get, encL_append, encL_take, encL_drop, bytesD_enc, bytesD_some, List.getD_cons_zero, List.getD_cons_succ, List.getD_nil, List.getElem?_cons_zero, List.getElem?_cons_succ, List.getElem?_nil, List.set_cons_zero, List.set_cons_succ, List.set_nil, List.length_cons, List.length_nil, List.length_map, List.length_append, List.length_set, List.drop_zero, List.drop_succ_cons, List.drop_nil, List.take_succ_cons, List.take_zero, List.take_nil, List.take_length, List.map_cons, List.map_nil, List.nil_append, List.cons_append, List.append_nil, List.mapM_cons, List.mapM_nil, List.all_cons, List.all_nil, List.toList_toArray, List.getElem?_toArray, List.range_succ, List.range_zero, Option.map_some, Option.map_none, Option.bind_some, Option.bind_none, Option.bind_eq_bind, Option.pure_def, Option.isSome_some, Option.isSome_none, Int.toNat_natCast, Int.toNat_zero, Nat.reduceLT, Nat.reduceLeDiff, Nat.reduceAdd, Nat.reduceMul, Nat.reduceSub, Nat.reduceEqDiff, Nat.reduceBEq, Nat.zero_add, Nat.add_zero, Nat.zero_mul, Nat.not_lt_zero, Nat.lt_irrefl, Nat.reduceGT, Nat.lt_add_one, gt_iff_lt, Int.reduceLE, Int.reduceLT, Int.reduceNeg, Int.reduceToNat, Int.reduceAdd, Int.reduceSub, Int.reduceMul, Int.cast_ofNat_Int, decide_true, decide_false, Bool.and_true, Bool.and_false, Bool.true_and, Bool.false_and, Bool.or_true, Bool.or_false, Bool.true_or, Bool.false_or, Bool.not_true, Bool.not_false, ite_same, ↓reduceIte, Bool.false_eq_true, reduceCtorEq, true_and, and_true, false_and, and_false, or_false, false_or, ne_eq, not_true_eq_false, not_false_eq_true, or_true, true_or, if_true, if_false, Int.natCast_add, BEq.rfl, beq_self_eq_true, Nat.le_refl, Int.le_refl, sz3, ze3, by3, zv3, cl3, ps3, st3, Tryd.underlying3, sz9, ze9, by9, zv9, cl9, ps9, st9, Tryd.underlying9, sz115, ze115, by115, el115, is115, zv115, cl115, st115, Tryd.underlying115, retQ, resP, tupA, fg, fgs, condP, condB_t, condB_f]; try (with_reducible (first | exact co_refl _ | exact co_own _ _ _ | exact co_nilsB | exact co_nilsL _ _))))
  all_goals (refine co_eq ?_; cases has0 a <;> cases has0 b <;> rfl)
set_option maxRecDepth 100000 in
theorem pClean2 (a b : List Int) : Pure Tryd.prog 41 [.d (.sl 1 [[.str a], [.str b]])] (.d (.bool (!has0 a && !has0 b))) := by
  refine pure_intro Tryd.func41 rfl rfl rfl 6 rfl (fun hh => ?_)
  repeat' (first
    | (with_reducible (first
      | refine PW.seq fun K1 hK1 => ?_
      | refine PW.region fun K2 hK2 => ?_
      | (refine hK3 _ ?_; clear hK3)
      | (refine opsP_nil ?_; refine hK2 _ ?_; clear hK2)
      | refine litX_old ?_
      | refine litC_data ?_
      | (refine Exists.intro _ (Exists.intro _ (And.intro rfl (And.intro rfl (And.intro ?_ ?_)))); focus omega)
      | (refine hK1 _ ?_; clear hK1)
      | refine nilC_intro (fun hz => ?_) ?_
      | refine PW.block ?_
      | refine PW.skip ?_
      | refine PW.exit ?_
      | refine PW.ret ?_
      | (refine hX1 ?_; clear hX1 hY1; try simp only [hb])
      | (refine hY1 ?_; clear hX1 hY1; try simp only [hb])
      | exact co_refl _
      | exact co_own _ _ _
      | exact co_nilsB
      | exact co_nilsL _ _))
    | ((first | (with_reducible refine wantB_intro (fun hb => ?_) (fun hb => ?_)) | (with_reducible refine condB_intro (fun hb => ?_) (fun hb => ?_))) <;> ((try (have hp := hb; simp only [Bool.and_eq_true, Bool.or_eq_true, Bool.not_eq_true', Bool.not_eq_false', Bool.and_eq_false_iff, Bool.or_eq_false_iff, Bool.not_eq_eq_eq_not, Bool.not_true, Bool.not_false, decide_eq_true_eq, decide_eq_false_iff_not, Int.not_lt, Int.not_le, beq_iff_eq, beq_eq_false_iff_ne, ne_eq] at hp)); try simp only [hb, Bool.not_true, Bool.not_false]))
    | ((with_reducible refine callP_pure ?_ ?_ (pCon2 ?_ ?_) (fun _ => ?_)); (focus (repeat' (first | exact cos_refl _ | (refine cos_cons ?_ ?_) | exact co_refl _ | exact co_own _ _ _ | exact co_nilsB | exact co_nilsL _ _ | exact co_nils _ | (refine co_agg ?_) | (refine co_fn ?_)))); (focus (simp only [purAs, purA, Bool.and_self, Bool.and_true])))
    | ((with_reducible refine And.intro ?_ ?_); (focus (first | omega | (simp; done) | assumption)))
    | (simp only [thenP, blockP, Nat.reduceEqDiff, ↓reduceIte]; (try ((repeat (fail_if_success (with_reducible refine hK1 _ ?_)); clear hK1); (with_reducible refine hK1 _ ?_); clear hK1)))
    | (with_reducible omega)
    | (assumption)
    | ((first | ((with_reducible refine opsP_cons fun K3 hK3 => ?_); simp only [wantP, opP, valP, List.toList_toArray, Array.toList_empty, List.map_cons, List.map_nil, List.mapM_cons, List.mapM_nil, List.all_cons, List.all_nil]) | (with_reducible refine PW.condM fun X1 Y1 hX1 hY1 => ?_) | skip); simp (disch := omega) only [wantP, wantB_tt, wantB_ff, wantB_tf, wantB_ft, opP, valP, St.eval, St.put, upd_app, iniT_app, avOf, avOf1, wf_i64, wf_u64, wf_u8, wf_i32, wf_u32, nom, cellsA, AV.okv, loadA, lenP, binP, intsP, intP, strP, eqP, nilP, convP, unP, builtinP, bsz, Array.toList_empty, List.size_toArray, UInt8.reduceToNat, wi_i64, wi_u64, wi_i32, wi_u32, wi_u8, wi_i8, dvEqC, eqAll, cellsV, maplenP, isMapA, isBsl, viewA, Nat.min_self, Option.isSome_some, List.flatten_cons, List.flatten_nil, List.replicate_zero, slA, putCells, fillA, buildA, elA, dv1, encB_len, encB_get, encB_append, encB_take, encB_drop, encB_snoc, encL_len, encL_get, encL_append, encL_take, encL_drop, bytesD_enc, bytesD_some, List.getD_cons_zero, List.getD_cons_succ, List.getD_nil, List.getElem?_cons_zero, List.getElem?_cons_succ, List.getElem?_nil, List.set_cons_zero, List.set_cons_succ, List.set_nil, List.length_cons, List.length_nil, List.length_map, List.length_append, List.length_set, List.drop_zero, List.drop_succ_cons, List.drop_nil, List.take_succ_cons, List.take_zero, List.take_nil, List.take_length, List.map_cons, List.map_nil, List.nil_append, List.cons_append, List.append_nil, List.mapM_cons, List.mapM_nil, List.all_cons, List.all_nil, List.toList_toArray, List.getElem?_toArray, List.range_succ, List.range_zero, Option.map_some, Option.map_none, Option.bind_some, Option.bind_none, Option.bind_eq_bind, Option.pure_def, Option.isSome_some, Option.isSome_none, Int.toNat_natCast, Int.toNat_zero, Nat.reduceLT, Nat.reduceLeDiff, Nat.reduceAdd, Nat.reduceMul, Nat.reduceSub, Nat.reduceEqDiff, Nat.reduceBEq, Nat.zero_add, Nat.add_zero, Nat.zero_mul, Nat.not_lt_zero, Nat.lt_irrefl, Nat.reduceGT, Nat.lt_add_one, gt_iff_lt, Int.reduceLE, Int.reduceLT, Int.reduceNeg, Int.reduceToNat, Int.reduceAdd, Int.reduceSub, Int.reduceMul, Int.cast_ofNat_Int, decide_true, decide_false, Bool.and_true, Bool.and_false, Bool.true_and, Bool.false_and, Bool.or_true, Bool.or_false, Bool.true_or, Bool.false_or, Bool.not_true, Bool.not_false, ite_same, ↓reduceIte, Bool.false_eq_true, reduceCtorEq, true_and, and_true, false_and, and_false, or_false, false_or, ne_eq, not_true_eq_false, not_false_eq_true, or_true, true_or, if_true, if_false, Int.natCast_add, BEq.rfl, beq_self_eq_true, Nat.le_refl, Int.le_refl, sz9, ze9, by9, zv9, cl9, ps9, st9, Tryd.underlying9, sz115, ze115, by115, el115, is115, zv115, cl115, st115, Tryd.underlying115, retQ, resP, tupA, fg, fgs, condP, condB_t, condB_f]; try (with_reducible (first | exact co_refl _ | exact co_own _ _ _ | exact co_nilsB | exact co_nilsL _ _))))
  all_goals (refine co_eq ?_; cases has0 a <;> cases has0 b <;> rfl)
/-- int32 -/
theorem i32_w (n : Int) : (decide (n = IntKind.i64.wrap (IntKind.i32.wrap n))) = i32ok n := by
  have e : IntKind.i32.wrap n = (if 2147483648 ≤ n % 4294967296 then n % 4294967296 - 4294967296 else n % 4294967296) := by
    simp [IntKind.wrap, IntKind.bits, IntKind.signed]
  have h : -2147483648 ≤ IntKind.i32.wrap n ∧ IntKind.i32.wrap n ≤ 2147483647 := by rw [e]; split <;> omega
  rw [wl_i64 (by simp only [Bool.and_eq_true, decide_eq_true_eq]; omega)]
  unfold i32ok
  rw [Bool.eq_iff_iff]
  simp only [decide_eq_true_eq, Bool.and_eq_true]
  constructor
  · intro h'; omega
  · intro h'; rw [e]; split <;> omega
set_option maxRecDepth 100000 in
theorem pSmallF (n : Int) : Pure Tryd.prog 68 [.d (.int .i64 n)] (.d (.bool (!i32ok n))) := by
  refine pure_intro Tryd.func68 rfl rfl rfl 8 rfl (fun hh => ?_)
  have hw := i32_w n
  repeat' (first
    | (with_reducible (first
      | refine PW.seq fun K1 hK1 => ?_
      | refine PW.region fun K2 hK2 => ?_
      | (refine hK3 _ ?_; clear hK3)
      | (refine opsP_nil ?_; refine hK2 _ ?_; clear hK2)
      | refine litX_old ?_
      | refine litC_data ?_
      | (refine Exists.intro _ (Exists.intro _ (And.intro rfl (And.intro rfl (And.intro ?_ ?_)))); focus omega)
      | (refine hK1 _ ?_; clear hK1)
      | refine nilC_intro (fun hz => ?_) ?_
      | refine PW.block ?_
      | refine PW.skip ?_
      | refine PW.exit ?_
      | refine PW.ret ?_
      | (refine hX1 ?_; clear hX1 hY1; try simp only [hb])
      | (refine hY1 ?_; clear hX1 hY1; try simp only [hb])
      | exact co_refl _
      | exact co_own _ _ _
      | exact co_nilsB
      | exact co_nilsL _ _))
    | ((first | (with_reducible refine wantB_intro (fun hb => ?_) (fun hb => ?_)) | (with_reducible refine condB_intro (fun hb => ?_) (fun hb => ?_))) <;> ((try (have hp := hb; simp only [Bool.and_eq_true, Bool.or_eq_true, Bool.not_eq_true', Bool.not_eq_false', Bool.and_eq_false_iff, Bool.or_eq_false_iff, Bool.not_eq_eq_eq_not, Bool.not_true, Bool.not_false, decide_eq_true_eq, decide_eq_false_iff_not, Int.not_lt, Int.not_le, beq_iff_eq, beq_eq_false_iff_ne, ne_eq] at hp)); try simp only [hb, Bool.not_true, Bool.not_false]))
    | ((with_reducible refine And.intro ?_ ?_); (focus (first | omega | (simp; done) | assumption)))
    | (simp only [thenP, blockP, Nat.reduceEqDiff, ↓reduceIte]; (try ((repeat (fail_if_success (with_reducible refine hK1 _ ?_)); clear hK1); (with_reducible refine hK1 _ ?_); clear hK1)))
    | (with_reducible omega)
    | (assumption)
    | ((first | ((with_reducible refine opsP_cons fun K3 hK3 => ?_); simp only [wantP, opP, valP, List.toList_toArray, Array.toList_empty, List.map_cons, List.map_nil, List.mapM_cons, List.mapM_nil, List.all_cons, List.all_nil]) | (with_reducible refine PW.condM fun X1 Y1 hX1 hY1 => ?_) | skip); simp (disch := omega) only [wantP, wantB_tt, wantB_ff, wantB_tf, wantB_ft, opP, valP, St.eval, St.put, upd_app, iniT_app, avOf, avOf1, wf_i64, wf_u64, wf_u8, wf_i32, wf_u32, nom, cellsA, AV.okv, loadA, lenP, binP, intsP, intP, strP, eqP, nilP, convP, unP, builtinP, bsz, Array.toList_empty, List.size_toArray, UInt8.reduceToNat, wi_i64, wi_u64, wi_i32, wi_u32, wi_u8, wi_i8, dvEqC, eqAll, cellsV, maplenP, isMapA, isBsl, viewA, Nat.min_self, Option.isSome_some, List.flatten_cons, List.flatten_nil, List.replicate_zero, slA, putCells, fillA, buildA, elA, dv1, encB_len, encB_get, encB_append, encB_take, encB_drop, encB_snoc, encL_len, encL_get, encL_append, encL_take, encL_drop, bytesD_enc, bytesD_some, List.getD_cons_zero, List.getD_cons_succ, List.getD_nil, List.getElem?_cons_zero, List.getElem?_cons_succ, List.getElem?_nil, List.set_cons_zero, List.set_cons_succ, List.set_nil, List.length_cons, List.length_nil, List.length_map, List.length_append, List.length_set, List.drop_zero, List.drop_succ_cons, List.drop_nil, List.take_succ_cons, List.take_zero, List.take_nil, List.take_length, List.map_cons, List.map_nil, List.nil_append, List.cons_append, List.append_nil, List.mapM_cons, List.mapM_nil, List.all_cons, List.all_nil, List.toList_toArray, List.getElem?_toArray, List.range_succ, List.range_zero, Option.map_some, Option.map_none, Option.bind_some, Option.bind_none, Option.bind_eq_bind, Option.pure_def, Option.isSome_some, Option.isSome_none, Int.toNat_natCast, Int.toNat_zero, Nat.reduceLT, Nat.reduceLeDiff, Nat.reduceAdd, Nat.reduceMul, Nat.reduceSub, Nat.reduceEqDiff, Nat.reduceBEq, Nat.zero_add, Nat.add_zero, Nat.zero_mul, Nat.not_lt_zero, Nat.lt_irrefl, Nat.reduceGT, Nat.lt_add_one, gt_iff_lt, Int.reduceLE, Int.reduceLT, Int.reduceNeg, Int.reduceToNat, Int.reduceAdd, Int.reduceSub, Int.reduceMul, Int.cast_ofNat_Int, decide_true, decide_false, Bool.and_true, Bool.and_false, Bool.true_and, Bool.false_and, Bool.or_true, Bool.or_false, Bool.true_or, Bool.false_or, Bool.not_true, Bool.not_false, ite_same, ↓reduceIte, Bool.false_eq_true, reduceCtorEq, true_and, and_true, false_and, and_false, or_false, false_or, ne_eq, not_true_eq_false, not_false_eq_true, or_true, true_or, if_true, if_false, Int.natCast_add, BEq.rfl, beq_self_eq_true, Nat.le_refl, Int.le_refl, sz3, ze3, by3, zv3, cl3, ps3, st3, Tryd.underlying3, sz21, ze21, by21, zv21, cl21, ps21, st21, Tryd.underlying21, hw, retQ, resP, tupA, fg, fgs, condP, condB_t, condB_f]; try (with_reducible (first | exact co_refl _ | exact co_own _ _ _ | exact co_nilsB | exact co_nilsL _ _))))
end PM
end Go.Proofs.YthaekefdadccaaaDoor
