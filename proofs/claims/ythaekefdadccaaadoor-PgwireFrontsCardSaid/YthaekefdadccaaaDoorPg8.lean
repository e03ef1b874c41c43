/- pgwire in the abstract: the document's reading of a client's message. -/
import Derived.Test.YthaekefdadccaaaDoorPg7
namespace Go.Proofs.YthaekefdadccaaaDoor
open Go.RowKit
namespace PM
set_option maxRecDepth 100000 in
set_option maxHeartbeats 4000000 in
theorem pFirst (b : List Int) : Pure Tryd.prog 28 [bs b] (.tup [(firstS b).1.v, .d (.int .i64 (firstS b).2.1), .d (.int .i64 (firstS b).2.2)]) := by
  refine pure_intro Tryd.func28 rfl rfl rfl 72 rfl (fun hh => ?_)
  obtain ⟨hr, hml⟩ := has_bytes (hh (bs b) (by simp))
  have hmx : maxLen = 9223372036854775807 := rfl
  by_cases hq : (b.length : Int) < 4
  · have hq' := eq_true hq
    repeat' (first
      | (with_reducible (first
        | refine PW.seq fun K1 hK1 => ?_
        | refine PW.region fun K2 hK2 => ?_
        | (refine hK3 _ ?_; clear hK3)
        | (refine opsP_nil ?_; refine hK2 _ ?_; clear hK2)
        | refine litX_old ?_
        | refine litC_data ?_
        | (refine Exists.intro _ (Exists.intro _ (And.intro rfl (And.intro rfl (And.intro ?_ ?_)))); focus omega)
        | (refine hK1 _ ?_; clear hK1)
        | refine nilC_intro (fun hz => ?_) ?_
        | refine PW.block ?_
        | refine PW.skip ?_
        | refine PW.exit ?_
        | refine PW.ret ?_
        | (refine hX1 ?_; clear hX1 hY1; try simp only [hb])
        | (refine hY1 ?_; clear hX1 hY1; try simp only [hb])
        | exact co_refl _
        | exact co_own _ _ _
        | exact co_nilsB
        | exact co_nilsL _ _))
      | ((first | (with_reducible refine wantB_intro (fun hb => ?_) (fun hb => ?_)) | (with_reducible refine condB_intro (fun hb => ?_) (fun hb => ?_))) <;> ((try (have hp := hb; simp only [Bool.and_eq_true, Bool.or_eq_true, Bool.not_eq_true', Bool.not_eq_false', Bool.and_eq_false_iff, Bool.or_eq_false_iff, Bool.not_eq_eq_eq_not, Bool.not_true, Bool.not_false, decide_eq_true_eq, decide_eq_false_iff_not, Int.not_lt, Int.not_le, beq_iff_eq, beq_eq_false_iff_ne, ne_eq] at hp)); try simp only [hb, Bool.not_true, Bool.not_false]))
      | ((with_reducible refine And.intro ?_ ?_); (focus (first | omega | (simp; done) | assumption)))
      | (simp only [thenP, blockP, Nat.reduceEqDiff, ↓reduceIte]; (try ((repeat (fail_if_success (with_reducible refine hK1 _ ?_)); clear hK1); (with_reducible refine hK1 _ ?_); clear hK1)))
      | (with_reducible omega)
      | (assumption)
      | ((first | ((with_reducible refine opsP_cons fun K3 hK3 => ?_); simp only [wantP, opP, valP, List.toList_toArray, Array.toList_empty, List.map_cons, List.map_nil, List.mapM_cons, List.mapM_nil, List.all_cons, List.all_nil]) | (with_reducible refine PW.condM fun X1 Y1 hX1 hY1 => ?_) | skip); simp (disch := omega) only [wantP, wantB_tt, wantB_ff, wantB_tf, wantB_ft, opP, valP, St.eval, St.put, upd_app, iniT_app, avOf, avOf1, wf_i64, wf_u64, wf_u8, wf_i32, wf_u32, nom, cellsA, AV.okv, loadA, lenP, binP, intsP, intP, strP, eqP, nilP, convP, sliceP, boundLo, boundHi, unP, builtinP, bsz, Array.toList_empty, List.size_toArray, UInt8.reduceToNat, wi_i64, wi_u64, wi_i32, wi_u32, wi_u8, wi_i8, dvEqC, eqAll, boundMx, cellsV, maplenP, isMapA, isBsl, viewA, Nat.min_self, Option.isSome_some, List.flatten_cons, List.flatten_nil, List.replicate_zero, slA, putCells, fillA, buildA, elA, dv1, encB_len, encB_get, encB_append, encB_take, encB_drop, encB_snoc, encL_len, encL_get, encL_append, encL_take, encL_drop, bytesD_enc, bytesD_some, List.getD_cons_zero, List.getD_cons_succ, List.getD_nil, List.getElem?_cons_zero, List.getElem?_cons_succ, List.getElem?_nil, List.set_cons_zero, List.set_cons_succ, List.set_nil, List.length_cons, List.length_nil, List.length_map, List.length_append, List.length_set, List.drop_zero, List.drop_succ_cons, List.drop_nil, List.take_succ_cons, List.take_zero, List.take_nil, List.take_length, List.map_cons, List.map_nil, List.nil_append, List.cons_append, List.append_nil, List.mapM_cons, List.mapM_nil, List.all_cons, List.all_nil, List.toList_toArray, List.getElem?_toArray, List.range_succ, List.range_zero, Option.map_some, Option.map_none, Option.bind_some, Option.bind_none, Option.bind_eq_bind, Option.pure_def, Option.isSome_some, Option.isSome_none, Int.toNat_natCast, Int.toNat_zero, Nat.reduceLT, Nat.reduceLeDiff, Nat.reduceAdd, Nat.reduceMul, Nat.reduceSub, Nat.reduceEqDiff, Nat.reduceBEq, Nat.zero_add, Nat.add_zero, Nat.zero_mul, Nat.not_lt_zero, Nat.lt_irrefl, Nat.reduceGT, Nat.lt_add_one, gt_iff_lt, Int.reduceLE, Int.reduceLT, Int.reduceNeg, Int.reduceToNat, Int.reduceAdd, Int.reduceSub, Int.reduceMul, Int.cast_ofNat_Int, decide_true, decide_false, Bool.and_true, Bool.and_false, Bool.true_and, Bool.false_and, Bool.or_true, Bool.or_false, Bool.true_or, Bool.false_or, Bool.not_true, Bool.not_false, ite_same, ↓reduceIte, Bool.false_eq_true, reduceCtorEq, true_and, and_true, false_and, and_false, or_false, false_or, ne_eq, not_true_eq_false, not_false_eq_true, or_true, true_or, if_true, if_false, Int.natCast_add, BEq.rfl, beq_self_eq_true, Nat.le_refl, Int.le_refl, sz3, ze3, by3, zv3, cl3, ps3, st3, Tryd.underlying3, sz5, ze5, by5, zv5, cl5, ps5, st5, Tryd.underlying5, sz9, ze9, by9, zv9, cl9, ps9, st9, Tryd.underlying9, sz22, ze22, by22, el22, is22, zv22, cl22, st22, Tryd.underlying22, sz24, ze24, by24, el24, is24, zv24, cl24, st24, Tryd.underlying24, sz26, ze26, by26, pl26, zv26, cl26, st26, fi26_0, fi26_1, fi26_2, fi26_3, fi26_4, fi26_5, sz27, ze27, by27, zv27, cl27, ps27, st27, Tryd.underlying27, hq', mrg_t, mrg_f, pick_or, pick_and, pick_or', pick_and', retQ, resP, tupA, fg, fgs, condP, condB_t, condB_f]; try (with_reducible (first | exact co_refl _ | exact co_own _ _ _ | exact co_nilsB | exact co_nilsL _ _))))
    all_goals (try (focus ((try simp only [firstS, zF]); (repeat' split) <;> (first | (exfalso; omega) | ((try ((with_reducible refine And.intro ?_ ?_); rotate_left 1; (focus (first | exact subM_row1 | exact subM_nom _ | (refine subM_box1 ?_; simp only [fgs, fg]; (repeat' (first | exact cos_refl _ | refine cos_cons ?_ ?_ | exact co_refl _ | exact co_nilsB | exact co_own _ _ _ | exact co_nilsL _ _ | exact co_nils _ | refine co_agg ?_ | refine co_tup ?_)); done))))); (first | ((repeat' (first | exact cos_refl _ | refine cos_cons ?_ ?_ | exact co_refl _ | exact co_nilsB | exact co_own _ _ _ | exact co_nilsL _ _ | exact co_nils _ | refine co_agg ?_ | refine co_tup ?_)); done) | (refine co_eq ?_; simp_all; done))) | (exfalso; simp_all; done)))))
  · have hq' := eq_false hq
    have hN := pI32 b (by omega)
    by_cases h8 : i32v b < 8 ∨ 10000 < i32v b ∨ (b.length : Int) < i32v b
    · skip
      repeat' (first
        | (with_reducible (first
          | refine PW.seq fun K1 hK1 => ?_
          | refine PW.region fun K2 hK2 => ?_
          | (refine hK3 _ ?_; clear hK3)
          | (refine opsP_nil ?_; refine hK2 _ ?_; clear hK2)
          | refine litX_old ?_
          | refine litC_data ?_
          | (refine Exists.intro _ (Exists.intro _ (And.intro rfl (And.intro rfl (And.intro ?_ ?_)))); focus omega)
          | (refine hK1 _ ?_; clear hK1)
          | refine nilC_intro (fun hz => ?_) ?_
          | refine PW.block ?_
          | refine PW.skip ?_
          | refine PW.exit ?_
          | refine PW.ret ?_
          | (refine hX1 ?_; clear hX1 hY1; try simp only [hb])
          | (refine hY1 ?_; clear hX1 hY1; try simp only [hb])
          | exact co_refl _
          | exact co_own _ _ _
          | exact co_nilsB
          | exact co_nilsL _ _))
        | ((first | (with_reducible refine wantB_intro (fun hb => ?_) (fun hb => ?_)) | (with_reducible refine condB_intro (fun hb => ?_) (fun hb => ?_))) <;> ((try (have hp := hb; simp only [Bool.and_eq_true, Bool.or_eq_true, Bool.not_eq_true', Bool.not_eq_false', Bool.and_eq_false_iff, Bool.or_eq_false_iff, Bool.not_eq_eq_eq_not, Bool.not_true, Bool.not_false, decide_eq_true_eq, decide_eq_false_iff_not, Int.not_lt, Int.not_le, beq_iff_eq, beq_eq_false_iff_ne, ne_eq] at hp)); try simp only [hb, Bool.not_true, Bool.not_false]))
        | ((with_reducible refine callP_pure ?_ ?_ (hN) (fun _ => ?_)); (focus (repeat' (first | exact cos_refl _ | (refine cos_cons ?_ ?_) | exact co_refl _ | exact co_own _ _ _ | exact co_nilsB | exact co_nilsL _ _ | exact co_nils _ | (refine co_agg ?_) | (refine co_fn ?_)))); (focus (simp only [purAs, purA, Bool.and_self, Bool.and_true, hq'])))
        | ((with_reducible refine And.intro ?_ ?_); (focus (first | omega | (simp; done) | assumption)))
        | (simp only [thenP, blockP, Nat.reduceEqDiff, ↓reduceIte]; (try ((repeat (fail_if_success (with_reducible refine hK1 _ ?_)); clear hK1); (with_reducible refine hK1 _ ?_); clear hK1)))
        | (with_reducible omega)
        | (assumption)
        | ((first | ((with_reducible refine opsP_cons fun K3 hK3 => ?_); simp only [wantP, opP, valP, List.toList_toArray, Array.toList_empty, List.map_cons, List.map_nil, List.mapM_cons, List.mapM_nil, List.all_cons, List.all_nil]) | (with_reducible refine PW.condM fun X1 Y1 hX1 hY1 => ?_) | skip); simp (disch := omega) only [wantP, wantB_tt, wantB_ff, wantB_tf, wantB_ft, opP, valP, St.eval, St.put, upd_app, iniT_app, avOf, avOf1, wf_i64, wf_u64, wf_u8, wf_i32, wf_u32, nom, cellsA, AV.okv, loadA, lenP, binP, intsP, intP, strP, eqP, nilP, convP, sliceP, boundLo, boundHi, unP, builtinP, bsz, Array.toList_empty, List.size_toArray, UInt8.reduceToNat, wi_i64, wi_u64, wi_i32, wi_u32, wi_u8, wi_i8, dvEqC, eqAll, boundMx, cellsV, maplenP, isMapA, isBsl, viewA, Nat.min_self, Option.isSome_some, List.flatten_cons, List.flatten_nil, List.replicate_zero, slA, putCells, fillA, buildA, elA, dv1, encB_len, encB_get, encB_append, encB_take, encB_drop, encB_snoc, encL_len, encL_get, encL_append, encL_take, encL_drop, bytesD_enc, bytesD_some, List.getD_cons_zero, List.getD_cons_succ, List.getD_nil, List.getElem?_cons_zero, List.getElem?_cons_succ, List.getElem?_nil, List.set_cons_zero, List.set_cons_succ, List.set_nil, List.length_cons, List.length_nil, List.length_map, List.length_append, List.length_set, List.drop_zero, List.drop_succ_cons, List.drop_nil, List.take_succ_cons, List.take_zero, List.take_nil, List.take_length, List.map_cons, List.map_nil, List.nil_append, List.cons_append, List.append_nil, List.mapM_cons, List.mapM_nil, List.all_cons, List.all_nil, List.toList_toArray, List.getElem?_toArray, List.range_succ, List.range_zero, Option.map_some, Option.map_none, Option.bind_some, Option.bind_none, Option.bind_eq_bind, Option.pure_def, Option.isSome_some, Option.isSome_none, Int.toNat_natCast, Int.toNat_zero, Nat.reduceLT, Nat.reduceLeDiff, Nat.reduceAdd, Nat.reduceMul, Nat.reduceSub, Nat.reduceEqDiff, Nat.reduceBEq, Nat.zero_add, Nat.add_zero, Nat.zero_mul, Nat.not_lt_zero, Nat.lt_irrefl, Nat.reduceGT, Nat.lt_add_one, gt_iff_lt, Int.reduceLE, Int.reduceLT, Int.reduceNeg, Int.reduceToNat, Int.reduceAdd, Int.reduceSub, Int.reduceMul, Int.cast_ofNat_Int, decide_true, decide_false, Bool.and_true, Bool.and_false, Bool.true_and, Bool.false_and, Bool.or_true, Bool.or_false, Bool.true_or, Bool.false_or, Bool.not_true, Bool.not_false, ite_same, ↓reduceIte, Bool.false_eq_true, reduceCtorEq, true_and, and_true, false_and, and_false, or_false, false_or, ne_eq, not_true_eq_false, not_false_eq_true, or_true, true_or, if_true, if_false, Int.natCast_add, BEq.rfl, beq_self_eq_true, Nat.le_refl, Int.le_refl, sz3, ze3, by3, zv3, cl3, ps3, st3, Tryd.underlying3, sz5, ze5, by5, zv5, cl5, ps5, st5, Tryd.underlying5, sz9, ze9, by9, zv9, cl9, ps9, st9, Tryd.underlying9, sz22, ze22, by22, el22, is22, zv22, cl22, st22, Tryd.underlying22, sz24, ze24, by24, el24, is24, zv24, cl24, st24, Tryd.underlying24, sz26, ze26, by26, pl26, zv26, cl26, st26, fi26_0, fi26_1, fi26_2, fi26_3, fi26_4, fi26_5, sz27, ze27, by27, zv27, cl27, ps27, st27, Tryd.underlying27, hq', mrg_t, mrg_f, pick_or, pick_and, pick_or', pick_and', retQ, resP, tupA, fg, fgs, condP, condB_t, condB_f]; try (with_reducible (first | exact co_refl _ | exact co_own _ _ _ | exact co_nilsB | exact co_nilsL _ _))))
      all_goals try (exfalso; omega)
      all_goals (try (focus ((try simp only [firstS, zF]); (repeat' split) <;> (first | (exfalso; omega) | ((try ((with_reducible refine And.intro ?_ ?_); rotate_left 1; (focus (first | exact subM_row1 | exact subM_nom _ | (refine subM_box1 ?_; simp only [fgs, fg]; (repeat' (first | exact cos_refl _ | refine cos_cons ?_ ?_ | exact co_refl _ | exact co_nilsB | exact co_own _ _ _ | exact co_nilsL _ _ | exact co_nils _ | refine co_agg ?_ | refine co_tup ?_)); done))))); (first | ((repeat' (first | exact cos_refl _ | refine cos_cons ?_ ?_ | exact co_refl _ | exact co_nilsB | exact co_own _ _ _ | exact co_nilsL _ _ | exact co_nils _ | refine co_agg ?_ | refine co_tup ?_)); done) | (refine co_eq ?_; simp_all; done))) | (exfalso; simp_all; done)))))
    · have hN1 := pI32 (b.drop 4) (by rw [List.length_drop]; omega)
      by_cases h16 : i32v b = 16
      · have hN2 := pI32 (b.drop 8) (by rw [List.length_drop]; omega)
        have hN3 := pI32 (b.drop 12) (by rw [List.length_drop]; omega)
        repeat' (first
          | (with_reducible (first
            | refine PW.seq fun K1 hK1 => ?_
            | refine PW.region fun K2 hK2 => ?_
            | (refine hK3 _ ?_; clear hK3)
            | (refine opsP_nil ?_; refine hK2 _ ?_; clear hK2)
            | refine litX_old ?_
            | refine litC_data ?_
            | (refine Exists.intro _ (Exists.intro _ (And.intro rfl (And.intro rfl (And.intro ?_ ?_)))); focus omega)
            | (refine hK1 _ ?_; clear hK1)
            | refine nilC_intro (fun hz => ?_) ?_
            | refine PW.block ?_
            | refine PW.skip ?_
            | refine PW.exit ?_
            | refine PW.ret ?_
            | (refine hX1 ?_; clear hX1 hY1; try simp only [hb])
            | (refine hY1 ?_; clear hX1 hY1; try simp only [hb])
            | exact co_refl _
            | exact co_own _ _ _
            | exact co_nilsB
            | exact co_nilsL _ _))
          | ((first | (with_reducible refine wantB_intro (fun hb => ?_) (fun hb => ?_)) | (with_reducible refine condB_intro (fun hb => ?_) (fun hb => ?_))) <;> ((try (have hp := hb; simp only [Bool.and_eq_true, Bool.or_eq_true, Bool.not_eq_true', Bool.not_eq_false', Bool.and_eq_false_iff, Bool.or_eq_false_iff, Bool.not_eq_eq_eq_not, Bool.not_true, Bool.not_false, decide_eq_true_eq, decide_eq_false_iff_not, Int.not_lt, Int.not_le, beq_iff_eq, beq_eq_false_iff_ne, ne_eq] at hp)); try simp only [hb, Bool.not_true, Bool.not_false]))
          | ((with_reducible refine callP_pure ?_ ?_ (hN) (fun _ => ?_)); (focus (repeat' (first | exact cos_refl _ | (refine cos_cons ?_ ?_) | exact co_refl _ | exact co_own _ _ _ | exact co_nilsB | exact co_nilsL _ _ | exact co_nils _ | (refine co_agg ?_) | (refine co_fn ?_)))); (focus (simp only [purAs, purA, Bool.and_self, Bool.and_true, hq'])))
          | ((with_reducible refine callP_pure ?_ ?_ (hN1) (fun _ => ?_)); (focus (repeat' (first | exact cos_refl _ | (refine cos_cons ?_ ?_) | exact co_refl _ | exact co_own _ _ _ | exact co_nilsB | exact co_nilsL _ _ | exact co_nils _ | (refine co_agg ?_) | (refine co_fn ?_)))); (focus (simp only [purAs, purA, Bool.and_self, Bool.and_true, hq'])))
          | ((with_reducible refine callP_pure ?_ ?_ (hN2) (fun _ => ?_)); (focus (repeat' (first | exact cos_refl _ | (refine cos_cons ?_ ?_) | exact co_refl _ | exact co_own _ _ _ | exact co_nilsB | exact co_nilsL _ _ | exact co_nils _ | (refine co_agg ?_) | (refine co_fn ?_)))); (focus (simp only [purAs, purA, Bool.and_self, Bool.and_true, hq'])))
          | ((with_reducible refine callP_pure ?_ ?_ (hN3) (fun _ => ?_)); (focus (repeat' (first | exact cos_refl _ | (refine cos_cons ?_ ?_) | exact co_refl _ | exact co_own _ _ _ | exact co_nilsB | exact co_nilsL _ _ | exact co_nils _ | (refine co_agg ?_) | (refine co_fn ?_)))); (focus (simp only [purAs, purA, Bool.and_self, Bool.and_true, hq'])))
          | ((with_reducible refine callP_pure ?_ ?_ (pParams ?_) (fun _ => ?_)); (focus (repeat' (first | exact cos_refl _ | (refine cos_cons ?_ ?_) | exact co_refl _ | exact co_own _ _ _ | exact co_nilsB | exact co_nilsL _ _ | exact co_nils _ | (refine co_agg ?_) | (refine co_fn ?_)))); (focus (simp only [purAs, purA, Bool.and_self, Bool.and_true, hq'])))
          | ((with_reducible refine And.intro ?_ ?_); (focus (first | omega | (simp; done) | assumption)))
          | (simp only [thenP, blockP, Nat.reduceEqDiff, ↓reduceIte]; (try ((repeat (fail_if_success (with_reducible refine hK1 _ ?_)); clear hK1); (with_reducible refine hK1 _ ?_); clear hK1)))
          | (with_reducible omega)
          | (assumption)
          | ((first | ((with_reducible refine opsP_cons fun K3 hK3 => ?_); simp only [wantP, opP, valP, List.toList_toArray, Array.toList_empty, List.map_cons, List.map_nil, List.mapM_cons, List.mapM_nil, List.all_cons, List.all_nil]) | (with_reducible refine PW.condM fun X1 Y1 hX1 hY1 => ?_) | skip); simp (disch := omega) only [wantP, wantB_tt, wantB_ff, wantB_tf, wantB_ft, opP, valP, St.eval, St.put, upd_app, iniT_app, avOf, avOf1, wf_i64, wf_u64, wf_u8, wf_i32, wf_u32, nom, cellsA, AV.okv, loadA, lenP, binP, intsP, intP, strP, eqP, nilP, convP, sliceP, boundLo, boundHi, unP, builtinP, bsz, Array.toList_empty, List.size_toArray, UInt8.reduceToNat, wi_i64, wi_u64, wi_i32, wi_u32, wi_u8, wi_i8, dvEqC, eqAll, boundMx, cellsV, maplenP, isMapA, isBsl, viewA, Nat.min_self, Option.isSome_some, List.flatten_cons, List.flatten_nil, List.replicate_zero, slA, putCells, fillA, buildA, elA, dv1, encB_len, encB_get, encB_append, encB_take, encB_drop, encB_snoc, encL_len, encL_get, encL_append, encL_take, encL_drop, bytesD_enc, bytesD_some, List.getD_cons_zero, List.getD_cons_succ, List.getD_nil, List.getElem?_cons_zero, List.getElem?_cons_succ, List.getElem?_nil, List.set_cons_zero, List.set_cons_succ, List.set_nil, List.length_cons, List.length_nil, List.length_map, List.length_append, List.length_set, List.drop_zero, List.drop_succ_cons, List.drop_nil, List.take_succ_cons, List.take_zero, List.take_nil, List.take_length, List.map_cons, List.map_nil, List.nil_append, List.cons_append, List.append_nil, List.mapM_cons, List.mapM_nil, List.all_cons, List.all_nil, List.toList_toArray, List.getElem?_toArray, List.range_succ, List.range_zero, Option.map_some, Option.map_none, Option.bind_some, Option.bind_none, Option.bind_eq_bind, Option.pure_def, Option.isSome_some, Option.isSome_none, Int.toNat_natCast, Int.toNat_zero, Nat.reduceLT, Nat.reduceLeDiff, Nat.reduceAdd, Nat.reduceMul, Nat.reduceSub, Nat.reduceEqDiff, Nat.reduceBEq, Nat.zero_add, Nat.add_zero, Nat.zero_mul, Nat.not_lt_zero, Nat.lt_irrefl, Nat.reduceGT, Nat.lt_add_one, gt_iff_lt, Int.reduceLE, Int.reduceLT, Int.reduceNeg, Int.reduceToNat, Int.reduceAdd, Int.reduceSub, Int.reduceMul, Int.cast_ofNat_Int, decide_true, decide_false, Bool.and_true, Bool.and_false, Bool.true_and, Bool.false_and, Bool.or_true, Bool.or_false, Bool.true_or, Bool.false_or, Bool.not_true, Bool.not_false, ite_same, ↓reduceIte, Bool.false_eq_true, reduceCtorEq, true_and, and_true, false_and, and_false, or_false, false_or, ne_eq, not_true_eq_false, not_false_eq_true, or_true, true_or, if_true, if_false, Int.natCast_add, BEq.rfl, beq_self_eq_true, Nat.le_refl, Int.le_refl, sz3, ze3, by3, zv3, cl3, ps3, st3, Tryd.underlying3, sz5, ze5, by5, zv5, cl5, ps5, st5, Tryd.underlying5, sz9, ze9, by9, zv9, cl9, ps9, st9, Tryd.underlying9, sz22, ze22, by22, el22, is22, zv22, cl22, st22, Tryd.underlying22, sz24, ze24, by24, el24, is24, zv24, cl24, st24, Tryd.underlying24, sz26, ze26, by26, pl26, zv26, cl26, st26, fi26_0, fi26_1, fi26_2, fi26_3, fi26_4, fi26_5, sz27, ze27, by27, zv27, cl27, ps27, st27, Tryd.underlying27, hq', mrg_t, mrg_f, pick_or, pick_and, pick_or', pick_and', retQ, resP, tupA, fg, fgs, condP, condB_t, condB_f]; try (with_reducible (first | exact co_refl _ | exact co_own _ _ _ | exact co_nilsB | exact co_nilsL _ _))))
        all_goals try (exfalso; omega)
        all_goals (try (focus ((try simp only [firstS, zF]); (repeat' split) <;> (first | (exfalso; omega) | ((try ((with_reducible refine And.intro ?_ ?_); rotate_left 1; (focus (first | exact subM_row1 | exact subM_nom _ | (refine subM_box1 ?_; simp only [fgs, fg]; (repeat' (first | exact cos_refl _ | refine cos_cons ?_ ?_ | exact co_refl _ | exact co_nilsB | exact co_own _ _ _ | exact co_nilsL _ _ | exact co_nils _ | refine co_agg ?_ | refine co_tup ?_)); done))))); (first | ((repeat' (first | exact cos_refl _ | refine cos_cons ?_ ?_ | exact co_refl _ | exact co_nilsB | exact co_own _ _ _ | exact co_nilsL _ _ | exact co_nils _ | refine co_agg ?_ | refine co_tup ?_)); done) | (refine co_eq ?_; simp_all; done))) | (exfalso; simp_all; done)))))
      · skip
        repeat' (first
          | (with_reducible (first
            | refine PW.seq fun K1 hK1 => ?_
            | refine PW.region fun K2 hK2 => ?_
            | (refine hK3 _ ?_; clear hK3)
            | (refine opsP_nil ?_; refine hK2 _ ?_; clear hK2)
            | refine litX_old ?_
            | refine litC_data ?_
            | (refine Exists.intro _ (Exists.intro _ (And.intro rfl (And.intro rfl (And.intro ?_ ?_)))); focus omega)
            | (refine hK1 _ ?_; clear hK1)
            | refine nilC_intro (fun hz => ?_) ?_
            | refine PW.block ?_
            | refine PW.skip ?_
            | refine PW.exit ?_
            | refine PW.ret ?_
            | (refine hX1 ?_; clear hX1 hY1; try simp only [hb])
            | (refine hY1 ?_; clear hX1 hY1; try simp only [hb])
            | exact co_refl _
            | exact co_own _ _ _
            | exact co_nilsB
            | exact co_nilsL _ _))
          | ((first | (with_reducible refine wantB_intro (fun hb => ?_) (fun hb => ?_)) | (with_reducible refine condB_intro (fun hb => ?_) (fun hb => ?_))) <;> ((try (have hp := hb; simp only [Bool.and_eq_true, Bool.or_eq_true, Bool.not_eq_true', Bool.not_eq_false', Bool.and_eq_false_iff, Bool.or_eq_false_iff, Bool.not_eq_eq_eq_not, Bool.not_true, Bool.not_false, decide_eq_true_eq, decide_eq_false_iff_not, Int.not_lt, Int.not_le, beq_iff_eq, beq_eq_false_iff_ne, ne_eq] at hp)); try simp only [hb, Bool.not_true, Bool.not_false]))
          | ((with_reducible refine callP_pure ?_ ?_ (hN) (fun _ => ?_)); (focus (repeat' (first | exact cos_refl _ | (refine cos_cons ?_ ?_) | exact co_refl _ | exact co_own _ _ _ | exact co_nilsB | exact co_nilsL _ _ | exact co_nils _ | (refine co_agg ?_) | (refine co_fn ?_)))); (focus (simp only [purAs, purA, Bool.and_self, Bool.and_true, hq'])))
          | ((with_reducible refine callP_pure ?_ ?_ (hN1) (fun _ => ?_)); (focus (repeat' (first | exact cos_refl _ | (refine cos_cons ?_ ?_) | exact co_refl _ | exact co_own _ _ _ | exact co_nilsB | exact co_nilsL _ _ | exact co_nils _ | (refine co_agg ?_) | (refine co_fn ?_)))); (focus (simp only [purAs, purA, Bool.and_self, Bool.and_true, hq'])))
          | ((with_reducible refine callP_pure ?_ ?_ (pParams ?_) (fun _ => ?_)); (focus (repeat' (first | exact cos_refl _ | (refine cos_cons ?_ ?_) | exact co_refl _ | exact co_own _ _ _ | exact co_nilsB | exact co_nilsL _ _ | exact co_nils _ | (refine co_agg ?_) | (refine co_fn ?_)))); (focus (simp only [purAs, purA, Bool.and_self, Bool.and_true, hq'])))
          | ((with_reducible refine And.intro ?_ ?_); (focus (first | omega | (simp; done) | assumption)))
          | (simp only [thenP, blockP, Nat.reduceEqDiff, ↓reduceIte]; (try ((repeat (fail_if_success (with_reducible refine hK1 _ ?_)); clear hK1); (with_reducible refine hK1 _ ?_); clear hK1)))
          | (with_reducible omega)
          | (assumption)
          | ((first | ((with_reducible refine opsP_cons fun K3 hK3 => ?_); simp only [wantP, opP, valP, List.toList_toArray, Array.toList_empty, List.map_cons, List.map_nil, List.mapM_cons, List.mapM_nil, List.all_cons, List.all_nil]) | (with_reducible refine PW.condM fun X1 Y1 hX1 hY1 => ?_) | skip); simp (disch := omega) only [wantP, wantB_tt, wantB_ff, wantB_tf, wantB_ft, opP, valP, St.eval, St.put, upd_app, iniT_app, avOf, avOf1, wf_i64, wf_u64, wf_u8, wf_i32, wf_u32, nom, cellsA, AV.okv, loadA, lenP, binP, intsP, intP, strP, eqP, nilP, convP, sliceP, boundLo, boundHi, unP, builtinP, bsz, Array.toList_empty, List.size_toArray, UInt8.reduceToNat, wi_i64, wi_u64, wi_i32, wi_u32, wi_u8, wi_i8, dvEqC, eqAll, boundMx, cellsV, maplenP, isMapA, isBsl, viewA, Nat.min_self, Option.isSome_some, List.flatten_cons, List.flatten_nil, List.replicate_zero, slA, putCells, fillA, buildA, elA, dv1, encB_len, encB_get, encB_append, encB_take, encB_drop, encB_snoc, encL_len, encL_get, encL_append, encL_take, encL_drop, bytesD_enc, bytesD_some, List.getD_cons_zero, List.getD_cons_succ, List.getD_nil, List.getElem?_cons_zero, List.getElem?_cons_succ, List.getElem?_nil, List.set_cons_zero, List.set_cons_succ, List.set_nil, List.length_cons, List.length_nil, List.length_map, List.length_append, List.length_set, List.drop_zero, List.drop_succ_cons, List.drop_nil, List.take_succ_cons, List.take_zero, List.take_nil, List.take_length, List.map_cons, List.map_nil, List.nil_append, List.cons_append, List.append_nil, List.mapM_cons, List.mapM_nil, List.all_cons, List.all_nil, List.toList_toArray, List.getElem?_toArray, List.range_succ, List.range_zero, Option.map_some, Option.map_none, Option.bind_some, Option.bind_none, Option.bind_eq_bind, Option.pure_def, Option.isSome_some, Option.isSome_none, Int.toNat_natCast, Int.toNat_zero, Nat.reduceLT, Nat.reduceLeDiff, Nat.reduceAdd, Nat.reduceMul, Nat.reduceSub, Nat.reduceEqDiff, Nat.reduceBEq, Nat.zero_add, Nat.add_zero, Nat.zero_mul, Nat.not_lt_zero, Nat.lt_irrefl, Nat.reduceGT, Nat.lt_add_one, gt_iff_lt, Int.reduceLE, Int.reduceLT, Int.reduceNeg, Int.reduceToNat, Int.reduceAdd, Int.reduceSub, Int.reduceMul, Int.cast_ofNat_Int, decide_true, decide_false, Bool.and_true, Bool.and_false, Bool.true_and, Bool.false_and, Bool.or_true, Bool.or_false, Bool.true_or, Bool.false_or, Bool.not_true, Bool.not_false, ite_same, ↓reduceIte, Bool.false_eq_true, reduceCtorEq, true_and, and_true, false_and, and_false, or_false, false_or, ne_eq, not_true_eq_false, not_false_eq_true, or_true, true_or, if_true, if_false, Int.natCast_add, BEq.rfl, beq_self_eq_true, Nat.le_refl, Int.le_refl, sz3, ze3, by3, zv3, cl3, ps3, st3, Tryd.underlying3, sz5, ze5, by5, zv5, cl5, ps5, st5, Tryd.underlying5, sz9, ze9, by9, zv9, cl9, ps9, st9, Tryd.underlying9, sz22, ze22, by22, el22, is22, zv22, cl22, st22, Tryd.underlying22, sz24, ze24, by24, el24, is24, zv24, cl24, st24, Tryd.underlying24, sz26, ze26, by26, pl26, zv26, cl26, st26, fi26_0, fi26_1, fi26_2, fi26_3, fi26_4, fi26_5, sz27, ze27, by27, zv27, cl27, ps27, st27, Tryd.underlying27, hq', mrg_t, mrg_f, pick_or, pick_and, pick_or', pick_and', retQ, resP, tupA, fg, fgs, condP, condB_t, condB_f]; try (with_reducible (first | exact co_refl _ | exact co_own _ _ _ | exact co_nilsB | exact co_nilsL _ _))))
        all_goals try (exfalso; omega)
        all_goals (try (focus ((try simp only [firstS, zF]); (repeat' split) <;> (first | (exfalso; omega) | ((try ((with_reducible refine And.intro ?_ ?_); rotate_left 1; (focus (first | exact subM_row1 | exact subM_nom _ | (refine subM_box1 ?_; simp only [fgs, fg]; (repeat' (first | exact cos_refl _ | refine cos_cons ?_ ?_ | exact co_refl _ | exact co_nilsB | exact co_own _ _ _ | exact co_nilsL _ _ | exact co_nils _ | refine co_agg ?_ | refine co_tup ?_)); done))))); (first | ((repeat' (first | exact cos_refl _ | refine cos_cons ?_ ?_ | exact co_refl _ | exact co_nilsB | exact co_own _ _ _ | exact co_nilsL _ _ | exact co_nils _ | refine co_agg ?_ | refine co_tup ?_)); done) | (refine co_eq ?_; simp_all; done))) | (exfalso; simp_all; done)))))
end PM
end Go.Proofs.YthaekefdadccaaaDoor
