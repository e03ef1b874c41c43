/- pgwire in the abstract: the document's reading of a client's message. -/
import Derived.Test.YthaekefdadccaaaDoorPg2
namespace Go.Proofs.YthaekefdadccaaaDoor
open Go.RowKit
namespace PM
def endS (b : List Int) (at_ : Nat) : Int := match cut0 (b.drop at_) with
  | none => -1
  | some (a, _) => ((at_ + a.length : Nat) : Int)
theorem endS_next {b : List Int} {k : Nat} {x : Int} (hx : b[k]? = some x) (h : x ≠ 0) : endS b (k + 1) = endS b k := by
  have hd : b.drop k = x :: b.drop (k + 1) := by
    obtain ⟨hk, rfl⟩ := List.getElem?_eq_some_iff.1 hx
    exact List.drop_eq_getElem_cons hk
  unfold endS
  rw [hd, cut0, if_neg h]
  cases cut0 (b.drop (k + 1)) with
  | none => rfl
  | some p => obtain ⟨a, r⟩ := p; simp; omega
theorem endS_zero {b : List Int} {k : Nat} {x : Int} (hx : b[k]? = some x) (h : x = 0) : endS b k = k := by
  have hd : b.drop k = x :: b.drop (k + 1) := by
    obtain ⟨hk, rfl⟩ := List.getElem?_eq_some_iff.1 hx
    exact List.drop_eq_getElem_cons hk
  unfold endS
  rw [hd, cut0, if_pos h]
  simp
theorem endS_none {b : List Int} {k : Nat} (h : b.length ≤ k) : endS b k = -1 := by
  unfold endS
  rw [List.drop_eq_nil_of_le h]
  rfl
set_option maxRecDepth 100000 in
theorem pEnd (b : List Int) (at_ : Nat) : Pure Tryd.prog 30 [bs b, .d (.int .i64 at_)] (.d (.int .i64 (endS b at_))) := by
  refine pure_intro Tryd.func30 rfl rfl rfl 19 rfl (fun hh => ?_)
  obtain ⟨hr, hml⟩ := has_bytes (hh (bs b) (by simp))
  have hmx : maxLen = 9223372036854775807 := rfl
  have hat := has_int (hh (.d (.int .i64 at_)) (by simp))
  rw [wf_i64] at hat
  simp only [Bool.and_eq_true, decide_eq_true_eq] at hat
  repeat' (first
    | (with_reducible (first
      | refine PW.seq fun K1 hK1 => ?_
      | refine PW.region fun K2 hK2 => ?_
      | (refine hK3 _ ?_; clear hK3)
      | (refine opsP_nil ?_; refine hK2 _ ?_; clear hK2)
      | refine litX_old ?_
      | refine litC_data ?_
      | (refine Exists.intro _ (Exists.intro _ (And.intro rfl (And.intro rfl (And.intro ?_ ?_)))); focus omega)
      | (refine hK1 _ ?_; clear hK1)
      | refine nilC_intro (fun hz => ?_) ?_
      | refine PW.block ?_
      | refine PW.skip ?_
      | refine PW.exit ?_
      | refine PW.ret ?_
      | (refine hX1 ?_; clear hX1 hY1; try simp only [hb])
      | (refine hY1 ?_; clear hX1 hY1; try simp only [hb])
      | exact co_refl _
      | exact co_own _ _ _
      | exact co_nilsB
      | exact co_nilsL _ _))
    | ((first | (with_reducible refine wantB_intro (fun hb => ?_) (fun hb => ?_)) | (with_reducible refine condB_intro (fun hb => ?_) (fun hb => ?_))) <;> ((try (have hp := hb; simp only [Bool.and_eq_true, Bool.or_eq_true, Bool.not_eq_true', Bool.not_eq_false', Bool.and_eq_false_iff, Bool.or_eq_false_iff, Bool.not_eq_eq_eq_not, Bool.not_true, Bool.not_false, decide_eq_true_eq, decide_eq_false_iff_not, Int.not_lt, Int.not_le, beq_iff_eq, beq_eq_false_iff_ne, ne_eq] at hp)); try simp only [hb, Bool.not_true, Bool.not_false]))
    | ((with_reducible refine And.intro ?_ ?_); (focus (first | omega | (simp; done) | assumption)))
    | (simp only [thenP, blockP, Nat.reduceEqDiff, ↓reduceIte]; (try ((repeat (fail_if_success (with_reducible refine hK1 _ ?_)); clear hK1); (with_reducible refine hK1 _ ?_); clear hK1)))
    | (with_reducible omega)
    | (assumption)
    | ((first | ((with_reducible refine opsP_cons fun K3 hK3 => ?_); simp only [wantP, opP, valP, List.toList_toArray, Array.toList_empty, List.map_cons, List.map_nil, List.mapM_cons, List.mapM_nil, List.all_cons, List.all_nil]) | (with_reducible refine PW.condM fun X1 Y1 hX1 hY1 => ?_) | skip); simp (disch := omega) only [wantP, wantB_tt, wantB_ff, wantB_tf, wantB_ft, opP, valP, St.eval, St.put, upd_app, iniT_app, avOf, avOf1, wf_i64, wf_u64, wf_u8, wf_i32, wf_u32, nom, cellsA, AV.okv, loadA, lenP, binP, intsP, intP, strP, eqP, nilP, convP, unP, builtinP, bsz, Array.toList_empty, List.size_toArray, UInt8.reduceToNat, wi_i64, wi_u64, wi_i32, wi_u32, wi_u8, wi_i8, dvEqC, eqAll, cellsV, maplenP, isMapA, isBsl, viewA, Nat.min_self, Option.isSome_some, List.flatten_cons, List.flatten_nil, List.replicate_zero, slA, putCells, fillA, buildA, elA, dv1, encB_len, encB_get, encB_append, encB_take, encB_drop, encB_snoc, encL_len, encL_get, encL_append, encL_take, encL_drop, bytesD_enc, bytesD_some, List.getD_cons_zero, List.getD_cons_succ, List.getD_nil, List.getElem?_cons_zero, List.getElem?_cons_succ, List.getElem?_nil, List.set_cons_zero, List.set_cons_succ, List.set_nil, List.length_cons, List.length_nil, List.length_map, List.length_append, List.length_set, List.drop_zero, List.drop_succ_cons, List.drop_nil, List.take_succ_cons, List.take_zero, List.take_nil, List.take_length, List.map_cons, List.map_nil, List.nil_append, List.cons_append, List.append_nil, List.mapM_cons, List.mapM_nil, List.all_cons, List.all_nil, List.toList_toArray, List.getElem?_toArray, List.range_succ, List.range_zero, Option.map_some, Option.map_none, Option.bind_some, Option.bind_none, Option.bind_eq_bind, Option.pure_def, Option.isSome_some, Option.isSome_none, Int.toNat_natCast, Int.toNat_zero, Nat.reduceLT, Nat.reduceLeDiff, Nat.reduceAdd, Nat.reduceMul, Nat.reduceSub, Nat.reduceEqDiff, Nat.reduceBEq, Nat.zero_add, Nat.add_zero, Nat.zero_mul, Nat.not_lt_zero, Nat.lt_irrefl, Nat.reduceGT, Nat.lt_add_one, gt_iff_lt, Int.reduceLE, Int.reduceLT, Int.reduceNeg, Int.reduceToNat, Int.reduceAdd, Int.reduceSub, Int.reduceMul, Int.cast_ofNat_Int, decide_true, decide_false, Bool.and_true, Bool.and_false, Bool.true_and, Bool.false_and, Bool.or_true, Bool.or_false, Bool.true_or, Bool.false_or, Bool.not_true, Bool.not_false, ite_same, ↓reduceIte, Bool.false_eq_true, reduceCtorEq, true_and, and_true, false_and, and_false, or_false, false_or, ne_eq, not_true_eq_false, not_false_eq_true, or_true, true_or, if_true, if_false, Int.natCast_add, BEq.rfl, beq_self_eq_true, Nat.le_refl, Int.le_refl, sz3, ze3, by3, zv3, cl3, ps3, st3, Tryd.underlying3, sz5, ze5, by5, zv5, cl5, ps5, st5, Tryd.underlying5, sz22, ze22, by22, el22, is22, zv22, cl22, st22, Tryd.underlying22, retQ, resP, tupA, fg, fgs, condP, condB_t, condB_f]; try (with_reducible (first | exact co_refl _ | exact co_own _ _ _ | exact co_nilsB | exact co_nilsL _ _))))
  (with_reducible refine PW.loop (fun n s => ∃ k : Nat, s.t 0 = bs b ∧ s.t 5 = .d (.int .i64 k) ∧ s.n = 19 ∧ s.m = nom ∧ n = b.length - k ∧ endS b k = endS b at_ ∧ k ≤ 9223372036854775807) (b.length - at_) ?_ ?_)
  · exact ⟨at_, rfl, rfl, rfl, rfl, rfl, rfl, by omega⟩
  rintro n ⟨t, nn, m⟩ ⟨k, h0, h5, hn, hm, hnk, hs, hk⟩ - -
  simp only at h0 h5 hn hm
  subst hn hm
  by_cases hlt : (k : Int) < b.length
  · have hlt' := eq_true hlt
    obtain ⟨x, hx⟩ := get_lt (b := b) (i := k) (by omega)
    repeat' (first
      | (with_reducible (first
        | refine PW.seq fun K1 hK1 => ?_
        | refine PW.region fun K2 hK2 => ?_
        | (refine hK3 _ ?_; clear hK3)
        | (refine opsP_nil ?_; refine hK2 _ ?_; clear hK2)
        | refine litX_old ?_
        | refine litC_data ?_
        | (refine Exists.intro _ (Exists.intro _ (And.intro rfl (And.intro rfl (And.intro ?_ ?_)))); focus omega)
        | (refine hK1 _ ?_; clear hK1)
        | refine nilC_intro (fun hz => ?_) ?_
        | refine PW.block ?_
        | refine PW.skip ?_
        | refine PW.exit ?_
        | refine PW.ret ?_
        | (refine hX1 ?_; clear hX1 hY1; try simp only [hb])
        | (refine hY1 ?_; clear hX1 hY1; try simp only [hb])
        | exact co_refl _
        | exact co_own _ _ _
        | exact co_nilsB
        | exact co_nilsL _ _))
      | ((first | (with_reducible refine wantB_intro (fun hb => ?_) (fun hb => ?_)) | (with_reducible refine condB_intro (fun hb => ?_) (fun hb => ?_))) <;> ((try (have hp := hb; simp only [Bool.and_eq_true, Bool.or_eq_true, Bool.not_eq_true', Bool.not_eq_false', Bool.and_eq_false_iff, Bool.or_eq_false_iff, Bool.not_eq_eq_eq_not, Bool.not_true, Bool.not_false, decide_eq_true_eq, decide_eq_false_iff_not, Int.not_lt, Int.not_le, beq_iff_eq, beq_eq_false_iff_ne, ne_eq] at hp)); try simp only [hb, Bool.not_true, Bool.not_false]))
      | ((with_reducible refine And.intro ?_ ?_); (focus (first | omega | (simp; done) | assumption)))
      | (simp only [thenP, blockP, Nat.reduceEqDiff, ↓reduceIte]; (try ((repeat (fail_if_success (with_reducible refine hK1 _ ?_)); clear hK1); (with_reducible refine hK1 _ ?_); clear hK1)))
      | (with_reducible omega)
      | (assumption)
      | ((first | ((with_reducible refine opsP_cons fun K3 hK3 => ?_); simp only [wantP, opP, valP, List.toList_toArray, Array.toList_empty, List.map_cons, List.map_nil, List.mapM_cons, List.mapM_nil, List.all_cons, List.all_nil]) | (with_reducible refine PW.condM fun X1 Y1 hX1 hY1 => ?_) | skip); simp (disch := omega) only [wantP, wantB_tt, wantB_ff, wantB_tf, wantB_ft, opP, valP, St.eval, St.put, upd_app, iniT_app, avOf, avOf1, wf_i64, wf_u64, wf_u8, wf_i32, wf_u32, nom, cellsA, AV.okv, loadA, lenP, binP, intsP, intP, strP, eqP, nilP, convP, unP, builtinP, bsz, Array.toList_empty, List.size_toArray, UInt8.reduceToNat, wi_i64, wi_u64, wi_i32, wi_u32, wi_u8, wi_i8, dvEqC, eqAll, cellsV, maplenP, isMapA, isBsl, viewA, Nat.min_self, Option.isSome_some, List.flatten_cons, List.flatten_nil, List.replicate_zero, slA, putCells, fillA, buildA, elA, dv1, encB_len, encB_get, encB_append, encB_take, encB_drop, encB_snoc, encL_len, encL_get, encL_append, encL_take, encL_drop, bytesD_enc, bytesD_some, List.getD_cons_zero, List.getD_cons_succ, List.getD_nil, List.getElem?_cons_zero, List.getElem?_cons_succ, List.getElem?_nil, List.set_cons_zero, List.set_cons_succ, List.set_nil, List.length_cons, List.length_nil, List.length_map, List.length_append, List.length_set, List.drop_zero, List.drop_succ_cons, List.drop_nil, List.take_succ_cons, List.take_zero, List.take_nil, List.take_length, List.map_cons, List.map_nil, List.nil_append, List.cons_append, List.append_nil, List.mapM_cons, List.mapM_nil, List.all_cons, List.all_nil, List.toList_toArray, List.getElem?_toArray, List.range_succ, List.range_zero, Option.map_some, Option.map_none, Option.bind_some, Option.bind_none, Option.bind_eq_bind, Option.pure_def, Option.isSome_some, Option.isSome_none, Int.toNat_natCast, Int.toNat_zero, Nat.reduceLT, Nat.reduceLeDiff, Nat.reduceAdd, Nat.reduceMul, Nat.reduceSub, Nat.reduceEqDiff, Nat.reduceBEq, Nat.zero_add, Nat.add_zero, Nat.zero_mul, Nat.not_lt_zero, Nat.lt_irrefl, Nat.reduceGT, Nat.lt_add_one, gt_iff_lt, Int.reduceLE, Int.reduceLT, Int.reduceNeg, Int.reduceToNat, Int.reduceAdd, Int.reduceSub, Int.reduceMul, Int.cast_ofNat_Int, decide_true, decide_false, Bool.and_true, Bool.and_false, Bool.true_and, Bool.false_and, Bool.or_true, Bool.or_false, Bool.true_or, Bool.false_or, Bool.not_true, Bool.not_false, ite_same, ↓reduceIte, Bool.false_eq_true, reduceCtorEq, true_and, and_true, false_and, and_false, or_false, false_or, ne_eq, not_true_eq_false, not_false_eq_true, or_true, true_or, if_true, if_false, Int.natCast_add, BEq.rfl, beq_self_eq_true, Nat.le_refl, Int.le_refl, sz3, ze3, by3, zv3, cl3, ps3, st3, Tryd.underlying3, sz5, ze5, by5, zv5, cl5, ps5, st5, Tryd.underlying5, sz22, ze22, by22, el22, is22, zv22, cl22, st22, Tryd.underlying22, h0, h5, hlt', hx, retQ, resP, tupA, fg, fgs, condP, condB_t, condB_f]; try (with_reducible (first | exact co_refl _ | exact co_own _ _ _ | exact co_nilsB | exact co_nilsL _ _))))
    · refine co_eq ?_
      rw [← hs, endS_zero hx (by simpa using hb)]
    · refine ⟨b.length - (k + 1), by omega, k + 1, ?_, ?_, ?_, ?_, rfl, ?_, by omega⟩
      case refine_5 => rw [endS_next hx (by simpa using hb)]; exact hs
      all_goals (simp only [St.cut, Mem.cut, fg, fgs, upd_app, Nat.reduceEqDiff, ↓reduceIte, List.take_nil, List.map_nil, List.take_succ_cons, List.take_zero, List.map_cons, Option.map_some, Option.map_none, Nat.reduceLT, Nat.zero_lt_one, Nat.reduceAdd, List.length_append, List.length_cons, List.length_nil, List.append_assoc, Nat.add_assoc, Int.natCast_add, Int.cast_ofNat_Int, nom, h0, h5]; try rfl)
  · have hlt' := eq_false hlt
    repeat' (first
      | (with_reducible (first
        | refine PW.seq fun K1 hK1 => ?_
        | refine PW.region fun K2 hK2 => ?_
        | (refine hK3 _ ?_; clear hK3)
        | (refine opsP_nil ?_; refine hK2 _ ?_; clear hK2)
        | refine litX_old ?_
        | refine litC_data ?_
        | (refine Exists.intro _ (Exists.intro _ (And.intro rfl (And.intro rfl (And.intro ?_ ?_)))); focus omega)
        | (refine hK1 _ ?_; clear hK1)
        | refine nilC_intro (fun hz => ?_) ?_
        | refine PW.block ?_
        | refine PW.skip ?_
        | refine PW.exit ?_
        | refine PW.ret ?_
        | (refine hX1 ?_; clear hX1 hY1; try simp only [hb])
        | (refine hY1 ?_; clear hX1 hY1; try simp only [hb])
        | exact co_refl _
        | exact co_own _ _ _
        | exact co_nilsB
        | exact co_nilsL _ _))
      | ((first | (with_reducible refine wantB_intro (fun hb => ?_) (fun hb => ?_)) | (with_reducible refine condB_intro (fun hb => ?_) (fun hb => ?_))) <;> ((try (have hp := hb; simp only [Bool.and_eq_true, Bool.or_eq_true, Bool.not_eq_true', Bool.not_eq_false', Bool.and_eq_false_iff, Bool.or_eq_false_iff, Bool.not_eq_eq_eq_not, Bool.not_true, Bool.not_false, decide_eq_true_eq, decide_eq_false_iff_not, Int.not_lt, Int.not_le, beq_iff_eq, beq_eq_false_iff_ne, ne_eq] at hp)); try simp only [hb, Bool.not_true, Bool.not_false]))
      | ((with_reducible refine And.intro ?_ ?_); (focus (first | omega | (simp; done) | assumption)))
      | (simp only [thenP, blockP, Nat.reduceEqDiff, ↓reduceIte]; (try ((repeat (fail_if_success (with_reducible refine hK1 _ ?_)); clear hK1); (with_reducible refine hK1 _ ?_); clear hK1)))
      | (with_reducible omega)
      | (assumption)
      | ((first | ((with_reducible refine opsP_cons fun K3 hK3 => ?_); simp only [wantP, opP, valP, List.toList_toArray, Array.toList_empty, List.map_cons, List.map_nil, List.mapM_cons, List.mapM_nil, List.all_cons, List.all_nil]) | (with_reducible refine PW.condM fun X1 Y1 hX1 hY1 => ?_) | skip); simp (disch := omega) only [wantP, wantB_tt, wantB_ff, wantB_tf, wantB_ft, opP, valP, St.eval, St.put, upd_app, iniT_app, avOf, avOf1, wf_i64, wf_u64, wf_u8, wf_i32, wf_u32, nom, cellsA, AV.okv, loadA, lenP, binP, intsP, intP, strP, eqP, nilP, convP, unP, builtinP, bsz, Array.toList_empty, List.size_toArray, UInt8.reduceToNat, wi_i64, wi_u64, wi_i32, wi_u32, wi_u8, wi_i8, dvEqC, eqAll, cellsV, maplenP, isMapA, isBsl, viewA, Nat.min_self, Option.isSome_some, List.flatten_cons, List.flatten_nil, List.replicate_zero, slA, putCells, fillA, buildA, elA, dv1, encB_len, encB_get, encB_append, encB_take, encB_drop, encB_snoc, encL_len, encL_get, encL_append, encL_take, encL_drop, bytesD_enc, bytesD_some, List.getD_cons_zero, List.getD_cons_succ, List.getD_nil, List.getElem?_cons_zero, List.getElem?_cons_succ, List.getElem?_nil, List.set_cons_zero, List.set_cons_succ, List.set_nil, List.length_cons, List.length_nil, List.length_map, List.length_append, List.length_set, List.drop_zero, List.drop_succ_cons, List.drop_nil, List.take_succ_cons, List.take_zero, List.take_nil, List.take_length, List.map_cons, List.map_nil, List.nil_append, List.cons_append, List.append_nil, List.mapM_cons, List.mapM_nil, List.all_cons, List.all_nil, List.toList_toArray, List.getElem?_toArray, List.range_succ, List.range_zero, Option.map_some, Option.map_none, Option.bind_some, Option.bind_none, Option.bind_eq_bind, Option.pure_def, Option.isSome_some, Option.isSome_none, Int.toNat_natCast, Int.toNat_zero, Nat.reduceLT, Nat.reduceLeDiff, Nat.reduceAdd, Nat.reduceMul, Nat.reduceSub, Nat.reduceEqDiff, Nat.reduceBEq, Nat.zero_add, Nat.add_zero, Nat.zero_mul, Nat.not_lt_zero, Nat.lt_irrefl, Nat.reduceGT, Nat.lt_add_one, gt_iff_lt, Int.reduceLE, Int.reduceLT, Int.reduceNeg, Int.reduceToNat, Int.reduceAdd, Int.reduceSub, Int.reduceMul, Int.cast_ofNat_Int, decide_true, decide_false, Bool.and_true, Bool.and_false, Bool.true_and, Bool.false_and, Bool.or_true, Bool.or_false, Bool.true_or, Bool.false_or, Bool.not_true, Bool.not_false, ite_same, ↓reduceIte, Bool.false_eq_true, reduceCtorEq, true_and, and_true, false_and, and_false, or_false, false_or, ne_eq, not_true_eq_false, not_false_eq_true, or_true, true_or, if_true, if_false, Int.natCast_add, BEq.rfl, beq_self_eq_true, Nat.le_refl, Int.le_refl, sz3, ze3, by3, zv3, cl3, ps3, st3, Tryd.underlying3, sz5, ze5, by5, zv5, cl5, ps5, st5, Tryd.underlying5, sz22, ze22, by22, el22, is22, zv22, cl22, st22, Tryd.underlying22, h0, h5, hlt', retQ, resP, tupA, fg, fgs, condP, condB_t, condB_f]; try (with_reducible (first | exact co_refl _ | exact co_own _ _ _ | exact co_nilsB | exact co_nilsL _ _))))
    refine co_eq ?_
    rw [← hs, endS_none (by omega)]
end PM
end Go.Proofs.YthaekefdadccaaaDoor
