/- pgwire in the abstract: a client's message, the document's and the program's. -/
import Derived.Test.YthaekefdadccaaaDoorPg4
import Derived.Test.YthaekefdadccaaaDoorPg8
namespace Go.Proofs.YthaekefdadccaaaDoor
open Go.RowKit
namespace PM
set_option maxRecDepth 100000 in
set_option maxHeartbeats 8000000 in
theorem pRTakeFront (b : List Int) (st : Bool) : Pure Tryd.prog 12 [bs b, .d (.bool st)] (.tup [(takeFrontS b st).1.v, .d (.int .i64 (takeFrontS b st).2.1), .d (.int .i64 (takeFrontS b st).2.2)]) := by
  refine pure_intro Tryd.func12 rfl rfl rfl 100 rfl (fun hh => ?_)
  obtain ⟨hr, hml⟩ := has_bytes (hh (bs b) (by simp))
  have hmx : maxLen = 9223372036854775807 := rfl
  cases st with
  | true =>
    have hS : takeFrontS b true = firstS b := rfl
    rw [hS]
    repeat' (first
      | (with_reducible (first
        | refine PW.seq fun K1 hK1 => ?_
        | refine PW.region fun K2 hK2 => ?_
        | (refine hK3 _ ?_; clear hK3)
        | (refine opsP_nil ?_; refine hK2 _ ?_; clear hK2)
        | refine litX_old ?_
        | refine litC_data ?_
        | (refine Exists.intro _ (Exists.intro _ (And.intro rfl (And.intro rfl (And.intro ?_ ?_)))); focus omega)
        | (refine hK1 _ ?_; clear hK1)
        | refine nilC_intro (fun hz => ?_) ?_
        | refine PW.block ?_
        | refine PW.skip ?_
        | refine PW.exit ?_
        | refine PW.ret ?_
        | (refine hX1 ?_; clear hX1 hY1; try simp only [hb])
        | (refine hY1 ?_; clear hX1 hY1; try simp only [hb])
        | exact co_refl _
        | exact co_own _ _ _
        | exact co_nilsB
        | exact co_nilsL _ _))
      | ((first | (with_reducible refine wantB_intro (fun hb => ?_) (fun hb => ?_)) | (with_reducible refine condB_intro (fun hb => ?_) (fun hb => ?_))) <;> ((try (have hp := hb; simp only [Bool.and_eq_true, Bool.or_eq_true, Bool.not_eq_true', Bool.not_eq_false', Bool.and_eq_false_iff, Bool.or_eq_false_iff, Bool.not_eq_eq_eq_not, Bool.not_true, Bool.not_false, decide_eq_true_eq, decide_eq_false_iff_not, Int.not_lt, Int.not_le, beq_iff_eq, beq_eq_false_iff_ne, ne_eq] at hp)); try simp only [hb, Bool.not_true, Bool.not_false]))
      | ((with_reducible refine callP_pure ?_ ?_ (pFirst ?_) (fun _ => ?_)); (focus (repeat' (first | exact cos_refl _ | (refine cos_cons ?_ ?_) | exact co_refl _ | exact co_own _ _ _ | exact co_nilsB | exact co_nilsL _ _ | exact co_nils _ | (refine co_agg ?_) | (refine co_fn ?_)))); (focus (simp only [purAs, purA, Bool.and_self])))
      | ((with_reducible refine And.intro ?_ ?_); (focus (first | omega | (simp; done) | assumption)))
      | (simp only [thenP]; (try ((repeat (fail_if_success (with_reducible refine hK1 _ ?_)); clear hK1); (with_reducible refine hK1 _ ?_); clear hK1)))
      | (with_reducible omega)
      | (assumption)
      | ((first | ((with_reducible refine opsP_consMt (d := ?_) (dj := ?_) (b := ?_) (r := ?_) ?_ ?_ (fun hb => ?_) (fun K3 hK3 => ?_)); rotate_left 3; (focus exact rfl); (focus (simp only [St.put, upd_app, iniT_app, Nat.reduceEqDiff, ↓reduceIte, mrg_t, mrg_f]; exact rfl))) | ((with_reducible refine opsP_consMf (d := ?_) (dj := ?_) (b := ?_) (r := ?_) ?_ ?_ (fun hb => ?_) (fun K3 hK3 => ?_)); rotate_left 3; (focus exact rfl); (focus (simp only [St.put, upd_app, iniT_app, Nat.reduceEqDiff, ↓reduceIte, mrg_t, mrg_f]; exact rfl))) | ((with_reducible refine opsP_consNt (d := ?_) (dj := ?_) (b := ?_) (r := ?_) (c := ?_) ?_ ?_ (fun hb => ?_) (fun K3 hK3 => ?_)); rotate_left 4; (focus exact rfl); (focus (simp only [St.put, upd_app, iniT_app, Nat.reduceEqDiff, ↓reduceIte, mrg_t, mrg_f]; exact rfl))) | ((with_reducible refine opsP_consNf (d := ?_) (dj := ?_) (b := ?_) (r := ?_) (c := ?_) ?_ ?_ (fun hb => ?_) (fun K3 hK3 => ?_)); rotate_left 4; (focus exact rfl); (focus (simp only [St.put, upd_app, iniT_app, Nat.reduceEqDiff, ↓reduceIte, mrg_t, mrg_f]; exact rfl)))); (focus (simp only [opP, valP, List.toList_toArray, Array.toList_empty, List.map_cons, List.map_nil, List.mapM_cons, List.mapM_nil, List.all_cons, List.all_nil]; (try (simp only [Bool.and_eq_true, Bool.not_eq_true'] at hb)); (try (have hp := hb; simp only [Bool.and_eq_true, Bool.or_eq_true, Bool.not_eq_true', Bool.not_eq_false', Bool.and_eq_false_iff, Bool.or_eq_false_iff, Bool.not_eq_eq_eq_not, Bool.not_true, Bool.not_false, decide_eq_true_eq, decide_eq_false_iff_not, Int.not_lt, Int.not_le, beq_iff_eq, beq_eq_false_iff_ne, ne_eq] at hp)); simp (disch := omega) only [wantP, wantB_tt, wantB_ff, wantB_tf, wantB_ft, opP, valP, St.eval, St.put, upd_app, iniT_app, avOf, avOf1, wf_i64, wf_u64, wf_u8, wf_i32, wf_u32, nom, cellsA, AV.okv, loadA, lenP, binP, intsP, intP, strP, eqP, nilP, convP, sliceP, boundLo, boundHi, unP, builtinP, bsz, Array.toList_empty, List.size_toArray, UInt8.reduceToNat, wi_i64, wi_u64, wi_i32, wi_u32, wi_u8, wi_i8, dvEqC, eqAll, boundMx, cellsV, maplenP, isMapA, isBsl, viewA, Nat.min_self, Option.isSome_some, List.flatten_cons, List.flatten_nil, List.replicate_zero, slA, putCells, fillA, buildA, elA, dv1, encB_len, encB_get, encB_append, encB_take, encB_drop, encB_snoc, encL_len, encL_get, encL_append, encL_take, encL_drop, bytesD_enc, bytesD_some, List.getD_cons_zero, List.getD_cons_succ, List.getD_nil, List.getElem?_cons_zero, List.getElem?_cons_succ, List.getElem?_nil, List.set_cons_zero, List.set_cons_succ, List.set_nil, List.length_cons, List.length_nil, List.length_map, List.length_append, List.length_set, List.drop_zero, List.drop_succ_cons, List.drop_nil, List.take_succ_cons, List.take_zero, List.take_nil, List.take_length, List.map_cons, List.map_nil, List.nil_append, List.cons_append, List.append_nil, List.mapM_cons, List.mapM_nil, List.all_cons, List.all_nil, List.toList_toArray, List.getElem?_toArray, List.range_succ, List.range_zero, Option.map_some, Option.map_none, Option.bind_some, Option.bind_none, Option.bind_eq_bind, Option.pure_def, Option.isSome_some, Option.isSome_none, Int.toNat_natCast, Int.toNat_zero, Nat.reduceLT, Nat.reduceLeDiff, Nat.reduceAdd, Nat.reduceMul, Nat.reduceSub, Nat.reduceEqDiff, Nat.reduceBEq, Nat.zero_add, Nat.add_zero, Nat.zero_mul, Nat.not_lt_zero, Nat.lt_irrefl, Nat.reduceGT, Nat.lt_add_one, gt_iff_lt, Int.reduceLE, Int.reduceLT, Int.reduceNeg, Int.reduceToNat, Int.reduceAdd, Int.reduceSub, Int.reduceMul, Int.cast_ofNat_Int, decide_true, decide_false, Bool.and_true, Bool.and_false, Bool.true_and, Bool.false_and, Bool.or_true, Bool.or_false, Bool.true_or, Bool.false_or, Bool.not_true, Bool.not_false, ite_same, ↓reduceIte, Bool.false_eq_true, reduceCtorEq, true_and, and_true, false_and, and_false, or_false, false_or, ne_eq, not_true_eq_false, not_false_eq_true, or_true, true_or, if_true, if_false, Int.natCast_add, BEq.rfl, beq_self_eq_true, Nat.le_refl, Int.le_refl, sz3, ze3, by3, zv3, cl3, ps3, st3, Tryd.underlying3, sz4, ze4, by4, zv4, cl4, ps4, st4, Tryd.underlying4, sz5, ze5, by5, zv5, cl5, ps5, st5, Tryd.underlying5, sz9, ze9, by9, zv9, cl9, ps9, st9, Tryd.underlying9, sz22, ze22, by22, el22, is22, zv22, cl22, st22, Tryd.underlying22, sz24, ze24, by24, el24, is24, zv24, cl24, st24, Tryd.underlying24, sz26, ze26, by26, pl26, zv26, cl26, st26, fi26_0, fi26_1, fi26_2, fi26_3, fi26_4, fi26_5, Front.v, Front.c, mrg_t, mrg_f, pick_or, pick_and, pick_or', pick_and', hb, Bool.not_true, Bool.not_false, Bool.and_true, Bool.true_and]; (repeat' (first | (exact rfl) | ((refine And.intro ?_ ?_); (focus (exact rfl)); (exact rfl)) | (refine And.intro (by first | omega | (simp; done) | assumption) ?_) | ((with_reducible refine callP_pure ?_ ?_ (pFirst ?_) (fun _ => ?_)); (focus (repeat' (first | exact cos_refl _ | (refine cos_cons ?_ ?_) | exact co_refl _ | exact co_own _ _ _ | exact co_nilsB | exact co_nilsL _ _ | exact co_nils _ | (refine co_agg ?_) | (refine co_fn ?_)))); (focus (simp only [purAs, purA, Bool.and_self, Bool.and_true, Front.v, Front.c]))))); done)); (try simp only [St.put, Nat.reduceLT, ↓reduceIte, mrg_t, mrg_f, Bool.true_and, Bool.and_true, Bool.not_true, Bool.not_false]))
      | ((first | ((with_reducible refine opsP_cons fun K3 hK3 => ?_); simp only [wantP, opP, valP, List.map_cons, List.map_nil]) | (with_reducible refine PW.condM fun X1 Y1 hX1 hY1 => ?_) | skip); simp (disch := omega) only [St.eval, St.put, upd_app, iniT_app, avOf, avOf1, wf_i64, nom, cellsA, AV.okv, loadA, putCells, List.getD_cons_zero, List.getD_cons_succ, List.getElem?_cons_zero, List.getElem?_cons_succ, List.set_cons_zero, List.set_cons_succ, List.length_cons, List.length_nil, List.drop_zero, List.take_succ_cons, List.take_nil, List.map_cons, List.map_nil, List.nil_append, List.append_nil, Nat.reduceLT, Nat.reduceAdd, Nat.reduceEqDiff, Nat.zero_add, Int.reduceLE, Int.reduceNeg, decide_true, Bool.and_true, ↓reduceIte, reduceCtorEq, true_and, Nat.le_refl, sz26, ze26, Front.v, Front.c, retQ, resP, tupA, fg, fgs, condP, condB_t]; try (with_reducible (first | exact co_refl _ | exact co_own _ _ _ | exact co_nilsB | exact co_nilsL _ _))))
  | false =>
    have hS : takeFrontS b false = laterS b := rfl
    rw [hS]
    cases b with
    | nil =>
      repeat' (first
        | (with_reducible (first
          | refine PW.seq fun K1 hK1 => ?_
          | refine PW.region fun K2 hK2 => ?_
          | (refine hK3 _ ?_; clear hK3)
          | (refine opsP_nil ?_; refine hK2 _ ?_; clear hK2)
          | refine litX_old ?_
          | refine litC_data ?_
          | (refine Exists.intro _ (Exists.intro _ (And.intro rfl (And.intro rfl (And.intro ?_ ?_)))); focus omega)
          | (refine hK1 _ ?_; clear hK1)
          | refine nilC_intro (fun hz => ?_) ?_
          | refine PW.block ?_
          | refine PW.skip ?_
          | refine PW.exit ?_
          | refine PW.ret ?_
          | (refine hX1 ?_; clear hX1 hY1; try simp only [hb])
          | (refine hY1 ?_; clear hX1 hY1; try simp only [hb])
          | exact co_refl _
          | exact co_own _ _ _
          | exact co_nilsB
          | exact co_nilsL _ _))
        | ((first | (with_reducible refine wantB_intro (fun hb => ?_) (fun hb => ?_)) | (with_reducible refine condB_intro (fun hb => ?_) (fun hb => ?_))) <;> ((try (have hp := hb; simp only [Bool.and_eq_true, Bool.or_eq_true, Bool.not_eq_true', Bool.not_eq_false', Bool.and_eq_false_iff, Bool.or_eq_false_iff, Bool.not_eq_eq_eq_not, Bool.not_true, Bool.not_false, decide_eq_true_eq, decide_eq_false_iff_not, Int.not_lt, Int.not_le, beq_iff_eq, beq_eq_false_iff_ne, ne_eq] at hp)); try simp only [hb, Bool.not_true, Bool.not_false]))
        | ((with_reducible refine And.intro ?_ ?_); (focus (first | omega | (simp; done) | assumption)))
        | (simp only [thenP, blockP]; (try ((repeat (fail_if_success (with_reducible refine hK1 _ ?_)); clear hK1); (with_reducible refine hK1 _ ?_); clear hK1)))
        | (with_reducible omega)
        | (assumption)
        | ((first | ((with_reducible refine opsP_consMt (d := ?_) (dj := ?_) (b := ?_) (r := ?_) ?_ ?_ (fun hb => ?_) (fun K3 hK3 => ?_)); rotate_left 3; (focus exact rfl); (focus (simp only [St.put, upd_app, iniT_app, Nat.reduceEqDiff, ↓reduceIte, mrg_t, mrg_f]; exact rfl))) | ((with_reducible refine opsP_consMf (d := ?_) (dj := ?_) (b := ?_) (r := ?_) ?_ ?_ (fun hb => ?_) (fun K3 hK3 => ?_)); rotate_left 3; (focus exact rfl); (focus (simp only [St.put, upd_app, iniT_app, Nat.reduceEqDiff, ↓reduceIte, mrg_t, mrg_f]; exact rfl))) | ((with_reducible refine opsP_consNt (d := ?_) (dj := ?_) (b := ?_) (r := ?_) (c := ?_) ?_ ?_ (fun hb => ?_) (fun K3 hK3 => ?_)); rotate_left 4; (focus exact rfl); (focus (simp only [St.put, upd_app, iniT_app, Nat.reduceEqDiff, ↓reduceIte, mrg_t, mrg_f]; exact rfl))) | ((with_reducible refine opsP_consNf (d := ?_) (dj := ?_) (b := ?_) (r := ?_) (c := ?_) ?_ ?_ (fun hb => ?_) (fun K3 hK3 => ?_)); rotate_left 4; (focus exact rfl); (focus (simp only [St.put, upd_app, iniT_app, Nat.reduceEqDiff, ↓reduceIte, mrg_t, mrg_f]; exact rfl)))); (focus (simp only [opP, valP, List.toList_toArray, Array.toList_empty, List.map_cons, List.map_nil, List.mapM_cons, List.mapM_nil, List.all_cons, List.all_nil]; (try (simp only [Bool.and_eq_true, Bool.not_eq_true'] at hb)); (try (have hp := hb; simp only [Bool.and_eq_true, Bool.or_eq_true, Bool.not_eq_true', Bool.not_eq_false', Bool.and_eq_false_iff, Bool.or_eq_false_iff, Bool.not_eq_eq_eq_not, Bool.not_true, Bool.not_false, decide_eq_true_eq, decide_eq_false_iff_not, Int.not_lt, Int.not_le, beq_iff_eq, beq_eq_false_iff_ne, ne_eq] at hp)); simp (disch := omega) only [wantP, wantB_tt, wantB_ff, wantB_tf, wantB_ft, opP, valP, St.eval, St.put, upd_app, iniT_app, avOf, avOf1, wf_i64, wf_u64, wf_u8, wf_i32, wf_u32, nom, cellsA, AV.okv, loadA, lenP, binP, intsP, intP, strP, eqP, nilP, convP, sliceP, boundLo, boundHi, unP, builtinP, bsz, Array.toList_empty, List.size_toArray, UInt8.reduceToNat, wi_i64, wi_u64, wi_i32, wi_u32, wi_u8, wi_i8, dvEqC, eqAll, boundMx, cellsV, maplenP, isMapA, isBsl, viewA, Nat.min_self, Option.isSome_some, List.flatten_cons, List.flatten_nil, List.replicate_zero, slA, putCells, fillA, buildA, elA, dv1, encB_len, encB_get, encB_append, encB_take, encB_drop, encB_snoc, encL_len, encL_get, encL_append, encL_take, encL_drop, bytesD_enc, bytesD_some, List.getD_cons_zero, List.getD_cons_succ, List.getD_nil, List.getElem?_cons_zero, List.getElem?_cons_succ, List.getElem?_nil, List.set_cons_zero, List.set_cons_succ, List.set_nil, List.length_cons, List.length_nil, List.length_map, List.length_append, List.length_set, List.drop_zero, List.drop_succ_cons, List.drop_nil, List.take_succ_cons, List.take_zero, List.take_nil, List.take_length, List.map_cons, List.map_nil, List.nil_append, List.cons_append, List.append_nil, List.mapM_cons, List.mapM_nil, List.all_cons, List.all_nil, List.toList_toArray, List.getElem?_toArray, List.range_succ, List.range_zero, Option.map_some, Option.map_none, Option.bind_some, Option.bind_none, Option.bind_eq_bind, Option.pure_def, Option.isSome_some, Option.isSome_none, Int.toNat_natCast, Int.toNat_zero, Nat.reduceLT, Nat.reduceLeDiff, Nat.reduceAdd, Nat.reduceMul, Nat.reduceSub, Nat.reduceEqDiff, Nat.reduceBEq, Nat.zero_add, Nat.add_zero, Nat.zero_mul, Nat.not_lt_zero, Nat.lt_irrefl, Nat.reduceGT, Nat.lt_add_one, gt_iff_lt, Int.reduceLE, Int.reduceLT, Int.reduceNeg, Int.reduceToNat, Int.reduceAdd, Int.reduceSub, Int.reduceMul, Int.cast_ofNat_Int, decide_true, decide_false, Bool.and_true, Bool.and_false, Bool.true_and, Bool.false_and, Bool.or_true, Bool.or_false, Bool.true_or, Bool.false_or, Bool.not_true, Bool.not_false, ite_same, ↓reduceIte, Bool.false_eq_true, reduceCtorEq, true_and, and_true, false_and, and_false, or_false, false_or, ne_eq, not_true_eq_false, not_false_eq_true, or_true, true_or, if_true, if_false, Int.natCast_add, BEq.rfl, beq_self_eq_true, Nat.le_refl, Int.le_refl, sz3, ze3, by3, zv3, cl3, ps3, st3, Tryd.underlying3, sz4, ze4, by4, zv4, cl4, ps4, st4, Tryd.underlying4, sz5, ze5, by5, zv5, cl5, ps5, st5, Tryd.underlying5, sz9, ze9, by9, zv9, cl9, ps9, st9, Tryd.underlying9, sz22, ze22, by22, el22, is22, zv22, cl22, st22, Tryd.underlying22, sz24, ze24, by24, el24, is24, zv24, cl24, st24, Tryd.underlying24, sz26, ze26, by26, pl26, zv26, cl26, st26, fi26_0, fi26_1, fi26_2, fi26_3, fi26_4, fi26_5, mrg_t, mrg_f, pick_or, pick_and, pick_or', pick_and', hb, Bool.not_true, Bool.not_false, Bool.and_true, Bool.true_and]; (repeat' (first | (exact rfl) | ((refine And.intro ?_ ?_); (focus (exact rfl)); (exact rfl)) | (refine And.intro (by first | omega | (simp; done) | assumption) ?_))); done)); (try simp only [St.put, Nat.reduceLT, ↓reduceIte, mrg_t, mrg_f, Bool.true_and, Bool.and_true, Bool.not_true, Bool.not_false]))
        | ((first | ((with_reducible refine opsP_cons fun K3 hK3 => ?_); simp only [wantP, opP, valP, List.map_cons, List.map_nil]) | (with_reducible refine PW.condM fun X1 Y1 hX1 hY1 => ?_) | skip); simp (disch := omega) only [St.eval, St.put, upd_app, iniT_app, avOf, avOf1, wf_i64, nom, cellsA, AV.okv, loadA, lenP, binP, intsP, intP, nilP, builtinP, isMapA, slA, putCells, fillA, buildA, encB_len, List.getD_cons_zero, List.getD_cons_succ, List.getElem?_cons_zero, List.set_cons_zero, List.set_cons_succ, List.length_cons, List.length_nil, List.drop_zero, List.take_succ_cons, List.take_nil, List.nil_append, Nat.reduceLT, Nat.reduceAdd, Nat.reduceEqDiff, Nat.zero_add, Int.reduceLE, Int.reduceNeg, Int.cast_ofNat_Int, decide_true, Bool.and_true, ↓reduceIte, Bool.false_eq_true, reduceCtorEq, true_and, and_false, or_false, Nat.le_refl, Tryd.underlying22, sz26, ze26, pl26, retQ, resP, tupA, fg, fgs, condP, condB_t, condB_f]; try (with_reducible (first | exact co_refl _ | exact co_own _ _ _ | exact co_nilsB | exact co_nilsL _ _))))
      all_goals (try (focus ((try simp only [laterS, zF]); (repeat' split) <;> (first | (exfalso; omega) | ((try ((with_reducible refine And.intro ?_ ?_); rotate_left 1; (focus (first | exact subM_row1 | exact subM_nom _ | (refine subM_box1 ?_; simp only [fgs, fg]; (repeat' (first | exact cos_refl _ | refine cos_cons ?_ ?_ | exact co_refl _ | exact co_nilsB | exact co_own _ _ _ | exact co_nilsL _ _ | exact co_nils _ | refine co_agg ?_ | refine co_tup ?_)); done))))); (first | ((repeat' (first | exact cos_refl _ | refine cos_cons ?_ ?_ | exact co_refl _ | exact co_nilsB | exact co_own _ _ _ | exact co_nilsL _ _ | exact co_nils _ | refine co_agg ?_ | refine co_tup ?_)); done) | (refine co_eq ?_; simp_all; done))) | (exfalso; simp_all; done)))))
    | cons c r =>
      have hc := rng_at hr (i := 0) rfl
      obtain ⟨b, hbe⟩ : ∃ b, b = c :: r := ⟨_, rfl⟩
      rw [← hbe] at hml hr ⊢
      have hx : b[0]? = some c := by rw [hbe]; rfl
      have hg : b.getD 0 0 = c := by rw [hbe]; rfl
      have hl : b.length = r.length + 1 := by rw [hbe]; rfl
      clear hbe hh
      by_cases hq : (b.length : Int) < 5
      · have hq' := eq_true hq
        repeat' (first
          | (with_reducible (first
            | refine PW.seq fun K1 hK1 => ?_
            | refine PW.region fun K2 hK2 => ?_
            | (refine hK3 _ ?_; clear hK3)
            | (refine opsP_nil ?_; refine hK2 _ ?_; clear hK2)
            | refine litX_old ?_
            | refine litC_data ?_
            | (refine Exists.intro _ (Exists.intro _ (And.intro rfl (And.intro rfl (And.intro ?_ ?_)))); focus omega)
            | (refine hK1 _ ?_; clear hK1)
            | refine nilC_intro (fun hz => ?_) ?_
            | refine PW.block ?_
            | refine PW.skip ?_
            | refine PW.exit ?_
            | refine PW.ret ?_
            | (refine hX1 ?_; clear hX1 hY1; try simp only [hb])
            | (refine hY1 ?_; clear hX1 hY1; try simp only [hb])
            | exact co_refl _
            | exact co_own _ _ _
            | exact co_nilsB
            | exact co_nilsL _ _))
          | ((first | (with_reducible refine wantB_intro (fun hb => ?_) (fun hb => ?_)) | (with_reducible refine condB_intro (fun hb => ?_) (fun hb => ?_))) <;> ((try (have hp := hb; simp only [Bool.or_eq_true, Bool.or_eq_false_iff, decide_eq_true_eq, decide_eq_false_iff_not, Int.not_lt] at hp)); try simp only [hb, Bool.not_true, Bool.not_false]))
          | ((with_reducible refine And.intro ?_ ?_); (focus (first | omega | (simp; done) | assumption)))
          | (simp only [thenP, blockP]; (try ((repeat (fail_if_success (with_reducible refine hK1 _ ?_)); clear hK1); (with_reducible refine hK1 _ ?_); clear hK1)))
          | (with_reducible omega)
          | (assumption)
          | ((first | ((with_reducible refine opsP_consMt (d := ?_) (dj := ?_) (b := ?_) (r := ?_) ?_ ?_ (fun hb => ?_) (fun K3 hK3 => ?_)); rotate_left 3; (focus exact rfl); (focus (simp only [St.put, upd_app, iniT_app, Nat.reduceEqDiff, ↓reduceIte, mrg_t, mrg_f]; exact rfl))) | ((with_reducible refine opsP_consMf (d := ?_) (dj := ?_) (b := ?_) (r := ?_) ?_ ?_ (fun hb => ?_) (fun K3 hK3 => ?_)); rotate_left 3; (focus exact rfl); (focus (simp only [upd_app, Nat.reduceEqDiff, ↓reduceIte]; exact rfl))) | ((with_reducible refine opsP_consNt (d := ?_) (dj := ?_) (b := ?_) (r := ?_) (c := ?_) ?_ ?_ (fun hb => ?_) (fun K3 hK3 => ?_)); rotate_left 4; (focus exact rfl); (focus (simp only [St.put, upd_app, iniT_app, Nat.reduceEqDiff, ↓reduceIte, mrg_t, mrg_f]; exact rfl))) | ((with_reducible refine opsP_consNf (d := ?_) (dj := ?_) (b := ?_) (r := ?_) (c := ?_) ?_ ?_ (fun hb => ?_) (fun K3 hK3 => ?_)); rotate_left 4; (focus exact rfl); (focus (simp only [St.put, upd_app, iniT_app, Nat.reduceEqDiff, ↓reduceIte, mrg_t, mrg_f]; exact rfl)))); (focus (simp only [opP, valP]; (try (simp only [Bool.not_eq_true'] at hb)); (try (have hp := hb; simp only [decide_eq_false_iff_not] at hp)); simp (disch := omega) only [St.eval, upd_app, iniT_app, avOf, avOf1, wf_i64, wf_u8, loadA, binP, intsP, intP, nilP, slA, encB_get, List.getD_cons_zero, List.map_cons, List.map_nil, Option.map_some, Int.toNat_zero, Int.reduceLE, Int.reduceNeg, decide_true, Bool.and_true, Bool.not_false, ↓reduceIte, reduceCtorEq, true_and, and_true, and_false, or_false, Int.le_refl, sz5, el22, hx, mrg_t, hb, Bool.not_false, Bool.and_true]; (repeat' (first | (exact rfl) | ((refine And.intro ?_ ?_); (focus (exact rfl)); (exact rfl)) | (refine And.intro (by first | omega | (simp; done) | assumption) ?_))); done)); (try simp only [St.put, Nat.reduceLT, ↓reduceIte]))
          | ((first | ((with_reducible refine opsP_cons fun K3 hK3 => ?_); simp only [wantP, opP, valP, List.map_cons, List.map_nil]) | (with_reducible refine PW.condM fun X1 Y1 hX1 hY1 => ?_) | skip); simp (disch := omega) only [St.eval, St.put, upd_app, iniT_app, avOf, avOf1, wf_i64, wf_u8, nom, cellsA, AV.okv, loadA, lenP, binP, intsP, intP, nilP, builtinP, isMapA, slA, putCells, fillA, buildA, encB_len, encB_get, List.getD_cons_zero, List.getD_cons_succ, List.getElem?_cons_zero, List.set_cons_zero, List.set_cons_succ, List.length_cons, List.length_nil, List.drop_zero, List.take_succ_cons, List.take_nil, List.map_cons, List.map_nil, List.nil_append, Option.map_some, Int.toNat_zero, Nat.reduceLT, Nat.reduceAdd, Nat.reduceEqDiff, Nat.zero_add, Int.reduceLE, Int.reduceNeg, decide_true, Bool.and_true, ↓reduceIte, Bool.false_eq_true, reduceCtorEq, true_and, and_false, or_false, Nat.le_refl, Int.le_refl, sz5, el22, Tryd.underlying22, sz26, ze26, pl26, hx, hq', pick_or, retQ, resP, tupA, fg, fgs, condP, condB_t, condB_f]; try (with_reducible (first | exact co_refl _ | exact co_own _ _ _ | exact co_nilsB | exact co_nilsL _ _))))
        all_goals (try (focus ((try simp only [laterS, hg, zF]); (repeat' split) <;> (first | (exfalso; omega) | ((try ((with_reducible refine And.intro ?_ ?_); rotate_left 1; (focus (first | exact subM_row1 | exact subM_nom _ | (refine subM_box1 ?_; simp only [fgs, fg]; (repeat' (first | exact cos_refl _ | refine cos_cons ?_ ?_ | exact co_refl _ | exact co_nilsB | exact co_own _ _ _ | exact co_nilsL _ _ | exact co_nils _ | refine co_agg ?_ | refine co_tup ?_)); done))))); (first | ((repeat' (first | exact cos_refl _ | refine cos_cons ?_ ?_ | exact co_refl _ | exact co_nilsB | exact co_own _ _ _ | exact co_nilsL _ _ | exact co_nils _ | refine co_agg ?_ | refine co_tup ?_)); done) | (refine co_eq ?_; simp_all; done))) | (exfalso; simp_all; done)))))
      · have hq' := eq_false hq
        have hN := pI32 (b.drop 1) (by rw [List.length_drop]; omega)
        by_cases h8 : i32v (b.drop 1) < 4 ∨ 1048576 < i32v (b.drop 1) ∨ (b.length : Int) - 1 < i32v (b.drop 1)
        · skip
          repeat' (first
            | (with_reducible (first
              | refine PW.seq fun K1 hK1 => ?_
              | refine PW.region fun K2 hK2 => ?_
              | (refine hK3 _ ?_; clear hK3)
              | (refine opsP_nil ?_; refine hK2 _ ?_; clear hK2)
              | refine litX_old ?_
              | refine litC_data ?_
              | (refine Exists.intro _ (Exists.intro _ (And.intro rfl (And.intro rfl (And.intro ?_ ?_)))); focus omega)
              | (refine hK1 _ ?_; clear hK1)
              | refine nilC_intro (fun hz => ?_) ?_
              | refine PW.block ?_
              | refine PW.skip ?_
              | refine PW.exit ?_
              | refine PW.ret ?_
              | (refine hX1 ?_; clear hX1 hY1; try simp only [hb])
              | (refine hY1 ?_; clear hX1 hY1; try simp only [hb])
              | exact co_refl _
              | exact co_own _ _ _
              | exact co_nilsB
              | exact co_nilsL _ _))
            | ((first | (with_reducible refine wantB_intro (fun hb => ?_) (fun hb => ?_)) | (with_reducible refine condB_intro (fun hb => ?_) (fun hb => ?_))) <;> ((try (have hp := hb; simp only [Bool.or_eq_true, Bool.or_eq_false_iff, decide_eq_true_eq, decide_eq_false_iff_not, Int.not_lt] at hp)); try simp only [hb, Bool.not_true, Bool.not_false]))
            | ((with_reducible refine callP_pure ?_ ?_ (hN) (fun _ => ?_)); (focus (repeat' (first | exact cos_refl _ | (refine cos_cons ?_ ?_) | exact co_refl _ | exact co_own _ _ _ | exact co_nilsB | exact co_nilsL _ _ | exact co_nils _ | (refine co_agg ?_) | (refine co_fn ?_)))); (focus (simp only [purAs, purA, Bool.and_self])))
            | ((with_reducible refine And.intro ?_ ?_); (focus (first | omega | (simp; done) | assumption)))
            | (simp only [thenP, blockP]; (try ((repeat (fail_if_success (with_reducible refine hK1 _ ?_)); clear hK1); (with_reducible refine hK1 _ ?_); clear hK1)))
            | (with_reducible omega)
            | (assumption)
            | ((first | ((with_reducible refine opsP_consMt (d := ?_) (dj := ?_) (b := ?_) (r := ?_) ?_ ?_ (fun hb => ?_) (fun K3 hK3 => ?_)); rotate_left 3; (focus exact rfl); (focus (simp only [St.put, upd_app, iniT_app, Nat.reduceEqDiff, ↓reduceIte, mrg_t, mrg_f]; exact rfl))) | ((with_reducible refine opsP_consMf (d := ?_) (dj := ?_) (b := ?_) (r := ?_) ?_ ?_ (fun hb => ?_) (fun K3 hK3 => ?_)); rotate_left 3; (focus exact rfl); (focus (simp only [upd_app, Nat.reduceEqDiff, ↓reduceIte]; exact rfl))) | ((with_reducible refine opsP_consNt (d := ?_) (dj := ?_) (b := ?_) (r := ?_) (c := ?_) ?_ ?_ (fun hb => ?_) (fun K3 hK3 => ?_)); rotate_left 4; (focus exact rfl); (focus (simp only [St.put, upd_app, iniT_app, Nat.reduceEqDiff, ↓reduceIte, mrg_t, mrg_f]; exact rfl))) | ((with_reducible refine opsP_consNf (d := ?_) (dj := ?_) (b := ?_) (r := ?_) (c := ?_) ?_ ?_ (fun hb => ?_) (fun K3 hK3 => ?_)); rotate_left 4; (focus exact rfl); (focus (simp only [St.put, upd_app, iniT_app, Nat.reduceEqDiff, ↓reduceIte, mrg_t, mrg_f]; exact rfl)))); (focus (simp only [opP, valP]; (try (simp only [Bool.not_eq_true'] at hb)); (try (have hp := hb; simp only [decide_eq_false_iff_not] at hp)); simp (disch := omega) only [St.eval, upd_app, iniT_app, avOf, avOf1, wf_i64, wf_u8, loadA, binP, intsP, intP, nilP, slA, encB_get, List.getD_cons_zero, List.map_cons, List.map_nil, Option.map_some, Int.toNat_zero, Int.reduceLE, Int.reduceNeg, decide_true, Bool.and_true, Bool.not_false, ↓reduceIte, reduceCtorEq, true_and, and_true, and_false, or_false, Int.le_refl, sz5, el22, hx, mrg_t, hb, Bool.not_false, Bool.and_true]; (repeat' (first | (exact rfl) | ((refine And.intro ?_ ?_); (focus (exact rfl)); (exact rfl)) | (refine And.intro (by first | omega | (simp; done) | assumption) ?_) | ((with_reducible refine callP_pure ?_ ?_ (hN) (fun _ => ?_)); (focus (repeat' (first | exact cos_refl _ | (refine cos_cons ?_ ?_) | exact co_refl _ | exact co_own _ _ _ | exact co_nilsB | exact co_nilsL _ _ | exact co_nils _ | (refine co_agg ?_) | (refine co_fn ?_)))); (focus (simp only [purAs, purA, Bool.and_self, Bool.and_true, hx, hq']))))); done)); (try simp only [St.put, Nat.reduceLT, ↓reduceIte]))
            | ((first | ((with_reducible refine opsP_cons fun K3 hK3 => ?_); simp only [wantP, opP, valP, List.map_cons, List.map_nil]) | (with_reducible refine PW.condM fun X1 Y1 hX1 hY1 => ?_) | skip); simp (disch := omega) only [St.eval, St.put, upd_app, iniT_app, avOf, avOf1, wf_i64, wf_u8, nom, cellsA, AV.okv, loadA, lenP, binP, intsP, intP, nilP, sliceP, boundLo, boundHi, builtinP, wi_i64, isMapA, slA, putCells, fillA, buildA, encB_len, encB_get, encB_take, encB_drop, List.getD_cons_zero, List.getD_cons_succ, List.getElem?_cons_zero, List.set_cons_zero, List.set_cons_succ, List.length_cons, List.length_nil, List.drop_zero, List.take_succ_cons, List.take_nil, List.take_length, List.map_cons, List.map_nil, List.nil_append, List.append_nil, Option.map_some, Option.map_none, Int.toNat_natCast, Int.toNat_zero, Nat.reduceLT, Nat.reduceAdd, Nat.reduceEqDiff, Nat.zero_add, Int.reduceLE, Int.reduceNeg, Int.reduceToNat, decide_true, decide_false, Bool.and_true, ↓reduceIte, Bool.false_eq_true, reduceCtorEq, true_and, and_false, or_false, ne_eq, not_false_eq_true, Nat.le_refl, Int.le_refl, sz5, el22, Tryd.underlying22, sz26, ze26, pl26, hx, hq', pick_or, retQ, resP, tupA, fg, fgs, condP, condB_f]; try (with_reducible (first | exact co_refl _ | exact co_own _ _ _ | exact co_nilsB | exact co_nilsL _ _))))
          all_goals try (exfalso; omega)
          all_goals (try (focus ((try simp only [laterS, hg, zF]); (repeat' split) <;> (first | (exfalso; omega) | ((try ((with_reducible refine And.intro ?_ ?_); rotate_left 1; (focus (first | exact subM_row1 | exact subM_nom _ | (refine subM_box1 ?_; simp only [fgs, fg]; (repeat' (first | exact cos_refl _ | refine cos_cons ?_ ?_ | exact co_refl _ | exact co_nilsB | exact co_own _ _ _ | exact co_nilsL _ _ | exact co_nils _ | refine co_agg ?_ | refine co_tup ?_)); done))))); (first | ((repeat' (first | exact cos_refl _ | refine cos_cons ?_ ?_ | exact co_refl _ | exact co_nilsB | exact co_own _ _ _ | exact co_nilsL _ _ | exact co_nils _ | refine co_agg ?_ | refine co_tup ?_)); done) | (refine co_eq ?_; simp_all; done))) | (exfalso; simp_all; done)))))
        · obtain ⟨n, hn⟩ := Int.eq_ofNat_of_zero_le (a := i32v (b.drop 1)) (by omega)
          rw [hn] at h8 hN
          obtain ⟨body, hB⟩ : ∃ body, body = (b.take (n + 1)).drop 5 := ⟨_, rfl⟩
          have hbl : body.length = n - 4 := by rw [hB, List.length_drop, List.length_take]; omega
          have hbe : (b.take (1 + (n : Int)).toNat).drop 5 = body := by rw [hB]; congr 2; omega
          have hbe' : (b.take (1 + n)).drop 5 = body := by rw [hB]; congr 2; omega
          have hlS : laterS b = if c = 0 ∨ 127 < c then (zF, 0, 230) else if (bodyS c body).2 ≠ 0 then (zF, 0, (bodyS c body).2) else ((bodyS c body).1, 1 + (n : Int), 0) := by
            unfold laterS
            rw [hg, hn, hbe, if_neg (by omega), if_neg (c := b.length < 5) (by omega), if_neg (c := (n : Int) < 4) (by omega), if_neg (c := (1048576 : Int) < n) (by omega), if_neg (c := (b.length : Int) - 1 < n) (by omega)]
          have hE := pEnd body 0
          have hend : endS body 0 = match cut0 body with | none => -1 | some (a, _) => (a.length : Int) := by unfold endS; rw [List.drop_zero]; cases cut0 body with | none => rfl | some p => simp
          rw [hlS]
          cases h0 : cut0 body with
          | none =>
            rw [h0] at hend
            simp only at hend
            have hbS : bodyS c body = if c = 81 then (zF, 230) else if c = 88 then (if body = [] then ({ zF with kind := 5 }, 0) else (zF, 230)) else ({ zF with kind := 6, tag := c }, 0) := by unfold bodyS; rw [h0]
            have hbn : body = [] ↔ body.length = 0 := by simp
            repeat' (first
              | (with_reducible (first
                | refine PW.seq fun K1 hK1 => ?_
                | refine PW.region fun K2 hK2 => ?_
                | (refine hK3 _ ?_; clear hK3)
                | (refine opsP_nil ?_; refine hK2 _ ?_; clear hK2)
                | refine litX_old ?_
                | refine litC_data ?_
                | (refine Exists.intro _ (Exists.intro _ (And.intro rfl (And.intro rfl (And.intro ?_ ?_)))); focus omega)
                | (refine hK1 _ ?_; clear hK1)
                | refine nilC_intro (fun hz => ?_) ?_
                | refine PW.block ?_
                | refine PW.skip ?_
                | refine PW.exit ?_
                | refine PW.ret ?_
                | (refine hX1 ?_; clear hX1 hY1; try simp only [hb])
                | (refine hY1 ?_; clear hX1 hY1; try simp only [hb])
                | exact co_refl _
                | exact co_own _ _ _
                | exact co_nilsB
                | exact co_nilsL _ _))
              | ((first | (with_reducible refine wantB_intro (fun hb => ?_) (fun hb => ?_)) | (with_reducible refine condB_intro (fun hb => ?_) (fun hb => ?_))) <;> ((try (have hp := hb; simp only [Bool.or_eq_true, Bool.or_eq_false_iff, Bool.not_eq_eq_eq_not, Bool.not_true, Bool.not_false, decide_eq_true_eq, decide_eq_false_iff_not, Int.not_lt] at hp)); try simp only [hb, Bool.not_true, Bool.not_false]))
              | ((with_reducible refine callP_pure ?_ ?_ (hN) (fun _ => ?_)); (focus (repeat' (first | exact cos_refl _ | (refine cos_cons ?_ ?_) | exact co_refl _ | exact co_own _ _ _ | exact co_nilsB | exact co_nilsL _ _ | exact co_nils _ | (refine co_agg ?_) | (refine co_fn ?_)))); (focus (simp only [purAs, purA, Bool.and_self])))
              | ((with_reducible refine callP_pure ?_ ?_ (hE) (fun _ => ?_)); (focus (repeat' (first | exact cos_refl _ | (refine cos_cons ?_ ?_) | exact co_refl _ | exact co_own _ _ _ | exact co_nilsB | exact co_nilsL _ _ | exact co_nils _ | (refine co_agg ?_) | (refine co_fn ?_)))); (focus (simp only [purAs, purA, Bool.and_self, Bool.and_true, hx, hq', hend, hbe, hbe'])))
              | ((with_reducible refine And.intro ?_ ?_); (focus (first | omega | (simp; done) | assumption)))
              | (simp only [thenP, blockP]; (try ((repeat (fail_if_success (with_reducible refine hK1 _ ?_)); clear hK1); (with_reducible refine hK1 _ ?_); clear hK1)))
              | (with_reducible omega)
              | (assumption)
              | ((first | ((with_reducible refine opsP_consMt (d := ?_) (dj := ?_) (b := ?_) (r := ?_) ?_ ?_ (fun hb => ?_) (fun K3 hK3 => ?_)); rotate_left 3; (focus exact rfl); (focus (simp only [St.put, upd_app, iniT_app, Nat.reduceEqDiff, ↓reduceIte, mrg_t, mrg_f]; exact rfl))) | ((with_reducible refine opsP_consMf (d := ?_) (dj := ?_) (b := ?_) (r := ?_) ?_ ?_ (fun hb => ?_) (fun K3 hK3 => ?_)); rotate_left 3; (focus exact rfl); (focus (simp only [upd_app, Nat.reduceEqDiff, ↓reduceIte]; exact rfl))) | ((with_reducible refine opsP_consNt (d := ?_) (dj := ?_) (b := ?_) (r := ?_) (c := ?_) ?_ ?_ (fun hb => ?_) (fun K3 hK3 => ?_)); rotate_left 4; (focus exact rfl); (focus (simp only [St.put, upd_app, iniT_app, Nat.reduceEqDiff, ↓reduceIte, mrg_t, mrg_f]; exact rfl))) | ((with_reducible refine opsP_consNf (d := ?_) (dj := ?_) (b := ?_) (r := ?_) (c := ?_) ?_ ?_ (fun hb => ?_) (fun K3 hK3 => ?_)); rotate_left 4; (focus exact rfl); (focus (simp only [St.put, upd_app, iniT_app, Nat.reduceEqDiff, ↓reduceIte, mrg_t, mrg_f]; exact rfl)))); (focus (simp only [opP, valP, List.map_cons, List.map_nil]; (try (simp only [Bool.not_eq_true'] at hb)); (try (have hp := hb; simp only [decide_eq_false_iff_not] at hp)); simp (disch := omega) only [St.eval, upd_app, iniT_app, avOf, avOf1, wf_i64, wf_u8, loadA, lenP, binP, intsP, intP, nilP, builtinP, wi_i64, isMapA, slA, encB_len, encB_get, List.getD_cons_zero, List.map_cons, List.map_nil, List.append_nil, Option.map_some, Int.toNat_zero, Nat.reduceEqDiff, Int.reduceLE, Int.reduceNeg, decide_true, Bool.and_true, Bool.not_false, ↓reduceIte, Bool.false_eq_true, reduceCtorEq, true_and, and_true, and_false, or_false, Int.le_refl, sz5, el22, Tryd.underlying22, hx, hend, mrg_t, hb, Bool.not_false, Bool.and_true]; (repeat' (first | (exact rfl) | ((refine And.intro ?_ ?_); (focus (exact rfl)); (exact rfl)) | (refine And.intro (by first | omega | (simp; done) | assumption) ?_) | ((with_reducible refine callP_pure ?_ ?_ (hN) (fun _ => ?_)); (focus (repeat' (first | exact cos_refl _ | (refine cos_cons ?_ ?_) | exact co_refl _ | exact co_own _ _ _ | exact co_nilsB | exact co_nilsL _ _ | exact co_nils _ | (refine co_agg ?_) | (refine co_fn ?_)))); (focus (simp only [purAs, purA, Bool.and_self, Bool.and_true, hx, hq', hend, hbe, hbe']))) | ((with_reducible refine callP_pure ?_ ?_ (hE) (fun _ => ?_)); (focus (repeat' (first | exact cos_refl _ | (refine cos_cons ?_ ?_) | exact co_refl _ | exact co_own _ _ _ | exact co_nilsB | exact co_nilsL _ _ | exact co_nils _ | (refine co_agg ?_) | (refine co_fn ?_)))); (focus (simp only [purAs, purA, Bool.and_self]))))); done)); (try simp only [St.put, Nat.reduceLT, ↓reduceIte]))
              | ((first | ((with_reducible refine opsP_cons fun K3 hK3 => ?_); simp only [wantP, opP, valP, List.map_cons, List.map_nil]) | (with_reducible refine PW.condM fun X1 Y1 hX1 hY1 => ?_) | skip); simp (disch := omega) only [St.eval, St.put, upd_app, iniT_app, avOf, avOf1, wf_i64, wf_u8, nom, cellsA, AV.okv, loadA, lenP, binP, intsP, intP, nilP, sliceP, boundLo, boundHi, builtinP, wi_i64, isMapA, slA, putCells, fillA, buildA, encB_len, encB_get, encB_take, encB_drop, List.getD_cons_zero, List.getD_cons_succ, List.getElem?_cons_zero, List.getElem?_cons_succ, List.set_cons_zero, List.set_cons_succ, List.length_cons, List.length_nil, List.drop_zero, List.take_succ_cons, List.take_nil, List.take_length, List.map_cons, List.map_nil, List.nil_append, List.append_nil, Option.map_some, Option.map_none, Int.toNat_natCast, Int.toNat_zero, Nat.reduceLT, Nat.reduceAdd, Nat.reduceEqDiff, Nat.zero_add, Nat.lt_irrefl, Nat.lt_add_one, gt_iff_lt, Int.reduceLE, Int.reduceNeg, Int.reduceToNat, decide_true, decide_false, Bool.and_true, ↓reduceIte, Bool.false_eq_true, reduceCtorEq, true_and, and_false, or_false, ne_eq, not_true_eq_false, not_false_eq_true, Nat.le_refl, Int.le_refl, sz5, el22, Tryd.underlying22, sz26, ze26, pl26, hx, hq', hend, hbe, pick_or, retQ, resP, tupA, fg, fgs, condP, condB_f]; try (with_reducible (first | exact co_refl _ | exact co_own _ _ _ | exact co_nilsB | exact co_nilsL _ _))))
            all_goals (try (focus ((try simp only [hbS, hbn, zF]); (repeat' split) <;> (first | (exfalso; omega) | ((try ((with_reducible refine And.intro ?_ ?_); rotate_left 1; (focus (first | exact subM_row1 | exact subM_nom _ | (refine subM_box1 ?_; simp only [fgs, fg]; (repeat' (first | exact cos_refl _ | refine cos_cons ?_ ?_ | exact co_refl _ | exact co_nilsB | exact co_own _ _ _ | exact co_nilsL _ _ | exact co_nils _ | refine co_agg ?_ | refine co_tup ?_)); done))))); (first | ((repeat' (first | exact cos_refl _ | refine cos_cons ?_ ?_ | exact co_refl _ | exact co_nilsB | exact co_own _ _ _ | exact co_nilsL _ _ | exact co_nils _ | refine co_agg ?_ | refine co_tup ?_)); done) | (refine co_eq ?_; simp_all; done))) | (exfalso; simp_all; done)))))
          | some p =>
            obtain ⟨a, q⟩ := p
            rw [h0] at hend
            simp only at hend
            have l0 := cut0_len h0
            have hbS : bodyS c body = if c = 81 then (if q.length = 0 then ({ zF with kind := 4, text := a }, 0) else (zF, 230)) else if c = 88 then (zF, 230) else ({ zF with kind := 6, tag := c }, 0) := by
              have : body ≠ [] := by rintro rfl; cases h0
              unfold bodyS; rw [h0]; cases q <;> simp [this]
            have hbn : body.length ≠ 0 := by omega
            have hta : q.length = 0 → body.take (body.length - 1) = a := fun h => by
              have := (cut0_spec h0).1
              rw [this]
              have : q = [] := List.eq_nil_of_length_eq_zero h
              subst this
              simp
            by_cases hq0 : q.length = 0
            · have hta2 : body.take ((body.length : Int) - 1).toNat = a := by rw [← hta hq0]; congr 1; omega
              repeat' (first
                | (with_reducible (first
                  | refine PW.seq fun K1 hK1 => ?_
                  | refine PW.region fun K2 hK2 => ?_
                  | (refine hK3 _ ?_; clear hK3)
                  | (refine opsP_nil ?_; refine hK2 _ ?_; clear hK2)
                  | refine litX_old ?_
                  | refine litC_data ?_
                  | (refine Exists.intro _ (Exists.intro _ (And.intro rfl (And.intro rfl (And.intro ?_ ?_)))); focus omega)
                  | (refine hK1 _ ?_; clear hK1)
                  | refine nilC_intro (fun hz => ?_) ?_
                  | refine PW.block ?_
                  | refine PW.skip ?_
                  | refine PW.exit ?_
                  | refine PW.ret ?_
                  | (refine hX1 ?_; clear hX1 hY1; try simp only [hb])
                  | (refine hY1 ?_; clear hX1 hY1; try simp only [hb])
                  | exact co_refl _
                  | exact co_own _ _ _
                  | exact co_nilsB
                  | exact co_nilsL _ _))
                | ((first | (with_reducible refine wantB_intro (fun hb => ?_) (fun hb => ?_)) | (with_reducible refine condB_intro (fun hb => ?_) (fun hb => ?_))) <;> ((try (have hp := hb; simp only [Bool.or_eq_true, Bool.or_eq_false_iff, Bool.not_eq_eq_eq_not, Bool.not_true, Bool.not_false, decide_eq_true_eq, decide_eq_false_iff_not, Int.not_lt] at hp)); try simp only [hb, Bool.not_true, Bool.not_false]))
                | ((with_reducible refine callP_pure ?_ ?_ (hN) (fun _ => ?_)); (focus (repeat' (first | exact cos_refl _ | (refine cos_cons ?_ ?_) | exact co_refl _ | exact co_own _ _ _ | exact co_nilsB | exact co_nilsL _ _ | exact co_nils _ | (refine co_agg ?_) | (refine co_fn ?_)))); (focus (simp only [purAs, purA, Bool.and_self])))
                | ((with_reducible refine callP_pure ?_ ?_ (hE) (fun _ => ?_)); (focus (repeat' (first | exact cos_refl _ | (refine cos_cons ?_ ?_) | exact co_refl _ | exact co_own _ _ _ | exact co_nilsB | exact co_nilsL _ _ | exact co_nils _ | (refine co_agg ?_) | (refine co_fn ?_)))); (focus (simp only [purAs, purA, Bool.and_self, Bool.and_true, hx, hq', hend, hbe, hbe'])))
                | ((with_reducible refine And.intro ?_ ?_); (focus (first | omega | (simp; done) | assumption)))
                | (simp only [thenP, blockP]; (try ((repeat (fail_if_success (with_reducible refine hK1 _ ?_)); clear hK1); (with_reducible refine hK1 _ ?_); clear hK1)))
                | (with_reducible omega)
                | (assumption)
                | ((first | ((with_reducible refine opsP_consMt (d := ?_) (dj := ?_) (b := ?_) (r := ?_) ?_ ?_ (fun hb => ?_) (fun K3 hK3 => ?_)); rotate_left 3; (focus exact rfl); (focus (simp only [St.put, upd_app, iniT_app, Nat.reduceEqDiff, ↓reduceIte, mrg_t, mrg_f]; exact rfl))) | ((with_reducible refine opsP_consMf (d := ?_) (dj := ?_) (b := ?_) (r := ?_) ?_ ?_ (fun hb => ?_) (fun K3 hK3 => ?_)); rotate_left 3; (focus exact rfl); (focus (simp only [upd_app, Nat.reduceEqDiff, ↓reduceIte]; exact rfl))) | ((with_reducible refine opsP_consNt (d := ?_) (dj := ?_) (b := ?_) (r := ?_) (c := ?_) ?_ ?_ (fun hb => ?_) (fun K3 hK3 => ?_)); rotate_left 4; (focus exact rfl); (focus (simp only [St.put, upd_app, iniT_app, Nat.reduceEqDiff, ↓reduceIte, mrg_t, mrg_f]; exact rfl))) | ((with_reducible refine opsP_consNf (d := ?_) (dj := ?_) (b := ?_) (r := ?_) (c := ?_) ?_ ?_ (fun hb => ?_) (fun K3 hK3 => ?_)); rotate_left 4; (focus exact rfl); (focus (simp only [St.put, upd_app, iniT_app, Nat.reduceEqDiff, ↓reduceIte, mrg_t, mrg_f]; exact rfl)))); (focus (simp only [opP, valP, List.map_cons, List.map_nil]; (try (simp only [Bool.not_eq_true'] at hb)); (try (have hp := hb; simp only [decide_eq_false_iff_not] at hp)); simp (disch := omega) only [St.eval, upd_app, iniT_app, avOf, avOf1, wf_i64, wf_u8, loadA, lenP, binP, intsP, intP, nilP, builtinP, wi_i64, isMapA, slA, encB_len, encB_get, List.getD_cons_zero, List.map_cons, List.map_nil, List.append_nil, Option.map_some, Int.toNat_zero, Nat.reduceEqDiff, Int.reduceLE, Int.reduceNeg, decide_true, Bool.and_true, Bool.not_false, ↓reduceIte, Bool.false_eq_true, reduceCtorEq, true_and, and_true, and_false, or_false, Int.le_refl, sz5, el22, Tryd.underlying22, hx, hend, mrg_t, hb, Bool.not_false, Bool.and_true]; (repeat' (first | (exact rfl) | ((refine And.intro ?_ ?_); (focus (exact rfl)); (exact rfl)) | (refine And.intro (by first | omega | (simp; done) | assumption) ?_) | ((with_reducible refine callP_pure ?_ ?_ (hN) (fun _ => ?_)); (focus (repeat' (first | exact cos_refl _ | (refine cos_cons ?_ ?_) | exact co_refl _ | exact co_own _ _ _ | exact co_nilsB | exact co_nilsL _ _ | exact co_nils _ | (refine co_agg ?_) | (refine co_fn ?_)))); (focus (simp only [purAs, purA, Bool.and_self, Bool.and_true, hx, hq', hend, hbe, hbe']))) | ((with_reducible refine callP_pure ?_ ?_ (hE) (fun _ => ?_)); (focus (repeat' (first | exact cos_refl _ | (refine cos_cons ?_ ?_) | exact co_refl _ | exact co_own _ _ _ | exact co_nilsB | exact co_nilsL _ _ | exact co_nils _ | (refine co_agg ?_) | (refine co_fn ?_)))); (focus (simp only [purAs, purA, Bool.and_self]))))); done)); (try simp only [St.put, Nat.reduceLT, ↓reduceIte]))
                | ((first | ((with_reducible refine opsP_cons fun K3 hK3 => ?_); simp only [wantP, opP, valP, List.map_cons, List.map_nil]) | (with_reducible refine PW.condM fun X1 Y1 hX1 hY1 => ?_) | skip); simp (disch := omega) only [St.eval, St.put, upd_app, iniT_app, avOf, avOf1, wf_i64, wf_u8, nom, cellsA, AV.okv, loadA, lenP, binP, intsP, intP, nilP, convP, sliceP, boundLo, boundHi, builtinP, wi_i64, isMapA, slA, putCells, fillA, buildA, encB_len, encB_get, encB_take, encB_drop, bytesD_enc, bytesD_some, List.getD_cons_zero, List.getD_cons_succ, List.getElem?_cons_zero, List.getElem?_cons_succ, List.set_cons_zero, List.set_cons_succ, List.length_cons, List.length_nil, List.drop_zero, List.take_succ_cons, List.take_nil, List.take_length, List.map_cons, List.map_nil, List.nil_append, List.append_nil, Option.map_some, Option.map_none, Int.toNat_natCast, Int.toNat_zero, Nat.reduceLT, Nat.reduceAdd, Nat.reduceEqDiff, Nat.zero_add, Nat.lt_irrefl, Nat.lt_add_one, gt_iff_lt, Int.reduceLE, Int.reduceNeg, Int.reduceToNat, decide_true, decide_false, Bool.and_true, ↓reduceIte, Bool.false_eq_true, reduceCtorEq, true_and, and_false, or_false, ne_eq, not_true_eq_false, not_false_eq_true, Nat.le_refl, Int.le_refl, sz5, Tryd.underlying5, Tryd.underlying9, el22, Tryd.underlying22, sz26, ze26, pl26, hx, hq', hend, hbe, pick_or, retQ, resP, tupA, fg, fgs, condP, condB_f]; try (with_reducible (first | exact co_refl _ | exact co_own _ _ _ | exact co_nilsB | exact co_nilsL _ _))))
              clear hta hE
              all_goals (try (focus ((try simp only [hbS, hta2, hq0, zF]); (repeat' split) <;> (first | (exfalso; omega) | ((try ((with_reducible refine And.intro ?_ ?_); rotate_left 1; (focus (first | exact subM_row1 | exact subM_nom _ | (refine subM_box1 ?_; simp only [fgs, fg]; (repeat' (first | exact cos_refl _ | refine cos_cons ?_ ?_ | exact co_refl _ | exact co_nilsB | exact co_own _ _ _ | exact co_nilsL _ _ | exact co_nils _ | refine co_agg ?_ | refine co_tup ?_)); done))))); (first | ((repeat' (first | exact cos_refl _ | refine cos_cons ?_ ?_ | exact co_refl _ | exact co_nilsB | exact co_own _ _ _ | exact co_nilsL _ _ | exact co_nils _ | refine co_agg ?_ | refine co_tup ?_)); done) | (refine co_eq ?_; simp_all; done))) | (exfalso; simp_all; done)))))
            · skip
              repeat' (first
                | (with_reducible (first
                  | refine PW.seq fun K1 hK1 => ?_
                  | refine PW.region fun K2 hK2 => ?_
                  | (refine hK3 _ ?_; clear hK3)
                  | (refine opsP_nil ?_; refine hK2 _ ?_; clear hK2)
                  | refine litX_old ?_
                  | refine litC_data ?_
                  | (refine Exists.intro _ (Exists.intro _ (And.intro rfl (And.intro rfl (And.intro ?_ ?_)))); focus omega)
                  | (refine hK1 _ ?_; clear hK1)
                  | refine nilC_intro (fun hz => ?_) ?_
                  | refine PW.block ?_
                  | refine PW.skip ?_
                  | refine PW.exit ?_
                  | refine PW.ret ?_
                  | (refine hX1 ?_; clear hX1 hY1; try simp only [hb])
                  | (refine hY1 ?_; clear hX1 hY1; try simp only [hb])
                  | exact co_refl _
                  | exact co_own _ _ _
                  | exact co_nilsB
                  | exact co_nilsL _ _))
                | ((first | (with_reducible refine wantB_intro (fun hb => ?_) (fun hb => ?_)) | (with_reducible refine condB_intro (fun hb => ?_) (fun hb => ?_))) <;> ((try (have hp := hb; simp only [Bool.or_eq_true, Bool.or_eq_false_iff, Bool.not_eq_eq_eq_not, Bool.not_true, Bool.not_false, decide_eq_true_eq, decide_eq_false_iff_not, Int.not_lt] at hp)); try simp only [hb, Bool.not_true, Bool.not_false]))
                | ((with_reducible refine callP_pure ?_ ?_ (hN) (fun _ => ?_)); (focus (repeat' (first | exact cos_refl _ | (refine cos_cons ?_ ?_) | exact co_refl _ | exact co_own _ _ _ | exact co_nilsB | exact co_nilsL _ _ | exact co_nils _ | (refine co_agg ?_) | (refine co_fn ?_)))); (focus (simp only [purAs, purA, Bool.and_self])))
                | ((with_reducible refine callP_pure ?_ ?_ (hE) (fun _ => ?_)); (focus (repeat' (first | exact cos_refl _ | (refine cos_cons ?_ ?_) | exact co_refl _ | exact co_own _ _ _ | exact co_nilsB | exact co_nilsL _ _ | exact co_nils _ | (refine co_agg ?_) | (refine co_fn ?_)))); (focus (simp only [purAs, purA, Bool.and_self, Bool.and_true, hx, hq', hend, hbe, hbe'])))
                | ((with_reducible refine And.intro ?_ ?_); (focus (first | omega | (simp; done) | assumption)))
                | (simp only [thenP, blockP]; (try ((repeat (fail_if_success (with_reducible refine hK1 _ ?_)); clear hK1); (with_reducible refine hK1 _ ?_); clear hK1)))
                | (with_reducible omega)
                | (assumption)
                | ((first | ((with_reducible refine opsP_consMt (d := ?_) (dj := ?_) (b := ?_) (r := ?_) ?_ ?_ (fun hb => ?_) (fun K3 hK3 => ?_)); rotate_left 3; (focus exact rfl); (focus (simp only [St.put, upd_app, iniT_app, Nat.reduceEqDiff, ↓reduceIte, mrg_t, mrg_f]; exact rfl))) | ((with_reducible refine opsP_consMf (d := ?_) (dj := ?_) (b := ?_) (r := ?_) ?_ ?_ (fun hb => ?_) (fun K3 hK3 => ?_)); rotate_left 3; (focus exact rfl); (focus (simp only [upd_app, Nat.reduceEqDiff, ↓reduceIte]; exact rfl))) | ((with_reducible refine opsP_consNt (d := ?_) (dj := ?_) (b := ?_) (r := ?_) (c := ?_) ?_ ?_ (fun hb => ?_) (fun K3 hK3 => ?_)); rotate_left 4; (focus exact rfl); (focus (simp only [St.put, upd_app, iniT_app, Nat.reduceEqDiff, ↓reduceIte, mrg_t, mrg_f]; exact rfl))) | ((with_reducible refine opsP_consNf (d := ?_) (dj := ?_) (b := ?_) (r := ?_) (c := ?_) ?_ ?_ (fun hb => ?_) (fun K3 hK3 => ?_)); rotate_left 4; (focus exact rfl); (focus (simp only [St.put, upd_app, iniT_app, Nat.reduceEqDiff, ↓reduceIte, mrg_t, mrg_f]; exact rfl)))); (focus (simp only [opP, valP, List.map_cons, List.map_nil]; (try (simp only [Bool.not_eq_true'] at hb)); (try (have hp := hb; simp only [decide_eq_false_iff_not] at hp)); simp (disch := omega) only [St.eval, upd_app, iniT_app, avOf, avOf1, wf_i64, wf_u8, loadA, lenP, binP, intsP, intP, nilP, builtinP, wi_i64, isMapA, slA, encB_len, encB_get, List.getD_cons_zero, List.map_cons, List.map_nil, List.append_nil, Option.map_some, Int.toNat_zero, Nat.reduceEqDiff, Int.reduceLE, Int.reduceNeg, decide_true, Bool.and_true, Bool.not_false, ↓reduceIte, Bool.false_eq_true, reduceCtorEq, true_and, and_true, and_false, or_false, Int.le_refl, sz5, el22, Tryd.underlying22, hx, hend, mrg_t, hb, Bool.not_false, Bool.and_true]; (repeat' (first | (exact rfl) | ((refine And.intro ?_ ?_); (focus (exact rfl)); (exact rfl)) | (refine And.intro (by first | omega | (simp; done) | assumption) ?_) | ((with_reducible refine callP_pure ?_ ?_ (hN) (fun _ => ?_)); (focus (repeat' (first | exact cos_refl _ | (refine cos_cons ?_ ?_) | exact co_refl _ | exact co_own _ _ _ | exact co_nilsB | exact co_nilsL _ _ | exact co_nils _ | (refine co_agg ?_) | (refine co_fn ?_)))); (focus (simp only [purAs, purA, Bool.and_self, Bool.and_true, hx, hq', hend, hbe, hbe']))) | ((with_reducible refine callP_pure ?_ ?_ (hE) (fun _ => ?_)); (focus (repeat' (first | exact cos_refl _ | (refine cos_cons ?_ ?_) | exact co_refl _ | exact co_own _ _ _ | exact co_nilsB | exact co_nilsL _ _ | exact co_nils _ | (refine co_agg ?_) | (refine co_fn ?_)))); (focus (simp only [purAs, purA, Bool.and_self]))))); done)); (try simp only [St.put, Nat.reduceLT, ↓reduceIte]))
                | ((first | ((with_reducible refine opsP_cons fun K3 hK3 => ?_); simp only [wantP, opP, valP, List.map_cons, List.map_nil]) | (with_reducible refine PW.condM fun X1 Y1 hX1 hY1 => ?_) | skip); simp (disch := omega) only [St.eval, St.put, upd_app, iniT_app, avOf, avOf1, wf_i64, wf_u8, nom, cellsA, AV.okv, loadA, lenP, binP, intsP, intP, nilP, sliceP, boundLo, boundHi, builtinP, wi_i64, isMapA, slA, putCells, fillA, buildA, encB_len, encB_get, encB_take, encB_drop, List.getD_cons_zero, List.getD_cons_succ, List.getElem?_cons_zero, List.getElem?_cons_succ, List.set_cons_zero, List.set_cons_succ, List.length_cons, List.length_nil, List.drop_zero, List.take_succ_cons, List.take_nil, List.take_length, List.map_cons, List.map_nil, List.nil_append, List.append_nil, Option.map_some, Option.map_none, Int.toNat_natCast, Int.toNat_zero, Nat.reduceLT, Nat.reduceAdd, Nat.reduceEqDiff, Nat.zero_add, Nat.lt_irrefl, Nat.lt_add_one, gt_iff_lt, Int.reduceLE, Int.reduceNeg, Int.reduceToNat, decide_true, decide_false, Bool.and_true, ↓reduceIte, Bool.false_eq_true, reduceCtorEq, true_and, and_false, or_false, ne_eq, not_true_eq_false, not_false_eq_true, Nat.le_refl, Int.le_refl, sz5, el22, Tryd.underlying22, sz26, ze26, pl26, hx, hq', hend, hbe, pick_or, retQ, resP, tupA, fg, fgs, condP, condB_f]; try (with_reducible (first | exact co_refl _ | exact co_own _ _ _ | exact co_nilsB | exact co_nilsL _ _))))
              all_goals (try (focus ((try simp only [hbS, hq0, zF]); (repeat' split) <;> (first | (exfalso; omega) | ((try ((with_reducible refine And.intro ?_ ?_); rotate_left 1; (focus (first | exact subM_row1 | exact subM_nom _ | (refine subM_box1 ?_; simp only [fgs, fg]; (repeat' (first | exact cos_refl _ | refine cos_cons ?_ ?_ | exact co_refl _ | exact co_nilsB | exact co_own _ _ _ | exact co_nilsL _ _ | exact co_nils _ | refine co_agg ?_ | refine co_tup ?_)); done))))); (first | ((repeat' (first | exact cos_refl _ | refine cos_cons ?_ ?_ | exact co_refl _ | exact co_nilsB | exact co_own _ _ _ | exact co_nilsL _ _ | exact co_nils _ | refine co_agg ?_ | refine co_tup ?_)); done) | (refine co_eq ?_; simp_all; done))) | (exfalso; simp_all; done)))))
set_option maxRecDepth 100000 in
set_option maxHeartbeats 4000000 in
theorem pOpeningShort (b : List Int) (hb : b.length < 4) : Pure Tryd.prog 32 [bs b] (.tup [zF.v, .d (.int .i64 232)]) := by
  refine pure_intro Tryd.func32 rfl rfl rfl 74 rfl (fun hh => ?_)
  have en : pgNum b false = (0, b, true) := if_pos hb
  repeat' (first
    | (with_reducible (first
      | refine PW.seq fun K1 hK1 => ?_
      | refine PW.region fun K2 hK2 => ?_
      | (refine hK3 _ ?_; clear hK3)
      | (refine opsP_nil ?_; refine hK2 _ ?_; clear hK2)
      | refine litX_old ?_
      | refine litC_data ?_
      | (refine Exists.intro _ (Exists.intro _ (And.intro rfl (And.intro rfl (And.intro ?_ ?_)))); focus omega)
      | (refine hK1 _ ?_; clear hK1)
      | refine nilC_intro (fun hz => ?_) ?_
      | refine PW.block ?_
      | refine PW.skip ?_
      | refine PW.exit ?_
      | refine PW.ret ?_
      | (refine hX1 ?_; clear hX1 hY1; try simp only [hb])
      | (refine hY1 ?_; clear hX1 hY1; try simp only [hb])
      | exact co_refl _
      | exact co_own _ _ _
      | exact co_nilsB
      | exact co_nilsL _ _))
    | ((first | (with_reducible refine wantB_intro (fun hb => ?_) (fun hb => ?_)) | (with_reducible refine condB_intro (fun hb => ?_) (fun hb => ?_))) <;> ((try (have hp := hb; simp only [decide_eq_true_eq, decide_eq_false_iff_not] at hp)); try simp only [hb, Bool.not_true, Bool.not_false]))
    | ((with_reducible refine callP_recv (cs := ?_) ?_ ?_ ?_ ?_ (pPgNum ?_ ?_) (fun _ => ?_)); rotate_left 1; (focus (first | exact rfl | (simp only [List.getElem?_cons_zero, List.getElem?_cons_succ]; rfl))); (focus (repeat' (first | exact cos_refl _ | (refine cos_cons ?_ ?_) | exact co_refl _ | exact co_own _ _ _ | exact co_nilsB | exact co_nilsL _ _ | exact co_nils _ | (refine co_agg ?_) | (refine co_fn ?_)))); (focus (repeat' (first | exact cos_refl _ | (refine cos_cons ?_ ?_) | exact co_refl _ | exact co_own _ _ _ | exact co_nilsB | exact co_nilsL _ _ | exact co_nils _ | (refine co_agg ?_) | (refine co_fn ?_)))); (focus (simp only [purAs, purA, Bool.and_self])))
    | ((with_reducible refine And.intro ?_ ?_); (focus (first | omega | (simp; done) | assumption)))
    | (simp only [thenP, blockP]; (try ((repeat (fail_if_success (with_reducible refine hK1 _ ?_)); clear hK1); (with_reducible refine hK1 _ ?_); clear hK1)))
    | (with_reducible omega)
    | (assumption)
    | ((first | ((with_reducible refine opsP_consMt (d := ?_) (dj := ?_) (b := ?_) (r := ?_) ?_ ?_ (fun hb => ?_) (fun K3 hK3 => ?_)); rotate_left 3; (focus exact rfl); (focus (simp only [St.put, upd_app, iniT_app, Nat.reduceEqDiff, ↓reduceIte, mrg_t, mrg_f]; exact rfl))) | ((with_reducible refine opsP_consMf (d := ?_) (dj := ?_) (b := ?_) (r := ?_) ?_ ?_ (fun hb => ?_) (fun K3 hK3 => ?_)); rotate_left 3; (focus exact rfl); (focus (simp only [St.put, upd_app, iniT_app, Nat.reduceEqDiff, ↓reduceIte, mrg_t, mrg_f]; exact rfl))) | ((with_reducible refine opsP_consNt (d := ?_) (dj := ?_) (b := ?_) (r := ?_) (c := ?_) ?_ ?_ (fun hb => ?_) (fun K3 hK3 => ?_)); rotate_left 4; (focus exact rfl); (focus (simp only [St.put, upd_app, iniT_app, Nat.reduceEqDiff, ↓reduceIte, mrg_t, mrg_f]; exact rfl))) | ((with_reducible refine opsP_consNf (d := ?_) (dj := ?_) (b := ?_) (r := ?_) (c := ?_) ?_ ?_ (fun hb => ?_) (fun K3 hK3 => ?_)); rotate_left 4; (focus exact rfl); (focus (simp only [St.put, upd_app, iniT_app, Nat.reduceEqDiff, ↓reduceIte, mrg_t, mrg_f]; exact rfl)))); (focus (simp only [opP, valP, List.toList_toArray, Array.toList_empty, List.map_cons, List.map_nil, List.mapM_cons, List.mapM_nil, List.all_cons, List.all_nil]; (try (simp only [Bool.and_eq_true, Bool.not_eq_true'] at hb)); (try (have hp := hb; simp only [Bool.and_eq_true, Bool.or_eq_true, Bool.not_eq_true', Bool.not_eq_false', Bool.and_eq_false_iff, Bool.or_eq_false_iff, Bool.not_eq_eq_eq_not, Bool.not_true, Bool.not_false, decide_eq_true_eq, decide_eq_false_iff_not, Int.not_lt, Int.not_le, beq_iff_eq, beq_eq_false_iff_ne, ne_eq] at hp)); simp (disch := omega) only [wantP, wantB_tt, wantB_ff, wantB_tf, wantB_ft, opP, valP, St.eval, St.put, upd_app, iniT_app, avOf, avOf1, wf_i64, wf_u64, wf_u8, wf_i32, wf_u32, nom, cellsA, AV.okv, loadA, lenP, binP, intsP, intP, strP, eqP, nilP, convP, unP, builtinP, appP, srcA, srcTy, bsz, Array.toList_empty, List.size_toArray, UInt8.reduceToNat, wi_i64, wi_u64, wi_i32, wi_u32, wi_u8, wi_i8, dvEqC, eqAll, srcAll, srcOk, appB, cellsV, maplenP, isMapA, isBsl, viewA, Nat.min_self, Option.isSome_some, List.flatten_cons, List.flatten_nil, List.replicate_zero, slA, putCells, fillA, buildA, elA, dv1, encB_len, encB_get, encB_append, encB_take, encB_drop, encB_snoc, encL_len, encL_get, encL_append, encL_take, encL_drop, bytesD_enc, bytesD_some, List.getD_cons_zero, List.getD_cons_succ, List.getD_nil, List.getElem?_cons_zero, List.getElem?_cons_succ, List.getElem?_nil, List.set_cons_zero, List.set_cons_succ, List.set_nil, List.length_cons, List.length_nil, List.length_map, List.length_append, List.length_set, List.drop_zero, List.drop_succ_cons, List.drop_nil, List.take_succ_cons, List.take_zero, List.take_nil, List.take_length, List.map_cons, List.map_nil, List.nil_append, List.cons_append, List.append_nil, List.mapM_cons, List.mapM_nil, List.all_cons, List.all_nil, List.toList_toArray, List.getElem?_toArray, List.range_succ, List.range_zero, Option.map_some, Option.map_none, Option.bind_some, Option.bind_none, Option.bind_eq_bind, Option.pure_def, Option.isSome_some, Option.isSome_none, Int.toNat_natCast, Int.toNat_zero, Nat.reduceLT, Nat.reduceLeDiff, Nat.reduceAdd, Nat.reduceMul, Nat.reduceSub, Nat.reduceEqDiff, Nat.reduceBEq, Nat.zero_add, Nat.add_zero, Nat.zero_mul, Nat.not_lt_zero, Nat.lt_irrefl, Nat.reduceGT, Nat.lt_add_one, gt_iff_lt, Int.reduceLE, Int.reduceLT, Int.reduceNeg, Int.reduceToNat, Int.reduceAdd, Int.reduceSub, Int.reduceMul, Int.cast_ofNat_Int, decide_true, decide_false, Bool.and_true, Bool.and_false, Bool.true_and, Bool.false_and, Bool.or_true, Bool.or_false, Bool.true_or, Bool.false_or, Bool.not_true, Bool.not_false, ite_same, ↓reduceIte, Bool.false_eq_true, reduceCtorEq, true_and, and_true, false_and, and_false, or_false, false_or, ne_eq, not_true_eq_false, not_false_eq_true, or_true, true_or, if_true, if_false, Int.natCast_add, BEq.rfl, beq_self_eq_true, Nat.le_refl, Int.le_refl, sz3, ze3, by3, zv3, cl3, ps3, st3, Tryd.underlying3, sz4, ze4, by4, zv4, cl4, ps4, st4, Tryd.underlying4, sz5, ze5, by5, zv5, cl5, ps5, st5, Tryd.underlying5, sz9, ze9, by9, zv9, cl9, ps9, st9, Tryd.underlying9, sz22, ze22, by22, el22, is22, zv22, cl22, st22, Tryd.underlying22, sz24, ze24, by24, el24, is24, zv24, cl24, st24, Tryd.underlying24, sz26, ze26, by26, pl26, zv26, cl26, st26, fi26_0, fi26_1, fi26_2, fi26_3, fi26_4, fi26_5, sz64, ze64, by64, pl64, zv64, cl64, ps64, st64, fi64_0, fi64_1, sz97, ze97, by97, ip97, zv97, cl97, st97, sz99, ze99, by99, pl99, zv99, cl99, st99, fi99_0, fi99_1, en, mrg_t, mrg_f, pick_or, pick_and, pick_or', pick_and', hb, Bool.not_true, Bool.not_false, Bool.and_true, Bool.true_and]; (repeat' (first | (exact rfl) | ((refine And.intro ?_ ?_); (focus (exact rfl)); (exact rfl)) | (refine And.intro (by first | omega | (simp; done) | assumption) ?_))); done)); (try simp only [St.put, Nat.reduceLT, ↓reduceIte, mrg_t, mrg_f, Bool.true_and, Bool.and_true, Bool.not_true, Bool.not_false]))
    | ((first | ((with_reducible refine opsP_cons fun K3 hK3 => ?_); simp only [wantP, opP, valP, List.map_cons, List.map_nil]) | (with_reducible refine PW.condM fun X1 Y1 hX1 hY1 => ?_) | skip); simp (disch := omega) only [St.eval, St.put, upd_app, iniT_app, avOf, avOf1, wf_i64, nom, cellsA, AV.okv, loadA, binP, intsP, intP, nilP, slA, putCells, fillA, buildA, List.getD_cons_zero, List.getElem?_cons_zero, List.set_cons_zero, List.set_cons_succ, List.length_cons, List.length_nil, List.drop_zero, List.take_succ_cons, List.take_nil, List.nil_append, List.cons_append, List.append_nil, Nat.reduceLT, Nat.reduceAdd, Nat.reduceEqDiff, Nat.zero_add, gt_iff_lt, Int.reduceLE, Int.reduceNeg, decide_true, Bool.and_true, ↓reduceIte, reduceCtorEq, true_and, and_false, or_false, ne_eq, not_true_eq_false, Nat.le_refl, sz26, ze26, pl26, ze99, pl99, en, retQ, resP, tupA, fg, fgs, condP]; try (with_reducible (first | exact co_refl _ | exact co_own _ _ _ | exact co_nilsB | exact co_nilsL _ _))))
  all_goals (try (focus ((try simp only [zF]); (repeat' split) <;> (first | (exfalso; omega) | ((try ((with_reducible refine And.intro ?_ ?_); rotate_left 1; (focus (first | exact subM_row1 | exact subM_nom _ | (refine subM_box1 ?_; simp only [fgs, fg]; (repeat' (first | exact cos_refl _ | refine cos_cons ?_ ?_ | exact co_refl _ | exact co_nilsB | exact co_own _ _ _ | exact co_nilsL _ _ | exact co_nils _ | refine co_agg ?_ | refine co_tup ?_)); done))))); (first | ((repeat' (first | exact cos_refl _ | refine cos_cons ?_ ?_ | exact co_refl _ | exact co_nilsB | exact co_own _ _ _ | exact co_nilsL _ _ | exact co_nils _ | refine co_agg ?_ | refine co_tup ?_)); done) | (refine co_eq ?_; simp_all; done))) | (exfalso; simp_all; done)))))
def openS' (b : List Int) : Front × Int := if b.length < 4 then (zF, 232) else openS b
set_option maxRecDepth 100000 in
theorem pOpening' (b : List Int) : Pure Tryd.prog 32 [bs b] (.tup [(openS' b).1.v, .d (.int .i64 (openS' b).2)]) := by
  by_cases h : b.length < 4
  · have e : openS' b = (zF, 232) := if_pos h
    rw [e]
    exact pOpeningShort b h
  · have e : openS' b = openS b := if_neg h
    rw [e]
    exact pOpening b (by omega)
end PM
end Go.Proofs.YthaekefdadccaaaDoor
