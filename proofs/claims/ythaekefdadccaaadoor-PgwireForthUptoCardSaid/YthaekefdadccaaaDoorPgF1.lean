/- pgwire in the abstract: a client's message as bytes: kind 1. -/
import Derived.Test.YthaekefdadccaaaDoorPgFB
namespace Go.Proofs.YthaekefdadccaaaDoor
open Go.RowKit
namespace PM
set_option maxRecDepth 100000 in
set_option maxHeartbeats 4000000 in
theorem pPutFront1 (f : Front) (hk : f.kind = 1) (hz : (prmB f.params).length ≤ 100000000000) : Pure Tryd.prog 18 [f.v] (.tup [bs (putFrontS f).1, .d (.int .i64 (putFrontS f).2)]) := by
  refine pure_intro Tryd.func18 rfl rfl rfl 184 rfl (fun hh => ?_)
  obtain ⟨xk, xp, xt, xi, xs, xg⟩ := f
  simp only at hk hz
  subst hk
  have hmx : maxLen = 9223372036854775807 := rfl
  have hfl : xp.length ≤ 9223372036854775807 := by
    have := (has_sl (has_agg (hh (Front.v ⟨1, xp, xt, xi, xs, xg⟩) (by simp)) (.d (.sl 2 (encL prmC xp))) (by simp [Front.c]))).1
    rw [encL_len] at this
    omega
  obtain ⟨L, hL⟩ : ∃ L, (decide ([] = xt) && decide (0 = xi) && decide (0 = xs) && decide (0 = xg)) = L := ⟨_, rfl⟩
  have hlk : (Front.only ⟨1, xp, xt, xi, xs, xg⟩).like ⟨1, xp, xt, xi, xs, xg⟩ = L := by
    rw [← hL]
    simp only [Front.only, Front.like, zF, ↓reduceIte, decide_true, Bool.and_true, Bool.and_assoc]
  have hQ : 4 = (big4 196608).length := rfl
  repeat' (first
    | (with_reducible (first
      | refine PW.seq fun K1 hK1 => ?_
      | refine PW.region fun K2 hK2 => ?_
      | (refine hK3 _ ?_; clear hK3)
      | (refine opsP_nil ?_; refine hK2 _ ?_; clear hK2)
      | refine litX_old ?_
      | refine litC_data ?_
      | (refine Exists.intro _ (Exists.intro _ (And.intro rfl (And.intro rfl (And.intro ?_ ?_)))); focus omega)
      | (refine hK1 _ ?_; clear hK1)
      | refine nilC_intro (fun hz => ?_) ?_
      | refine PW.block ?_
      | refine PW.skip ?_
      | refine PW.exit ?_
      | refine PW.ret ?_
      | (refine hX1 ?_; clear hX1 hY1; try simp only [hb])
      | (refine hY1 ?_; clear hX1 hY1; try simp only [hb])
      | exact co_refl _
      | exact co_own _ _ _
      | exact co_nilsB
      | exact co_nilsL _ _
      | (refine opsO_nil ?_; refine hK2 _ ?_; clear hK2)
      | (refine keepO_intro ?_ ?_; focus (first | exact .inl (keep_same _ _) | exact .inl (keep_box _ _ _ _) | exact .inl (keep_hd _ _ _ _ _) | exact .inl (keep_02 _ _ _ _ _ _ _) | exact .inr ⟨rfl, rfl⟩))
      | (refine keepA_intro ?_ ?_; focus (first | exact keep_same _ _ | exact keep_box _ _ _ _ | exact keep_hd _ _ _ _ _ | exact keep_02 _ _ _ _ _ _ _))))
    | ((first | (with_reducible refine wantB_intro (fun hb => ?_) (fun hb => ?_)) | (with_reducible refine condB_intro (fun hb => ?_) (fun hb => ?_))) <;> ((try (have hp := hb; simp only [Bool.and_eq_true, Bool.or_eq_true, Bool.not_eq_true', Bool.not_eq_false', Bool.and_eq_false_iff, Bool.or_eq_false_iff, Bool.not_eq_eq_eq_not, Bool.not_true, Bool.not_false, decide_eq_true_eq, decide_eq_false_iff_not, Int.not_lt, Int.not_le, beq_iff_eq, beq_eq_false_iff_ne, ne_eq] at hp)); try simp only [hb, Bool.not_true, Bool.not_false]))
    | ((with_reducible refine callP_new ?_ ?_ (pBig4 ?_) ?_); (focus (repeat' (first | exact cos_refl _ | (refine cos_cons ?_ ?_) | exact co_refl _ | exact co_own _ _ _ | exact co_nilsB | exact co_nilsL _ _ | exact co_nils _ | (refine co_agg ?_) | (refine co_fn ?_)))); (focus (simp only [purAs, purA, Bool.and_self])))
    | ((with_reducible refine PW.draw (id := 19) mixed [0] [7] [(0, true), (1, true), (2, true), (3, true), (4, true), (5, false), (6, true), (7, false)] (by kernel_rfl) (by decide) fun K2 hK2 => ?_))
    | ((with_reducible refine PW.drawR (id := 21) mixed [] [(1, true), (2, true), (4, true), (5, true), (0, false), (3, false), (6, false), (7, true)] (by kernel_rfl) (by decide) fun K2 hK2 => ?_))
    | ((with_reducible refine PW.drawR (id := 24) mixed [] [(0, true), (1, true), (4, true), (5, true), (2, true), (6, true), (3, false), (7, false), (8, true), (9, true), (10, true)] (by kernel_rfl) (by decide) fun K2 hK2 => ?_))
    | ((with_reducible refine PW.drawR (id := 29) mixed [] [(0, true), (1, true), (2, true), (3, true), (4, true), (5, true), (6, true), (7, true), (8, true), (9, true), (10, true), (11, true), (12, true), (13, true), (14, true), (15, true), (16, true), (17, true), (18, true), (19, true), (20, true), (21, true)] (by kernel_rfl) (by decide) fun K2 hK2 => ?_))
    | ((with_reducible refine And.intro ?_ ?_); (focus (first | omega | (simp; done) | assumption)))
    | (simp only [thenP]; (try ((repeat (fail_if_success (with_reducible refine hK1 _ ?_)); clear hK1); (with_reducible refine hK1 _ ?_); clear hK1)))
    | (with_reducible omega)
    | (assumption)
    | ((first | ((with_reducible (first | refine opsP_consD (d := 38) fun K3 hK3 => ?_ | refine opsP_consD (d := 39) fun K3 hK3 => ?_ | refine opsP_consD (d := 40) fun K3 hK3 => ?_ | refine opsP_consD (d := 41) fun K3 hK3 => ?_ | refine opsP_consD (d := 42) fun K3 hK3 => ?_ | refine opsP_consD (d := 43) fun K3 hK3 => ?_)); simp only [wantP, opP, valP, List.toList_toArray, Array.toList_empty, List.map_cons, List.map_nil, List.mapM_cons, List.mapM_nil, List.all_cons, List.all_nil]) | ((with_reducible refine opsP_cons fun K3 hK3 => ?_); simp only [wantP, opP, valP, List.map_cons, List.map_nil]) | ((with_reducible refine opsO_first (o := ?_) ?_ fun K3 hK3 => ?_); rotate_left 1; (focus (simp only [List.getElem?_toArray, List.getElem?_cons_succ, List.getElem?_cons_zero] <;> rfl)); simp only [wantP, firstP, valP, List.toList_toArray, Array.toList_empty, List.map_cons, List.map_nil, List.mapM_cons, List.mapM_nil, List.all_cons, List.all_nil]) | ((with_reducible refine opsO_only (o := ?_) ?_ fun K3 hK3 => ?_); rotate_left 1; (focus (simp only [List.getElem?_toArray, List.getElem?_cons_succ, List.getElem?_cons_zero] <;> rfl)); simp only [wantP, opP, valP, List.toList_toArray, Array.toList_empty, List.map_cons, List.map_nil, List.mapM_cons, List.mapM_nil, List.all_cons, List.all_nil]) | (with_reducible refine PW.condM fun X1 Y1 hX1 hY1 => ?_) | skip); simp (disch := omega) only [St.eval, St.put, upd_app, iniT_app, avOf, avOf1, wf_i64, wf_u8, nom, cellsA, AV.okv, loadA, lenP, binP, intsP, intP, nilP, builtinP, isMapA, slA, putCells, fillA, buildA, encL_len, U7, Ua, Ub, Uc, Ud, Uf, Ug, Uk, Ul, Ur, Us, Ut, Uu, Uv, Nat.reduceLT, Nat.reduceLeDiff, Nat.reduceAdd, Nat.reduceEqDiff, V9, Va, Ve, Vt, Int.reduceLE, Int.reduceNeg, Vu, Vf, ↓reduceIte, Vp, reduceCtorEq, Vw, Vz, UU0, UU2, UU3, Vr, Vs, sz3, sz24, Tryd.underlying24, sz26, ze26, pl26, fi26_0, fi26_1, Front.v, Front.c, condP, condB_t]; try (with_reducible (first | exact co_refl _ | exact co_own _ _ _ | exact co_nilsB | exact co_nilsL _ _))))
  (with_reducible refine PW.loop (fun n s => ∃ k : Nat, s.t 1 = .ptr 0 0 ∧ s.t 4 = .ptr 1 0 ∧ s.t 5 = .own 0 1 (encB (big4 196608 ++ prmB (xp.take k))) ∧ s.t 6 = .d (.int .u8 0) ∧ s.t 7 = .d (.bool ((xp.take k).all prmOk)) ∧ s.t 8 = .d (.int .i64 10000) ∧
    s.t 25 = .d (.sl 2 (encL prmC xp)) ∧ s.t 26 = .d (.int .i64 xp.length) ∧ s.t 27 = .d (.int .i64 k) ∧ s.n = 184 ∧
    s.m = ⟨[some (26, [.d (.int .i64 1), .d (.sl 2 (encL prmC xp)), .d (.str xt), .d (.int .i64 xi), .d (.int .i64 xs), .d (.int .u8 xg)]), some (26, [.d (.int .i64 1), .d (.sl 2 (encL prmC xp)), .d (.str []), .d (.int .i64 0), .d (.int .i64 0), .d (.int .u8 0)])],
      [some ⟨5, 1, (big4 196608 ++ prmB (xp.take k)).length⟩]⟩ ∧ k ≤ xp.length ∧ n = xp.length - k) xp.length ?_ ?_)
  · exact ⟨0, rfl, rfl, rfl, rfl, rfl, rfl, rfl, rfl, rfl, rfl, rfl, Nat.zero_le _, rfl⟩
  rintro n ⟨t, nn, m⟩ ⟨k, h1, h4, h5, h6, h7, h8, h25, h26, h27, hn, hm, hk, hnk⟩ - -
  simp only at h1 h4 h5 h6 h7 h8 h25 h26 h27 hn hm
  subst hn hm
  by_cases hlt : (k : Int) < xp.length
  · have hlt' := eq_true hlt
    obtain ⟨p, hx⟩ : ∃ x, xp[k]? = some x := ⟨_, List.getElem?_eq_getElem (by omega)⟩
    have hsz := prmB_at hx
    have hsn := prmB_snoc hx
    have hall := all_snoc hx
    obtain ⟨a, b⟩ := p
    simp only at hsz hsn
    have hw : IntKind.i64.wrap ((k : Int) + 1) = (k : Int) + 1 := wl_i64 (by simp only [Bool.and_eq_true, decide_eq_true_eq]; omega)
    have hbl : (big4 196608 ++ prmB (xp.take k)).length ≤ 100000000004 := by
      rw [List.length_append, ← hQ]; omega
    have hcl := pClean2 a b
    have htx := fun h => pText2o (big4 196608 ++ prmB (xp.take k)) a b h
    repeat' (first
      | (with_reducible (first
        | refine PW.seq fun K1 hK1 => ?_
        | refine PW.region fun K2 hK2 => ?_
        | (refine hK3 _ ?_; clear hK3)
        | (refine opsP_nil ?_; refine hK2 _ ?_; clear hK2)
        | refine litX_old ?_
        | refine litC_data ?_
        | (refine Exists.intro _ (Exists.intro _ (And.intro rfl (And.intro rfl (And.intro ?_ ?_)))); focus omega)
        | (refine hK1 _ ?_; clear hK1)
        | refine nilC_intro (fun hz => ?_) ?_
        | refine PW.block ?_
        | refine PW.skip ?_
        | refine PW.exit ?_
        | refine PW.ret ?_
        | (refine hX1 ?_; clear hX1 hY1; try simp only [hb])
        | (refine hY1 ?_; clear hX1 hY1; try simp only [hb])
        | exact co_refl _
        | exact co_own _ _ _
        | exact co_nilsB
        | exact co_nilsL _ _
        | (refine opsO_nil ?_; refine hK2 _ ?_; clear hK2)
        | (refine keepO_intro ?_ ?_; focus (first | exact .inl (keep_same _ _) | exact .inl (keep_box _ _ _ _) | exact .inl (keep_hd _ _ _ _ _) | exact .inl (keep_02 _ _ _ _ _ _ _) | exact .inr ⟨rfl, rfl⟩))
        | (refine keepA_intro ?_ ?_; focus (first | exact keep_same _ _ | exact keep_box _ _ _ _ | exact keep_hd _ _ _ _ _ | exact keep_02 _ _ _ _ _ _ _))))
      | ((first | (with_reducible refine wantB_intro (fun hb => ?_) (fun hb => ?_)) | (with_reducible refine condB_intro (fun hb => ?_) (fun hb => ?_))) <;> ((try (have hp := hb; simp only [Bool.and_eq_true, Bool.and_eq_false_iff, Bool.not_eq_eq_eq_not, Bool.not_true, Bool.not_false, decide_eq_true_eq, decide_eq_false_iff_not] at hp)); try simp only [hb, Bool.not_true]))
      | ((with_reducible refine callP_row ?_ ?_ ?_ ?_ (htx ?_) ?_); (with_reducible exact rfl); (focus (simp only [List.getElem?_cons_zero, List.length_append]; try rfl)); (focus (repeat' (first | exact cos_refl _ | (refine cos_cons ?_ ?_) | exact co_refl _ | exact co_own _ _ _ | exact co_nilsB | exact co_nilsL _ _ | exact co_nils _ | (refine co_agg ?_) | (refine co_fn ?_)))); (focus (simp only [purAs, purA, Bool.and_self])))
      | ((with_reducible refine callP_pure ?_ ?_ (hcl) (fun _ => ?_)); (focus (repeat' (first | exact cos_refl _ | (refine cos_cons ?_ ?_) | exact co_refl _ | exact co_own _ _ _ | exact co_nilsB | exact co_nilsL _ _ | exact co_nils _ | (refine co_agg ?_) | (refine co_fn ?_)))); (focus (simp only [purAs, purA, Bool.and_self])))
      | ((with_reducible refine firstP_call ?_ ?_ (hcl) ?_); (focus (repeat' (first | exact cos_refl _ | (refine cos_cons ?_ ?_) | exact co_refl _ | exact co_own _ _ _ | exact co_nilsB | exact co_nilsL _ _ | exact co_nils _ | (refine co_agg ?_) | (refine co_fn ?_)))); (focus (simp only [purAs, purA, Bool.and_self, Bool.and_true, h1, h4, h5, h6, h7, h8, h25, h26, h27, hlt', hx, hw, prmC])))
      | ((with_reducible refine PW.drawR (id := 19) mixed [7] [(0, true), (1, true), (2, true), (3, true), (4, true), (5, false), (6, true), (7, false)] (by kernel_rfl) (by decide) fun K2 hK2 => ?_))
      | ((with_reducible refine PW.drawR (id := 21) mixed [] [(1, true), (2, true), (4, true), (5, true), (0, false), (3, false), (6, false), (7, true)] (by kernel_rfl) (by decide) fun K2 hK2 => ?_))
      | ((with_reducible refine PW.drawR (id := 24) mixed [] [(0, true), (1, true), (4, true), (5, true), (2, true), (6, true), (3, false), (7, false), (8, true), (9, true), (10, true)] (by kernel_rfl) (by decide) fun K2 hK2 => ?_))
      | ((with_reducible refine PW.drawR (id := 29) mixed [] [(0, true), (1, true), (2, true), (3, true), (4, true), (5, true), (6, true), (7, true), (8, true), (9, true), (10, true), (11, true), (12, true), (13, true), (14, true), (15, true), (16, true), (17, true), (18, true), (19, true), (20, true), (21, true)] (by kernel_rfl) (by decide) fun K2 hK2 => ?_))
      | ((with_reducible refine And.intro ?_ ?_); (focus (first | omega | (simp; done) | assumption)))
      | (simp only [thenP, blockP]; (try ((repeat (fail_if_success (with_reducible refine hK1 _ ?_)); clear hK1); (with_reducible refine hK1 _ ?_); clear hK1)))
      | (with_reducible omega)
      | (assumption)
      | ((fail_if_success (with_reducible (first | refine opsP_consD (d := 38) fun K3 hK3 => ?_ | refine opsP_consD (d := 39) fun K3 hK3 => ?_ | refine opsP_consD (d := 40) fun K3 hK3 => ?_ | refine opsP_consD (d := 41) fun K3 hK3 => ?_ | refine opsP_consD (d := 42) fun K3 hK3 => ?_ | refine opsP_consD (d := 43) fun K3 hK3 => ?_))); (first | ((with_reducible refine opsP_consMt (d := ?_) (dj := ?_) (b := ?_) (r := ?_) ?_ ?_ (fun hb => ?_) (fun K3 hK3 => ?_)); rotate_left 3; (focus exact rfl); (focus (simp only [upd_app, Nat.reduceEqDiff, ↓reduceIte]; exact rfl))) | ((with_reducible refine opsP_consMf (d := ?_) (dj := ?_) (b := ?_) (r := ?_) ?_ ?_ (fun hb => ?_) (fun K3 hK3 => ?_)); rotate_left 3; (focus exact rfl); (focus (simp only [St.put, upd_app, iniT_app, Nat.reduceEqDiff, ↓reduceIte, mrg_t, mrg_f]; exact rfl))) | ((with_reducible refine opsP_consNt (d := ?_) (dj := ?_) (b := ?_) (r := ?_) (c := ?_) ?_ ?_ (fun hb => ?_) (fun K3 hK3 => ?_)); rotate_left 4; (focus exact rfl); (focus (simp only [St.put, upd_app, iniT_app, Nat.reduceEqDiff, ↓reduceIte, mrg_t, mrg_f]; exact rfl))) | ((with_reducible refine opsP_consNf (d := ?_) (dj := ?_) (b := ?_) (r := ?_) (c := ?_) ?_ ?_ (fun hb => ?_) (fun K3 hK3 => ?_)); rotate_left 4; (focus exact rfl); (focus (simp only [St.put, upd_app, iniT_app, Nat.reduceEqDiff, ↓reduceIte, mrg_t, mrg_f]; exact rfl)))); (focus (simp only [opP, valP]; (try (simp only [Bool.and_eq_true, Bool.not_eq_true'] at hb)); (try (have hp := hb; simp only [Bool.and_eq_true, Bool.or_eq_true, Bool.not_eq_true', Bool.not_eq_false', Bool.and_eq_false_iff, Bool.or_eq_false_iff, Bool.not_eq_eq_eq_not, Bool.not_true, Bool.not_false, decide_eq_true_eq, decide_eq_false_iff_not, Int.not_lt, Int.not_le, beq_iff_eq, beq_eq_false_iff_ne, ne_eq] at hp)); simp (disch := omega) only [St.eval, upd_app, avOf, avOf1, loadA, binP, strP, nilP, bsz, U1, slA, Ua, Ub, Ug, Uk, Us, Nat.reduceLT, Nat.reduceLeDiff, Nat.reduceEqDiff, Va, Ve, ↓reduceIte, Vw, Vx, Vz, UU0, sz9, fi64_0, mrg_t, hb]; (repeat' (first | (exact rfl) | ((refine And.intro ?_ ?_); (focus (exact rfl)); (exact rfl)) | (refine And.intro (by first | omega | (simp; done) | assumption) ?_) | ((with_reducible refine callP_pure ?_ ?_ (hcl) (fun _ => ?_)); (focus (repeat' (first | exact cos_refl _ | (refine cos_cons ?_ ?_) | exact co_refl _ | exact co_own _ _ _ | exact co_nilsB | exact co_nilsL _ _ | exact co_nils _ | (refine co_agg ?_) | (refine co_fn ?_)))); (focus (simp only [purAs, purA, Bool.and_self, Bool.and_true, h1, h4, h5, h6, h7, h8, h25, h26, h27, hlt', hx, hw, prmC]))))); done)); (try simp only [St.put, Nat.reduceLT, ↓reduceIte]))
      | ((first | ((with_reducible (first | refine opsP_consD (d := 38) fun K3 hK3 => ?_ | refine opsP_consD (d := 39) fun K3 hK3 => ?_ | refine opsP_consD (d := 40) fun K3 hK3 => ?_ | refine opsP_consD (d := 41) fun K3 hK3 => ?_)); simp only [wantP, opP, valP]) | ((with_reducible refine opsP_consD (d := 42) fun K3 hK3 => ?_); simp only [wantP, opP, List.map_cons, List.map_nil, List.mapM_cons, List.mapM_nil, List.all_cons, List.all_nil]) | ((with_reducible refine opsP_consD (d := 43) fun K3 hK3 => ?_); simp only [wantP, opP, List.map_cons, List.map_nil]) | ((with_reducible refine opsP_cons fun K3 hK3 => ?_); simp only [wantP, opP, valP, List.map_cons, List.map_nil, List.mapM_cons, List.mapM_nil, List.all_cons, List.all_nil]) | ((with_reducible refine opsO_first (o := ?_) ?_ fun K3 hK3 => ?_); rotate_left 1; (focus (simp only [List.getElem?_toArray, List.getElem?_cons_succ, List.getElem?_cons_zero] <;> rfl)); simp only [wantP, firstP, valP, List.toList_toArray, Array.toList_empty, List.map_cons, List.map_nil, List.mapM_cons, List.mapM_nil, List.all_cons, List.all_nil]) | ((with_reducible refine opsO_only (o := ?_) ?_ fun K3 hK3 => ?_); rotate_left 1; (focus (simp only [List.getElem?_toArray, List.getElem?_cons_succ, List.getElem?_cons_zero] <;> rfl)); simp only [wantP, opP, valP, List.toList_toArray, Array.toList_empty, List.map_cons, List.map_nil, List.mapM_cons, List.mapM_nil, List.all_cons, List.all_nil]) | (with_reducible refine PW.condM fun X1 Y1 hX1 hY1 => ?_) | skip); simp (disch := omega) only [wantB_tt, wantB_ft, St.eval, St.put, upd_app, avOf, avOf1, wf_i64, cellsA, AV.okv, loadA, binP, intsP, intP, nilP, U3, U4, U5, slA, putCells, elA, dv1, encL_get, Ua, Ub, Uc, Ud, Uf, Ug, Ui, Uk, Ul, Un, Up, Ur, Us, Ut, Uu, Uv, List.mapM_cons, List.mapM_nil, Uw, Ux, Uz, V0, V1, V2, V4, V5, Option.bind_eq_bind, Option.pure_def, V7, Nat.reduceLT, Nat.reduceLeDiff, Nat.reduceAdd, Nat.reduceMul, Nat.reduceEqDiff, V9, Va, Ve, Int.reduceLE, Int.reduceNeg, Vu, Vf, Vg, ↓reduceIte, Vp, Vw, Vy, Vz, UU0, UU9, Vr, sz9, ze9, el24, sz64, ze64, fi64_0, fi64_1, el115, h5, h7, h25, h26, h27, hlt', hx, hw, prmC, pick_and, condP, condB_t]; try (with_reducible (first | exact co_refl _ | exact co_own _ _ _ | exact co_nilsB | exact co_nilsL _ _))))
    · have ha : (xp.take (k + 1)).all prmOk = (!has0 a && !has0 b) := by
        rw [hall]
        simp only [Bool.and_eq_true] at hb
        simp only [hb.1, prmOk, hb.2, Bool.true_and]
      refine ⟨xp.length - (k + 1), by omega, k + 1, ?_, ?_, ?_, ?_, ?_, ?_, ?_, ?_, ?_, ?_, ?_, by omega, rfl⟩
      all_goals (simp only [St.cut, Mem.cut, fg, fgs, upd_app, Nat.reduceEqDiff, ↓reduceIte, List.take_nil, List.map_nil, List.take_succ_cons, List.take_zero, List.map_cons, Option.map_some, Nat.reduceLT, Nat.zero_lt_one, Nat.reduceAdd, List.length_append, List.length_cons, List.length_nil, List.append_assoc, Nat.add_assoc, Int.natCast_add, Int.cast_ofNat_Int, h1, h4, h6, h8, h25, h26, hsn, ha]; try rfl)
    · have ha : (xp.take (k + 1)).all prmOk = false := by
        have hq : prmOk (a, b) = (!decide (a = []) && (!has0 a && !has0 b)) := rfl
        rw [hall, hq]
        simp only [Bool.not_true, Bool.and_eq_false_iff] at hb
        rcases hb with hb | hb
        · rw [hb]; rfl
        · simp only [hb, Bool.false_and, Bool.and_false]
      refine ⟨xp.length - (k + 1), by omega, k + 1, ?_, ?_, ?_, ?_, ?_, ?_, ?_, ?_, ?_, ?_, ?_, by omega, rfl⟩
      all_goals (simp only [St.cut, Mem.cut, fg, fgs, upd_app, Nat.reduceEqDiff, ↓reduceIte, List.take_nil, List.map_nil, List.take_succ_cons, List.take_zero, List.map_cons, Option.map_some, Nat.reduceLT, Nat.zero_lt_one, Nat.reduceAdd, List.length_append, List.length_cons, List.length_nil, List.append_assoc, Nat.add_assoc, Int.natCast_add, Int.cast_ofNat_Int, h1, h4, h6, h8, h25, h26, hsn, ha]; try rfl)
  · have hlt' := eq_false hlt
    have hkl : k = xp.length := by omega
    have htk : xp.take k = xp := List.take_of_length_le (by omega)
    rw [htk] at h5 h7
    have hm : frontMay ⟨1, xp, xt, xi, xs, xg⟩ = xp.all prmOk := by simp only [frontMay, ↓reduceIte]
    have key : ∀ A L : Bool, (!A || !L) = false → (A && L) = true := by decide
    have key' : ∀ A L : Bool, (!A || !L) = true → (A && L) = false := by decide
    rw [htk]
    repeat' (first
      | (with_reducible (first
        | refine PW.seq fun K1 hK1 => ?_
        | refine PW.region fun K2 hK2 => ?_
        | (refine hK3 _ ?_; clear hK3)
        | (refine opsP_nil ?_; refine hK2 _ ?_; clear hK2)
        | refine litX_old ?_
        | refine litC_data ?_
        | (refine Exists.intro _ (Exists.intro _ (And.intro rfl (And.intro rfl (And.intro ?_ ?_)))); focus omega)
        | (refine hK1 _ ?_; clear hK1)
        | refine nilC_intro (fun hz => ?_) ?_
        | refine PW.block ?_
        | refine PW.skip ?_
        | refine PW.exit ?_
        | refine PW.ret ?_
        | (refine hX1 ?_; clear hX1 hY1; try simp only [hb])
        | (refine hY1 ?_; clear hX1 hY1; try simp only [hb])
        | exact co_refl _
        | exact co_own _ _ _
        | exact co_nilsB
        | exact co_nilsL _ _
        | (refine opsO_nil ?_; refine hK2 _ ?_; clear hK2)
        | (refine keepO_intro ?_ ?_; focus (first | exact .inl (keep_same _ _) | exact .inl (keep_box _ _ _ _) | exact .inl (keep_hd _ _ _ _ _) | exact .inl (keep_02 _ _ _ _ _ _ _) | exact .inr ⟨rfl, rfl⟩))
        | (refine keepA_intro ?_ ?_; focus (first | exact keep_same _ _ | exact keep_box _ _ _ _ | exact keep_hd _ _ _ _ _ | exact keep_02 _ _ _ _ _ _ _))))
      | ((first | (with_reducible refine wantB_intro (fun hb => ?_) (fun hb => ?_)) | (with_reducible refine condB_intro (fun hb => ?_) (fun hb => ?_))) <;> ((try (have hp := hb; simp only [Bool.or_eq_true, Bool.or_eq_false_iff, Bool.not_eq_eq_eq_not, Bool.not_true, Bool.not_false, decide_eq_true_eq, decide_eq_false_iff_not, Int.not_lt] at hp)); try simp only [hb, Bool.not_true, Bool.not_false]))
      | ((with_reducible refine callP_new ?_ ?_ (pBig4 ?_) ?_); (focus (repeat' (first | exact cos_refl _ | (refine cos_cons ?_ ?_) | exact co_refl _ | exact co_own _ _ _ | exact co_nilsB | exact co_nilsL _ _ | exact co_nils _ | (refine co_agg ?_) | (refine co_fn ?_)))); (focus (simp only [purAs, purA, Bool.and_self])))
      | ((with_reducible refine callP_new ?_ ?_ (pConcat2 ?_ ?_ ?_) ?_); (focus (repeat' (first | exact cos_refl _ | (refine cos_cons ?_ ?_) | exact co_refl _ | exact co_own _ _ _ | exact co_nilsB | exact co_nilsL _ _ | exact co_nils _ | (refine co_agg ?_) | (refine co_fn ?_)))); (focus (simp only [purAs, purA, Bool.and_self])))
      | ((with_reducible refine PW.drawR (id := 19) mixed [7] [(0, true), (1, true), (2, true), (3, true), (4, true), (5, false), (6, true), (7, false)] (by kernel_rfl) (by decide) fun K2 hK2 => ?_))
      | ((with_reducible refine PW.drawR (id := 21) mixed [] [(1, true), (2, true), (4, true), (5, true), (0, false), (3, false), (6, false), (7, true)] (by kernel_rfl) (by decide) fun K2 hK2 => ?_))
      | ((with_reducible refine PW.drawR (id := 24) mixed [] [(0, true), (1, true), (4, true), (5, true), (2, true), (6, true), (3, false), (7, false), (8, true), (9, true), (10, true)] (by kernel_rfl) (by decide) fun K2 hK2 => ?_))
      | ((with_reducible refine PW.drawR (id := 29) mixed [] [(0, true), (1, true), (2, true), (3, true), (4, true), (5, true), (6, true), (7, true), (8, true), (9, true), (10, true), (11, true), (12, true), (13, true), (14, true), (15, true), (16, true), (17, true), (18, true), (19, true), (20, true), (21, true)] (by kernel_rfl) (by decide) fun K2 hK2 => ?_))
      | ((with_reducible refine And.intro ?_ ?_); (focus (first | omega | (simp; done) | assumption)))
      | (simp only [thenP, blockP, ↓reduceIte]; (try ((repeat (fail_if_success (with_reducible refine hK1 _ ?_)); clear hK1); (with_reducible refine hK1 _ ?_); clear hK1)))
      | (with_reducible omega)
      | (assumption)
      | ((fail_if_success (with_reducible (first | refine opsP_consD (d := 38) fun K3 hK3 => ?_ | refine opsP_consD (d := 39) fun K3 hK3 => ?_ | refine opsP_consD (d := 40) fun K3 hK3 => ?_ | refine opsP_consD (d := 41) fun K3 hK3 => ?_ | refine opsP_consD (d := 42) fun K3 hK3 => ?_ | refine opsP_consD (d := 43) fun K3 hK3 => ?_))); (first | ((with_reducible refine opsP_consMt (d := ?_) (dj := ?_) (b := ?_) (r := ?_) ?_ ?_ (fun hb => ?_) (fun K3 hK3 => ?_)); rotate_left 3; (focus exact rfl); (focus (simp only [upd_app, Nat.reduceEqDiff, ↓reduceIte]; exact rfl))) | ((with_reducible refine opsP_consMf (d := ?_) (dj := ?_) (b := ?_) (r := ?_) ?_ ?_ (fun hb => ?_) (fun K3 hK3 => ?_)); rotate_left 3; (focus exact rfl); (focus (simp only [upd_app, Nat.reduceEqDiff, ↓reduceIte]; exact rfl))) | ((with_reducible refine opsP_consNt (d := ?_) (dj := ?_) (b := ?_) (r := ?_) (c := ?_) ?_ ?_ (fun hb => ?_) (fun K3 hK3 => ?_)); rotate_left 4; (focus exact rfl); (focus (simp only [St.put, upd_app, iniT_app, Nat.reduceEqDiff, ↓reduceIte, mrg_t, mrg_f]; exact rfl))) | ((with_reducible refine opsP_consNf (d := ?_) (dj := ?_) (b := ?_) (r := ?_) (c := ?_) ?_ ?_ (fun hb => ?_) (fun K3 hK3 => ?_)); rotate_left 4; (focus exact rfl); (focus (simp only [St.put, upd_app, iniT_app, Nat.reduceEqDiff, ↓reduceIte, mrg_t, mrg_f]; exact rfl)))); (focus (simp only [opP, valP, List.map_cons, List.map_nil]; (try (simp only [Bool.and_eq_true, Bool.not_eq_true'] at hb)); (try (have hp := hb; simp only [Bool.not_eq_eq_eq_not, Bool.not_false, decide_eq_true_eq, decide_eq_false_iff_not, Int.not_lt] at hp)); simp (disch := omega) only [St.eval, upd_app, avOf, avOf1, wf_i64, loadA, lenP, binP, intsP, intP, nilP, unP, builtinP, isMapA, slA, encL_len, Ua, Ub, Uk, Ul, Nat.reduceLT, Nat.reduceEqDiff, V9, Ve, Int.reduceLE, Int.reduceNeg, Vu, Vf, Vo, ↓reduceIte, Vp, Vw, Vx, Vz, UU0, sz3, sz5, sz24, Tryd.underlying24, fi26_1, fi26_3, fi26_4, fi26_5, h1, h4, mrg_t, hb]; (repeat' (first | (exact rfl) | ((refine And.intro ?_ ?_); (focus (exact rfl)); (exact rfl)) | (refine And.intro (by first | omega | (simp; done) | assumption) ?_))); done)); (try simp only [St.put, Nat.reduceLT, ↓reduceIte]))
      | ((first | ((with_reducible (first | refine opsP_consD (d := 38) fun K3 hK3 => ?_ | refine opsP_consD (d := 39) fun K3 hK3 => ?_ | refine opsP_consD (d := 40) fun K3 hK3 => ?_ | refine opsP_consD (d := 41) fun K3 hK3 => ?_ | refine opsP_consD (d := 42) fun K3 hK3 => ?_ | refine opsP_consD (d := 43) fun K3 hK3 => ?_)); simp only [wantP, opP, valP, List.toList_toArray, Array.toList_empty, List.map_cons, List.map_nil, List.mapM_cons, List.mapM_nil, List.all_cons, List.all_nil]) | ((with_reducible refine opsP_cons fun K3 hK3 => ?_); simp only [wantP, opP, valP, List.map_cons, List.map_nil, List.mapM_cons, List.mapM_nil, List.all_cons, List.all_nil]) | ((with_reducible refine opsO_first (o := ?_) ?_ fun K3 hK3 => ?_); rotate_left 1; (focus (simp only [List.getElem?_toArray, List.getElem?_cons_succ, List.getElem?_cons_zero] <;> rfl)); simp only [wantP, firstP, valP, List.toList_toArray, Array.toList_empty, List.map_cons, List.map_nil, List.mapM_cons, List.mapM_nil, List.all_cons, List.all_nil]) | ((with_reducible refine opsO_only (o := ?_) ?_ fun K3 hK3 => ?_); rotate_left 1; (focus (simp only [List.getElem?_toArray, List.getElem?_cons_succ, List.getElem?_cons_zero] <;> rfl)); simp only [wantP, opP, valP, List.toList_toArray, Array.toList_empty, List.map_cons, List.map_nil, List.mapM_cons, List.mapM_nil, List.all_cons, List.all_nil]) | (with_reducible refine PW.condM fun X1 Y1 hX1 hY1 => ?_) | skip); simp (disch := omega) only [St.eval, St.put, upd_app, avOf, avOf1, wf_i64, wf_u8, cellsA, AV.okv, loadA, lenP, binP, intsP, intP, strP, nilP, unP, builtinP, appP, srcA, srcTy, wi_i64, isMapA, isBsl, U3, U4, U5, slA, elA, dv1, encB_len, encB_snoc, Ua, Ub, Uc, Uf, Ug, Ui, Uk, Ul, Ut, Uu, Uv, List.mapM_cons, List.mapM_nil, Uw, Ux, V0, V1, V2, V4, Option.bind_eq_bind, Option.pure_def, Nat.reduceLT, Nat.reduceLeDiff, Nat.reduceAdd, Nat.reduceMul, Nat.reduceEqDiff, V9, Vc, Ve, Int.reduceLE, Int.reduceNeg, Int.cast_ofNat_Int, Vu, Vv, Vf, Vn, ↓reduceIte, Vp, reduceCtorEq, Vw, Vz, UU0, Vq, UU9, Vs, ze5, by5, sz9, ze22, el22, Tryd.underlying22, fi26_2, el118, h1, h4, h5, h6, h7, h8, h26, h27, hlt', hL, big4_l, pick_or, pick_and, retQ, resP, tupA, fg, fgs, condP, condB_f]; try (with_reducible (first | exact co_refl _ | exact co_own _ _ _ | exact co_nilsB | exact co_nilsL _ _))))
    · refine fput_bad ?_
      rw [hm, hlk]
      exact key' _ _ hb
    · refine fput_long (by rw [hm, hlk]; exact key _ _ (by assumption)) ?_
      simp only [frontMost, frontTag, frontBody, Int.reduceEq, ↓reduceIte, List.length_append, big4_l, List.length_cons, List.length_nil]
      simp only [Bool.or_eq_true, decide_eq_true_eq] at hb
      omega
    · rw [fput_ok (by rw [hm, hlk]; exact key _ _ (by assumption)) (by
        simp only [frontMost, frontTag, frontBody, Int.reduceEq, ↓reduceIte, List.length_append, big4_l, List.length_cons, List.length_nil]
        simp only [Bool.or_eq_false_iff, decide_eq_false_iff_not] at hb
        omega)]
      refine co_eq ?_
      simp [frontTag, frontBody, big4_l, Int.add_assoc]
end PM
end Go.Proofs.YthaekefdadccaaaDoor
