/- pgwire's reference in the abstract: what of a client's message is laid: the kinds but the first. -/
import Derived.Test.YthaekefdadccaaaDoorPgR1
namespace Go.Proofs.YthaekefdadccaaaDoor
open Go.RowKit
namespace PM
def aloneBody (f : Front) : List Int := if f.kind = 1 then (if f.params.all prmOk = true then frontBody f else []) else frontBody f
def aloneV (f : Front) : AV := .tup [f.only.v, bs (aloneBody f), .d (.int .u8 (frontTag f)), .d (.bool (frontMay f))]
set_option maxRecDepth 100000 in
set_option maxHeartbeats 4000000 in
theorem pRAlone2 (f : Front) (hk : f.kind = 2) : Pure Tryd.prog 46 [f.v] (aloneV f) := by
  refine pure_intro Tryd.func46 rfl rfl rfl 160 rfl (fun hh => ?_)
  obtain ⟨xk, xp, xt, xi, xs, xg⟩ := f
  simp only at hk
  subst hk
  have hmx : maxLen = 9223372036854775807 := rfl
  repeat' (first
    | (with_reducible (first
      | refine PW.seq fun K1 hK1 => ?_
      | refine PW.region fun K2 hK2 => ?_
      | (refine hK3 _ ?_; clear hK3)
      | (refine opsP_nil ?_; refine hK2 _ ?_; clear hK2)
      | refine litX_old ?_
      | refine litC_data ?_
      | (refine Exists.intro _ (Exists.intro _ (And.intro rfl (And.intro rfl (And.intro ?_ ?_)))); focus omega)
      | (refine hK1 _ ?_; clear hK1)
      | refine nilC_intro (fun hz => ?_) ?_
      | refine PW.block ?_
      | refine PW.skip ?_
      | refine PW.exit ?_
      | refine PW.ret ?_
      | (refine hX1 ?_; clear hX1 hY1; try simp only [hb])
      | (refine hY1 ?_; clear hX1 hY1; try simp only [hb])
      | exact co_refl _
      | exact co_own _ _ _
      | exact co_nilsB
      | exact co_nilsL _ _
      | (refine opsO_nil ?_; refine hK2 _ ?_; clear hK2)
      | (refine keepO_intro ?_ ?_; focus (first | exact .inl (keep_same _ _) | exact .inl (keep_box _ _ _ _) | exact .inl (keep_hd _ _ _ _ _) | exact .inl (keep_02 _ _ _ _ _ _ _) | exact .inr ⟨rfl, rfl⟩))
      | (refine keepA_intro ?_ ?_; focus (first | exact keep_same _ _ | exact keep_box _ _ _ _ | exact keep_hd _ _ _ _ _ | exact keep_02 _ _ _ _ _ _ _))))
    | ((first | (with_reducible refine wantB_intro (fun hb => ?_) (fun hb => ?_)) | (with_reducible refine condB_intro (fun hb => ?_) (fun hb => ?_))) <;> ((try (have hp := hb; simp only [decide_eq_true_eq, decide_eq_false_iff_not] at hp)); try simp only [hb, Bool.not_true, Bool.not_false]))
    | ((with_reducible refine callP_new ?_ ?_ (pRBig4 ?_) ?_); (focus (repeat' (first | exact cos_refl _ | (refine cos_cons ?_ ?_) | exact co_refl _ | exact co_own _ _ _ | exact co_nilsB | exact co_nilsL _ _ | exact co_nils _ | (refine co_agg ?_) | (refine co_fn ?_)))); (focus (simp only [purAs, purA, Bool.and_self])))
    | ((with_reducible refine PW.drawR (id := 16) mixed [] [(0, true), (1, true), (2, false), (3, false), (4, false), (5, true), (6, true), (7, true)] (by kernel_rfl) (by decide) fun K2 hK2 => ?_))
    | ((with_reducible refine PW.draw (id := 18) mixed [0, 2] [] [(0, true), (1, false), (2, false), (3, true), (4, true), (5, true)] (by kernel_rfl) (by decide) fun K2 hK2 => ?_))
    | ((with_reducible refine PW.draw (id := 26) mixed [0, 2] [] [(0, true), (1, true), (2, true), (3, true), (6, true), (4, false), (5, false), (7, true), (8, true), (9, true), (10, false), (11, true), (12, true), (13, true)] (by kernel_rfl) (by decide) fun K2 hK2 => ?_))
    | ((with_reducible refine PW.draw (id := 30) mixed [0, 2] [] [(0, true), (1, true), (2, true), (4, true), (5, true), (3, false), (6, false), (7, true), (8, true), (9, true)] (by kernel_rfl) (by decide) fun K2 hK2 => ?_))
    | ((with_reducible refine PW.draw (id := 35) mixed [0, 2] [] [(0, true), (1, true), (2, true), (3, true), (4, true), (5, true), (6, true), (7, true), (8, true), (9, true), (10, true), (11, true), (12, true), (13, true), (14, true), (15, true), (16, true), (17, true), (18, true), (19, true), (20, true), (21, false), (22, true), (23, true), (24, true)] (by kernel_rfl) (by decide) fun K2 hK2 => ?_))
    | ((with_reducible refine And.intro ?_ ?_); (focus (first | omega | (simp; done) | assumption)))
    | (simp only [thenP, blockP]; (try ((repeat (fail_if_success (with_reducible refine hK1 _ ?_)); clear hK1); (with_reducible refine hK1 _ ?_); clear hK1)))
    | (with_reducible omega)
    | (assumption)
    | ((first | ((with_reducible refine opsP_cons fun K3 hK3 => ?_); simp only [wantP, opP, valP, List.map_cons, List.map_nil]) | ((with_reducible refine opsO_first (o := ?_) ?_ fun K3 hK3 => ?_); rotate_left 1; (focus (simp only [List.getElem?_toArray, List.getElem?_cons_succ, List.getElem?_cons_zero] <;> rfl)); simp only [wantP, firstP, valP]) | ((with_reducible refine opsO_only (o := ?_) ?_ fun K3 hK3 => ?_); rotate_left 1; (focus (simp only [List.getElem?_toArray, List.getElem?_cons_succ, List.getElem?_cons_zero] <;> rfl)); simp only [wantP, opP, List.map_cons, List.map_nil, List.all_cons, List.all_nil]) | (with_reducible refine PW.condM fun X1 Y1 hX1 hY1 => ?_) | skip); simp (disch := omega) only [St.eval, St.put, upd_app, iniT_app, avOf, avOf1, wf_i64, wf_u8, nom, cellsA, AV.okv, loadA, binP, intsP, intP, nilP, slA, putCells, fillA, buildA, U7, Ua, Ub, Uc, Ud, Uf, Ug, Uk, Un, Up, Ur, Us, Ut, Uu, Uv, Nat.reduceLT, Nat.reduceAdd, Nat.reduceEqDiff, V9, Va, Vd, Ve, Vt, Int.reduceLE, Int.reduceNeg, Vu, Vf, Vg, Vn, Vo, ↓reduceIte, Vp, reduceCtorEq, Vw, Vz, UU0, UU2, UU3, UU5, UU6, Vr, Vs, sz3, sz26, ze26, pl26, fi26_0, Front.v, Front.c, big4_l, retQ, resP, tupA, fg, fgs, condP, condB_t, firstOk, List.mem_cons]; try (with_reducible (first | exact co_refl _ | exact co_own _ _ _ | exact co_nilsB | exact co_nilsL _ _))))
  all_goals (try (focus ((try simp only [aloneV, Front.only, Front.v, Front.c, aloneBody, frontBody, frontTag, frontMay, zF, Int.reduceEq, ↓reduceIte, List.map_cons, List.map_nil]); (repeat' split) <;> (first | (exfalso; omega) | ((try ((with_reducible refine And.intro ?_ ?_); rotate_left 1; (focus (first | exact subM_row1 | exact subM_nom _ | (refine subM_box1 ?_; simp only [fgs, fg]; (repeat' (first | exact cos_refl _ | refine cos_cons ?_ ?_ | exact co_refl _ | exact co_nilsB | exact co_own _ _ _ | exact co_nilsL _ _ | exact co_nils _ | refine co_agg ?_ | refine co_tup ?_)); done))))); (first | ((repeat' (first | exact cos_refl _ | refine cos_cons ?_ ?_ | exact co_refl _ | exact co_nilsB | exact co_own _ _ _ | exact co_nilsL _ _ | exact co_nils _ | refine co_agg ?_ | refine co_tup ?_)); done) | (refine co_eq ?_; simp_all; done))) | (exfalso; simp_all; done)))))
set_option maxRecDepth 100000 in
set_option maxHeartbeats 4000000 in
theorem pRAlone5 (f : Front) (hk : f.kind = 5) : Pure Tryd.prog 46 [f.v] (aloneV f) := by
  refine pure_intro Tryd.func46 rfl rfl rfl 160 rfl (fun hh => ?_)
  obtain ⟨xk, xp, xt, xi, xs, xg⟩ := f
  simp only at hk
  subst hk
  have hmx : maxLen = 9223372036854775807 := rfl
  repeat' (first
    | (with_reducible (first
      | refine PW.seq fun K1 hK1 => ?_
      | refine PW.region fun K2 hK2 => ?_
      | (refine hK3 _ ?_; clear hK3)
      | (refine opsP_nil ?_; refine hK2 _ ?_; clear hK2)
      | refine litX_old ?_
      | refine litC_data ?_
      | (refine Exists.intro _ (Exists.intro _ (And.intro rfl (And.intro rfl (And.intro ?_ ?_)))); focus omega)
      | (refine hK1 _ ?_; clear hK1)
      | refine nilC_intro (fun hz => ?_) ?_
      | refine PW.block ?_
      | refine PW.skip ?_
      | refine PW.exit ?_
      | refine PW.ret ?_
      | (refine hX1 ?_; clear hX1 hY1; try simp only [hb])
      | (refine hY1 ?_; clear hX1 hY1; try simp only [hb])
      | exact co_refl _
      | exact co_own _ _ _
      | exact co_nilsB
      | exact co_nilsL _ _
      | (refine opsO_nil ?_; refine hK2 _ ?_; clear hK2)
      | (refine keepO_intro ?_ ?_; focus (first | exact .inl (keep_same _ _) | exact .inl (keep_box _ _ _ _) | exact .inl (keep_hd _ _ _ _ _) | exact .inl (keep_02 _ _ _ _ _ _ _) | exact .inr ⟨rfl, rfl⟩))
      | (refine keepA_intro ?_ ?_; focus (first | exact keep_same _ _ | exact keep_box _ _ _ _ | exact keep_hd _ _ _ _ _ | exact keep_02 _ _ _ _ _ _ _))))
    | ((first | (with_reducible refine wantB_intro (fun hb => ?_) (fun hb => ?_)) | (with_reducible refine condB_intro (fun hb => ?_) (fun hb => ?_))) <;> ((try (have hp := hb; simp only [decide_eq_true_eq, decide_eq_false_iff_not] at hp)); try simp only [hb, Bool.not_true, Bool.not_false]))
    | ((with_reducible refine callP_new ?_ ?_ (pRBig4 ?_) ?_); (focus (repeat' (first | exact cos_refl _ | (refine cos_cons ?_ ?_) | exact co_refl _ | exact co_own _ _ _ | exact co_nilsB | exact co_nilsL _ _ | exact co_nils _ | (refine co_agg ?_) | (refine co_fn ?_)))); (focus (simp only [purAs, purA, Bool.and_self, Bool.and_true, Front.v, Front.c, zF, big4_l])))
    | ((with_reducible refine PW.drawR (id := 16) mixed [] [(0, true), (1, true), (2, false), (3, false), (4, false), (5, true), (6, true), (7, true)] (by kernel_rfl) (by decide) fun K2 hK2 => ?_))
    | ((with_reducible refine PW.draw (id := 18) mixed [0, 2] [] [(0, true), (1, false), (2, false), (3, true), (4, true), (5, true)] (by kernel_rfl) (by decide) fun K2 hK2 => ?_))
    | ((with_reducible refine PW.draw (id := 26) mixed [0, 2] [] [(0, true), (1, true), (2, true), (3, true), (6, true), (4, false), (5, false), (7, true), (8, true), (9, true), (10, false), (11, true), (12, true), (13, true)] (by kernel_rfl) (by decide) fun K2 hK2 => ?_))
    | ((with_reducible refine PW.draw (id := 30) mixed [0, 2] [] [(0, true), (1, true), (2, true), (4, true), (5, true), (3, false), (6, false), (7, true), (8, true), (9, true)] (by kernel_rfl) (by decide) fun K2 hK2 => ?_))
    | ((with_reducible refine PW.draw (id := 35) mixed [0, 2] [] [(0, true), (1, true), (2, true), (3, true), (4, true), (5, true), (6, true), (7, true), (8, true), (9, true), (10, true), (11, true), (12, true), (13, true), (14, true), (15, true), (16, true), (17, true), (18, true), (19, true), (20, true), (21, false), (22, true), (23, true), (24, true)] (by kernel_rfl) (by decide) fun K2 hK2 => ?_))
    | ((with_reducible refine And.intro ?_ ?_); (focus (first | omega | (simp; done) | assumption)))
    | (simp only [thenP, blockP]; (try ((repeat (fail_if_success (with_reducible refine hK1 _ ?_)); clear hK1); (with_reducible refine hK1 _ ?_); clear hK1)))
    | (with_reducible omega)
    | (assumption)
    | ((first | ((with_reducible refine opsP_cons fun K3 hK3 => ?_); simp only [wantP, opP, valP, List.map_cons, List.map_nil]) | ((with_reducible refine opsO_first (o := ?_) ?_ fun K3 hK3 => ?_); rotate_left 1; (focus (simp only [List.getElem?_toArray, List.getElem?_cons_succ, List.getElem?_cons_zero] <;> rfl)); simp only [wantP, firstP, valP, List.toList_toArray, Array.toList_empty, List.map_cons, List.map_nil, List.mapM_cons, List.mapM_nil, List.all_cons, List.all_nil]) | ((with_reducible refine opsO_only (o := ?_) ?_ fun K3 hK3 => ?_); rotate_left 1; (focus (simp only [List.getElem?_toArray, List.getElem?_cons_succ, List.getElem?_cons_zero] <;> rfl)); simp only [wantP, opP, valP, List.toList_toArray, Array.toList_empty, List.map_cons, List.map_nil, List.mapM_cons, List.mapM_nil, List.all_cons, List.all_nil]) | (with_reducible refine PW.condM fun X1 Y1 hX1 hY1 => ?_) | skip); simp (disch := omega) only [St.eval, St.put, upd_app, iniT_app, avOf, avOf1, wf_i64, wf_u8, nom, cellsA, AV.okv, loadA, binP, intsP, intP, nilP, slA, putCells, fillA, buildA, U7, Ua, Ub, Uc, Ud, Uf, Ug, Uk, Un, Up, Ur, Us, Ut, Uu, Nat.reduceLT, Nat.reduceAdd, Nat.reduceEqDiff, V9, Va, Ve, Vt, Int.reduceLE, Int.reduceNeg, Vu, Vf, ↓reduceIte, reduceCtorEq, Vw, Vz, UU0, UU2, UU3, Vr, Vs, sz3, sz26, ze26, pl26, fi26_0, Front.v, Front.c, retQ, resP, tupA, fg, fgs, condP, condB_t]; try (with_reducible (first | exact co_refl _ | exact co_own _ _ _ | exact co_nilsB | exact co_nilsL _ _))))
  all_goals (try (focus ((try simp only [aloneV, Front.only, Front.v, Front.c, aloneBody, frontBody, frontTag, frontMay, zF, Int.reduceEq, ↓reduceIte, List.map_cons, List.map_nil]); (repeat' split) <;> (first | (exfalso; omega) | ((try ((with_reducible refine And.intro ?_ ?_); rotate_left 1; (focus (first | exact subM_row1 | exact subM_nom _ | (refine subM_box1 ?_; simp only [fgs, fg]; (repeat' (first | exact cos_refl _ | refine cos_cons ?_ ?_ | exact co_refl _ | exact co_nilsB | exact co_own _ _ _ | exact co_nilsL _ _ | exact co_nils _ | refine co_agg ?_ | refine co_tup ?_)); done))))); (first | ((repeat' (first | exact cos_refl _ | refine cos_cons ?_ ?_ | exact co_refl _ | exact co_nilsB | exact co_own _ _ _ | exact co_nilsL _ _ | exact co_nils _ | refine co_agg ?_ | refine co_tup ?_)); done) | (refine co_eq ?_; simp_all; done))) | (exfalso; simp_all; done)))))
set_option maxRecDepth 100000 in
set_option maxHeartbeats 4000000 in
theorem pRAlone4 (f : Front) (hk : f.kind = 4) (hz : f.text.length ≤ 100000000000) : Pure Tryd.prog 46 [f.v] (aloneV f) := by
  refine pure_intro Tryd.func46 rfl rfl rfl 160 rfl (fun hh => ?_)
  obtain ⟨xk, xp, xt, xi, xs, xg⟩ := f
  simp only at hk hz
  subst hk
  have hmx : maxLen = 9223372036854775807 := rfl
  repeat' (first
    | (with_reducible (first
      | refine PW.seq fun K1 hK1 => ?_
      | refine PW.region fun K2 hK2 => ?_
      | (refine hK3 _ ?_; clear hK3)
      | (refine opsP_nil ?_; refine hK2 _ ?_; clear hK2)
      | refine litX_old ?_
      | refine litC_data ?_
      | (refine Exists.intro _ (Exists.intro _ (And.intro rfl (And.intro rfl (And.intro ?_ ?_)))); focus omega)
      | (refine hK1 _ ?_; clear hK1)
      | refine nilC_intro (fun hz => ?_) ?_
      | refine PW.block ?_
      | refine PW.skip ?_
      | refine PW.exit ?_
      | refine PW.ret ?_
      | (refine hX1 ?_; clear hX1 hY1; try simp only [hb])
      | (refine hY1 ?_; clear hX1 hY1; try simp only [hb])
      | exact co_refl _
      | exact co_own _ _ _
      | exact co_nilsB
      | exact co_nilsL _ _
      | (refine opsO_nil ?_; refine hK2 _ ?_; clear hK2)
      | (refine keepO_intro ?_ ?_; focus (first | exact .inl (keep_same _ _) | exact .inl (keep_box _ _ _ _) | exact .inl (keep_hd _ _ _ _ _) | exact .inl (keep_02 _ _ _ _ _ _ _) | exact .inr ⟨rfl, rfl⟩))
      | (refine keepA_intro ?_ ?_; focus (first | exact keep_same _ _ | exact keep_box _ _ _ _ | exact keep_hd _ _ _ _ _ | exact keep_02 _ _ _ _ _ _ _))))
    | ((first | (with_reducible refine wantB_intro (fun hb => ?_) (fun hb => ?_)) | (with_reducible refine condB_intro (fun hb => ?_) (fun hb => ?_))) <;> ((try (have hp := hb; simp only [decide_eq_true_eq, decide_eq_false_iff_not] at hp)); try simp only [hb, Bool.not_true, Bool.not_false]))
    | ((with_reducible refine callP_new ?_ ?_ (pRBig4 ?_) ?_); (focus (repeat' (first | exact cos_refl _ | (refine cos_cons ?_ ?_) | exact co_refl _ | exact co_own _ _ _ | exact co_nilsB | exact co_nilsL _ _ | exact co_nils _ | (refine co_agg ?_) | (refine co_fn ?_)))); (focus (simp only [purAs, purA, Bool.and_self, Bool.and_true, Front.v, Front.c, zF, big4_l])))
    | ((with_reducible refine callP_new ?_ ?_ (pRStr ?_ ?_) ?_); (focus (repeat' (first | exact cos_refl _ | (refine cos_cons ?_ ?_) | exact co_refl _ | exact co_own _ _ _ | exact co_nilsB | exact co_nilsL _ _ | exact co_nils _ | (refine co_agg ?_) | (refine co_fn ?_)))); (focus (simp only [purAs, purA, Bool.and_self])))
    | ((with_reducible refine callP_pure ?_ ?_ (pRHas0 ?_) (fun _ => ?_)); (focus (repeat' (first | exact cos_refl _ | (refine cos_cons ?_ ?_) | exact co_refl _ | exact co_own _ _ _ | exact co_nilsB | exact co_nilsL _ _ | exact co_nils _ | (refine co_agg ?_) | (refine co_fn ?_)))); (focus (simp only [purAs, purA, Bool.and_self])))
    | ((with_reducible refine firstP_call ?_ ?_ (pRHas0 ?_) ?_); (focus (repeat' (first | exact cos_refl _ | (refine cos_cons ?_ ?_) | exact co_refl _ | exact co_own _ _ _ | exact co_nilsB | exact co_nilsL _ _ | exact co_nils _ | (refine co_agg ?_) | (refine co_fn ?_)))); (focus (simp only [purAs, purA, Bool.and_self, Bool.and_true, Front.v, Front.c, zF, big4_l])))
    | ((with_reducible refine PW.drawR (id := 16) mixed [] [(0, true), (1, true), (2, false), (3, false), (4, false), (5, true), (6, true), (7, true)] (by kernel_rfl) (by decide) fun K2 hK2 => ?_))
    | ((with_reducible refine PW.draw (id := 18) mixed [0, 2] [] [(0, true), (1, false), (2, false), (3, true), (4, true), (5, true)] (by kernel_rfl) (by decide) fun K2 hK2 => ?_))
    | ((with_reducible refine PW.draw (id := 26) mixed [0, 2] [] [(0, true), (1, true), (2, true), (3, true), (6, true), (4, false), (5, false), (7, true), (8, true), (9, true), (10, false), (11, true), (12, true), (13, true)] (by kernel_rfl) (by decide) fun K2 hK2 => ?_))
    | ((with_reducible refine PW.draw (id := 30) mixed [0, 2] [] [(0, true), (1, true), (2, true), (4, true), (5, true), (3, false), (6, false), (7, true), (8, true), (9, true)] (by kernel_rfl) (by decide) fun K2 hK2 => ?_))
    | ((with_reducible refine PW.draw (id := 35) mixed [0, 2] [] [(0, true), (1, true), (2, true), (3, true), (4, true), (5, true), (6, true), (7, true), (8, true), (9, true), (10, true), (11, true), (12, true), (13, true), (14, true), (15, true), (16, true), (17, true), (18, true), (19, true), (20, true), (21, false), (22, true), (23, true), (24, true)] (by kernel_rfl) (by decide) fun K2 hK2 => ?_))
    | ((with_reducible refine And.intro ?_ ?_); (focus (first | omega | (simp; done) | assumption)))
    | (simp only [thenP, blockP]; (try ((repeat (fail_if_success (with_reducible refine hK1 _ ?_)); clear hK1); (with_reducible refine hK1 _ ?_); clear hK1)))
    | (with_reducible omega)
    | (assumption)
    | ((first | ((with_reducible refine opsP_cons fun K3 hK3 => ?_); simp only [wantP, opP, valP, List.map_cons, List.map_nil]) | ((with_reducible refine opsO_first (o := ?_) ?_ fun K3 hK3 => ?_); rotate_left 1; (focus (simp only [List.getElem?_toArray, List.getElem?_cons_succ, List.getElem?_cons_zero] <;> rfl)); simp only [wantP, firstP, valP]) | ((with_reducible refine opsO_only (o := ?_) ?_ fun K3 hK3 => ?_); rotate_left 1; (focus (simp only [List.getElem?_toArray, List.getElem?_cons_succ, List.getElem?_cons_zero] <;> rfl)); simp only [wantP, opP, List.map_cons, List.map_nil, List.all_cons, List.all_nil]) | (with_reducible refine PW.condM fun X1 Y1 hX1 hY1 => ?_) | skip); simp (disch := omega) only [St.eval, St.put, upd_app, iniT_app, avOf, avOf1, wf_i64, wf_u8, nom, cellsA, AV.okv, loadA, binP, intsP, intP, nilP, unP, slA, putCells, fillA, buildA, U7, Ua, Ub, Uc, Ud, Uf, Ug, Ui, Uk, Ul, Un, Up, Ur, Us, Ut, Uu, Uv, Nat.reduceLT, Nat.reduceLeDiff, Nat.reduceAdd, Nat.reduceEqDiff, V9, Va, Vd, Ve, Vt, Int.reduceLE, Int.reduceNeg, Vu, Vf, Vg, Vn, Vo, ↓reduceIte, Vp, reduceCtorEq, Vw, Vz, UU0, UU1, UU2, UU3, UU5, UU6, Vr, Vs, sz3, sz9, sz26, ze26, pl26, fi26_0, fi26_2, Front.v, Front.c, retQ, resP, tupA, fg, fgs, condP, condB_t, firstOk, List.mem_cons]; try (with_reducible (first | exact co_refl _ | exact co_own _ _ _ | exact co_nilsB | exact co_nilsL _ _))))
  all_goals (try (focus ((try simp only [aloneV, Front.only, Front.v, Front.c, aloneBody, frontBody, frontTag, frontMay, zF, Int.reduceEq, ↓reduceIte, List.map_cons, List.map_nil]); (repeat' split) <;> (first | (exfalso; omega) | ((try ((with_reducible refine And.intro ?_ ?_); rotate_left 1; (focus (first | exact subM_row1 | exact subM_nom _ | (refine subM_box1 ?_; simp only [fgs, fg]; (repeat' (first | exact cos_refl _ | refine cos_cons ?_ ?_ | exact co_refl _ | exact co_nilsB | exact co_own _ _ _ | exact co_nilsL _ _ | exact co_nils _ | refine co_agg ?_ | refine co_tup ?_)); done))))); (first | ((repeat' (first | exact cos_refl _ | refine cos_cons ?_ ?_ | exact co_refl _ | exact co_nilsB | exact co_own _ _ _ | exact co_nilsL _ _ | exact co_nils _ | refine co_agg ?_ | refine co_tup ?_)); done) | (refine co_eq ?_; simp_all; done))) | (exfalso; simp_all; done)))))
set_option maxRecDepth 100000 in
set_option maxHeartbeats 4000000 in
theorem pRAlone3 (f : Front) (hk : f.kind = 3) : Pure Tryd.prog 46 [f.v] (aloneV f) := by
  refine pure_intro Tryd.func46 rfl rfl rfl 160 rfl (fun hh => ?_)
  obtain ⟨xk, xp, xt, xi, xs, xg⟩ := f
  simp only at hk
  subst hk
  have hmx : maxLen = 9223372036854775807 := rfl
  repeat' (first
    | ((with_reducible refine PW.nil2ownB (bx := ?_) 7 5 ?_ ?_ ?_); rotate_left 1; (focus (simp only [upd_app, Nat.reduceEqDiff, ↓reduceIte])); (focus (exact rfl)))
    | (with_reducible (first
      | refine PW.seq fun K1 hK1 => ?_
      | refine PW.region fun K2 hK2 => ?_
      | (refine hK3 _ ?_; clear hK3)
      | (refine opsP_nil ?_; refine hK2 _ ?_; clear hK2)
      | refine litX_old ?_
      | refine litC_data ?_
      | (refine Exists.intro _ (Exists.intro _ (And.intro rfl (And.intro rfl (And.intro ?_ ?_)))); focus omega)
      | (refine hK1 _ ?_; clear hK1)
      | refine nilC_intro (fun hz => ?_) ?_
      | refine PW.block ?_
      | refine PW.skip ?_
      | refine PW.exit ?_
      | refine PW.ret ?_
      | (refine hX1 ?_; clear hX1 hY1; try simp only [hb])
      | (refine hY1 ?_; clear hX1 hY1; try simp only [hb])
      | exact co_refl _
      | exact co_own _ _ _
      | exact co_nilsB
      | exact co_nilsL _ _
      | (refine opsO_nil ?_; refine hK2 _ ?_; clear hK2)
      | (refine keepO_intro ?_ ?_; focus (first | exact .inl (keep_same _ _) | exact .inl (keep_box _ _ _ _) | exact .inl (keep_hd _ _ _ _ _) | exact .inl (keep_02 _ _ _ _ _ _ _) | exact .inr ⟨rfl, rfl⟩))
      | (refine keepA_intro ?_ ?_; focus (first | exact keep_same _ _ | exact keep_box _ _ _ _ | exact keep_hd _ _ _ _ _ | exact keep_02 _ _ _ _ _ _ _))))
    | ((first | (with_reducible refine wantB_intro (fun hb => ?_) (fun hb => ?_)) | (with_reducible refine condB_intro (fun hb => ?_) (fun hb => ?_))) <;> ((try (have hp := hb; simp only [Bool.not_true, decide_eq_true_eq, decide_eq_false_iff_not] at hp)); try simp only [hb, Bool.not_true]))
    | ((with_reducible refine callP_new ?_ ?_ (pRBig4 ?_) ?_); (focus (repeat' (first | exact cos_refl _ | (refine cos_cons ?_ ?_) | exact co_refl _ | exact co_own _ _ _ | exact co_nilsB | exact co_nilsL _ _ | exact co_nils _ | (refine co_agg ?_) | (refine co_fn ?_)))); (focus (simp only [purAs, purA, Bool.and_self])))
    | ((with_reducible refine callP_pure ?_ ?_ (pRNumber ?_) (fun _ => ?_)); (focus (repeat' (first | exact cos_refl _ | (refine cos_cons ?_ ?_) | exact co_refl _ | exact co_own _ _ _ | exact co_nilsB | exact co_nilsL _ _ | exact co_nils _ | (refine co_agg ?_) | (refine co_fn ?_)))); (focus (simp only [purAs, purA, Bool.and_self])))
    | ((with_reducible refine firstP_call ?_ ?_ (pRNumber ?_) ?_); (focus (repeat' (first | exact cos_refl _ | (refine cos_cons ?_ ?_) | exact co_refl _ | exact co_own _ _ _ | exact co_nilsB | exact co_nilsL _ _ | exact co_nils _ | (refine co_agg ?_) | (refine co_fn ?_)))); (focus (simp only [purAs, purA, Bool.and_self, Bool.and_true, Front.v, Front.c, zF, big4_l])))
    | ((with_reducible refine PW.drawR (id := 16) mixed [] [(0, true), (1, true), (2, false), (3, false), (4, false), (5, true), (6, true), (7, true)] (by kernel_rfl) (by decide) fun K2 hK2 => ?_))
    | ((with_reducible refine PW.draw (id := 18) mixed [0, 2] [] [(0, true), (1, false), (2, false), (3, true), (4, true), (5, true)] (by kernel_rfl) (by decide) fun K2 hK2 => ?_))
    | ((with_reducible refine PW.draw (id := 26) mixed [0, 2] [] [(0, true), (1, true), (2, true), (3, true), (6, true), (4, false), (5, false), (7, true), (8, true), (9, true), (10, false), (11, true), (12, true), (13, true)] (by kernel_rfl) (by decide) fun K2 hK2 => ?_))
    | ((with_reducible refine PW.draw (id := 30) mixed [0, 2] [] [(0, true), (1, true), (2, true), (4, true), (5, true), (3, false), (6, false), (7, true), (8, true), (9, true)] (by kernel_rfl) (by decide) fun K2 hK2 => ?_))
    | ((with_reducible refine PW.draw (id := 35) mixed [0, 2] [] [(0, true), (1, true), (2, true), (3, true), (4, true), (5, true), (6, true), (7, true), (8, true), (9, true), (10, true), (11, true), (12, true), (13, true), (14, true), (15, true), (16, true), (17, true), (18, true), (19, true), (20, true), (21, false), (22, true), (23, true), (24, true)] (by kernel_rfl) (by decide) fun K2 hK2 => ?_))
    | ((with_reducible refine And.intro ?_ ?_); (focus (first | omega | (simp; done) | assumption)))
    | (simp only [thenP, blockP]; (try ((repeat (fail_if_success (with_reducible refine hK1 _ ?_)); clear hK1); (with_reducible refine hK1 _ ?_); clear hK1)))
    | (with_reducible omega)
    | (assumption)
    | ((first | ((with_reducible refine opsP_cons fun K3 hK3 => ?_); simp only [wantP, opP, valP, List.map_cons, List.map_nil]) | ((with_reducible refine opsO_first (o := ?_) ?_ fun K3 hK3 => ?_); rotate_left 1; (focus (simp only [List.getElem?_toArray, List.getElem?_cons_succ, List.getElem?_cons_zero] <;> rfl)); simp only [wantP, firstP, valP]) | ((with_reducible refine opsO_only (o := ?_) ?_ fun K3 hK3 => ?_); rotate_left 1; (focus (simp only [List.getElem?_toArray, List.getElem?_cons_succ, List.getElem?_cons_zero] <;> rfl)); simp only [wantP, opP, List.map_cons, List.map_nil, List.all_cons, List.all_nil]) | (with_reducible refine PW.condM fun X1 Y1 hX1 hY1 => ?_) | skip); simp (disch := omega) only [St.eval, St.put, upd_app, iniT_app, avOf, avOf1, wf_i64, wf_u8, nom, cellsA, AV.okv, loadA, binP, intsP, intP, nilP, builtinP, appP, srcA, srcTy, isBsl, slA, putCells, fillA, buildA, encB_len, encB_append, U7, Ua, Ub, Uc, Ud, Uf, Ug, Ui, Uk, Ul, Un, Up, Ur, Us, Ut, Uu, Uv, Uz, V2, V4, Nat.reduceLT, Nat.reduceLeDiff, Nat.reduceAdd, Nat.reduceMul, Nat.reduceEqDiff, V9, Va, Vd, Ve, Vt, Int.reduceLE, Int.reduceNeg, Vu, Vf, Vg, Vn, Vo, ↓reduceIte, Vp, reduceCtorEq, Vw, Vz, UU0, UU1, UU2, UU3, UU5, UU6, Vr, Vs, sz3, ze5, by5, el22, sz26, ze26, pl26, fi26_0, fi26_3, fi26_4, Front.v, Front.c, big4_l, retQ, resP, tupA, fg, fgs, condP, condB_t, firstOk, List.mem_cons]; try (with_reducible (first | exact co_refl _ | exact co_own _ _ _ | exact co_nilsB | exact co_nilsL _ _))))
  all_goals
    unfold aloneV
    refine co_tup (cos_cons ?_ (cos_cons ?_ (cos_cons ?_ (cos_cons (co_eq (congrArg (fun b => AV.d (.bool b)) ?_)) cos_nil))))
    · simp only [Front.only, Front.v, Front.c, zF, Int.reduceEq, ↓reduceIte, List.map_cons, List.map_nil]
      (repeat' (first | exact cos_refl _ | refine cos_cons ?_ ?_ | exact co_refl _ | exact co_nilsB | exact co_own _ _ _ | exact co_nilsL _ _ | exact co_nils _ | refine co_agg ?_ | refine co_tup ?_))
    · simp only [aloneBody, frontBody, Int.reduceEq, ↓reduceIte]
      (repeat' (first | exact cos_refl _ | refine cos_cons ?_ ?_ | exact co_refl _ | exact co_nilsB | exact co_own _ _ _ | exact co_nilsL _ _ | exact co_nils _ | refine co_agg ?_ | refine co_tup ?_))
    · simp only [frontTag, Int.reduceEq, ↓reduceIte]
      exact co_refl _
    · simp only [frontMay, Int.reduceEq, ↓reduceIte]
      rw [hb]; simp
set_option maxRecDepth 100000 in
set_option maxHeartbeats 4000000 in
theorem pRAlone6 (f : Front) (hk : f.kind = 6) : Pure Tryd.prog 46 [f.v] (aloneV f) := by
  refine pure_intro Tryd.func46 rfl rfl rfl 160 rfl (fun hh => ?_)
  obtain ⟨xk, xp, xt, xi, xs, xg⟩ := f
  simp only at hk
  subst hk
  have hmx : maxLen = 9223372036854775807 := rfl
  repeat' (first
    | (with_reducible (first
      | refine PW.seq fun K1 hK1 => ?_
      | refine PW.region fun K2 hK2 => ?_
      | (refine hK3 _ ?_; clear hK3)
      | (refine opsP_nil ?_; refine hK2 _ ?_; clear hK2)
      | refine litX_old ?_
      | refine litC_data ?_
      | (refine Exists.intro _ (Exists.intro _ (And.intro rfl (And.intro rfl (And.intro ?_ ?_)))); focus omega)
      | (refine hK1 _ ?_; clear hK1)
      | refine nilC_intro (fun hz => ?_) ?_
      | refine PW.block ?_
      | refine PW.skip ?_
      | refine PW.exit ?_
      | refine PW.ret ?_
      | (refine hX1 ?_; clear hX1 hY1; try simp only [hb])
      | (refine hY1 ?_; clear hX1 hY1; try simp only [hb])
      | exact co_refl _
      | exact co_own _ _ _
      | exact co_nilsB
      | exact co_nilsL _ _
      | (refine opsO_nil ?_; refine hK2 _ ?_; clear hK2)
      | (refine keepO_intro ?_ ?_; focus (first | exact .inl (keep_same _ _) | exact .inl (keep_box _ _ _ _) | exact .inl (keep_hd _ _ _ _ _) | exact .inl (keep_02 _ _ _ _ _ _ _) | exact .inr ⟨rfl, rfl⟩))
      | (refine keepA_intro ?_ ?_; focus (first | exact keep_same _ _ | exact keep_box _ _ _ _ | exact keep_hd _ _ _ _ _ | exact keep_02 _ _ _ _ _ _ _))))
    | ((first | (with_reducible refine wantB_intro (fun hb => ?_) (fun hb => ?_)) | (with_reducible refine condB_intro (fun hb => ?_) (fun hb => ?_))) <;> ((try (have hp := hb; simp only [Bool.not_eq_eq_eq_not, Bool.not_true, Bool.not_false, decide_eq_true_eq, decide_eq_false_iff_not, Int.not_le] at hp)); try simp only [hb, Bool.not_true]))
    | ((with_reducible refine callP_new ?_ ?_ (pRBig4 ?_) ?_); (focus (repeat' (first | exact cos_refl _ | (refine cos_cons ?_ ?_) | exact co_refl _ | exact co_own _ _ _ | exact co_nilsB | exact co_nilsL _ _ | exact co_nils _ | (refine co_agg ?_) | (refine co_fn ?_)))); (focus (simp only [purAs, purA, Bool.and_self, Bool.and_true, Front.v, Front.c, zF, big4_l])))
    | ((with_reducible refine PW.drawR (id := 16) mixed [] [(0, true), (1, true), (2, false), (3, false), (4, false), (5, true), (6, true), (7, true)] (by kernel_rfl) (by decide) fun K2 hK2 => ?_))
    | ((with_reducible refine PW.draw (id := 18) mixed [0, 2] [] [(0, true), (1, false), (2, false), (3, true), (4, true), (5, true)] (by kernel_rfl) (by decide) fun K2 hK2 => ?_))
    | ((with_reducible refine PW.draw (id := 26) mixed [0, 2] [] [(0, true), (1, true), (2, true), (3, true), (6, true), (4, false), (5, false), (7, true), (8, true), (9, true), (10, false), (11, true), (12, true), (13, true)] (by kernel_rfl) (by decide) fun K2 hK2 => ?_))
    | ((with_reducible refine PW.draw (id := 30) mixed [0, 2] [] [(0, true), (1, true), (2, true), (4, true), (5, true), (3, false), (6, false), (7, true), (8, true), (9, true)] (by kernel_rfl) (by decide) fun K2 hK2 => ?_))
    | ((with_reducible refine PW.draw (id := 35) mixed [0, 2] [] [(0, true), (1, true), (2, true), (3, true), (4, true), (5, true), (6, true), (7, true), (8, true), (9, true), (10, true), (11, true), (12, true), (13, true), (14, true), (15, true), (16, true), (17, true), (18, true), (19, true), (20, true), (21, false), (22, true), (23, true), (24, true)] (by kernel_rfl) (by decide) fun K2 hK2 => ?_))
    | ((with_reducible refine And.intro ?_ ?_); (focus (first | omega | (simp; done) | assumption)))
    | (simp only [thenP, blockP]; (try ((repeat (fail_if_success (with_reducible refine hK1 _ ?_)); clear hK1); (with_reducible refine hK1 _ ?_); clear hK1)))
    | (with_reducible omega)
    | (assumption)
    | ((first | ((with_reducible refine opsP_cons fun K3 hK3 => ?_); simp only [wantP, opP, valP, List.map_cons, List.map_nil]) | ((with_reducible refine opsO_first (o := ?_) ?_ fun K3 hK3 => ?_); rotate_left 1; (focus (simp only [List.getElem?_toArray, List.getElem?_cons_succ, List.getElem?_cons_zero] <;> rfl)); simp only [wantP, firstP, valP]) | ((with_reducible refine opsO_only (o := ?_) ?_ fun K3 hK3 => ?_); rotate_left 1; (focus (simp only [List.getElem?_toArray, List.getElem?_cons_succ, List.getElem?_cons_zero] <;> rfl)); simp only [wantP, opP, List.all_cons, List.all_nil]) | (with_reducible refine PW.condM fun X1 Y1 hX1 hY1 => ?_) | skip); simp (disch := omega) only [wantB_tt, wantB_ft, St.eval, St.put, upd_app, iniT_app, avOf, avOf1, wf_i64, wf_u8, nom, cellsA, AV.okv, loadA, binP, intsP, intP, eqP, nilP, slA, putCells, fillA, buildA, U7, Ua, Ub, Uc, Ud, Uf, Ug, Uk, Ul, Un, Up, Ur, Us, Ut, Uu, Uz, V4, Nat.reduceLT, Nat.reduceAdd, Nat.reduceEqDiff, V9, Va, Ve, Vt, Int.reduceLE, Int.reduceNeg, Vu, Vf, Vg, Vn, ↓reduceIte, Vp, reduceCtorEq, Vw, Vz, UU0, UU1, UU2, UU3, UU5, UU6, Vr, Vs, sz3, sz5, sz26, ze26, pl26, fi26_0, fi26_5, Front.v, Front.c, retQ, resP, tupA, fg, fgs, condP, condB_t, firstOk, List.mem_cons]; try (with_reducible (first | exact co_refl _ | exact co_own _ _ _ | exact co_nilsB | exact co_nilsL _ _))))
  all_goals
    unfold aloneV
    refine co_tup (cos_cons ?_ (cos_cons ?_ (cos_cons ?_ (cos_cons (co_eq (congrArg (fun b => AV.d (.bool b)) ?_)) cos_nil))))
    · simp only [Front.only, Front.v, Front.c, zF, Int.reduceEq, ↓reduceIte, List.map_cons, List.map_nil]
      (repeat' (first | exact cos_refl _ | refine cos_cons ?_ ?_ | exact co_refl _ | exact co_nilsB | exact co_own _ _ _ | exact co_nilsL _ _ | exact co_nils _ | refine co_agg ?_ | refine co_tup ?_))
    · simp only [aloneBody, frontBody, Int.reduceEq, ↓reduceIte]
      (repeat' (first | exact cos_refl _ | refine cos_cons ?_ ?_ | exact co_refl _ | exact co_nilsB | exact co_own _ _ _ | exact co_nilsL _ _ | exact co_nils _ | refine co_agg ?_ | refine co_tup ?_))
    · simp only [frontTag, Int.reduceEq, ↓reduceIte]
      exact co_refl _
    · simp only [frontMay, Int.reduceEq, ↓reduceIte]
      have e01 : decide (0 < xg) = decide (1 ≤ xg) := decide_eq_decide.2 (by omega)
      have e02 : decide (xg < 128) = decide (xg ≤ 127) := decide_eq_decide.2 (by omega)
      unfold tagOk
      rw [e01, e02]
      simp only [*, Bool.not_true, Bool.false_and, Bool.and_false, Bool.and_self] <;> first | (simp; done) | decide
set_option maxRecDepth 100000 in
set_option maxHeartbeats 4000000 in
theorem pRAlone0 (f : Front) (hk : f.kind < 1 ∨ 6 < f.kind) : Pure Tryd.prog 46 [f.v] (aloneV f) := by
  refine pure_intro Tryd.func46 rfl rfl rfl 160 rfl (fun hh => ?_)
  obtain ⟨xk, xp, xt, xi, xs, xg⟩ := f
  simp only at hk
  have k1 := eq_false (show ¬ xk = 1 by omega); have k2 := eq_false (show ¬ xk = 2 by omega); have k3 := eq_false (show ¬ xk = 3 by omega)
  have k4 := eq_false (show ¬ xk = 4 by omega); have k5 := eq_false (show ¬ xk = 5 by omega); have k6 := eq_false (show ¬ xk = 6 by omega)
  repeat' (first
    | (with_reducible (first
      | refine PW.seq fun K1 hK1 => ?_
      | refine PW.region fun K2 hK2 => ?_
      | (refine hK3 _ ?_; clear hK3)
      | (refine opsP_nil ?_; refine hK2 _ ?_; clear hK2)
      | refine litX_old ?_
      | refine litC_data ?_
      | (refine Exists.intro _ (Exists.intro _ (And.intro rfl (And.intro rfl (And.intro ?_ ?_)))); focus omega)
      | (refine hK1 _ ?_; clear hK1)
      | refine nilC_intro (fun hz => ?_) ?_
      | refine PW.block ?_
      | refine PW.skip ?_
      | refine PW.exit ?_
      | refine PW.ret ?_
      | (refine hX1 ?_; clear hX1 hY1; try simp only [hb])
      | (refine hY1 ?_; clear hX1 hY1; try simp only [hb])
      | exact co_refl _
      | exact co_own _ _ _
      | exact co_nilsB
      | exact co_nilsL _ _
      | (refine opsO_nil ?_; refine hK2 _ ?_; clear hK2)
      | (refine keepO_intro ?_ ?_; focus (first | exact .inl (keep_same _ _) | exact .inl (keep_box _ _ _ _) | exact .inl (keep_hd _ _ _ _ _) | exact .inl (keep_02 _ _ _ _ _ _ _) | exact .inr ⟨rfl, rfl⟩))
      | (refine keepA_intro ?_ ?_; focus (first | exact keep_same _ _ | exact keep_box _ _ _ _ | exact keep_hd _ _ _ _ _ | exact keep_02 _ _ _ _ _ _ _))))
    | ((first | (with_reducible refine wantB_intro (fun hb => ?_) (fun hb => ?_)) | (with_reducible refine condB_intro (fun hb => ?_) (fun hb => ?_))) <;> ((try (have hp := hb; simp only [Bool.and_eq_true, Bool.or_eq_true, Bool.not_eq_true', Bool.not_eq_false', Bool.and_eq_false_iff, Bool.or_eq_false_iff, Bool.not_eq_eq_eq_not, Bool.not_true, Bool.not_false, decide_eq_true_eq, decide_eq_false_iff_not, Int.not_lt, Int.not_le, beq_iff_eq, beq_eq_false_iff_ne, ne_eq] at hp)); try simp only [hb, Bool.not_true, Bool.not_false]))
    | ((with_reducible refine callP_new ?_ ?_ (pRBig4 ?_) ?_); (focus (repeat' (first | exact cos_refl _ | (refine cos_cons ?_ ?_) | exact co_refl _ | exact co_own _ _ _ | exact co_nilsB | exact co_nilsL _ _ | exact co_nils _ | (refine co_agg ?_) | (refine co_fn ?_)))); (focus (simp only [purAs, purA, Bool.and_self, Bool.and_true, Front.v, Front.c, zF, big4_l, k1, k2, k3, k4, k5, k6])))
    | ((with_reducible refine PW.drawR (id := 16) mixed [] [(0, true), (1, true), (2, false), (3, false), (4, false), (5, true), (6, true), (7, true)] (by kernel_rfl) (by decide) fun K2 hK2 => ?_))
    | ((with_reducible refine PW.draw (id := 18) mixed [0, 2] [] [(0, true), (1, false), (2, false), (3, true), (4, true), (5, true)] (by kernel_rfl) (by decide) fun K2 hK2 => ?_))
    | ((with_reducible refine PW.draw (id := 26) mixed [0, 2] [] [(0, true), (1, true), (2, true), (3, true), (6, true), (4, false), (5, false), (7, true), (8, true), (9, true), (10, false), (11, true), (12, true), (13, true)] (by kernel_rfl) (by decide) fun K2 hK2 => ?_))
    | ((with_reducible refine PW.draw (id := 30) mixed [0, 2] [] [(0, true), (1, true), (2, true), (4, true), (5, true), (3, false), (6, false), (7, true), (8, true), (9, true)] (by kernel_rfl) (by decide) fun K2 hK2 => ?_))
    | ((with_reducible refine PW.draw (id := 35) mixed [0, 2] [] [(0, true), (1, true), (2, true), (3, true), (4, true), (5, true), (6, true), (7, true), (8, true), (9, true), (10, true), (11, true), (12, true), (13, true), (14, true), (15, true), (16, true), (17, true), (18, true), (19, true), (20, true), (21, false), (22, true), (23, true), (24, true)] (by kernel_rfl) (by decide) fun K2 hK2 => ?_))
    | ((with_reducible refine And.intro ?_ ?_); (focus (first | omega | (simp; done) | assumption)))
    | (simp only [thenP, blockP]; (try ((repeat (fail_if_success (with_reducible refine hK1 _ ?_)); clear hK1); (with_reducible refine hK1 _ ?_); clear hK1)))
    | (with_reducible omega)
    | (assumption)
    | ((first | ((with_reducible refine opsP_cons fun K3 hK3 => ?_); simp only [wantP, opP, valP, List.map_cons, List.map_nil]) | ((with_reducible refine opsO_first (o := ?_) ?_ fun K3 hK3 => ?_); rotate_left 1; (focus (simp only [List.getElem?_toArray, List.getElem?_cons_succ, List.getElem?_cons_zero] <;> rfl)); simp only [wantP, firstP, valP, List.toList_toArray, Array.toList_empty, List.map_cons, List.map_nil, List.mapM_cons, List.mapM_nil, List.all_cons, List.all_nil]) | ((with_reducible refine opsO_only (o := ?_) ?_ fun K3 hK3 => ?_); rotate_left 1; (focus (simp only [List.getElem?_toArray, List.getElem?_cons_succ, List.getElem?_cons_zero] <;> rfl)); simp only [wantP, opP, valP, List.toList_toArray, Array.toList_empty, List.map_cons, List.map_nil, List.mapM_cons, List.mapM_nil, List.all_cons, List.all_nil]) | (with_reducible refine PW.condM fun X1 Y1 hX1 hY1 => ?_) | skip); simp (disch := omega) only [St.eval, St.put, upd_app, iniT_app, avOf, avOf1, wf_i64, wf_u8, nom, cellsA, AV.okv, loadA, binP, intsP, intP, nilP, slA, putCells, fillA, buildA, U7, Ua, Ub, Uc, Ud, Uf, Ug, Uk, Un, Up, Ur, Us, Ut, Uu, Nat.reduceLT, Nat.reduceAdd, Nat.reduceEqDiff, V9, Va, Ve, Vt, Int.reduceLE, Int.reduceNeg, Vu, Vv, Vf, ↓reduceIte, reduceCtorEq, Vw, Vz, UU0, UU2, UU3, Vr, Vs, sz3, sz26, ze26, pl26, fi26_0, Front.v, Front.c, k1, k2, k3, k4, k5, k6, retQ, resP, tupA, fg, fgs, condP, condB_f]; try (with_reducible (first | exact co_refl _ | exact co_own _ _ _ | exact co_nilsB | exact co_nilsL _ _))))
  all_goals (try (focus ((try simp only [aloneV, Front.only, Front.v, Front.c, aloneBody, frontBody, frontTag, frontMay, zF, k1, k2, k3, k4, k5, k6, ↓reduceIte, List.map_cons, List.map_nil]); (repeat' split) <;> (first | (exfalso; omega) | ((try ((with_reducible refine And.intro ?_ ?_); rotate_left 1; (focus (first | exact subM_row1 | exact subM_nom _ | (refine subM_box1 ?_; simp only [fgs, fg]; (repeat' (first | exact cos_refl _ | refine cos_cons ?_ ?_ | exact co_refl _ | exact co_nilsB | exact co_own _ _ _ | exact co_nilsL _ _ | exact co_nils _ | refine co_agg ?_ | refine co_tup ?_)); done))))); (first | ((repeat' (first | exact cos_refl _ | refine cos_cons ?_ ?_ | exact co_refl _ | exact co_nilsB | exact co_own _ _ _ | exact co_nilsL _ _ | exact co_nils _ | refine co_agg ?_ | refine co_tup ?_)); done) | (refine co_eq ?_; simp_all; done))) | (exfalso; simp_all; done)))))
end PM
end Go.Proofs.YthaekefdadccaaaDoor
