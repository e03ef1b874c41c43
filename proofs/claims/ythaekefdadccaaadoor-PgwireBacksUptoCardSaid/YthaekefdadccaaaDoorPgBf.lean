/- pgwire in the abstract: the columns of a row's head as bytes. -/
import Derived.Test.YthaekefdadccaaaDoorPgBk
import Derived.Test.YthaekefdadccaaaDoorPg13
namespace Go.Proofs.YthaekefdadccaaaDoor
open Go.RowKit
namespace PM
/-- a map that is handed back is as it is -/
theorem PW.freezeRet {P : Program} {Q : Exit → St → Prop} {s : St} (i : Nat) (ka va : Bool) {e : TypeId} {cs0 : List AV} {ks vs : List (List DV)} (hb : s.m.box[i]? = some (some (e, cs0))) (he : 4294967296 ≤ e) (hd : entD ka va cs0 = some (ks, vs)) (h : Q .ret ⟨fun j => frz i (fzM ka va ks vs) (s.t j), s.n, frzM i (fzM ka va ks vs) s.m⟩) : PW P .ret Q s := PW.freezeMap i ka va he hb hd (PW.ret h)
def colsV : AV := .d (.mpd false true [[.int .i64 1], [.int .i64 2], [.int .i64 3]] [[.int .i64 20, .int .i64 8], [.int .i64 16, .int .i64 1], [.int .i64 25, .int .i64 (-1)]])
set_option maxRecDepth 100000 in
theorem pColumns : Pure Tryd.prog 69 [] colsV := by
  refine pure_intro Tryd.func69 rfl rfl rfl 6 rfl (fun hh => ?_)
  repeat' (first
    | ((with_reducible refine PW.freezeRet 0 false true (e := ?_) (cs0 := ?_) (ks := ?_) (vs := ?_) ?_ ?_ ?_ ?_); rotate_left 4; (focus (exact rfl)); (focus (exact Nat.le_refl _)); (focus (exact rfl)); simp only [upd_app, Int.reduceNeg, ↓reduceIte, retQ, resP, tupA, fg, frz, fzM, retQ, resP, tupA, fg])
    | (with_reducible (first
      | refine PW.seq fun K1 hK1 => ?_
      | refine PW.region fun K2 hK2 => ?_
      | (refine hK3 _ ?_; clear hK3)
      | (refine opsP_nil ?_; refine hK2 _ ?_; clear hK2)
      | refine litX_old ?_
      | refine litC_data ?_
      | (refine Exists.intro _ (Exists.intro _ (And.intro rfl (And.intro rfl (And.intro ?_ ?_)))); focus omega)
      | (refine hK1 _ ?_; clear hK1)
      | refine nilC_intro (fun hz => ?_) ?_
      | refine PW.block ?_
      | refine PW.skip ?_
      | refine PW.exit ?_
      | refine PW.ret ?_
      | (refine hX1 ?_; clear hX1 hY1; try simp only [hb])
      | (refine hY1 ?_; clear hX1 hY1; try simp only [hb])
      | exact co_refl _
      | exact co_own _ _ _
      | exact co_nilsB
      | exact co_nilsL _ _))
    | ((first | (with_reducible refine wantB_intro (fun hb => ?_) (fun hb => ?_)) | (with_reducible refine condB_intro (fun hb => ?_) (fun hb => ?_))) <;> ((try (have hp := hb; simp only [Bool.and_eq_true, Bool.or_eq_true, Bool.not_eq_true', Bool.not_eq_false', Bool.and_eq_false_iff, Bool.or_eq_false_iff, Bool.not_eq_eq_eq_not, Bool.not_true, Bool.not_false, decide_eq_true_eq, decide_eq_false_iff_not, Int.not_lt, Int.not_le, beq_iff_eq, beq_eq_false_iff_ne, ne_eq] at hp)); try simp only [hb, Bool.not_true, Bool.not_false]))
    | ((with_reducible refine And.intro ?_ ?_); (focus (first | omega | (simp; done) | assumption)))
    | (simp only [thenP]; (try ((repeat (fail_if_success (with_reducible refine hK1 _ ?_)); clear hK1); (with_reducible refine hK1 _ ?_); clear hK1)))
    | (with_reducible omega)
    | (assumption)
    | ((first | ((with_reducible refine opsP_cons fun K3 hK3 => ?_); simp only [wantP, opP, valP, List.map_cons, List.map_nil]) | (with_reducible refine PW.condM fun X1 Y1 hX1 hY1 => ?_) | skip); simp (disch := omega) only [St.eval, St.put, upd_app, avOf, avOf1, wf_i64, nom, cellsA, AV.okv, dvEqC, keyOk, keyEq, findK, mapSetP, U3, putCells, fillA, buildA, Ua, Ub, Uc, Ud, Uf, Ug, Ut, Uu, V2, V3, Nat.reduceLT, Nat.reduceAdd, Nat.reduceEqDiff, V9, Vd, Ve, Vt, Int.reduceLE, Int.reduceNeg, Vu, Vv, Vf, ↓reduceIte, reduceCtorEq, Vw, UU0, UU2, UU3, Vr, cl3, ps3, mo110, ze113, pl113, Int.reduceEq]; try (with_reducible (first | exact co_refl _ | exact co_own _ _ _ | exact co_nilsB | exact co_nilsL _ _))))
  exact co_refl _
set_option maxRecDepth 100000 in
set_option maxHeartbeats 4000000 in
theorem pFields (l : List (List Int × Int)) (hz : (fldsF l).length ≤ 100000000000) : Pure Tryd.prog 38 [.d (.sl 2 (encL fldC l))] (.tup [bs (fldsBody l), .d (.bool (fldsMay l))]) := by
  refine pure_intro Tryd.func38 rfl rfl rfl 58 rfl (fun hh => ?_)
  have hmx : maxLen = 9223372036854775807 := rfl
  have hfl : l.length ≤ 9223372036854775807 := by
    have := (has_sl (hh (.d (.sl 2 (encL fldC l))) (by simp))).1
    rw [encL_len] at this
    omega
  have hbad : l.all fldOk = false → Co (.tup [.nils, .d (.bool false)]) (.tup [bs (fldsBody l), .d (.bool (fldsMay l))]) := fun h => by
    unfold fldsBody fldsMay
    rw [h]
    exact co_tup (cos_cons co_nilsB (cos_cons (co_refl _) cos_nil))
  obtain ⟨C, hC⟩ : ∃ C, colsV = C := ⟨_, rfl⟩
  have pC := pColumns
  rw [hC] at pC
  repeat' (first
    | (with_reducible (first
      | refine PW.seq fun K1 hK1 => ?_
      | refine PW.region fun K2 hK2 => ?_
      | (refine hK3 _ ?_; clear hK3)
      | (refine opsP_nil ?_; refine hK2 _ ?_; clear hK2)
      | refine litX_old ?_
      | refine litC_data ?_
      | (refine Exists.intro _ (Exists.intro _ (And.intro rfl (And.intro rfl (And.intro ?_ ?_)))); focus omega)
      | (refine hK1 _ ?_; clear hK1)
      | refine nilC_intro (fun hz => ?_) ?_
      | refine PW.block ?_
      | refine PW.skip ?_
      | refine PW.exit ?_
      | refine PW.ret ?_
      | (refine hX1 ?_; clear hX1 hY1; try simp only [hb])
      | (refine hY1 ?_; clear hX1 hY1; try simp only [hb])
      | exact co_refl _
      | exact co_own _ _ _
      | exact co_nilsB
      | exact co_nilsL _ _
      | (refine opsO_nil ?_; refine hK2 _ ?_; clear hK2)
      | (refine keepO_intro ?_ ?_; focus (first | exact .inl (keep_same _ _) | exact .inl (keep_box _ _ _ _) | exact .inl (keep_hd _ _ _ _ _) | exact .inl (keep_02 _ _ _ _ _ _ _) | exact .inr ⟨rfl, rfl⟩))
      | (refine keepA_intro ?_ ?_; focus (first | exact keep_same _ _ | exact keep_box _ _ _ _ | exact keep_hd _ _ _ _ _ | exact keep_02 _ _ _ _ _ _ _))))
    | ((first | (with_reducible refine wantB_intro (fun hb => ?_) (fun hb => ?_)) | (with_reducible refine condB_intro (fun hb => ?_) (fun hb => ?_))) <;> ((try (have hp := hb; simp only [Bool.and_eq_true, Bool.or_eq_true, Bool.not_eq_true', Bool.not_eq_false', Bool.and_eq_false_iff, Bool.or_eq_false_iff, Bool.not_eq_eq_eq_not, Bool.not_true, Bool.not_false, decide_eq_true_eq, decide_eq_false_iff_not, Int.not_lt, Int.not_le, beq_iff_eq, beq_eq_false_iff_ne, ne_eq] at hp)); try simp only [hb, Bool.not_true, Bool.not_false]))
    | ((with_reducible refine callP_new ?_ ?_ (pBig2 ?_) ?_); (focus (repeat' (first | exact cos_refl _ | (refine cos_cons ?_ ?_) | exact co_refl _ | exact co_own _ _ _ | exact co_nilsB | exact co_nilsL _ _ | exact co_nils _ | (refine co_agg ?_) | (refine co_fn ?_)))); (focus (simp only [purAs, purA, Bool.and_self])))
    | ((with_reducible refine callP_pure ?_ ?_ (pC) (fun _ => ?_)); (focus (repeat' (first | exact cos_refl _ | (refine cos_cons ?_ ?_) | exact co_refl _ | exact co_own _ _ _ | exact co_nilsB | exact co_nilsL _ _ | exact co_nils _ | (refine co_agg ?_) | (refine co_fn ?_)))); (focus (simp only [purAs])))
    | ((with_reducible refine firstP_call ?_ ?_ (pC) ?_); (focus (repeat' (first | exact cos_refl _ | (refine cos_cons ?_ ?_) | exact co_refl _ | exact co_own _ _ _ | exact co_nilsB | exact co_nilsL _ _ | exact co_nils _ | (refine co_agg ?_) | (refine co_fn ?_)))); (focus (simp only [purAs, purA, Bool.and_self, Bool.and_true])))
    | ((with_reducible refine PW.drawR (id := 10) mixed [] [(0, true), (1, true), (2, true), (4, true), (5, true), (3, false), (6, false), (7, true)] (by kernel_rfl) (by decide) fun K2 hK2 => ?_))
    | ((with_reducible refine And.intro ?_ ?_); (focus (first | omega | (simp; done) | assumption)))
    | (simp only [thenP]; (try ((repeat (fail_if_success (with_reducible refine hK1 _ ?_)); clear hK1); (with_reducible refine hK1 _ ?_); clear hK1)))
    | (with_reducible omega)
    | (assumption)
    | ((first | ((with_reducible refine opsP_cons fun K3 hK3 => ?_); simp only [wantP, opP, valP, List.map_cons, List.map_nil]) | ((with_reducible refine opsO_first (o := ?_) ?_ fun K3 hK3 => ?_); rotate_left 1; (focus (simp only [List.getElem?_toArray, List.getElem?_cons_succ, List.getElem?_cons_zero] <;> rfl)); simp only [wantP, firstP, valP, List.toList_toArray, Array.toList_empty, List.map_cons, List.map_nil, List.mapM_cons, List.mapM_nil, List.all_cons, List.all_nil]) | ((with_reducible refine opsO_only (o := ?_) ?_ fun K3 hK3 => ?_); rotate_left 1; (focus (simp only [List.getElem?_toArray, List.getElem?_cons_succ, List.getElem?_cons_zero] <;> rfl)); simp only [wantP, opP, valP, List.toList_toArray, Array.toList_empty, List.map_cons, List.map_nil, List.mapM_cons, List.mapM_nil, List.all_cons, List.all_nil]) | (with_reducible refine PW.condM fun X1 Y1 hX1 hY1 => ?_) | skip); simp (disch := omega) only [St.eval, St.put, upd_app, iniT_app, avOf, avOf1, wf_i64, nom, lenP, builtinP, isMapA, encL_len, U7, Ug, Ut, Uv, Nat.reduceLT, Int.reduceLE, Int.reduceNeg, Vu, Vf, ↓reduceIte, Vp, reduceCtorEq, Tryd.underlying32]; try (with_reducible (first | exact co_refl _ | exact co_own _ _ _ | exact co_nilsB | exact co_nilsL _ _))))
  (with_reducible refine PW.loop (fun n s => ∃ k : Nat, s.t 0 = .d (.sl 2 (encL fldC l)) ∧ s.t 4 = C ∧ s.t 5 = .own 0 1 (encB (big2 l.length ++ fldsF (l.take k))) ∧ s.t 14 = .d (.sl 2 (encL fldC l)) ∧ s.t 15 = .d (.int .i64 l.length) ∧ s.t 16 = .d (.int .i64 k) ∧ s.n = 58 ∧
    s.m = ⟨[], [some ⟨5, 1, (big2 l.length ++ fldsF (l.take k)).length⟩]⟩ ∧ k ≤ l.length ∧ n = l.length - k ∧ (l.take k).all fldOk = true) l.length ?_ ?_)
  · exact ⟨0, rfl, rfl, rfl, rfl, rfl, rfl, rfl, rfl, Nat.zero_le _, rfl, rfl⟩
  rintro n ⟨t, nn, m⟩ ⟨k, h0, h4, h5, h14, h15, h16, hn, hm, hk, hnk, hok⟩ - -
  simp only at h0 h4 h5 h14 h15 h16 hn hm
  subst hn hm
  by_cases hlt : (k : Int) < l.length
  · have hlt' := eq_true hlt
    obtain ⟨p, hx⟩ : ∃ x, l[k]? = some x := ⟨_, List.getElem?_eq_getElem (by omega)⟩
    have hsz := fldsF_at hx
    have hsn := fldsF_snoc hx
    have hno := fun h => hbad (all_not hx h)
    have hyes := fun h => all_more hok hx h
    have hlb : (big2 l.length).length = 2 := rfl
    obtain ⟨cur, hcur⟩ : ∃ cur, big2 l.length ++ fldsF (l.take k) = cur := ⟨_, rfl⟩
    have hcl : cur.length ≤ 100000000002 ∧ cur.length + (fldB p).length ≤ 100000000002 := by
      rw [← hcur, List.length_append, hlb]; omega
    rw [hcur] at h5 ⊢
    rw [fldB_len] at hcl
    have hsn' : big2 l.length ++ fldsF (l.take (k + 1)) = cur ++ fldB p := by rw [hsn, ← hcur, List.append_assoc]
    obtain ⟨a, ty⟩ := p
    simp only at hcl
    have hw : IntKind.i64.wrap ((k : Int) + 1) = (k : Int) + 1 := wl_i64 (by simp only [Bool.and_eq_true, decide_eq_true_eq]; omega)
    have hX1 := pText1o cur a (by omega)
    have hX2 := pBig4o (cur ++ a ++ [0]) 0 (by simp only [List.length_append, List.length_cons, List.length_nil]; omega)
    have hX3 := pBig2o (cur ++ a ++ [0] ++ big4 0) 0 (by simp only [List.length_append, big4_l, List.length_cons, List.length_nil]; omega)
    have hX4 := fun n => pBig4o (cur ++ a ++ [0] ++ big4 0 ++ big2 0) n (by simp only [List.length_append, big4_l, show (big2 0).length = 2 from rfl, List.length_cons, List.length_nil]; omega)
    have hX5 := fun n n' => pBig2o (cur ++ a ++ [0] ++ big4 0 ++ big2 0 ++ big4 n) n' (by simp only [List.length_append, big4_l, show (big2 0).length = 2 from rfl, List.length_cons, List.length_nil]; omega)
    have hX6 := fun n n' => pBig4o (cur ++ a ++ [0] ++ big4 0 ++ big2 0 ++ big4 n ++ big2 n') (-1) (by simp only [List.length_append, big4_l, show (big2 0).length = 2 from rfl, show (big2 n').length = 2 from rfl, List.length_cons, List.length_nil]; omega)
    have hX7 := fun n n' => pBig2o (cur ++ a ++ [0] ++ big4 0 ++ big2 0 ++ big4 n ++ big2 n' ++ big4 (-1)) 0 (by simp only [List.length_append, big4_l, show (big2 0).length = 2 from rfl, show (big2 n').length = 2 from rfl, List.length_cons, List.length_nil]; omega)
    have hcl1 := pClean1 a
    have hsn2 : big2 l.length ++ fldsF (l.take (k + 1)) = cur ++ a ++ [0] ++ big4 0 ++ big2 0 ++ big4 (colN ty) ++ big2 (colS ty) ++ big4 (-1) ++ big2 0 := by rw [hsn']; unfold fldB; simp only [List.append_assoc]
    have hl2 : (big2 (l.length : Int)).length + (fldsF (l.take (k + 1))).length = _ := (by rw [← List.length_append, hsn2])
    by_cases hty : ty = 1 ∨ ty = 2 ∨ ty = 3
    · rcases hty with rfl | rfl | rfl
      all_goals
        subst hC
        repeat' (first
          | (with_reducible (first
            | refine PW.seq fun K1 hK1 => ?_
            | refine PW.region fun K2 hK2 => ?_
            | (refine hK3 _ ?_; clear hK3)
            | (refine opsP_nil ?_; refine hK2 _ ?_; clear hK2)
            | refine litX_old ?_
            | refine litC_data ?_
            | (refine Exists.intro _ (Exists.intro _ (And.intro rfl (And.intro rfl (And.intro ?_ ?_)))); focus omega)
            | (refine hK1 _ ?_; clear hK1)
            | refine nilC_intro (fun hz => ?_) ?_
            | refine PW.block ?_
            | refine PW.skip ?_
            | refine PW.exit ?_
            | refine PW.ret ?_
            | (refine hX1 ?_; clear hX1 hY1; try simp only [hb])
            | (refine hY1 ?_; clear hX1 hY1; try simp only [hb])
            | exact co_refl _
            | exact co_own _ _ _
            | exact co_nilsB
            | exact co_nilsL _ _
            | (refine opsO_nil ?_; refine hK2 _ ?_; clear hK2)
            | (refine keepO_intro ?_ ?_; focus (first | exact .inl (keep_same _ _) | exact .inl (keep_box _ _ _ _) | exact .inl (keep_hd _ _ _ _ _) | exact .inl (keep_02 _ _ _ _ _ _ _) | exact .inr ⟨rfl, rfl⟩))
            | (refine keepA_intro ?_ ?_; focus (first | exact keep_same _ _ | exact keep_box _ _ _ _ | exact keep_hd _ _ _ _ _ | exact keep_02 _ _ _ _ _ _ _))))
          | ((first | (with_reducible refine wantB_intro (fun hb => ?_) (fun hb => ?_)) | (with_reducible refine condB_intro (fun hb => ?_) (fun hb => ?_))) <;> ((try (have hp := hb; simp only [Bool.not_eq_eq_eq_not, Bool.not_true, Bool.not_false] at hp)); try simp only [hb, Bool.not_true, Bool.not_false]))
          | ((with_reducible refine callP_row ?_ ?_ ?_ ?_ (hX1) ?_); (with_reducible exact rfl); (focus (simp only [List.getElem?_cons_zero]; try rfl)); (focus (repeat' (first | exact cos_refl _ | (refine cos_cons ?_ ?_) | exact co_refl _ | exact co_own _ _ _ | exact co_nilsB | exact co_nilsL _ _ | exact co_nils _ | (refine co_agg ?_) | (refine co_fn ?_)))); (focus (simp only [purAs, purA, Bool.and_self])))
          | ((with_reducible refine callP_row ?_ ?_ ?_ ?_ (hX2) ?_); (with_reducible exact rfl); (focus (simp only [List.getElem?_cons_zero, List.length_append, List.length_cons, List.length_nil, Nat.zero_add]; try rfl)); (focus (repeat' (first | exact cos_refl _ | (refine cos_cons ?_ ?_) | exact co_refl _ | exact co_own _ _ _ | exact co_nilsB | exact co_nilsL _ _ | exact co_nils _ | (refine co_agg ?_) | (refine co_fn ?_)))); (focus (simp only [purAs, purA, Bool.and_self])))
          | ((with_reducible refine callP_row ?_ ?_ ?_ ?_ (hX3) ?_); (with_reducible exact rfl); (focus (simp only [List.getElem?_cons_zero, List.length_append, List.length_cons, List.length_nil, Nat.zero_add]; try rfl)); (focus (repeat' (first | exact cos_refl _ | (refine cos_cons ?_ ?_) | exact co_refl _ | exact co_own _ _ _ | exact co_nilsB | exact co_nilsL _ _ | exact co_nils _ | (refine co_agg ?_) | (refine co_fn ?_)))); (focus (simp only [purAs, purA, Bool.and_self])))
          | ((with_reducible refine callP_row ?_ ?_ ?_ ?_ (hX4 ?_) ?_); (with_reducible exact rfl); (focus (simp only [List.getElem?_cons_zero, List.length_append, List.length_cons, List.length_nil, Nat.zero_add]; try rfl)); (focus (repeat' (first | exact cos_refl _ | (refine cos_cons ?_ ?_) | exact co_refl _ | exact co_own _ _ _ | exact co_nilsB | exact co_nilsL _ _ | exact co_nils _ | (refine co_agg ?_) | (refine co_fn ?_)))); (focus (simp only [purAs, purA, Bool.and_self])))
          | ((with_reducible refine callP_row ?_ ?_ ?_ ?_ (hX5 ?_ ?_) ?_); (with_reducible exact rfl); (focus (simp only [List.getElem?_cons_zero, List.length_append, List.length_cons, List.length_nil, Nat.zero_add]; try rfl)); (focus (repeat' (first | exact cos_refl _ | (refine cos_cons ?_ ?_) | exact co_refl _ | exact co_own _ _ _ | exact co_nilsB | exact co_nilsL _ _ | exact co_nils _ | (refine co_agg ?_) | (refine co_fn ?_)))); (focus (simp only [purAs, purA, Bool.and_self])))
          | ((with_reducible refine callP_row ?_ ?_ ?_ ?_ (hX6 ?_ ?_) ?_); (with_reducible exact rfl); (focus (simp only [List.getElem?_cons_zero, List.length_append, List.length_cons, List.length_nil, Nat.zero_add]; try rfl)); (focus (repeat' (first | exact cos_refl _ | (refine cos_cons ?_ ?_) | exact co_refl _ | exact co_own _ _ _ | exact co_nilsB | exact co_nilsL _ _ | exact co_nils _ | (refine co_agg ?_) | (refine co_fn ?_)))); (focus (simp only [purAs, purA, Bool.and_self])))
          | ((with_reducible refine callP_row ?_ ?_ ?_ ?_ (hX7 ?_ ?_) ?_); (with_reducible exact rfl); (focus (simp only [List.getElem?_cons_zero, List.length_append, List.length_cons, List.length_nil, Nat.zero_add]; try rfl)); (focus (repeat' (first | exact cos_refl _ | (refine cos_cons ?_ ?_) | exact co_refl _ | exact co_own _ _ _ | exact co_nilsB | exact co_nilsL _ _ | exact co_nils _ | (refine co_agg ?_) | (refine co_fn ?_)))); (focus (simp only [purAs, purA, Bool.and_self])))
          | ((with_reducible refine callP_pure ?_ ?_ (hcl1) (fun _ => ?_)); (focus (repeat' (first | exact cos_refl _ | (refine cos_cons ?_ ?_) | exact co_refl _ | exact co_own _ _ _ | exact co_nilsB | exact co_nilsL _ _ | exact co_nils _ | (refine co_agg ?_) | (refine co_fn ?_)))); (focus (simp only [purAs, purA, Bool.and_self])))
          | ((with_reducible refine firstP_call ?_ ?_ (hcl1) ?_); (focus (repeat' (first | exact cos_refl _ | (refine cos_cons ?_ ?_) | exact co_refl _ | exact co_own _ _ _ | exact co_nilsB | exact co_nilsL _ _ | exact co_nils _ | (refine co_agg ?_) | (refine co_fn ?_)))); (focus (simp only [purAs, purA, Bool.and_self, Bool.and_true, h0, h4, h5, h14, h15, h16, hlt', hx, hw, fldC, colsV, Int.reduceEq])))
          | ((with_reducible refine PW.draw (id := 10) mixed [0, 1] [] [(0, true), (1, true), (2, true), (4, true), (5, true), (3, false), (6, false), (7, true)] (by kernel_rfl) (by decide) fun K2 hK2 => ?_))
          | ((with_reducible refine And.intro ?_ ?_); (focus (first | omega | (simp; done) | assumption)))
          | (simp only [thenP, blockP]; (try ((repeat (fail_if_success (with_reducible refine hK1 _ ?_)); clear hK1); (with_reducible refine hK1 _ ?_); clear hK1)))
          | (with_reducible omega)
          | (assumption)
          | ((first | ((with_reducible refine opsP_cons fun K3 hK3 => ?_); simp only [wantP, opP, valP, List.map_cons, List.map_nil, List.mapM_cons, List.mapM_nil, List.all_cons, List.all_nil]) | ((with_reducible refine opsO_first (o := ?_) ?_ fun K3 hK3 => ?_); rotate_left 1; (focus (simp only [List.getElem?_toArray, List.getElem?_cons_succ, List.getElem?_cons_zero] <;> rfl)); simp only [wantP, firstP, valP]) | ((with_reducible refine opsO_only (o := ?_) ?_ fun K3 hK3 => ?_); rotate_left 1; (focus (simp only [List.getElem?_toArray, List.getElem?_cons_succ, List.getElem?_cons_zero] <;> rfl)); simp only [wantP, opP, List.map_cons, List.map_nil, List.all_cons, List.all_nil]) | (with_reducible refine PW.condM fun X1 Y1 hX1 hY1 => ?_) | skip); simp (disch := omega) only [wantB_ff, St.eval, St.put, upd_app, avOf, avOf1, wf_i64, cellsA, AV.okv, loadA, binP, intsP, intP, nilP, unP, dvEqC, keyOk, keyEq, findK, entriesA, entsD, cellsV, lookP, U3, U4, U5, slA, putCells, elA, dv1, encL_get, Ua, Ub, Uc, Ud, Uf, Ug, Ui, Uk, Ul, Un, Up, Ur, Us, Ut, Uu, Uv, List.mapM_cons, List.mapM_nil, Uw, Ux, Uz, V0, V1, V2, V4, Option.bind_eq_bind, Option.pure_def, V7, Nat.reduceLT, Nat.reduceLeDiff, Nat.reduceAdd, Nat.reduceMul, Nat.reduceEqDiff, V9, Va, Ve, Int.reduceLE, Int.reduceNeg, Vu, Vv, Vf, Vg, Vn, Vo, ↓reduceIte, Vp, reduceCtorEq, Vw, Vz, UU0, UU5, UU6, UU9, Vr, sz3, cl3, ps3, sz9, ze9, el32, sz86, ze86, fi86_0, fi86_1, mo110, sz113, ze113, fi113_0, fi113_1, el115, h4, h5, h14, h15, h16, hlt', hx, hw, fldC, colsV, Int.reduceEq, retQ, resP, tupA, fg, fgs, condP, condB_t, firstOk, List.mem_cons]; try (with_reducible (first | exact co_refl _ | exact co_own _ _ _ | exact co_nilsB | exact co_nilsL _ _))))
        · exact hno (by unfold fldOk; rw [Bool.and_eq_false_iff]; right; simpa using hb)
        · have hf := hyes (by unfold fldOk; rw [Bool.and_eq_true]; exact ⟨rfl, by simpa using hb⟩)
          refine ⟨l.length - (k + 1), by omega, k + 1, ?_, ?_, ?_, ?_, ?_, ?_, ?_, ?_, by omega, rfl, hf⟩
          case refine_3 => rw [hsn2]; rfl
          case refine_8 => rw [hl2]; simp only [List.length_append, List.length_cons, List.length_nil]; rfl
          all_goals (simp only [St.cut, Mem.cut, fg, upd_app, Nat.reduceEqDiff, ↓reduceIte, List.take_nil, List.map_nil, List.take_succ_cons, List.take_zero, List.append_assoc, Nat.add_assoc, Int.natCast_add, Int.cast_ofNat_Int, h0, h4, h14, h15]; try rfl)
    · have k1 := eq_false (show ¬ ty = 1 by omega); have k2 := eq_false (show ¬ ty = 2 by omega); have k3 := eq_false (show ¬ ty = 3 by omega)
      subst hC
      repeat' (first
        | (with_reducible (first
          | refine PW.seq fun K1 hK1 => ?_
          | refine PW.region fun K2 hK2 => ?_
          | (refine hK3 _ ?_; clear hK3)
          | (refine opsP_nil ?_; refine hK2 _ ?_; clear hK2)
          | refine litX_old ?_
          | refine litC_data ?_
          | (refine Exists.intro _ (Exists.intro _ (And.intro rfl (And.intro rfl (And.intro ?_ ?_)))); focus omega)
          | (refine hK1 _ ?_; clear hK1)
          | refine nilC_intro (fun hz => ?_) ?_
          | refine PW.block ?_
          | refine PW.skip ?_
          | refine PW.exit ?_
          | refine PW.ret ?_
          | (refine hX1 ?_; clear hX1 hY1; try simp only [hb])
          | (refine hY1 ?_; clear hX1 hY1; try simp only [hb])
          | exact co_refl _
          | exact co_own _ _ _
          | exact co_nilsB
          | exact co_nilsL _ _
          | (refine opsO_nil ?_; refine hK2 _ ?_; clear hK2)
          | (refine keepO_intro ?_ ?_; focus (first | exact .inl (keep_same _ _) | exact .inl (keep_box _ _ _ _) | exact .inl (keep_hd _ _ _ _ _) | exact .inl (keep_02 _ _ _ _ _ _ _) | exact .inr ⟨rfl, rfl⟩))
          | (refine keepA_intro ?_ ?_; focus (first | exact keep_same _ _ | exact keep_box _ _ _ _ | exact keep_hd _ _ _ _ _ | exact keep_02 _ _ _ _ _ _ _))))
        | ((first | (with_reducible refine wantB_intro (fun hb => ?_) (fun hb => ?_)) | (with_reducible refine condB_intro (fun hb => ?_) (fun hb => ?_))) <;> ((try (have hp := hb; simp only [Bool.and_eq_true, Bool.or_eq_true, Bool.not_eq_true', Bool.not_eq_false', Bool.and_eq_false_iff, Bool.or_eq_false_iff, Bool.not_eq_eq_eq_not, Bool.not_true, Bool.not_false, decide_eq_true_eq, decide_eq_false_iff_not, Int.not_lt, Int.not_le, beq_iff_eq, beq_eq_false_iff_ne, ne_eq] at hp)); try simp only [hb, Bool.not_true, Bool.not_false]))
        | ((with_reducible refine callP_pure ?_ ?_ (hcl1) (fun _ => ?_)); (focus (repeat' (first | exact cos_refl _ | (refine cos_cons ?_ ?_) | exact co_refl _ | exact co_own _ _ _ | exact co_nilsB | exact co_nilsL _ _ | exact co_nils _ | (refine co_agg ?_) | (refine co_fn ?_)))); (focus (simp only [purAs, purA, Bool.and_self, Bool.and_true, h0, h4, h5, h14, h15, h16, hlt', hx, hw, fldC, colsV, Int.reduceEq, k1, k2, k3])))
        | ((with_reducible refine firstP_call ?_ ?_ (hcl1) ?_); (focus (repeat' (first | exact cos_refl _ | (refine cos_cons ?_ ?_) | exact co_refl _ | exact co_own _ _ _ | exact co_nilsB | exact co_nilsL _ _ | exact co_nils _ | (refine co_agg ?_) | (refine co_fn ?_)))); (focus (simp only [purAs, purA, Bool.and_self, Bool.and_true, h0, h4, h5, h14, h15, h16, hlt', hx, hw, fldC, colsV, Int.reduceEq, k1, k2, k3])))
        | ((with_reducible refine PW.drawR (id := 10) mixed [] [(0, true), (1, true), (2, true), (4, true), (5, true), (3, false), (6, false), (7, true)] (by kernel_rfl) (by decide) fun K2 hK2 => ?_))
        | ((with_reducible refine And.intro ?_ ?_); (focus (first | omega | (simp; done) | assumption)))
        | (simp only [thenP, blockP]; (try ((repeat (fail_if_success (with_reducible refine hK1 _ ?_)); clear hK1); (with_reducible refine hK1 _ ?_); clear hK1)))
        | (with_reducible omega)
        | (assumption)
        | ((first | ((with_reducible refine opsP_cons fun K3 hK3 => ?_); simp only [wantP, opP, valP, List.map_cons, List.map_nil, List.mapM_cons, List.mapM_nil, List.all_cons, List.all_nil]) | ((with_reducible refine opsO_first (o := ?_) ?_ fun K3 hK3 => ?_); rotate_left 1; (focus (simp only [List.getElem?_toArray, List.getElem?_cons_succ, List.getElem?_cons_zero] <;> rfl)); simp only [wantP, firstP, valP, List.toList_toArray, Array.toList_empty, List.map_cons, List.map_nil, List.mapM_cons, List.mapM_nil, List.all_cons, List.all_nil]) | ((with_reducible refine opsO_only (o := ?_) ?_ fun K3 hK3 => ?_); rotate_left 1; (focus (simp only [List.getElem?_toArray, List.getElem?_cons_succ, List.getElem?_cons_zero] <;> rfl)); simp only [wantP, opP, valP, List.toList_toArray, Array.toList_empty, List.map_cons, List.map_nil, List.mapM_cons, List.mapM_nil, List.all_cons, List.all_nil]) | (with_reducible refine PW.condM fun X1 Y1 hX1 hY1 => ?_) | skip); simp (disch := omega) only [wantB_tf, St.eval, St.put, upd_app, avOf, avOf1, cellsA, AV.okv, loadA, binP, intsP, intP, nilP, unP, dvEqC, keyOk, keyEq, findK, entriesA, entsD, cellsV, lookP, U3, U4, U5, slA, putCells, elA, dv1, encL_get, Ua, Ub, Uc, Ud, Uf, Ug, Uk, Ul, Un, Up, Ur, Us, Ut, Uu, Uv, List.mapM_cons, List.mapM_nil, Uz, V0, V1, V2, V3, V4, V5, Option.bind_eq_bind, Option.pure_def, V7, Nat.reduceLT, Nat.reduceLeDiff, Nat.reduceAdd, Nat.reduceMul, Nat.reduceEqDiff, V9, Va, Ve, Int.reduceNeg, Vu, Vv, Vf, Vo, ↓reduceIte, Vp, Vw, Vy, Vz, UU0, UU9, Vr, sz3, cl3, ps3, sz9, ze9, el32, sz86, ze86, fi86_0, fi86_1, mo110, sz113, ze113, zv113, el115, h4, h14, h15, h16, hlt', hx, fldC, colsV, k1, k2, k3, retQ, resP, tupA, fg, fgs, condP, condB_t]; try (with_reducible (first | exact co_refl _ | exact co_own _ _ _ | exact co_nilsB | exact co_nilsL _ _))))
      all_goals exact hno (by unfold fldOk colOf; simp only [k1, k2, k3, ↓reduceIte]; rfl)
  · have hlt' := eq_false hlt
    have hkl : k = l.length := by omega
    have htk : l.take k = l := List.take_of_length_le (by omega)
    rw [htk] at h5 hok
    rw [htk]
    repeat' (first
      | (with_reducible (first
        | refine PW.seq fun K1 hK1 => ?_
        | refine PW.region fun K2 hK2 => ?_
        | (refine hK3 _ ?_; clear hK3)
        | (refine opsP_nil ?_; refine hK2 _ ?_; clear hK2)
        | refine litX_old ?_
        | refine litC_data ?_
        | (refine Exists.intro _ (Exists.intro _ (And.intro rfl (And.intro rfl (And.intro ?_ ?_)))); focus omega)
        | (refine hK1 _ ?_; clear hK1)
        | refine nilC_intro (fun hz => ?_) ?_
        | refine PW.block ?_
        | refine PW.skip ?_
        | refine PW.exit ?_
        | refine PW.ret ?_
        | (refine hX1 ?_; clear hX1 hY1; try simp only [hb])
        | (refine hY1 ?_; clear hX1 hY1; try simp only [hb])
        | exact co_refl _
        | exact co_own _ _ _
        | exact co_nilsB
        | exact co_nilsL _ _
        | (refine opsO_nil ?_; refine hK2 _ ?_; clear hK2)
        | (refine keepO_intro ?_ ?_; focus (first | exact .inl (keep_same _ _) | exact .inl (keep_box _ _ _ _) | exact .inl (keep_hd _ _ _ _ _) | exact .inl (keep_02 _ _ _ _ _ _ _) | exact .inr ⟨rfl, rfl⟩))
        | (refine keepA_intro ?_ ?_; focus (first | exact keep_same _ _ | exact keep_box _ _ _ _ | exact keep_hd _ _ _ _ _ | exact keep_02 _ _ _ _ _ _ _))))
      | ((first | (with_reducible refine wantB_intro (fun hb => ?_) (fun hb => ?_)) | (with_reducible refine condB_intro (fun hb => ?_) (fun hb => ?_))) <;> ((try (have hp := hb; simp only [Bool.and_eq_true, Bool.or_eq_true, Bool.not_eq_true', Bool.not_eq_false', Bool.and_eq_false_iff, Bool.or_eq_false_iff, Bool.not_eq_eq_eq_not, Bool.not_true, Bool.not_false, decide_eq_true_eq, decide_eq_false_iff_not, Int.not_lt, Int.not_le, beq_iff_eq, beq_eq_false_iff_ne, ne_eq] at hp)); try simp only [hb, Bool.not_true, Bool.not_false]))
      | ((with_reducible refine PW.drawR (id := 10) mixed [] [(0, true), (1, true), (2, true), (4, true), (5, true), (3, false), (6, false), (7, true)] (by kernel_rfl) (by decide) fun K2 hK2 => ?_))
      | ((with_reducible refine And.intro ?_ ?_); (focus (first | omega | (simp; done) | assumption)))
      | (simp only [thenP, blockP, ↓reduceIte]; (try ((repeat (fail_if_success (with_reducible refine hK1 _ ?_)); clear hK1); (with_reducible refine hK1 _ ?_); clear hK1)))
      | (with_reducible omega)
      | (assumption)
      | ((first | ((with_reducible refine opsP_cons fun K3 hK3 => ?_); simp only [wantP, opP, valP, List.map_cons, List.map_nil]) | ((with_reducible refine opsO_first (o := ?_) ?_ fun K3 hK3 => ?_); rotate_left 1; (focus (simp only [List.getElem?_toArray, List.getElem?_cons_succ, List.getElem?_cons_zero] <;> rfl)); simp only [wantP, firstP, valP, List.toList_toArray, Array.toList_empty, List.map_cons, List.map_nil, List.mapM_cons, List.mapM_nil, List.all_cons, List.all_nil]) | ((with_reducible refine opsO_only (o := ?_) ?_ fun K3 hK3 => ?_); rotate_left 1; (focus (simp only [List.getElem?_toArray, List.getElem?_cons_succ, List.getElem?_cons_zero] <;> rfl)); simp only [wantP, opP, valP, List.toList_toArray, Array.toList_empty, List.map_cons, List.map_nil, List.mapM_cons, List.mapM_nil, List.all_cons, List.all_nil]) | (with_reducible refine PW.condM fun X1 Y1 hX1 hY1 => ?_) | skip); simp (disch := omega) only [St.eval, St.put, upd_app, avOf, avOf1, wf_i64, lenP, binP, intsP, intP, nilP, builtinP, isMapA, slA, encL_len, Ui, Nat.reduceLT, Nat.reduceEqDiff, Vd, Ve, Int.reduceLE, Int.reduceNeg, Vu, Vv, Vf, ↓reduceIte, Vp, reduceCtorEq, Vw, Vz, UU0, Tryd.underlying32, h0, h5, h15, h16, hlt', retQ, resP, tupA, fg, fgs, condP, condB_f]; try (with_reducible (first | exact co_refl _ | exact co_own _ _ _ | exact co_nilsB | exact co_nilsL _ _))))
    unfold fldsBody fldsMay
    rw [hok, if_pos rfl]
    refine co_tup (cos_cons (co_refl _) (cos_cons (co_eq (congrArg (fun b => AV.d (.bool b)) ?_)) cos_nil))
    rw [Bool.true_and, decide_eq_decide]
    omega
end PM
end Go.Proofs.YthaekefdadccaaaDoor
