/- pgwire in the abstract: the columns of a row's head as bytes. pgwire in the abstract: the cells of a row as bytes. -/
import Derived.Test.YthaekefdadccaaaDoorPgBk
import Derived.Test.YthaekefdadccaaaDoorPg12
namespace Go.Proofs.YthaekefdadccaaaDoor
open Go.RowKit
namespace PM
/-- a map that is handed back is as it is -/
theorem PW.freezeRet {P : Program} {Q : Exit → St → Prop} {s : St} (i : Nat) (ka va : Bool) {e : TypeId} {cs0 : List AV} {ks vs : List (List DV)} (hb : s.m.box[i]? = some (some (e, cs0))) (he : 4294967296 ≤ e) (hd : entD ka va cs0 = some (ks, vs)) (h : Q .ret ⟨fun j => frz i (fzM ka va ks vs) (s.t j), s.n, frzM i (fzM ka va ks vs) s.m⟩) : PW P .ret Q s := PW.freezeMap i ka va he hb hd (PW.ret h)
def colsV : AV := .d (.mpd false true [[.int .i64 1], [.int .i64 2], [.int .i64 3]] [[.int .i64 20, .int .i64 8], [.int .i64 16, .int .i64 1], [.int .i64 25, .int .i64 (-1)]])
set_option maxRecDepth 100000 in
theorem pColumns : Pure Tryd.prog 69 [] colsV := by
  refine pure_intro Tryd.func69 rfl rfl rfl 6 rfl (fun hh => ?_)
  repeat' (first
    | (((with_reducible refine PW.freezeRet 0 false true (e := ?_) (cs0 := ?_) (ks := ?_) (vs := ?_) ?_ ?_ ?_ ?_); rotate_left 4; (focus (exact rfl)); (focus (exact Nat.le_refl _)); (focus (exact rfl)); simp only [upd_app, simprocAttr, retQ, resP, tupA, fg, frz, fzM, retQ, resP, tupA, fg]))
    | ((with_reducible (first
     | (refine PW.seq fun K1 hK1 => ?_) | (refine PW.region fun K2 hK2 => ?_) | ((refine hK3 _ ?_; clear hK3)) | ((refine opsP_nil ?_; refine hK2 _ ?_; clear hK2)) 
     )))
    | ((simp only [thenP]; (try ((repeat (fail_if_success (with_reducible refine hK1 _ ?_)); clear hK1); (with_reducible refine hK1 _ ?_); clear hK1))))
    | (((first | (((with_reducible refine opsP_cons fun K3 hK3 => ?_); simp only [wantP, opP, valP, Ur, Us])) | (skip)); simp (disch := omega) only [St.eval, St.put, upd_app, avOf, avOf1, nom, cellsA, AV.okv, dvEqC, keyOk, keyEq, findK, mapSetP, U3, putCells, fillA, buildA, Ua, Ub, Uc, Ud, Uf, Ug, Ut, Uu, V2, V3, V9, Vd, Ve, Vt, UU2, UU3, Vr, PmL, simprocAttr, PmT]; try (with_reducible (first | exact co_refl _ | exact co_own _ _ _ | exact co_nilsB | exact co_nilsL _ _)))))
  exact co_refl _
set_option maxRecDepth 100000 in
set_option maxHeartbeats 4000000 in
theorem pFields (l : List (List Int × Int)) (hz : (fldsF l).length ≤ 100000000000) : Pure Tryd.prog 38 [.d (.sl 2 (encL fldC l))] (.tup [bs (fldsBody l), .d (.bool (fldsMay l))]) := by
  refine pure_intro Tryd.func38 rfl rfl rfl 58 rfl (fun hh => ?_)
  have hmx : maxLen = 9223372036854775807 := rfl
  have hfl : l.length ≤ 9223372036854775807 := by
    have := (has_sl (hh (.d (.sl 2 (encL fldC l))) (by simp))).1
    rw [encL_len] at this
    omega
  have hbad : l.all fldOk = false → Co (.tup [.nils, .d (.bool false)]) (.tup [bs (fldsBody l), .d (.bool (fldsMay l))]) := fun h => by
    unfold fldsBody fldsMay
    rw [h]
    exact co_tup (cos_cons co_nilsB (cos_cons (co_refl _) cos_nil))
  obtain ⟨C, hC⟩ : ∃ C, colsV = C := ⟨_, rfl⟩
  have pC := pColumns
  rw [hC] at pC
  repeat' (first
    | ((with_reducible (first
     | (refine PW.seq fun K1 hK1 => ?_) | (refine PW.region fun K2 hK2 => ?_) | ((refine hK3 _ ?_; clear hK3)) | ((refine opsP_nil ?_; refine hK2 _ ?_; clear hK2)) | (refine PW.block ?_) 
     )))
    | (((with_reducible refine cC_new ?_ (pBig2 ?_) ?_); (focus ((repeat' (first | (refine .cons ?_ ?_) | (exact .nil) | (exact .d _) | (exact .nl) )); done))))
    | (((with_reducible refine cC_pure ?_ (pC) (fun _ => ?_)); (focus ((repeat' constructor); done))))
    | ((simp only [thenP]; (try ((repeat (fail_if_success (with_reducible refine hK1 _ ?_)); clear hK1); (with_reducible refine hK1 _ ?_); clear hK1))))
    | (((first | (((with_reducible refine opsP_cons fun K3 hK3 => ?_); simp only [wantP, opP, valP, Ur, Us])) | (skip)); simp (disch := omega) only [St.eval, St.put, upd_app, iniT_app, avOf, avOf1, nom, lenP, builtinP, isMapA, U7, Ug, Ut, Uv, PmL, simprocAttr, PmT]; try (with_reducible (first | exact co_refl _ | exact co_own _ _ _ | exact co_nilsB | exact co_nilsL _ _)))))
  (with_reducible refine PW.loop (fun n s => ∃ k : Nat, s.t 0 = .d (.sl 2 (encL fldC l)) ∧ s.t 4 = C ∧ s.t 5 = .own 0 1 (encB (big2 l.length ++ fldsF (l.take k))) ∧ s.t 14 = .d (.sl 2 (encL fldC l)) ∧ s.t 15 = .d (.int .i64 l.length) ∧ s.t 16 = .d (.int .i64 k) ∧ s.n = 58 ∧
    s.m = ⟨[], [some ⟨5, 1, (big2 l.length ++ fldsF (l.take k)).length⟩]⟩ ∧ k ≤ l.length ∧ n = l.length - k ∧ (l.take k).all fldOk = true) l.length ?_ ?_)
  · exact ⟨0, rfl, rfl, rfl, rfl, rfl, rfl, rfl, rfl, Nat.zero_le _, rfl, rfl⟩
  rintro n ⟨t, nn, m⟩ ⟨k, h0, h4, h5, h14, h15, h16, hn, hm, hk, hnk, hok⟩ - -
  simp only at h0 h4 h5 h14 h15 h16 hn hm
  subst hn hm
  by_cases hlt : (k : Int) < l.length
  · have hlt' := eq_true hlt
    obtain ⟨p, hx⟩ : ∃ x, l[k]? = some x := ⟨_, List.getElem?_eq_getElem (by omega)⟩
    have hsz := fldsF_at hx
    have hsn := fldsF_snoc hx
    have hno := fun h => hbad (all_not hx h)
    have hyes := fun h => all_more hok hx h
    have hlb : (big2 l.length).length = 2 := rfl
    obtain ⟨cur, hcur⟩ : ∃ cur, big2 l.length ++ fldsF (l.take k) = cur := ⟨_, rfl⟩
    have hcl : cur.length ≤ 100000000002 ∧ cur.length + (fldB p).length ≤ 100000000002 := by
      rw [← hcur, List.length_append, hlb]; omega
    rw [hcur] at h5 ⊢
    rw [fldB_len] at hcl
    have hsn' : big2 l.length ++ fldsF (l.take (k + 1)) = cur ++ fldB p := by rw [hsn, ← hcur, List.append_assoc]
    obtain ⟨a, ty⟩ := p
    simp only at hcl
    have hw : IntKind.i64.wrap ((k : Int) + 1) = (k : Int) + 1 := wl_i64 (by simp only [Bool.and_eq_true, decide_eq_true_eq]; omega)
    have hX1 := pText1o cur a (by omega)
    have hX2 := pBig4o (cur ++ a ++ [0]) 0 (by simp only [List.length_append, List.length_cons, List.length_nil]; omega)
    have hX3 := pBig2o (cur ++ a ++ [0] ++ big4 0) 0 (by simp only [List.length_append, big4_l, List.length_cons, List.length_nil]; omega)
    have hX4 := fun n => pBig4o (cur ++ a ++ [0] ++ big4 0 ++ big2 0) n (by simp only [List.length_append, big4_l, show (big2 0).length = 2 from rfl, List.length_cons, List.length_nil]; omega)
    have hX5 := fun n n' => pBig2o (cur ++ a ++ [0] ++ big4 0 ++ big2 0 ++ big4 n) n' (by simp only [List.length_append, big4_l, show (big2 0).length = 2 from rfl, List.length_cons, List.length_nil]; omega)
    have hX6 := fun n n' => pBig4o (cur ++ a ++ [0] ++ big4 0 ++ big2 0 ++ big4 n ++ big2 n') (-1) (by simp only [List.length_append, big4_l, show (big2 0).length = 2 from rfl, show (big2 n').length = 2 from rfl, List.length_cons, List.length_nil]; omega)
    have hX7 := fun n n' => pBig2o (cur ++ a ++ [0] ++ big4 0 ++ big2 0 ++ big4 n ++ big2 n' ++ big4 (-1)) 0 (by simp only [List.length_append, big4_l, show (big2 0).length = 2 from rfl, show (big2 n').length = 2 from rfl, List.length_cons, List.length_nil]; omega)
    have hcl1 := pClean1 a
    have hsn2 : big2 l.length ++ fldsF (l.take (k + 1)) = cur ++ a ++ [0] ++ big4 0 ++ big2 0 ++ big4 (colN ty) ++ big2 (colS ty) ++ big4 (-1) ++ big2 0 := by rw [hsn']; unfold fldB; simp only [List.append_assoc]
    have hl2 : (big2 (l.length : Int)).length + (fldsF (l.take (k + 1))).length = _ := (by rw [← List.length_append, hsn2])
    by_cases hty : ty = 1 ∨ ty = 2 ∨ ty = 3
    · rcases hty with rfl | rfl | rfl
      all_goals
        subst hC
        repeat' (first
          | ((with_reducible (first
           | (refine PW.seq fun K1 hK1 => ?_) | (refine PW.region fun K2 hK2 => ?_) | ((refine hK3 _ ?_; clear hK3)) | ((refine opsP_nil ?_; refine hK2 _ ?_; clear hK2)) | (refine litX_old ?_) | (refine litC_data ?_) | (refine PW.block ?_) | (refine PW.skip ?_)
           | (refine PW.ret ?_) | ((refine hX1 ?_; clear hX1 hY1; try simp only [hb])) | ((refine hY1 ?_; clear hX1 hY1; try simp only [hb])) | ((refine opsO_nil ?_; refine hK2 _ ?_; clear hK2)) | ((refine keepA_intro ?_ ?_; focus (first | exact keep_same _ _ | exact keep_box _ _ _ _ | exact keep_hd _ _ _ _ _ | exact keep_02 _ _ _ _ _ _ _ | exact keep_1 _ _ _ _ _ _ _))))))
          | (((first | (with_reducible refine wantB_intro (fun hb => ?_) (fun hb => ?_)) | (with_reducible refine condB_intro (fun hb => ?_) (fun hb => ?_))) <;> ((try (have hp := hb; simp only [PmH] at hp)); try simp only [hb, Bool.not_true, Bool.not_false])))
          | (((with_reducible refine cC_row ?_ ?_ ?_ (hX1) ?_); (with_reducible exact rfl); (focus (simp only [Ua]; try rfl)); (focus ((repeat' constructor) <;> (simp only [purAs, purA, Vf, Bool.and_self, h0, h4, h5, h14, h15, h16, hlt', hx, hw, fldC, colsV]; done)))))
          | (((with_reducible refine cC_row ?_ ?_ ?_ (hX2) ?_); (with_reducible exact rfl); (focus (simp only [Ua, Ui, Uf, Ug, V9]; try rfl)); (focus ((repeat' constructor) <;> (simp only [purAs, purA, Vf, Bool.and_self, h0, h4, h5, h14, h15, h16, hlt', hx, hw, fldC, colsV]; done)))))
          | (((with_reducible refine cC_row ?_ ?_ ?_ (hX3) ?_); (with_reducible exact rfl); (focus (simp only [Ua, Ui, Uf, Ug, V9]; try rfl)); (focus ((repeat' constructor) <;> (simp only [purAs, purA, Vf, Bool.and_self, h0, h4, h5, h14, h15, h16, hlt', hx, hw, fldC, colsV]; done)))))
          | (((with_reducible refine cC_row ?_ ?_ ?_ (hX4 ?_) ?_); (with_reducible exact rfl); (focus (simp only [Ua, Ui, Uf, Ug, V9]; try rfl)); (focus ((repeat' (first | (refine .cons ?_ ?_) | (exact .nil) | (exact .d _) )) <;> (simp only [purAs, purA, Vf, Bool.and_self, h0, h4, h5, h14, h15, h16, hlt', hx, hw, fldC, colsV]; done)))))
          | (((with_reducible refine cC_row ?_ ?_ ?_ (hX5 ?_ ?_) ?_); (with_reducible exact rfl); (focus (simp only [Ua, Ui, Uf, Ug, V9]; try rfl)); (focus ((repeat' (first | (refine .cons ?_ ?_) | (exact .nil) | (exact .d _) )) <;> (simp only [purAs, purA, Vf, Bool.and_self, h0, h4, h5, h14, h15, h16, hlt', hx, hw, fldC, colsV]; done)))))
          | (((with_reducible refine cC_row ?_ ?_ ?_ (hX6 ?_ ?_) ?_); (with_reducible exact rfl); (focus (simp only [Ua, Ui, Uf, Ug, V9]; try rfl)); (focus ((repeat' (first | (refine .cons ?_ ?_) | (exact .nil) | (exact .d _) )) <;> (simp only [purAs, purA, Vf, Bool.and_self, h0, h4, h5, h14, h15, h16, hlt', hx, hw, fldC, colsV]; done)))))
          | (((with_reducible refine cC_row ?_ ?_ ?_ (hX7 ?_ ?_) ?_); (with_reducible exact rfl); (focus (simp only [Ua, Ui, Uf, Ug, V9]; try rfl)); (focus ((repeat' (first | (refine .cons ?_ ?_) | (exact .nil) | (exact .d _) )) <;> (simp only [purAs, purA, Vf, Bool.and_self, h0, h4, h5, h14, h15, h16, hlt', hx, hw, fldC, colsV]; done)))))
          | (((with_reducible refine cC_pure ?_ (hcl1) (fun _ => ?_)); (focus ((repeat' constructor) <;> (simp only [purAs, purA, Vf, Bool.and_self, h0, h4, h5, h14, h15, h16, hlt', hx, hw, fldC, colsV]; done)))))
          | (((with_reducible refine PW.draw (id := 10) mixed [0, 1] [] [(0, true), (1, true), (2, true), (4, true), (5, true), (3, false), (6, false), (7, true)] (by kernel_rfl) (by decide) fun K2 hK2 => ?_)))
          | (((with_reducible refine And.intro ?_ ?_); (focus (first | omega | (simp; done) | assumption))))
          | ((simp only [thenP, blockP]; (try ((repeat (fail_if_success (with_reducible refine hK1 _ ?_)); clear hK1); (with_reducible refine hK1 _ ?_); clear hK1))))
          | (((first | (((with_reducible refine opsP_cons fun K3 hK3 => ?_); simp only [wantP, opP, valP, Ur, Us, List.mapM_cons, List.mapM_nil, Uw, Ux])) | (((with_reducible refine opsO_first (o := ?_) ?_ fun K3 hK3 => ?_); rotate_left 1; (focus (simp only [Uz, Ub, Ua] <;> rfl)); simp only [wantP, firstP, valP])) | (((with_reducible refine opsO_only (o := ?_) ?_ fun K3 hK3 => ?_); rotate_left 1; (focus (simp only [Uz, Ub, Ua] <;> rfl)); simp only [wantP, opP, Ur, Us, Uw, Ux])) | ((with_reducible refine PW.condM fun X1 Y1 hX1 hY1 => ?_)) | (skip)); simp (disch := omega) only [wantB_ff, St.eval, St.put, upd_app, avOf, avOf1, cellsA, AV.okv, loadA, binP, intsP, intP, nilP, unP, dvEqC, keyOk, keyEq, findK, entriesA, entsD, cellsV, lookP, U3, U4, U5, slA, putCells, elA, dv1, Ua, Ub, Uc, Ud, Uf, Ug, Ui, Uk, Ul, Un, Up, Ur, Us, Ut, Uu, Uv, List.mapM_cons, List.mapM_nil, Uw, Ux, Uz, V0, V1, V2, V4, Option.bind_eq_bind, Option.pure_def, V7, V9, Va, Ve, UU9, Vr, PmL, simprocAttr, PmT, h4, h5, h14, h15, h16, hlt', hx, hw, fldC, colsV, retQ, resP, tupA, fg, fgs, condP, condB_t, firstOk, List.mem_cons]; try (with_reducible (first | exact co_refl _ | exact co_own _ _ _ | exact co_nilsB | exact co_nilsL _ _)))))
        · exact hno (by unfold fldOk; rw [Bool.and_eq_false_iff]; right; simpa using hb)
        · have hf := hyes (by unfold fldOk; rw [Bool.and_eq_true]; exact ⟨rfl, by simpa using hb⟩)
          refine ⟨l.length - (k + 1), by omega, k + 1, ?_, ?_, ?_, ?_, ?_, ?_, ?_, ?_, by omega, rfl, hf⟩
          case refine_3 => rw [hsn2]; rfl
          case refine_8 => rw [hl2]; simp only [List.length_append, List.length_cons, List.length_nil]; rfl
          all_goals (simp only [St.cut, Mem.cut, fg, upd_app, Nat.reduceEqDiff, ↓reduceIte, List.take_nil, List.map_nil, List.take_succ_cons, List.take_zero, List.append_assoc, Nat.add_assoc, Int.natCast_add, Int.cast_ofNat_Int, h0, h4, h14, h15]; try rfl)
    · have k1 := eq_false (show ¬ ty = 1 by omega); have k2 := eq_false (show ¬ ty = 2 by omega); have k3 := eq_false (show ¬ ty = 3 by omega)
      subst hC
      repeat' (first
        | ((with_reducible (first
         | (refine PW.seq fun K1 hK1 => ?_) | (refine PW.region fun K2 hK2 => ?_) | ((refine hK3 _ ?_; clear hK3)) | ((refine opsP_nil ?_; refine hK2 _ ?_; clear hK2)) | (refine PW.block ?_) | (refine PW.skip ?_)
         | (refine PW.ret ?_) | ((refine hX1 ?_; clear hX1 hY1; try simp only [hb])) )))
        | (((with_reducible refine And.intro ?_ ?_); (focus (first | omega | (simp; done) | assumption))))
        | ((simp only [thenP, blockP]; (try ((repeat (fail_if_success (with_reducible refine hK1 _ ?_)); clear hK1); (with_reducible refine hK1 _ ?_); clear hK1))))
        | (((first | (((with_reducible refine opsP_cons fun K3 hK3 => ?_); simp only [wantP, opP, valP, Ur, Us, List.mapM_cons, List.mapM_nil, Uw, Ux])) | ((with_reducible refine PW.condM fun X1 Y1 hX1 hY1 => ?_)) | (skip)); simp (disch := omega) only [wantB_tf, St.eval, St.put, upd_app, avOf, avOf1, cellsA, AV.okv, loadA, binP, intsP, intP, nilP, unP, dvEqC, keyOk, keyEq, findK, entriesA, entsD, cellsV, lookP, U3, U4, U5, slA, putCells, elA, dv1, Ua, Ub, Uc, Ud, Uf, Ug, Uk, Ul, Un, Up, Ur, Us, Ut, Uu, Uv, List.mapM_cons, List.mapM_nil, Uz, V0, V1, V2, V3, V4, V5, Option.bind_eq_bind, Option.pure_def, V7, V9, Va, Ve, UU9, Vr, PmL, simprocAttr, PmT, h4, h14, h15, h16, hlt', hx, fldC, colsV, k1, k2, k3, retQ, resP, tupA, fg, fgs, condP, condB_t]; try (with_reducible (first | exact co_refl _ | exact co_own _ _ _ | exact co_nilsB | exact co_nilsL _ _)))))
      all_goals exact hno (by unfold fldOk colOf; simp only [k1, k2, k3, ↓reduceIte]; rfl)
  · have hlt' := eq_false hlt
    have hkl : k = l.length := by omega
    have htk : l.take k = l := List.take_of_length_le (by omega)
    rw [htk] at h5 hok
    rw [htk]
    repeat' (first
      | ((with_reducible (first
       | (refine PW.seq fun K1 hK1 => ?_) | (refine PW.region fun K2 hK2 => ?_) | ((refine hK3 _ ?_; clear hK3)) | ((refine opsP_nil ?_; refine hK2 _ ?_; clear hK2)) 
       | (refine PW.exit ?_) | (refine PW.ret ?_) | ((refine hY1 ?_; clear hX1 hY1; try simp only [hb])) )))
      | ((simp only [thenP, blockP, ↓reduceIte]; (try ((repeat (fail_if_success (with_reducible refine hK1 _ ?_)); clear hK1); (with_reducible refine hK1 _ ?_); clear hK1))))
      | (((first | (((with_reducible refine opsP_cons fun K3 hK3 => ?_); simp only [wantP, opP, valP, Ur, Us])) | ((with_reducible refine PW.condM fun X1 Y1 hX1 hY1 => ?_)) | (skip)); simp (disch := omega) only [St.eval, St.put, upd_app, avOf, avOf1, lenP, binP, intsP, intP, nilP, builtinP, isMapA, slA, Ui, Vd, Ve, PmL, simprocAttr, PmT, h0, h5, h15, h16, hlt', retQ, resP, tupA, fg, fgs, condP, condB_f]; try (with_reducible (first | exact co_refl _ | exact co_own _ _ _ | exact co_nilsB | exact co_nilsL _ _)))))
    unfold fldsBody fldsMay
    rw [hok, if_pos rfl]
    refine co_tup (cos_cons (co_refl _) (cos_cons (co_eq (congrArg (fun b => AV.d (.bool b)) ?_)) cos_nil))
    rw [Bool.true_and, decide_eq_decide]
    omega
end PM
end Go.Proofs.YthaekefdadccaaaDoor
namespace Go.Proofs.YthaekefdadccaaaDoor
open Go.RowKit
namespace PM
theorem celsT_at {l : List (Bool × List Int)} {k : Nat} {p : Bool × List Int} (h : l[k]? = some p) : celsT (l.take k) + p.2.length ≤ celsT l := by
  rw [← celsT_snoc h]; exact celsT_le l _
theorem celsF_at {l : List (Bool × List Int)} {k : Nat} {p : Bool × List Int} (ha : l.all celOk = true) (h : l[k]? = some p) : (celsF (l.take k)).length + (celB p).length ≤ 4 * l.length + celsT l := by
  have h1 := celsF_len (l.take (k + 1)) (all_take _ ha)
  rw [celsF_snoc h, List.length_append, List.length_take] at h1
  have := celsT_le l (k + 1)
  have := (List.getElem?_eq_some_iff.1 h).1
  omega
set_option maxRecDepth 100000 in
set_option maxHeartbeats 4000000 in
theorem pCells (l : List (Bool × List Int)) (hz : celsN l ≤ 100000000000) : Pure Tryd.prog 39 [.d (.sl 2 (encL celC l))] (.tup [bs (celsBody l), .d (.int .i64 (celsLong l)), .d (.bool (celsMay l))]) := by
  refine pure_intro Tryd.func39 rfl rfl rfl 67 rfl (fun hh => ?_)
  have hmx : maxLen = 9223372036854775807 := rfl
  have hfl : l.length ≤ 9223372036854775807 := by
    have := (has_sl (hh (.d (.sl 2 (encL celC l))) (by simp))).1
    rw [encL_len] at this
    omega
  have hNd : celsN l = 2 + (4 * l.length + celsT l) := rfl
  have hbad : l.all celOk = false → Co (.tup [.nils, .d (.int .i64 0), .d (.bool false)]) (.tup [bs (celsBody l), .d (.int .i64 (celsLong l)), .d (.bool (celsMay l))]) := fun h => by
    unfold celsBody celsMay celsLong
    rw [h]
    exact co_tup (cos_cons co_nilsB (cos_cons (co_refl _) (cos_cons (co_refl _) cos_nil)))
  repeat' (first
    | ((with_reducible (first
     | (refine PW.seq fun K1 hK1 => ?_) | (refine PW.region fun K2 hK2 => ?_) | ((refine hK3 _ ?_; clear hK3)) | ((refine opsP_nil ?_; refine hK2 _ ?_; clear hK2)) | (refine PW.block ?_) 
     )))
    | ((simp only [thenP]; (try ((repeat (fail_if_success (with_reducible refine hK1 _ ?_)); clear hK1); (with_reducible refine hK1 _ ?_); clear hK1))))
    | (((first | (((with_reducible refine opsP_cons fun K3 hK3 => ?_); simp only [wantP, opP, valP, Ur, Us])) | (skip)); simp (disch := omega) only [St.eval, St.put, upd_app, iniT_app, avOf, avOf1, nom, lenP, builtinP, isMapA, U7, PmL, simprocAttr, PmT]; try (with_reducible (first | exact co_refl _ | exact co_own _ _ _ | exact co_nilsB | exact co_nilsL _ _)))))
  (with_reducible refine PW.loop (fun n s => ∃ k M : Nat, s.t 0 = .d (.sl 2 (encL celC l)) ∧ s.t 5 = .d (.int .i64 M) ∧ s.t 11 = .d (.sl 2 (encL celC l)) ∧ s.t 12 = .d (.int .i64 l.length) ∧ s.t 13 = .d (.int .i64 k) ∧ s.n = 67 ∧
    s.m = ⟨[], []⟩ ∧ k ≤ l.length ∧ n = l.length - k ∧ (l.take k).all celOk = true ∧ M = 2 + (4 * k + celsT (l.take k))) l.length ?_ ?_)
  · exact ⟨0, 2, rfl, rfl, rfl, rfl, rfl, rfl, rfl, Nat.zero_le _, rfl, rfl, rfl⟩
  rintro n ⟨t, nn, m⟩ ⟨k, M, h0, h5, h11, h12, h13, hn, hm, hk, hnk, hok, hM⟩ - -
  simp only at h0 h5 h11 h12 h13 hn hm
  subst hn hm
  by_cases hlt : (k : Int) < l.length
  · have hlt' := eq_true hlt
    obtain ⟨p, hx⟩ : ∃ x, l[k]? = some x := ⟨_, List.getElem?_eq_getElem (by omega)⟩
    have hsz := celsT_at hx
    have hsn := celsT_snoc hx
    have hno := fun h => hbad (all_not hx h)
    have hyes := fun h => all_more hok hx h
    obtain ⟨a, b⟩ := p
    simp only at hsz hsn
    have hw : IntKind.i64.wrap ((k : Int) + 1) = (k : Int) + 1 := wl_i64 (by simp only [Bool.and_eq_true, decide_eq_true_eq]; omega)
    have hw4 : IntKind.i64.wrap (4 + (b.length : Int)) = 4 + b.length := wl_i64 (by simp only [Bool.and_eq_true, decide_eq_true_eq]; omega)
    have hwN : IntKind.i64.wrap ((M : Int) + (4 + b.length)) = M + (4 + b.length) := wl_i64 (by simp only [Bool.and_eq_true, decide_eq_true_eq]; omega)
    have hcok : celOk (a, b) = !(a && !decide (b = [])) := rfl
    cases a
    all_goals
      repeat' (first
        | ((with_reducible (first
         | (refine PW.seq fun K1 hK1 => ?_) | (refine PW.region fun K2 hK2 => ?_) | ((refine hK3 _ ?_; clear hK3)) | ((refine opsP_nil ?_; refine hK2 _ ?_; clear hK2)) | (refine PW.block ?_) | (refine PW.skip ?_)
         | (refine PW.ret ?_) | ((refine hX1 ?_; clear hX1 hY1; try simp only [hb])) | ((refine hY1 ?_; clear hX1 hY1; try simp only [hb])) )))
        | (((first | (with_reducible refine wantB_intro (fun hb => ?_) (fun hb => ?_)) | (with_reducible refine condB_intro (fun hb => ?_) (fun hb => ?_))) <;> ((try (have hp := hb; simp only [PmH] at hp)); try simp only [hb, Bool.not_true, Bool.not_false])))
        | (((with_reducible refine And.intro ?_ ?_); (focus (first | omega | (simp; done) | assumption))))
        | ((simp only [thenP, blockP]; (try ((repeat (fail_if_success (with_reducible refine hK1 _ ?_)); clear hK1); (with_reducible refine hK1 _ ?_); clear hK1))))
        | (((first | ((with_reducible (first | refine opsP_consMt (d := ?_) (dj := ?_) (b := ?_) (r := ?_) ?_ ?_ (fun hb => ?_) (fun K3 hK3 => ?_) | refine opsP_consMf (d := ?_) (dj := ?_) (b := ?_) (r := ?_) ?_ ?_ (fun hb => ?_) (fun K3 hK3 => ?_))); rotate_left 3; (focus exact rfl); (focus (simp only [upd_app, simprocAttr]; exact rfl))) | ((with_reducible (first | refine opsP_consNt (d := ?_) (dj := ?_) (b := ?_) (r := ?_) (c := ?_) ?_ ?_ (fun hb => ?_) (fun K3 hK3 => ?_) | refine opsP_consNf (d := ?_) (dj := ?_) (b := ?_) (r := ?_) (c := ?_) ?_ ?_ (fun hb => ?_) (fun K3 hK3 => ?_))); rotate_left 4; (focus exact rfl); (focus (simp only [St.put, upd_app, iniT_app, simprocAttr, mrg_t, mrg_f]; exact rfl)))); (focus (simp only [opP, valP]; (try (simp only at hb)); (try (have hp := hb; simp only [PmH, beq_iff_eq, beq_eq_false_iff_ne, ne_eq] at hp)); simp (disch := omega) only [St.eval, upd_app, avOf, avOf1, loadA, binP, strP, eqP, nilP, bsz, U1, slA, Ua, Ug, Uk, Ul, Us, V9, Ve, PmL, simprocAttr, PmT, hb]; (repeat' (first | (exact rfl) | ((refine And.intro ?_ ?_); (focus (exact rfl)); (exact rfl)) | (refine And.intro (by first | omega | (simp; done) | assumption) ?_))); done)); (try simp only [St.put, Nat.reduceLT, ↓reduceIte, mrg_t, mrg_f])))
        | (((first | (((with_reducible refine opsP_cons fun K3 hK3 => ?_); simp only [wantP, opP, valP, Ur, Us])) | ((with_reducible refine PW.condM fun X1 Y1 hX1 hY1 => ?_)) | (skip)); simp (disch := omega) only [wantB_ft, St.eval, St.put, upd_app, avOf, avOf1, cellsA, AV.okv, loadA, lenP, binP, intsP, intP, eqP, nilP, builtinP, bsz, U1, isMapA, slA, putCells, Ua, Ub, Uc, Ud, Uf, Ug, Uk, Ul, Un, Up, Ur, Us, Ut, Uz, V2, V4, V7, V9, Va, Ve, Vr, PmL, simprocAttr, PmT, h5, h11, h12, h13, hlt', hx, hw, hw4, hwN, celC, retQ, resP, tupA, fg, fgs, condP, condB_t, condB_f]; try (with_reducible (first | exact co_refl _ | exact co_own _ _ _ | exact co_nilsB | exact co_nilsL _ _)))))
    · have hf := hyes (by rw [hcok]; rfl)
      refine ⟨l.length - (k + 1), by omega, k + 1, M + (4 + b.length), ?_, ?_, ?_, ?_, ?_, ?_, ?_, by omega, rfl, hf, by rw [hsn]; omega⟩
      all_goals (simp only [St.cut, Mem.cut, fg, upd_app, Nat.reduceEqDiff, ↓reduceIte, List.take_nil, List.map_nil, List.take_zero, Int.natCast_add, Int.cast_ofNat_Int, h0, h11, h12]; try rfl)
    · exact hno (by rw [hcok, Bool.true_and, hb]; rfl)
    · have hok2 : celOk (true, b) = true := by rw [hcok, Bool.true_and, hb]; rfl
      have hf := hyes hok2
      refine ⟨l.length - (k + 1), by omega, k + 1, M + (4 + b.length), ?_, ?_, ?_, ?_, ?_, ?_, ?_, by omega, rfl, hf, by rw [hsn]; omega⟩
      all_goals (simp only [St.cut, Mem.cut, fg, upd_app, Nat.reduceEqDiff, ↓reduceIte, List.take_nil, List.map_nil, List.take_zero, Int.natCast_add, Int.cast_ofNat_Int, h0, h11, h12]; try rfl)
  · have hlt' := eq_false hlt
    have hkl : k = l.length := by omega
    have htk : l.take k = l := List.take_of_length_le (by omega)
    rw [htk] at hok hM
    rw [hkl, ← hNd] at hM
    rw [hM] at h5
    clear hM
    have hcl := celsB_len l hok
    obtain ⟨N, hN⟩ : ∃ N, celsN l = N := ⟨_, rfl⟩
    have hL : celsLong l = (N : Int) := by unfold celsLong; rw [if_pos hok, hN]
    have hM : celsMay l = decide (l.length ≤ 1600) := by unfold celsMay; rw [hok, Bool.true_and]
    have hw4 : IntKind.i64.wrap ((N : Int) + 4) = N + 4 := wl_i64 (by simp only [Bool.and_eq_true, decide_eq_true_eq]; omega)
    rw [hN] at h5
    by_cases hfew : N + 4 ≤ 1073741824 ∧ l.length ≤ 1600
    · have hB : celsBody l = celsB l := if_pos (by unfold celsFew; rw [hok, hN]; simp [hfew])
      have k1 := eq_false (show ¬ (1073741824 : Int) < (N : Int) + 4 by omega)
      have k2 := eq_false (show ¬ (1600 : Int) < (l.length : Int) by omega)
      have k3 := eq_true (show (l.length : Int) ≤ 1600 by omega)
      repeat' (first
        | ((with_reducible (first
         | (refine PW.seq fun K1 hK1 => ?_) | (refine PW.region fun K2 hK2 => ?_) | ((refine hK3 _ ?_; clear hK3)) | ((refine opsP_nil ?_; refine hK2 _ ?_; clear hK2)) | (refine PW.block ?_) | (refine PW.skip ?_)
         | (refine PW.exit ?_) | ((refine hY1 ?_; clear hX1 hY1; try simp only [hb])) )))
        | (((with_reducible refine cC_new ?_ (pBig2 ?_) ?_); (focus ((repeat' (first | (refine .cons ?_ ?_) | (exact .nil) | (exact .d _) | (exact .nl) )) <;> (simp only [purAs, purA, Vf, Bool.and_self, h0, h5, h11, h12, h13, hlt', hw4, k1, k2]; done)))))
        | ((simp only [thenP, blockP, ↓reduceIte]; (try ((repeat (fail_if_success (with_reducible refine hK1 _ ?_)); clear hK1); (with_reducible refine hK1 _ ?_); clear hK1))))
        | (((first | ((with_reducible (first | refine opsP_consMt (d := ?_) (dj := ?_) (b := ?_) (r := ?_) ?_ ?_ (fun hb => ?_) (fun K3 hK3 => ?_) | refine opsP_consMf (d := ?_) (dj := ?_) (b := ?_) (r := ?_) ?_ ?_ (fun hb => ?_) (fun K3 hK3 => ?_))); rotate_left 3; (focus exact rfl); (focus (simp only [upd_app, simprocAttr]; exact rfl))) | ((with_reducible (first | refine opsP_consNt (d := ?_) (dj := ?_) (b := ?_) (r := ?_) (c := ?_) ?_ ?_ (fun hb => ?_) (fun K3 hK3 => ?_) | refine opsP_consNf (d := ?_) (dj := ?_) (b := ?_) (r := ?_) (c := ?_) ?_ ?_ (fun hb => ?_) (fun K3 hK3 => ?_))); rotate_left 4; (focus exact rfl); (focus (simp only [St.put, upd_app, iniT_app, simprocAttr, mrg_t, mrg_f]; exact rfl)))); (focus (simp only [opP, valP, Ur, Us]; (try (simp only [Bool.not_eq_true'] at hb)); (try (have hp := hb; simp only [PmH, beq_iff_eq, beq_eq_false_iff_ne, ne_eq] at hp)); simp (disch := omega) only [St.eval, upd_app, avOf, avOf1, lenP, binP, intsP, intP, nilP, builtinP, isMapA, slA, PmL, simprocAttr, PmT, h0, k2]; (repeat' (first | (exact rfl) | ((refine And.intro ?_ ?_); (focus (exact rfl)); (exact rfl)) | (refine And.intro (by first | omega | (simp; done) | assumption) ?_))); done)); (try simp only [St.put, Nat.reduceLT, ↓reduceIte, mrg_t, Bool.not_false])))
        | (((first | (((with_reducible refine opsP_cons fun K3 hK3 => ?_); simp only [wantP, opP, valP, Ur, Us])) | ((with_reducible refine PW.condM fun X1 Y1 hX1 hY1 => ?_)) | (skip)); simp (disch := omega) only [St.eval, St.put, upd_app, avOf, avOf1, lenP, binP, intsP, intP, nilP, builtinP, isMapA, slA, Ug, Ut, Uv, PmL, simprocAttr, PmT, h0, h5, h12, h13, hlt', hw4, k1, condP, condB_f]; try (with_reducible (first | exact co_refl _ | exact co_own _ _ _ | exact co_nilsB | exact co_nilsL _ _)))))
      have hbl : (big2 (l.length : Int)).length = 2 := rfl
      (with_reducible refine PW.loop (fun n s => ∃ k : Nat, s.t 5 = .d (.int .i64 N) ∧ s.t 8 = .own 0 1 (encB (big2 l.length ++ celsF (l.take k))) ∧ s.t 46 = .d (.sl 2 (encL celC l)) ∧ s.t 47 = .d (.int .i64 l.length) ∧ s.t 48 = .d (.int .i64 k) ∧ s.n = 67 ∧
        s.m = ⟨[], [some ⟨5, 1, (big2 l.length ++ celsF (l.take k)).length⟩]⟩ ∧ k ≤ l.length ∧ n = l.length - k) l.length ?_ ?_)
      · exact ⟨0, h5, rfl, rfl, rfl, rfl, rfl, rfl, Nat.zero_le _, rfl⟩
      clear h0 h5 h11 h12 h13 hk hnk hkl htk hlt
      rintro n ⟨t, nn, m⟩ ⟨k, h5, h8, h46, h47, h48, hn, hm, hk, hnk⟩ - -
      simp only at h5 h8 h46 h47 h48 hn hm
      subst hn hm
      by_cases hlt : (k : Int) < l.length
      · have hlt' := eq_true hlt
        obtain ⟨p, hx⟩ : ∃ x, l[k]? = some x := ⟨_, List.getElem?_eq_getElem (by omega)⟩
        have hsz := celsF_at hok hx
        have hsn := celsF_snoc hx
        have hpo := all_at hok hx
        obtain ⟨cur, hcur⟩ : ∃ cur, big2 l.length ++ celsF (l.take k) = cur := ⟨_, rfl⟩
        have hcl : cur.length ≤ 100000000002 ∧ cur.length + (celB p).length ≤ 100000000002 := by
          rw [← hcur, List.length_append, hbl]; omega
        rw [hcur] at h8 ⊢
        rw [celB_len _ hpo] at hcl
        have hsn' : big2 l.length ++ celsF (l.take (k + 1)) = cur ++ celB p := by rw [hsn, ← hcur, List.append_assoc]
        have hl2 : (big2 (l.length : Int)).length + (celsF (l.take (k + 1))).length = _ := (by rw [← List.length_append, hsn'])
        obtain ⟨a, b⟩ := p
        simp only at hcl
        have hw : IntKind.i64.wrap ((k : Int) + 1) = (k : Int) + 1 := wl_i64 (by simp only [Bool.and_eq_true, decide_eq_true_eq]; omega)
        have hX1 := fun n => pBig4o cur n (by omega)
        cases a
        all_goals
          repeat' (first
            | ((with_reducible (first
             | (refine PW.seq fun K1 hK1 => ?_) | (refine PW.region fun K2 hK2 => ?_) | ((refine hK3 _ ?_; clear hK3)) | ((refine opsP_nil ?_; refine hK2 _ ?_; clear hK2)) | (refine PW.block ?_) | (refine PW.skip ?_)
             | ((refine hX1 ?_; clear hX1 hY1; try simp only [hb])) | ((refine hY1 ?_; clear hX1 hY1; try simp only [hb])) | ((refine opsO_nil ?_; refine hK2 _ ?_; clear hK2)) | ((refine keepA_intro ?_ ?_; focus (first | exact keep_same _ _ | exact keep_box _ _ _ _ | exact keep_hd _ _ _ _ _ | exact keep_02 _ _ _ _ _ _ _ | exact keep_1 _ _ _ _ _ _ _))))))
            | (((with_reducible refine cC_row ?_ ?_ ?_ (hX1 ?_) ?_); (with_reducible exact rfl); (focus (simp only [Ua]; try rfl)); (focus ((repeat' (first | (refine .cons ?_ ?_) | (exact .nil) | (exact .d _) )) <;> (simp only [purAs, purA, Vf, Bool.and_self, h5, h8, h46, h47, h48, hlt', hx, hw, celC, big4_l]; done)))))
            | (((with_reducible refine PW.draw (id := 17) mixed [0] [] [(0, true), (1, true), (2, true), (3, true), (5, true), (6, true), (4, false), (7, false), (8, true)] (by kernel_rfl) (by decide) fun K2 hK2 => ?_)))
            | (((with_reducible refine And.intro ?_ ?_); (focus (first | omega | (simp; done) | assumption))))
            | ((simp only [thenP, blockP]; (try ((repeat (fail_if_success (with_reducible refine hK1 _ ?_)); clear hK1); (with_reducible refine hK1 _ ?_); clear hK1))))
            | (((first | (((with_reducible refine opsP_cons fun K3 hK3 => ?_); simp only [wantP, opP, valP, Ur, Us])) | (((with_reducible refine opsO_first (o := ?_) ?_ fun K3 hK3 => ?_); rotate_left 1; (focus (simp only [Uz, Ub, Ua] <;> rfl)); simp only [wantP, firstP, valP, Ur, Us, Uw, Ux])) | (((with_reducible refine opsO_only (o := ?_) ?_ fun K3 hK3 => ?_); rotate_left 1; (focus (simp only [Uz, Ub, Ua] <;> rfl)); simp only [wantP, opP, Ur, Us, Uw, Ux])) | ((with_reducible refine PW.condM fun X1 Y1 hX1 hY1 => ?_)) | (skip)); simp (disch := omega) only [St.eval, St.put, upd_app, avOf, avOf1, cellsA, AV.okv, loadA, lenP, binP, intsP, intP, nilP, builtinP, appP, srcA, srcTy, isMapA, isBsl, slA, putCells, Ua, Uc, Ud, Uf, Ug, Ui, Uk, Ul, Un, Up, Ur, Us, Ut, Uv, V2, V7, V9, Va, Ve, Vr, PmL, simprocAttr, PmT, h8, h46, h47, h48, hlt', hx, hw, celC, big4_l, condP, condB_t, condB_f, firstOk, List.mem_cons]; try (with_reducible (first | exact co_refl _ | exact co_own _ _ _ | exact co_nilsB | exact co_nilsL _ _)))))
        · have hsF : big2 l.length ++ celsF (l.take (k + 1)) = cur ++ big4 b.length ++ b := by rw [hsn', List.append_assoc]; rfl
          have hl3 : (big2 (l.length : Int)).length + (celsF (l.take (k + 1))).length = _ := (by rw [← List.length_append, hsF])
          refine ⟨l.length - (k + 1), by omega, k + 1, ?_, ?_, ?_, ?_, ?_, ?_, ?_, by omega, rfl⟩
          case refine_2 => rw [hsF]; rfl
          case refine_7 => rw [hl3]; simp only [List.length_append]; rfl
          all_goals (simp only [St.cut, Mem.cut, fg, upd_app, Nat.reduceEqDiff, ↓reduceIte, List.take_nil, List.map_nil, List.take_succ_cons, List.take_zero, List.append_assoc, Nat.add_assoc, Int.natCast_add, Int.cast_ofNat_Int, h5, h46, h47]; try rfl)
        · have hsF : big2 l.length ++ celsF (l.take (k + 1)) = cur ++ big4 (-1) := by rw [hsn']; rfl
          have hl3 : (big2 (l.length : Int)).length + (celsF (l.take (k + 1))).length = _ := (by rw [← List.length_append, hsF])
          refine ⟨l.length - (k + 1), by omega, k + 1, ?_, ?_, ?_, ?_, ?_, ?_, ?_, by omega, rfl⟩
          case refine_2 => rw [hsF]; rfl
          case refine_7 => rw [hl3]; simp only [List.length_append]; rfl
          all_goals (simp only [St.cut, Mem.cut, fg, upd_app, Nat.reduceEqDiff, ↓reduceIte, List.take_nil, List.map_nil, List.take_succ_cons, List.take_zero, Int.natCast_add, Int.cast_ofNat_Int, h5, h46, h47]; try rfl)
      · have hlt' := eq_false hlt
        have hkl : k = l.length := by omega
        have htk : l.take k = l := List.take_of_length_le (by omega)
        rw [htk] at h8
        rw [htk]
        repeat' (first
          | ((with_reducible (first
           | (refine PW.seq fun K1 hK1 => ?_) | (refine PW.region fun K2 hK2 => ?_) | ((refine hK3 _ ?_; clear hK3)) | ((refine opsP_nil ?_; refine hK2 _ ?_; clear hK2)) 
           | (refine PW.exit ?_) | (refine PW.ret ?_) | ((refine hY1 ?_; clear hX1 hY1; try simp only [hb])) )))
          | ((simp only [thenP, blockP, ↓reduceIte]; (try ((repeat (fail_if_success (with_reducible refine hK1 _ ?_)); clear hK1); (with_reducible refine hK1 _ ?_); clear hK1))))
          | (((first | (((with_reducible refine opsP_cons fun K3 hK3 => ?_); simp only [wantP, opP, valP])) | ((with_reducible refine PW.condM fun X1 Y1 hX1 hY1 => ?_)) | (skip)); simp (disch := omega) only [St.eval, St.put, upd_app, avOf, avOf1, binP, intsP, intP, nilP, slA, Ui, Vd, Ve, PmL, simprocAttr, h5, h8, h47, h48, hlt', retQ, resP, tupA, fg, fgs, condP, condB_f]; try (with_reducible (first | exact co_refl _ | exact co_own _ _ _ | exact co_nilsB | exact co_nilsL _ _)))))
        rw [hB, hL, hM, show decide (l.length ≤ 1600) = true from decide_eq_true hfew.2]
        exact co_refl _
    · have hB : celsBody l = [] := if_neg (by unfold celsFew; rw [hok, hN]; simp; omega)
      repeat' (first
        | ((with_reducible (first
         | (refine PW.seq fun K1 hK1 => ?_) | (refine PW.region fun K2 hK2 => ?_) | ((refine hK3 _ ?_; clear hK3)) | ((refine opsP_nil ?_; refine hK2 _ ?_; clear hK2)) | (refine PW.skip ?_)
         | (refine PW.exit ?_) | (refine PW.ret ?_) | ((refine hX1 ?_; clear hX1 hY1; try simp only [hb])) | ((refine hY1 ?_; clear hX1 hY1; try simp only [hb])) )))
        | (((first | (with_reducible refine wantB_intro (fun hb => ?_) (fun hb => ?_)) | (with_reducible refine condB_intro (fun hb => ?_) (fun hb => ?_))) <;> ((try (have hp := hb; simp only [PmH] at hp)); try simp only [hb, Bool.not_true, Bool.not_false])))
        | ((simp only [thenP, blockP, ↓reduceIte]; (try ((repeat (fail_if_success (with_reducible refine hK1 _ ?_)); clear hK1); (with_reducible refine hK1 _ ?_); clear hK1))))
        | ((with_reducible omega))
        | (((first | ((with_reducible (first | refine opsP_consMt (d := ?_) (dj := ?_) (b := ?_) (r := ?_) ?_ ?_ (fun hb => ?_) (fun K3 hK3 => ?_) | refine opsP_consMf (d := ?_) (dj := ?_) (b := ?_) (r := ?_) ?_ ?_ (fun hb => ?_) (fun K3 hK3 => ?_))); rotate_left 3; (focus exact rfl); (focus (simp only [upd_app, simprocAttr]; exact rfl))) | ((with_reducible (first | refine opsP_consNt (d := ?_) (dj := ?_) (b := ?_) (r := ?_) (c := ?_) ?_ ?_ (fun hb => ?_) (fun K3 hK3 => ?_) | refine opsP_consNf (d := ?_) (dj := ?_) (b := ?_) (r := ?_) (c := ?_) ?_ ?_ (fun hb => ?_) (fun K3 hK3 => ?_))); rotate_left 4; (focus exact rfl); (focus (simp only [St.put, upd_app, iniT_app, simprocAttr, mrg_t, mrg_f]; exact rfl)))); (focus (simp only [opP, valP, Ur, Us]; (try (simp only [Bool.not_eq_true'] at hb)); (try (have hp := hb; simp only [PmH] at hp)); simp (disch := omega) only [St.eval, upd_app, avOf, avOf1, lenP, binP, intsP, intP, nilP, builtinP, isMapA, slA, PmL, simprocAttr, PmT, h0, mrg_t, hb]; (repeat' (first | (exact rfl) | ((refine And.intro ?_ ?_); (focus (exact rfl)); (exact rfl)) | (refine And.intro (by first | omega | (simp; done) | assumption) ?_))); done)); (try simp only [St.put, Nat.reduceLT, ↓reduceIte])))
        | (((first | (((with_reducible refine opsP_cons fun K3 hK3 => ?_); simp only [wantP, opP, valP, Ur, Us])) | ((with_reducible refine PW.condM fun X1 Y1 hX1 hY1 => ?_)) | (skip)); simp (disch := omega) only [St.eval, St.put, upd_app, avOf, avOf1, lenP, binP, intsP, intP, nilP, builtinP, isMapA, slA, PmL, simprocAttr, PmT, h0, h5, h12, h13, hlt', hw4, pick_or, retQ, resP, tupA, fg, fgs, condP, condB_f]; try (with_reducible (first | exact co_refl _ | exact co_own _ _ _ | exact co_nilsB | exact co_nilsL _ _)))))
      · rw [hB, hL, hM]
        refine co_tup (cos_cons co_nilsB (cos_cons (co_refl _) (cos_cons (co_eq (congrArg (fun b => AV.d (.bool b)) ?_)) cos_nil)))
        rw [decide_eq_decide]
        omega
end PM
end Go.Proofs.YthaekefdadccaaaDoor
