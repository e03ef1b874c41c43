/- pgwire's reference in the abstract: the columns of a row's head, a row's cells as bytes. pgwire's reference in the abstract: a row's cells, a refusal as bytes. -/
import Derived.Test.YthaekefdadccaaaDoorPgR1
import Derived.Test.YthaekefdadccaaaDoorPgBk
import Derived.Test.YthaekefdadccaaaDoorPgBf
namespace Go.Proofs.YthaekefdadccaaaDoor
open Go.RowKit
namespace PM
theorem enc6 (l : List Int) (a b c d e f : Int) : encB l ++ [[.int .u8 a], [.int .u8 b], [.int .u8 c], [.int .u8 d], [.int .u8 e], [.int .u8 f]] = encB (l ++ [a, b, c, d, e, f]) := by simp [encB]
theorem enc4 (l : List Int) (a b c d : Int) : encB l ++ [[.int .u8 a], [.int .u8 b], [.int .u8 c], [.int .u8 d]] = encB (l ++ [a, b, c, d]) := by simp [encB]
theorem big2_l (n : Int) : (big2 n).length = 2 := rfl
set_option maxRecDepth 100000 in
theorem pRBig2b (n : Int) : PFun Tryd.prog 35 [.d (.int .i64 n), .d (.int .i64 2)] nom (.bsl 0 0 2 2 1) ⟨[some (5, (big2 n).map fun n => AV.d (.int .u8 n))], []⟩ := by
  refine fun_intro Tryd.func35 rfl rfl rfl 23 rfl ⟨Nat.zero_le _, Nat.le_refl _⟩ (fun hh => ?_)
  have hn := has_int (hh (.d (.int .i64 n)) (by simp))
  rw [wf_i64] at hn
  simp only [Bool.and_eq_true, decide_eq_true_eq] at hn
  repeat' (first
    | ((with_reducible (first
     | (refine PW.seq fun K1 hK1 => ?_) | (refine PW.region fun K2 hK2 => ?_) | ((refine hK3 _ ?_; clear hK3)) | ((refine opsP_nil ?_; refine hK2 _ ?_; clear hK2)) | (refine PW.rounds (id := 0) 3 ?_)
     | (refine rounds_more fun K1 hK1 => ?_) | (refine PW.block ?_) | (refine PW.skip ?_) | (refine PW.exit ?_) | (refine PW.ret ?_) | ((refine hX1 ?_; clear hX1 hY1; try simp only [hb])) | ((refine hY1 ?_; clear hX1 hY1; try simp only [hb])) )))
    | ((simp only [thenP, blockP, ↓reduceIte]; (try ((repeat (fail_if_success (with_reducible refine hK1 _ ?_)); clear hK1); (with_reducible refine hK1 _ ?_); clear hK1))))
    | (((first | (((with_reducible refine opsP_consD (d := 8) fun K3 hK3 => ?_); simp only [wantP, opP]; (with_reducible refine litX_box ?_))) | (((with_reducible refine opsP_cons fun K3 hK3 => ?_); simp only [wantP, opP, valP])) | ((with_reducible refine PW.condM fun X1 Y1 hX1 hY1 => ?_)) | (skip)); simp (disch := omega) only [St.eval, St.put, upd_app, iniT_app, avOf, avOf1, nom, cellsA, AV.okv, binP, intsP, intP, nilP, convP, U4, U5, slA, putCells, U7, U8, Ua, Uc, Ud, Uf, Ug, Ut, Uu, Uv, V8, V9, Va, Vb, Ve, Int.cast_ofNat_Int, Vr, Vs, PmL, simprocAttr, PmT, shr8u, wrap_u8, fdiv256, retQ, resP, tupA, fg, condP, condB_t, condB_f]; try (with_reducible (first | exact co_refl _ | exact co_own _ _ _ | exact co_nilsB | exact co_nilsL _ _)))))
  refine ⟨co_refl _, subM_box1 ?_⟩
  have e3 : ∀ a b : AV, ((((List.replicate 2 [AV.d (DV.int IntKind.u8 0)]).flatten.set 1 a).set 0 b)) = [b, a] := fun a b => rfl
  try rw [e3]
  simp only [fgs, fg]
  exact cos_refl _
set_option maxRecDepth 100000 in
theorem pRBig2 (n : Int) : PFun Tryd.prog 35 [.d (.int .i64 n), .d (.int .i64 2)] nom (.own 0 1 (encB (big2 n))) ⟨[], [some ⟨5, 1, (big2 n).length⟩]⟩ :=
  PFun.box2row (l := big2 n) (by decide) (by simp [big2]) (pRBig2b n)
set_option maxRecDepth 100000 in
theorem pRTypeOf (t : Int) : Pure Tryd.prog 82 [.d (.int .i64 t)] (.tup [.d (.int .i64 (colN t)), .d (.int .i64 (colS t)), .d (.bool (colOf t).isSome)]) := by
  refine pure_intro Tryd.func82 rfl rfl rfl 12 rfl (fun hh => ?_)
  by_cases k1 : t = 1
  · subst k1
    repeat' (first
      | ((with_reducible (first
       | (refine PW.seq fun K1 hK1 => ?_) | (refine PW.region fun K2 hK2 => ?_) | ((refine hK3 _ ?_; clear hK3)) | ((refine opsP_nil ?_; refine hK2 _ ?_; clear hK2)) 
       | (refine PW.block ?_) | (refine PW.ret ?_) | ((refine hX1 ?_; clear hX1 hY1; try simp only [hb])) )))
      | ((simp only [thenP, blockP]; (try ((repeat (fail_if_success (with_reducible refine hK1 _ ?_)); clear hK1); (with_reducible refine hK1 _ ?_); clear hK1))))
      | (((first | (((with_reducible refine opsP_cons fun K3 hK3 => ?_); simp only [wantP, opP, valP])) | ((with_reducible refine PW.condM fun X1 Y1 hX1 hY1 => ?_)) | (skip)); simp (disch := omega) only [St.eval, St.put, upd_app, iniT_app, avOf, avOf1, nom, binP, intsP, intP, nilP, slA, U7, PmL, simprocAttr, retQ, resP, tupA, fg, fgs, condP, condB_t]; try (with_reducible (first | exact co_refl _ | exact co_own _ _ _ | exact co_nilsB | exact co_nilsL _ _)))))
    exact co_refl _
  by_cases k2 : t = 2
  · subst k2
    repeat' (first
      | ((with_reducible (first
       | (refine PW.seq fun K1 hK1 => ?_) | (refine PW.region fun K2 hK2 => ?_) | ((refine hK3 _ ?_; clear hK3)) | ((refine opsP_nil ?_; refine hK2 _ ?_; clear hK2)) 
       | (refine PW.block ?_) | (refine PW.ret ?_) | ((refine hX1 ?_; clear hX1 hY1; try simp only [hb])) | ((refine hY1 ?_; clear hX1 hY1; try simp only [hb])) )))
      | ((simp only [thenP, blockP]; (try ((repeat (fail_if_success (with_reducible refine hK1 _ ?_)); clear hK1); (with_reducible refine hK1 _ ?_); clear hK1))))
      | (((first | (((with_reducible refine opsP_cons fun K3 hK3 => ?_); simp only [wantP, opP, valP])) | ((with_reducible refine PW.condM fun X1 Y1 hX1 hY1 => ?_)) | (skip)); simp (disch := omega) only [St.eval, St.put, upd_app, iniT_app, avOf, avOf1, nom, binP, intsP, intP, nilP, slA, U7, PmL, simprocAttr, retQ, resP, tupA, fg, fgs, condP, condB_t, condB_f]; try (with_reducible (first | exact co_refl _ | exact co_own _ _ _ | exact co_nilsB | exact co_nilsL _ _)))))
    exact co_refl _
  by_cases k3 : t = 3
  · subst k3
    repeat' (first
      | ((with_reducible (first
       | (refine PW.seq fun K1 hK1 => ?_) | (refine PW.region fun K2 hK2 => ?_) | ((refine hK3 _ ?_; clear hK3)) | ((refine opsP_nil ?_; refine hK2 _ ?_; clear hK2)) 
       | (refine PW.block ?_) | (refine PW.ret ?_) | ((refine hX1 ?_; clear hX1 hY1; try simp only [hb])) | ((refine hY1 ?_; clear hX1 hY1; try simp only [hb])) )))
      | ((simp only [thenP, blockP]; (try ((repeat (fail_if_success (with_reducible refine hK1 _ ?_)); clear hK1); (with_reducible refine hK1 _ ?_); clear hK1))))
      | (((first | (((with_reducible refine opsP_cons fun K3 hK3 => ?_); simp only [wantP, opP, valP])) | ((with_reducible refine PW.condM fun X1 Y1 hX1 hY1 => ?_)) | (skip)); simp (disch := omega) only [St.eval, St.put, upd_app, iniT_app, avOf, avOf1, nom, binP, intsP, intP, nilP, slA, U7, Ve, PmL, simprocAttr, retQ, resP, tupA, fg, fgs, condP, condB_t, condB_f]; try (with_reducible (first | exact co_refl _ | exact co_own _ _ _ | exact co_nilsB | exact co_nilsL _ _)))))
    exact co_refl _
  · have e1 := eq_false k1
    have e2 := eq_false k2
    have e3 := eq_false k3
    repeat' (first
      | ((with_reducible (first
       | (refine PW.seq fun K1 hK1 => ?_) | (refine PW.region fun K2 hK2 => ?_) | ((refine hK3 _ ?_; clear hK3)) | ((refine opsP_nil ?_; refine hK2 _ ?_; clear hK2)) 
       | (refine PW.block ?_) | (refine PW.skip ?_) | (refine PW.ret ?_) | ((refine hY1 ?_; clear hX1 hY1; try simp only [hb])) )))
      | ((simp only [thenP, blockP]; (try ((repeat (fail_if_success (with_reducible refine hK1 _ ?_)); clear hK1); (with_reducible refine hK1 _ ?_); clear hK1))))
      | (((first | (((with_reducible refine opsP_cons fun K3 hK3 => ?_); simp only [wantP, opP, valP])) | ((with_reducible refine PW.condM fun X1 Y1 hX1 hY1 => ?_)) | (skip)); simp (disch := omega) only [St.eval, St.put, upd_app, iniT_app, avOf, avOf1, nom, binP, intsP, intP, nilP, slA, U7, Ve, PmL, simprocAttr, e1, e2, e3, retQ, resP, tupA, fg, fgs, condP, condB_f]; try (with_reducible (first | exact co_refl _ | exact co_own _ _ _ | exact co_nilsB | exact co_nilsL _ _)))))
    have : colOf t = none := by unfold colOf; rw [if_neg k1, if_neg k2, if_neg k3]
    unfold colN colS
    rw [this]
    exact co_refl _
set_option maxRecDepth 100000 in
set_option maxHeartbeats 4000000 in
theorem pRFields (l : List (List Int × Int)) (hz : (fldsF l).length ≤ 100000000000) : Pure Tryd.prog 64 [.d (.sl 2 (encL fldC l))] (.tup [bs (fldsBody l), .d (.bool (fldsMay l))]) := by
  refine pure_intro Tryd.func64 rfl rfl rfl 65 rfl (fun hh => ?_)
  have hmx : maxLen = 9223372036854775807 := rfl
  have hfl : l.length ≤ 9223372036854775807 := by
    have := (has_sl (hh (.d (.sl 2 (encL fldC l))) (by simp))).1
    rw [encL_len] at this
    omega
  have hbad : l.all fldOk = false → Co (.tup [.nils, .d (.bool false)]) (.tup [bs (fldsBody l), .d (.bool (fldsMay l))]) := fun h => by
    unfold fldsBody fldsMay
    rw [h]
    exact co_tup (cos_cons co_nilsB (cos_cons (co_refl _) cos_nil))
  repeat' (first
    | ((with_reducible (first
     | (refine PW.seq fun K1 hK1 => ?_) | (refine PW.region fun K2 hK2 => ?_) | ((refine hK3 _ ?_; clear hK3)) | ((refine opsP_nil ?_; refine hK2 _ ?_; clear hK2)) 
     | (refine PW.block ?_) )))
    | (((with_reducible refine cC_new ?_ (pRBig2 ?_) ?_); (focus ((repeat' (first | (refine .cons ?_ ?_) | (exact .nil) | (exact .d _) )); done))))
    | ((simp only [thenP]; (try ((repeat (fail_if_success (with_reducible refine hK1 _ ?_)); clear hK1); (with_reducible refine hK1 _ ?_); clear hK1))))
    | (((first | (((with_reducible refine opsP_cons fun K3 hK3 => ?_); simp only [wantP, opP, valP, Ur, Us])) | (skip)); simp (disch := omega) only [St.eval, St.put, upd_app, iniT_app, avOf, avOf1, nom, lenP, builtinP, isMapA, U7, Ug, Ut, Uv, PmL, simprocAttr, PmT]; try (with_reducible (first | exact co_refl _ | exact co_own _ _ _ | exact co_nilsB | exact co_nilsL _ _)))))
  (with_reducible refine PW.loop (fun n s => ∃ k : Nat, s.t 0 = .d (.sl 2 (encL fldC l)) ∧ s.t 4 = .own 0 1 (encB (big2 l.length ++ fldsF (l.take k))) ∧ s.t 5 = .d (.int .i64 k) ∧ s.n = 65 ∧
    s.m = ⟨[], [some ⟨5, 1, (big2 l.length ++ fldsF (l.take k)).length⟩]⟩ ∧ k ≤ l.length ∧ n = l.length - k ∧ (l.take k).all fldOk = true) l.length ?_ ?_)
  · exact ⟨0, rfl, rfl, rfl, rfl, rfl, Nat.zero_le _, rfl, rfl⟩
  rintro n ⟨t, nn, m⟩ ⟨k, h0, h4, h5, hn, hm, hk, hnk, hok⟩ - -
  simp only at h0 h4 h5 hn hm
  subst hn hm
  by_cases hlt : (k : Int) < l.length
  · have hlt' := eq_true hlt
    obtain ⟨p, hx⟩ : ∃ x, l[k]? = some x := ⟨_, List.getElem?_eq_getElem (by omega)⟩
    have hsz := fldsF_at hx
    have hsn := fldsF_snoc hx
    have hno := fun h => hbad (all_not hx h)
    have hyes := fun h => all_more hok hx h
    have hlb : (big2 l.length).length = 2 := rfl
    obtain ⟨cur, hcur⟩ : ∃ cur, big2 l.length ++ fldsF (l.take k) = cur := ⟨_, rfl⟩
    have hcl : cur.length ≤ 100000000002 ∧ cur.length + (fldB p).length ≤ 100000000002 := by
      rw [← hcur, List.length_append, hlb]; omega
    rw [hcur] at h4 ⊢
    rw [fldB_len] at hcl
    have hsn' : big2 l.length ++ fldsF (l.take (k + 1)) = cur ++ fldB p := by rw [hsn, ← hcur, List.append_assoc]
    obtain ⟨a, ty⟩ := p
    simp only at hcl
    have hw : IntKind.i64.wrap ((k : Int) + 1) = (k : Int) + 1 := wl_i64 (by simp only [Bool.and_eq_true, decide_eq_true_eq]; omega)
    have hX1 := pRStro cur a (by omega)
    have hcl1 := pRHas0 a
    have hT := pRTypeOf ty
    have hk1 : fldOk (a, ty) = ((colOf ty).isSome && !has0 a) := rfl
    have hsn2 : big2 l.length ++ fldsF (l.take (k + 1)) = cur ++ a ++ [0] ++ [0, 0, 0, 0, 0, 0] ++ big4 (colN ty) ++ big2 (colS ty) ++ [255, 255, 255, 255, 0, 0] := by rw [hsn']; unfold fldB; simp [big4, big2]
    have hl2 : 2 + (fldsF (l.take (k + 1))).length = cur.length + a.length + 1 + 6 + 4 + 2 + 6 := by have := congrArg List.length hsn2; simp only [List.length_append, big4_l, big2_l, List.length_cons, List.length_nil] at this; omega
    obtain ⟨cn, hcn⟩ : ∃ x, colN ty = x := ⟨_, rfl⟩
    obtain ⟨cs, hcs⟩ : ∃ x, colS ty = x := ⟨_, rfl⟩
    obtain ⟨ci, hci⟩ : ∃ x, (colOf ty).isSome = x := ⟨_, rfl⟩
    rw [hcn, hcs, hci] at hT
    rw [hcn, hcs] at hsn2
    rw [hci] at hk1
    clear hcn hcs hci
    repeat' (first
      | ((with_reducible (first
       | (refine PW.seq fun K1 hK1 => ?_) | (refine PW.region fun K2 hK2 => ?_) | ((refine hK3 _ ?_; clear hK3)) | ((refine opsP_nil ?_; refine hK2 _ ?_; clear hK2)) | (refine litX_old ?_) | (refine litC_data ?_) 
       | (refine PW.block ?_) | (refine PW.skip ?_) | (refine PW.ret ?_) | ((refine hX1 ?_; clear hX1 hY1; try simp only [hb])) | ((refine hY1 ?_; clear hX1 hY1; try simp only [hb])) )))
      | (((first | (with_reducible refine wantB_intro (fun hb => ?_) (fun hb => ?_)) | (with_reducible refine condB_intro (fun hb => ?_) (fun hb => ?_))) <;> ((try (have hp := hb; simp only [PmH] at hp)); try simp only [hb, Bool.not_true, Bool.not_false])))
      | (((with_reducible refine cC_row ?_ ?_ ?_ (hX1) ?_); (with_reducible exact rfl); (focus (simp only [Ua]; try rfl)); (focus ((repeat' constructor) <;> (simp only [purAs, purA, Vf, Bool.and_self, h0, h4, h5, hlt', hx, hw, fldC, big4_l, big2_l, enc6]; done)))))
      | (((with_reducible refine cC_new ?_ (pRBig4 ?_) ?_); (focus ((repeat' (first | (refine .cons ?_ ?_) | (exact .nil) | (exact .d _) )) <;> (simp only [purAs, purA, Vf, Bool.and_self, h0, h4, h5, hlt', hx, hw, fldC, big4_l, big2_l, enc6]; done)))))
      | (((with_reducible refine cC_new ?_ (pRBig2 ?_) ?_); (focus ((repeat' (first | (refine .cons ?_ ?_) | (exact .nil) | (exact .d _) )) <;> (simp only [purAs, purA, Vf, Bool.and_self, h0, h4, h5, hlt', hx, hw, fldC, big4_l, big2_l, enc6]; done)))))
      | (((with_reducible refine cC_pure ?_ (hT) (fun _ => ?_)); (focus ((repeat' constructor) <;> (simp only [purAs, purA, Vf, Bool.and_self, h0, h4, h5, hlt', hx, hw, fldC, big4_l, big2_l, enc6]; done)))))
      | (((with_reducible refine cC_pure ?_ (hcl1) (fun _ => ?_)); (focus ((repeat' constructor) <;> (simp only [purAs, purA, Vf, Bool.and_self, h0, h4, h5, hlt', hx, hw, fldC, big4_l, big2_l, enc6]; done)))))
      | (((with_reducible refine And.intro ?_ ?_); (focus (first | omega | (simp; done) | assumption))))
      | ((simp only [thenP, blockP]; (try ((repeat (fail_if_success (with_reducible refine hK1 _ ?_)); clear hK1); (with_reducible refine hK1 _ ?_); clear hK1))))
      | (((first | ((with_reducible (first | refine opsP_consMt (d := ?_) (dj := ?_) (b := ?_) (r := ?_) ?_ ?_ (fun hb => ?_) (fun K3 hK3 => ?_) | refine opsP_consMf (d := ?_) (dj := ?_) (b := ?_) (r := ?_) ?_ ?_ (fun hb => ?_) (fun K3 hK3 => ?_))); rotate_left 3; (focus exact rfl); (focus (simp only [upd_app, simprocAttr]; exact rfl))) | ((with_reducible (first | refine opsP_consNt (d := ?_) (dj := ?_) (b := ?_) (r := ?_) (c := ?_) ?_ ?_ (fun hb => ?_) (fun K3 hK3 => ?_) | refine opsP_consNf (d := ?_) (dj := ?_) (b := ?_) (r := ?_) (c := ?_) ?_ ?_ (fun hb => ?_) (fun K3 hK3 => ?_))); rotate_left 4; (focus exact rfl); (focus (simp only [St.put, upd_app, iniT_app, simprocAttr, mrg_t, mrg_f]; exact rfl)))); (focus (simp only [opP, valP]; (try (simp only [Bool.not_eq_true'] at hb)); (try (have hp := hb; simp only [PmH] at hp)); simp (disch := omega) only [St.eval, upd_app, PmL, simprocAttr, hb]; (repeat' (first | (exact rfl) | ((refine And.intro ?_ ?_); (focus (exact rfl)); (exact rfl)) | (refine And.intro (by first | omega | (simp; done) | assumption) ?_) | ((with_reducible refine cC_pure ?_ (hT) (fun _ => ?_)); (focus ((repeat' constructor) <;> (simp only [purAs, purA, Vf, Bool.and_self, h0, h4, h5, hlt', hx, hw, fldC, big4_l, big2_l, enc6]; done)))) | ((with_reducible refine cC_pure ?_ (hcl1) (fun _ => ?_)); (focus ((repeat' constructor) <;> (simp only [purAs, purA, Vf, Bool.and_self, h0, h4, h5, hlt', hx, hw, fldC, big4_l, big2_l, enc6]; done)))))); done)); (try simp only [St.put, Nat.reduceLT, ↓reduceIte])))
      | (((first | (((with_reducible refine opsP_cons fun K3 hK3 => ?_); simp only [wantP, opP, valP, Ur, Us, List.mapM_cons, List.mapM_nil, Uw, Ux])) | ((with_reducible refine PW.condM fun X1 Y1 hX1 hY1 => ?_)) | (skip)); simp (disch := omega) only [St.eval, St.put, upd_app, avOf, avOf1, cellsA, AV.okv, loadA, lenP, binP, intsP, intP, nilP, unP, builtinP, appP, srcA, srcTy, isMapA, isBsl, U3, U4, U5, slA, elA, dv1, Ua, Ub, Uc, Uf, Ug, Ui, Uk, Ul, Ur, Us, Ut, Uu, Uv, List.mapM_cons, List.mapM_nil, Uw, Ux, V0, V1, V2, V4, Option.bind_eq_bind, Option.pure_def, V7, V9, Ve, UU9, Vs, PmL, simprocAttr, PmT, h0, h4, h5, hlt', hx, hw, fldC, big4_l, big2_l, enc6, pick_or, retQ, resP, tupA, fg, fgs, condP, condB_t]; try (with_reducible (first | exact co_refl _ | exact co_own _ _ _ | exact co_nilsB | exact co_nilsL _ _)))))
    · exact hno (by rw [hk1]; revert hb; cases ci <;> cases has0 a <;> simp)
    · have hf := hyes (by rw [hk1]; revert hb; cases ci <;> cases has0 a <;> simp)
      refine ⟨l.length - (k + 1), by omega, k + 1, ?_, ?_, ?_, ?_, ?_, by omega, rfl, hf⟩
      case refine_2 => rw [hsn2]; rfl
      all_goals (simp only [St.cut, Mem.cut, fg, upd_app, Nat.reduceEqDiff, ↓reduceIte, List.take_nil, List.map_nil, List.take_succ_cons, List.take_zero, Nat.reduceAdd, List.append_assoc, Nat.add_assoc, Int.natCast_add, Int.cast_ofNat_Int, h0, hl2]; try rfl)
  · have hlt' := eq_false hlt
    have hkl : k = l.length := by omega
    have htk : l.take k = l := List.take_of_length_le (by omega)
    rw [htk] at h4 hok
    rw [htk]
    repeat' (first
      | ((with_reducible (first
       | (refine PW.seq fun K1 hK1 => ?_) | (refine PW.region fun K2 hK2 => ?_) | ((refine hK3 _ ?_; clear hK3)) | ((refine opsP_nil ?_; refine hK2 _ ?_; clear hK2)) 
       | (refine PW.exit ?_) | (refine PW.ret ?_) | ((refine hY1 ?_; clear hX1 hY1; try simp only [hb])) )))
      | ((simp only [thenP, blockP, ↓reduceIte]; (try ((repeat (fail_if_success (with_reducible refine hK1 _ ?_)); clear hK1); (with_reducible refine hK1 _ ?_); clear hK1))))
      | (((first | (((with_reducible refine opsP_cons fun K3 hK3 => ?_); simp only [wantP, opP, valP, Ur, Us])) | ((with_reducible refine PW.condM fun X1 Y1 hX1 hY1 => ?_)) | (skip)); simp (disch := omega) only [St.eval, St.put, upd_app, avOf, avOf1, lenP, binP, intsP, intP, nilP, builtinP, isMapA, slA, Ui, Vd, Ve, PmL, simprocAttr, PmT, h0, h4, h5, hlt', retQ, resP, tupA, fg, fgs, condP, condB_f]; try (with_reducible (first | exact co_refl _ | exact co_own _ _ _ | exact co_nilsB | exact co_nilsL _ _)))))
    unfold fldsBody fldsMay
    rw [hok, if_pos rfl]
    refine co_tup (cos_cons (co_refl _) (cos_cons (co_eq (congrArg (fun b => AV.d (.bool b)) ?_)) cos_nil))
    rw [Bool.true_and, decide_eq_decide]
    omega
end PM
end Go.Proofs.YthaekefdadccaaaDoor
namespace Go.Proofs.YthaekefdadccaaaDoor
open Go.RowKit
namespace PM
def rCelsBody (l : List (Bool × List Int)) : List Int := if (celsMay l && decide (celsT l ≤ 1073741824)) = true then celsB l else []
set_option maxRecDepth 100000 in
set_option maxHeartbeats 4000000 in
theorem pRCells (l : List (Bool × List Int)) (hz : celsN l ≤ 100000000000) : Pure Tryd.prog 65 [.d (.sl 2 (encL celC l))] (.tup [bs (rCelsBody l), .d (.bool (celsMay l))]) := by
  refine pure_intro Tryd.func65 rfl rfl rfl 74 rfl (fun hh => ?_)
  have hmx : maxLen = 9223372036854775807 := rfl
  have hfl : l.length ≤ 9223372036854775807 := by
    have := (has_sl (hh (.d (.sl 2 (encL celC l))) (by simp))).1
    rw [encL_len] at this
    omega
  have hNd : celsN l = 2 + (4 * l.length + celsT l) := rfl
  have hbad : celsMay l = false → Co (.tup [.nils, .d (.bool false)]) (.tup [bs (rCelsBody l), .d (.bool (celsMay l))]) := fun h => by
    unfold rCelsBody
    rw [h]
    exact co_tup (cos_cons co_nilsB (cos_cons (co_refl _) cos_nil))
  repeat' (first
    | ((with_reducible (first
     | (refine PW.seq fun K1 hK1 => ?_) | (refine PW.region fun K2 hK2 => ?_) | ((refine hK3 _ ?_; clear hK3)) | ((refine opsP_nil ?_; refine hK2 _ ?_; clear hK2)) 
     | (refine PW.block ?_) )))
    | (((with_reducible refine cC_new ?_ (pRBig2 ?_) ?_); (focus ((repeat' (first | (refine .cons ?_ ?_) | (exact .nil) | (exact .d _) )); done))))
    | ((simp only [thenP]; (try ((repeat (fail_if_success (with_reducible refine hK1 _ ?_)); clear hK1); (with_reducible refine hK1 _ ?_); clear hK1))))
    | (((first | (((with_reducible refine opsP_cons fun K3 hK3 => ?_); simp only [wantP, opP, valP, Ur, Us])) | (skip)); simp (disch := omega) only [St.eval, St.put, upd_app, iniT_app, avOf, avOf1, nom, lenP, builtinP, isMapA, U7, Ug, Ut, Uv, PmL, simprocAttr, PmT]; try (with_reducible (first | exact co_refl _ | exact co_own _ _ _ | exact co_nilsB | exact co_nilsL _ _)))))
  (with_reducible refine PW.loop (fun n s => ∃ k M : Nat, s.t 0 = .d (.sl 2 (encL celC l)) ∧ s.t 4 = .own 0 1 (encB (big2 l.length)) ∧ s.t 5 = .d (.int .i64 M) ∧ s.t 6 = .d (.int .i64 k) ∧ s.n = 74 ∧
    s.m = ⟨[], [some ⟨5, 1, (big2 l.length).length⟩]⟩ ∧ k ≤ l.length ∧ n = l.length - k ∧ (l.take k).all celOk = true ∧ M = celsT (l.take k)) l.length ?_ ?_)
  · exact ⟨0, 0, rfl, rfl, rfl, rfl, rfl, rfl, Nat.zero_le _, rfl, rfl, rfl⟩
  rintro n ⟨t, nn, m⟩ ⟨k, N, h0, h4, h5, h6, hn, hm, hk, hnk, hok, hM⟩ - -
  simp only at h0 h4 h5 h6 hn hm
  subst hn hm
  by_cases hlt : (k : Int) < l.length
  · have hlt' := eq_true hlt
    obtain ⟨p, hx⟩ : ∃ x, l[k]? = some x := ⟨_, List.getElem?_eq_getElem (by omega)⟩
    have hsz := celsT_at hx
    have hsn := celsT_snoc hx
    have hno := fun h => hbad (by unfold celsMay; rw [all_not hx h, Bool.false_and])
    have hyes := fun h => all_more hok hx h
    obtain ⟨a, b⟩ := p
    simp only at hsz hsn
    have hw : IntKind.i64.wrap ((k : Int) + 1) = (k : Int) + 1 := wl_i64 (by simp only [Bool.and_eq_true, decide_eq_true_eq]; omega)
    rw [← hM] at hsz
    have hwN : IntKind.i64.wrap ((N : Int) + b.length) = N + b.length := wl_i64 (by simp only [Bool.and_eq_true, decide_eq_true_eq]; omega)
    have hco : celOk (a, b) = !(a && !decide (b = [])) := rfl
    cases a
    all_goals
      repeat' (first
        | ((with_reducible (first
         | (refine PW.seq fun K1 hK1 => ?_) | (refine PW.region fun K2 hK2 => ?_) | ((refine hK3 _ ?_; clear hK3)) | ((refine opsP_nil ?_; refine hK2 _ ?_; clear hK2)) 
         | (refine PW.block ?_) | (refine PW.skip ?_) | (refine PW.ret ?_) | ((refine hX1 ?_; clear hX1 hY1; try simp only [hb])) | ((refine hY1 ?_; clear hX1 hY1; try simp only [hb])) )))
        | (((first | (with_reducible refine wantB_intro (fun hb => ?_) (fun hb => ?_)) | (with_reducible refine condB_intro (fun hb => ?_) (fun hb => ?_))) <;> ((try (have hp := hb; simp only [PmH] at hp)); try simp only [hb, Bool.not_true, Bool.not_false])))
        | (((with_reducible refine And.intro ?_ ?_); (focus (first | omega | (simp; done) | assumption))))
        | ((simp only [thenP, blockP]; (try ((repeat (fail_if_success (with_reducible refine hK1 _ ?_)); clear hK1); (with_reducible refine hK1 _ ?_); clear hK1))))
        | (((first | ((with_reducible (first | refine opsP_consMt (d := ?_) (dj := ?_) (b := ?_) (r := ?_) ?_ ?_ (fun hb => ?_) (fun K3 hK3 => ?_) | refine opsP_consMf (d := ?_) (dj := ?_) (b := ?_) (r := ?_) ?_ ?_ (fun hb => ?_) (fun K3 hK3 => ?_))); rotate_left 3; (focus exact rfl); (focus (simp only [upd_app, simprocAttr]; exact rfl))) | ((with_reducible (first | refine opsP_consNt (d := ?_) (dj := ?_) (b := ?_) (r := ?_) (c := ?_) ?_ ?_ (fun hb => ?_) (fun K3 hK3 => ?_) | refine opsP_consNf (d := ?_) (dj := ?_) (b := ?_) (r := ?_) (c := ?_) ?_ ?_ (fun hb => ?_) (fun K3 hK3 => ?_))); rotate_left 4; (focus exact rfl); (focus (simp only [St.put, upd_app, iniT_app, simprocAttr, mrg_t, mrg_f]; exact rfl)))); (focus (simp only [opP, valP]; (try (simp only at hb)); (try (have hp := hb; simp only [PmH, beq_iff_eq, beq_eq_false_iff_ne, ne_eq] at hp)); simp (disch := omega) only [St.eval, upd_app, avOf, avOf1, loadA, binP, strP, eqP, nilP, bsz, U1, slA, Ug, Uk, Ul, Ur, Us, V2, V7, Ve, PmL, simprocAttr, PmT, h0, h6, hx, celC, hb]; (repeat' (first | (exact rfl) | ((refine And.intro ?_ ?_); (focus (exact rfl)); (exact rfl)) | (refine And.intro (by first | omega | (simp; done) | assumption) ?_))); done)); (try simp only [St.put, Nat.reduceLT, ↓reduceIte, mrg_t, mrg_f])))
        | (((first | (((with_reducible refine opsP_cons fun K3 hK3 => ?_); simp only [wantP, opP, valP, Ur, Us])) | ((with_reducible refine PW.condM fun X1 Y1 hX1 hY1 => ?_)) | (skip)); simp (disch := omega) only [wantB_ft, St.eval, St.put, upd_app, avOf, avOf1, loadA, lenP, binP, intsP, intP, eqP, nilP, builtinP, bsz, U1, isMapA, slA, Ua, Ub, Uf, Ug, Uk, Ul, Ur, Us, Uz, V2, V4, V7, V9, Ve, PmL, simprocAttr, PmT, h0, h5, h6, hlt', hx, hw, hwN, celC, retQ, resP, tupA, fg, fgs, condP, condB_t, condB_f]; try (with_reducible (first | exact co_refl _ | exact co_own _ _ _ | exact co_nilsB | exact co_nilsL _ _)))))
    · have hf := hyes (by rw [hco]; rfl)
      refine ⟨l.length - (k + 1), by omega, k + 1, N + b.length, ?_, ?_, ?_, ?_, ?_, ?_, by omega, rfl, hf, by rw [hsn, hM]⟩
      all_goals (simp only [St.cut, Mem.cut, fg, upd_app, Nat.reduceEqDiff, ↓reduceIte, List.take_nil, List.map_nil, List.take_succ_cons, Nat.zero_lt_one, Int.natCast_add, Int.cast_ofNat_Int, h0, h4]; try rfl)
    · exact hno (by rw [hco, Bool.true_and, hb]; rfl)
    · have hok2 : celOk (true, b) = true := by rw [hco, Bool.true_and, hb]; rfl
      have hf := hyes hok2
      refine ⟨l.length - (k + 1), by omega, k + 1, N + b.length, ?_, ?_, ?_, ?_, ?_, ?_, by omega, rfl, hf, by rw [hsn, hM]⟩
      all_goals (simp only [St.cut, Mem.cut, fg, upd_app, Nat.reduceEqDiff, ↓reduceIte, List.take_nil, List.map_nil, List.take_succ_cons, Nat.zero_lt_one, Int.natCast_add, Int.cast_ofNat_Int, h0, h4]; try rfl)
  · have hlt' := eq_false hlt
    have hkl : k = l.length := by omega
    have htk : l.take k = l := List.take_of_length_le (by omega)
    rw [htk] at hok hM
    rw [hM] at h5
    clear hM
    have hMy : celsMay l = decide (l.length ≤ 1600) := by unfold celsMay; rw [hok, Bool.true_and]
    obtain ⟨N, hN⟩ : ∃ N, celsT l = N := ⟨_, rfl⟩
    rw [hN] at h5
    by_cases hw : l.length ≤ 1600
    · have k1 := eq_false (show ¬ (1600 : Int) < (l.length : Int) by omega)
      have hMt : celsMay l = true := by rw [hMy]; exact decide_eq_true hw
      by_cases hs : N ≤ 1073741824
      · have k2 := eq_false (show ¬ (1073741824 : Int) < (N : Int) by omega)
        have hB : rCelsBody l = celsB l := if_pos (by rw [hMt, hN]; simp [hs])
        have hbl : (big2 (l.length : Int)).length = 2 := rfl
        repeat' (first
          | ((with_reducible (first
           | (refine PW.seq fun K1 hK1 => ?_) | (refine PW.region fun K2 hK2 => ?_) | ((refine hK3 _ ?_; clear hK3)) | ((refine opsP_nil ?_; refine hK2 _ ?_; clear hK2)) 
           | (refine PW.block ?_) | (refine PW.skip ?_) | (refine PW.exit ?_) | ((refine hY1 ?_; clear hX1 hY1; try simp only [hb])) )))
          | ((simp only [thenP, blockP, ↓reduceIte]; (try ((repeat (fail_if_success (with_reducible refine hK1 _ ?_)); clear hK1); (with_reducible refine hK1 _ ?_); clear hK1))))
          | (((first | (((with_reducible refine opsP_cons fun K3 hK3 => ?_); simp only [wantP, opP, valP, Ur, Us])) | ((with_reducible refine PW.condM fun X1 Y1 hX1 hY1 => ?_)) | (skip)); simp (disch := omega) only [St.eval, St.put, upd_app, avOf, avOf1, lenP, binP, intsP, intP, nilP, builtinP, isMapA, slA, PmL, simprocAttr, PmT, h0, h5, h6, hlt', k1, k2, condP, condB_f]; try (with_reducible (first | exact co_refl _ | exact co_own _ _ _ | exact co_nilsB | exact co_nilsL _ _)))))
        (with_reducible refine PW.loop (fun n s => ∃ k : Nat, s.t 0 = .d (.sl 2 (encL celC l)) ∧ s.t 4 = .own 0 1 (encB (big2 l.length ++ celsF (l.take k))) ∧ s.t 7 = .d (.int .i64 k) ∧ s.n = 74 ∧
          s.m = ⟨[], [some ⟨5, 1, (big2 l.length ++ celsF (l.take k)).length⟩]⟩ ∧ k ≤ l.length ∧ n = l.length - k) l.length ?_ ?_)
        · exact ⟨0, h0, h4, rfl, rfl, rfl, Nat.zero_le _, rfl⟩
        clear h0 h4 h5 h6 hk hnk hkl htk hlt
        rintro n ⟨t, nn, m⟩ ⟨k, h0, h4, h7, hn, hm, hk, hnk⟩ - -
        simp only at h0 h4 h7 hn hm
        subst hn hm
        by_cases hlt : (k : Int) < l.length
        · have hlt' := eq_true hlt
          obtain ⟨p, hx⟩ : ∃ x, l[k]? = some x := ⟨_, List.getElem?_eq_getElem (by omega)⟩
          have hsz := celsF_at hok hx
          have hsn := celsF_snoc hx
          have hpo := all_at hok hx
          obtain ⟨cur, hcur⟩ : ∃ cur, big2 l.length ++ celsF (l.take k) = cur := ⟨_, rfl⟩
          have hcl : cur.length ≤ 100000000002 ∧ cur.length + (celB p).length ≤ 100000000002 := by
            rw [← hcur, List.length_append, hbl]; omega
          rw [hcur] at h4 ⊢
          rw [celB_len _ hpo] at hcl
          have hsn' : big2 l.length ++ celsF (l.take (k + 1)) = cur ++ celB p := by rw [hsn, ← hcur, List.append_assoc]
          have hl2 : 2 + (celsF (l.take (k + 1))).length = cur.length + (celB p).length := by have := congrArg List.length hsn'; simp only [List.length_append, big2_l] at this; omega
          rw [celB_len _ hpo] at hl2
          obtain ⟨a, b⟩ := p
          simp only at hcl hl2
          have hw : IntKind.i64.wrap ((k : Int) + 1) = (k : Int) + 1 := wl_i64 (by simp only [Bool.and_eq_true, decide_eq_true_eq]; omega)
          cases a
          all_goals
            repeat' (first
              | ((with_reducible (first
               | (refine PW.seq fun K1 hK1 => ?_) | (refine PW.region fun K2 hK2 => ?_) | ((refine hK3 _ ?_; clear hK3)) | ((refine opsP_nil ?_; refine hK2 _ ?_; clear hK2)) | (refine litX_old ?_) | (refine litC_data ?_) 
               | (refine PW.block ?_) | (refine PW.skip ?_) | ((refine hX1 ?_; clear hX1 hY1; try simp only [hb])) | ((refine hY1 ?_; clear hX1 hY1; try simp only [hb])) )))
              | (((with_reducible refine cC_new ?_ (pRBig4 ?_) ?_); (focus ((repeat' (first | (refine .cons ?_ ?_) | (exact .nil) | (exact .d _) )) <;> (simp only [purAs, purA, Vf, Bool.and_self, h0, h4, h7, hlt', hx, hw, celC, big4_l, big2_l, enc4]; done)))))
              | (((with_reducible refine And.intro ?_ ?_); (focus (first | omega | (simp; done) | assumption))))
              | ((simp only [thenP, blockP]; (try ((repeat (fail_if_success (with_reducible refine hK1 _ ?_)); clear hK1); (with_reducible refine hK1 _ ?_); clear hK1))))
              | (((first | (((with_reducible refine opsP_cons fun K3 hK3 => ?_); simp only [wantP, opP, valP, Ur, Us, List.mapM_cons, List.mapM_nil, Uw, Ux])) | ((with_reducible refine PW.condM fun X1 Y1 hX1 hY1 => ?_)) | (skip)); simp (disch := omega) only [St.eval, St.put, upd_app, avOf, avOf1, cellsA, AV.okv, loadA, lenP, binP, intsP, intP, nilP, builtinP, appP, srcA, srcTy, isMapA, isBsl, U3, U4, U5, slA, elA, dv1, Ua, Uc, Uf, Ug, Ui, Uk, Ul, Ur, Us, Ut, Uu, Uv, List.mapM_cons, List.mapM_nil, Uw, Ux, V0, V1, V2, V4, Option.bind_eq_bind, Option.pure_def, V7, V9, Ve, UU9, Vs, PmL, simprocAttr, PmT, h0, h4, h7, hlt', hx, hw, celC, big4_l, big2_l, enc4, condP, condB_t, condB_f]; try (with_reducible (first | exact co_refl _ | exact co_own _ _ _ | exact co_nilsB | exact co_nilsL _ _)))))
          · have hsF : big2 l.length ++ celsF (l.take (k + 1)) = cur ++ big4 b.length ++ b := by rw [hsn', List.append_assoc]; rfl
            refine ⟨l.length - (k + 1), by omega, k + 1, ?_, ?_, ?_, ?_, ?_, by omega, rfl⟩
            case refine_2 => rw [hsF]; rfl
            all_goals (simp only [St.cut, Mem.cut, fg, upd_app, Nat.reduceEqDiff, ↓reduceIte, List.take_nil, List.map_nil, List.take_succ_cons, List.take_zero, List.append_assoc, Nat.add_assoc, Int.natCast_add, Int.cast_ofNat_Int, h0, hl2]; try rfl)
            all_goals trace_state
          · have hb0 : b = [] := by simpa [celOk] using hpo
            subst hb0
            have hsF : big2 l.length ++ celsF (l.take (k + 1)) = cur ++ [255, 255, 255, 255] := by rw [hsn']; rfl
            refine ⟨l.length - (k + 1), by omega, k + 1, ?_, ?_, ?_, ?_, ?_, by omega, rfl⟩
            case refine_2 => rw [hsF]; rfl
            all_goals (simp only [St.cut, Mem.cut, fg, upd_app, Nat.reduceEqDiff, ↓reduceIte, List.take_nil, List.map_nil, List.take_succ_cons, Nat.reduceAdd, List.length_nil, Int.natCast_add, Int.cast_ofNat_Int, h0, hl2]; try rfl)
            all_goals trace_state
        · have hlt' := eq_false hlt
          have hkl : k = l.length := by omega
          have htk : l.take k = l := List.take_of_length_le (by omega)
          rw [htk] at h4
          rw [htk]
          repeat' (first
            | ((with_reducible (first
             | (refine PW.seq fun K1 hK1 => ?_) | (refine PW.region fun K2 hK2 => ?_) | ((refine hK3 _ ?_; clear hK3)) | ((refine opsP_nil ?_; refine hK2 _ ?_; clear hK2)) 
             | (refine PW.exit ?_) | (refine PW.ret ?_) | ((refine hY1 ?_; clear hX1 hY1; try simp only [hb])) )))
            | ((simp only [thenP, blockP, ↓reduceIte]; (try ((repeat (fail_if_success (with_reducible refine hK1 _ ?_)); clear hK1); (with_reducible refine hK1 _ ?_); clear hK1))))
            | (((first | (((with_reducible refine opsP_cons fun K3 hK3 => ?_); simp only [wantP, opP, valP, Ur, Us])) | ((with_reducible refine PW.condM fun X1 Y1 hX1 hY1 => ?_)) | (skip)); simp (disch := omega) only [St.eval, St.put, upd_app, avOf, avOf1, lenP, binP, intsP, intP, nilP, builtinP, isMapA, slA, Ui, Vd, Ve, PmL, simprocAttr, PmT, h0, h4, h7, hlt', retQ, resP, tupA, fg, fgs, condP, condB_f]; try (with_reducible (first | exact co_refl _ | exact co_own _ _ _ | exact co_nilsB | exact co_nilsL _ _)))))
          rw [hB, hMt]
          exact co_refl _
      · have k2 := eq_true (show (1073741824 : Int) < (N : Int) by omega)
        have hB : rCelsBody l = [] := if_neg (by rw [hMt, hN]; simp; omega)
        repeat' (first
          | ((with_reducible (first
           | (refine PW.seq fun K1 hK1 => ?_) | (refine PW.region fun K2 hK2 => ?_) | ((refine hK3 _ ?_; clear hK3)) | ((refine opsP_nil ?_; refine hK2 _ ?_; clear hK2)) 
           | (refine PW.skip ?_) | (refine PW.exit ?_) | (refine PW.ret ?_) | ((refine hX1 ?_; clear hX1 hY1; try simp only [hb])) | ((refine hY1 ?_; clear hX1 hY1; try simp only [hb])) )))
          | ((simp only [thenP, blockP, ↓reduceIte]; (try ((repeat (fail_if_success (with_reducible refine hK1 _ ?_)); clear hK1); (with_reducible refine hK1 _ ?_); clear hK1))))
          | (((first | (((with_reducible refine opsP_cons fun K3 hK3 => ?_); simp only [wantP, opP, valP, Ur, Us])) | ((with_reducible refine PW.condM fun X1 Y1 hX1 hY1 => ?_)) | (skip)); simp (disch := omega) only [St.eval, St.put, upd_app, avOf, avOf1, lenP, binP, intsP, intP, nilP, builtinP, isMapA, slA, PmL, simprocAttr, PmT, h0, h5, h6, hlt', k1, k2, retQ, resP, tupA, fg, fgs, condP, condB_t, condB_f]; try (with_reducible (first | exact co_refl _ | exact co_own _ _ _ | exact co_nilsB | exact co_nilsL _ _)))))
        rw [hB, hMt]
        exact co_tup (cos_cons co_nilsB (cos_cons (co_refl _) cos_nil))
    · have k1 := eq_true (show (1600 : Int) < (l.length : Int) by omega)
      repeat' (first
        | ((with_reducible (first
         | (refine PW.seq fun K1 hK1 => ?_) | (refine PW.region fun K2 hK2 => ?_) | ((refine hK3 _ ?_; clear hK3)) | ((refine opsP_nil ?_; refine hK2 _ ?_; clear hK2)) 
         | (refine PW.exit ?_) | (refine PW.ret ?_) | ((refine hX1 ?_; clear hX1 hY1; try simp only [hb])) | ((refine hY1 ?_; clear hX1 hY1; try simp only [hb])) )))
        | ((simp only [thenP, blockP, ↓reduceIte]; (try ((repeat (fail_if_success (with_reducible refine hK1 _ ?_)); clear hK1); (with_reducible refine hK1 _ ?_); clear hK1))))
        | (((first | (((with_reducible refine opsP_cons fun K3 hK3 => ?_); simp only [wantP, opP, valP, Ur, Us])) | ((with_reducible refine PW.condM fun X1 Y1 hX1 hY1 => ?_)) | (skip)); simp (disch := omega) only [St.eval, St.put, upd_app, avOf, avOf1, lenP, binP, intsP, intP, nilP, builtinP, isMapA, slA, PmL, simprocAttr, PmT, h0, h6, hlt', k1, retQ, resP, tupA, fg, fgs, condP, condB_t, condB_f]; try (with_reducible (first | exact co_refl _ | exact co_own _ _ _ | exact co_nilsB | exact co_nilsL _ _)))))
      exact hbad (by rw [hMy]; exact decide_eq_false hw)
set_option maxRecDepth 100000 in
set_option maxHeartbeats 4000000 in
theorem pRIsState (s : List Int) : Pure Tryd.prog 83 [.d (.str s)] (.d (.bool (stated s))) := by
  refine pure_intro Tryd.func83 rfl rfl rfl 32 rfl (fun hh => ?_)
  have hml := (has_str (hh (.d (.str s)) (by simp))).2
  have hmx : maxLen = 9223372036854775807 := rfl
  repeat' (first
    | ((with_reducible (first
     | (refine PW.seq fun K1 hK1 => ?_) | (refine PW.region fun K2 hK2 => ?_) | ((refine hK3 _ ?_; clear hK3)) | ((refine opsP_nil ?_; refine hK2 _ ?_; clear hK2)) 
     | (refine PW.block ?_) )))
    | ((simp only [thenP]; (try ((repeat (fail_if_success (with_reducible refine hK1 _ ?_)); clear hK1); (with_reducible refine hK1 _ ?_); clear hK1))))
    | (((first | (((with_reducible refine opsP_cons fun K3 hK3 => ?_); simp only [wantP, opP, valP])) | (skip)); simp (disch := omega) only [St.eval, St.put, avOf, avOf1, nom, PmL, simprocAttr]; try (with_reducible (first | exact co_refl _ | exact co_own _ _ _ | exact co_nilsB | exact co_nilsL _ _)))))
  (with_reducible refine PW.loop (fun n t => ∃ k : Nat, t.t 0 = .d (.str s) ∧ t.t 3 = .d (.int .i64 k) ∧ t.n = 32 ∧ t.m = nom ∧ k ≤ s.length ∧ n = s.length - k ∧ (s.take k).all isAlnum = true) s.length ?_ ?_)
  · exact ⟨0, rfl, rfl, rfl, rfl, Nat.zero_le _, rfl, rfl⟩
  rintro n ⟨t, nn, m⟩ ⟨k, h0, h3, hn, hm, hk, hnk, hz⟩ - -
  simp only at h0 h3 hn hm
  subst hn hm
  by_cases hlt : (k : Int) < s.length
  · have hlt' := eq_true hlt
    obtain ⟨x, hx⟩ : ∃ x, s[k]? = some x := ⟨_, List.getElem?_eq_getElem (by omega)⟩
    have hw : IntKind.i64.wrap ((k : Int) + 1) = (k : Int) + 1 := wl_i64 (by simp only [Bool.and_eq_true, decide_eq_true_eq]; omega)
    have hal : isAlnum x = ((decide (48 ≤ x) && decide (x ≤ 57)) || (decide (65 ≤ x) && decide (x ≤ 90))) := rfl
    repeat' (first
      | ((with_reducible (first
       | (refine PW.seq fun K1 hK1 => ?_) | (refine PW.region fun K2 hK2 => ?_) | ((refine hK3 _ ?_; clear hK3)) | ((refine opsP_nil ?_; refine hK2 _ ?_; clear hK2)) 
       | (refine PW.block ?_) | (refine PW.skip ?_) | (refine PW.ret ?_) | ((refine hX1 ?_; clear hX1 hY1; try simp only [hb])) | ((refine hY1 ?_; clear hX1 hY1; try simp only [hb])) )))
      | (((first | (with_reducible refine wantB_intro (fun hb => ?_) (fun hb => ?_)) | (with_reducible refine condB_intro (fun hb => ?_) (fun hb => ?_))) <;> ((try (have hp := hb; simp only [PmH] at hp)); try simp only [hb, Bool.not_true, Bool.not_false])))
      | (((with_reducible refine And.intro ?_ ?_); (focus (first | omega | (simp; done) | assumption))))
      | ((simp only [thenP, blockP]; (try ((repeat (fail_if_success (with_reducible refine hK1 _ ?_)); clear hK1); (with_reducible refine hK1 _ ?_); clear hK1))))
      | (((first | ((with_reducible (first | refine opsP_consMt (d := ?_) (dj := ?_) (b := ?_) (r := ?_) ?_ ?_ (fun hb => ?_) (fun K3 hK3 => ?_) | refine opsP_consMf (d := ?_) (dj := ?_) (b := ?_) (r := ?_) ?_ ?_ (fun hb => ?_) (fun K3 hK3 => ?_))); rotate_left 3; (focus exact rfl); (focus (simp only [upd_app, simprocAttr]; exact rfl))) | ((with_reducible (first | refine opsP_consNt (d := ?_) (dj := ?_) (b := ?_) (r := ?_) (c := ?_) ?_ ?_ (fun hb => ?_) (fun K3 hK3 => ?_) | refine opsP_consNf (d := ?_) (dj := ?_) (b := ?_) (r := ?_) (c := ?_) ?_ ?_ (fun hb => ?_) (fun K3 hK3 => ?_))); rotate_left 4; (focus exact rfl); (focus (simp only [upd_app, simprocAttr]; exact rfl)))); (focus (simp only [opP, valP]; (try (simp only [Bool.and_eq_true, Bool.not_eq_true'] at hb)); (try (have hp := hb; simp only [PmH] at hp)); simp (disch := omega) only [St.eval, upd_app, avOf, avOf1, binP, intsP, intP, nilP, slA, PmL, simprocAttr, mrg_t, pick_and, hb]; (repeat' (first | (exact rfl) | ((refine And.intro ?_ ?_); (focus (exact rfl)); (exact rfl)) | (refine And.intro (by first | omega | (simp; done) | assumption) ?_))); done)); (try simp only [St.put, Nat.reduceLT, ↓reduceIte])))
      | (((first | (((with_reducible refine opsP_cons fun K3 hK3 => ?_); simp only [wantP, opP, valP, Ur, Us])) | ((with_reducible refine PW.condM fun X1 Y1 hX1 hY1 => ?_)) | (skip)); simp (disch := omega) only [St.eval, St.put, upd_app, avOf, avOf1, nom, lenP, binP, intsP, intP, nilP, unP, builtinP, isMapA, slA, Ug, V7, PmL, simprocAttr, PmT, h0, h3, hlt', hx, hw, pick_or, pick_and, retQ, resP, tupA, fg, condP, condB_t]; try (with_reducible (first | exact co_refl _ | exact co_own _ _ _ | exact co_nilsB | exact co_nilsL _ _)))))
    · have hx1 : isAlnum x = false := by rw [hal]; simpa only [Bool.not_eq_true'] using hb
      have : stated s = false := by unfold stated; rw [all_not hx hx1, Bool.and_false]
      rw [this]
      exact co_refl _
    · have hx1 : isAlnum x = true := by rw [hal]; simpa only [Bool.not_eq_false'] using hb
      refine ⟨s.length - (k + 1), by omega, k + 1, ?_, ?_, ?_, ?_, by omega, rfl, all_more hz hx hx1⟩
      all_goals (simp only [St.cut, Mem.cut, fg, upd_app, Nat.reduceEqDiff, ↓reduceIte, List.take_nil, List.map_nil, Int.natCast_add, Int.cast_ofNat_Int, h0]; try rfl)
  · have hlt' := eq_false hlt
    rw [List.take_of_length_le (by omega)] at hz
    repeat' (first
      | ((with_reducible (first
       | (refine PW.seq fun K1 hK1 => ?_) | (refine PW.region fun K2 hK2 => ?_) | ((refine hK3 _ ?_; clear hK3)) | ((refine opsP_nil ?_; refine hK2 _ ?_; clear hK2)) 
       | (refine PW.exit ?_) | (refine PW.ret ?_) | ((refine hY1 ?_; clear hX1 hY1; try simp only [hb])) )))
      | ((simp only [thenP, blockP, ↓reduceIte]; (try ((repeat (fail_if_success (with_reducible refine hK1 _ ?_)); clear hK1); (with_reducible refine hK1 _ ?_); clear hK1))))
      | (((first | (((with_reducible refine opsP_cons fun K3 hK3 => ?_); simp only [wantP, opP, valP, Ur, Us])) | ((with_reducible refine PW.condM fun X1 Y1 hX1 hY1 => ?_)) | (skip)); simp (disch := omega) only [St.eval, St.put, upd_app, avOf, avOf1, nom, lenP, binP, intsP, intP, nilP, builtinP, isMapA, slA, Ve, PmL, simprocAttr, PmT, h0, h3, hlt', retQ, resP, tupA, fg, condP, condB_f]; try (with_reducible (first | exact co_refl _ | exact co_own _ _ _ | exact co_nilsB | exact co_nilsL _ _)))))
    all_goals
      refine co_eq (congrArg (fun b => AV.d (.bool b)) ?_)
      unfold stated
      rw [hz, Bool.and_true, decide_eq_decide]
      omega
set_option maxRecDepth 100000 in
set_option maxHeartbeats 4000000 in
theorem pRRefusal (m : Back) (hz : m.state.length ≤ 100000000000 ∧ m.text.length ≤ 100000000000) : Pure Tryd.prog 66 [m.v] (.tup [bs (errBody m), .d (.bool (stated m.state && !has0 m.text))]) := by
  refine pure_intro Tryd.func66 rfl rfl rfl 44 rfl (fun hh => ?_)
  obtain ⟨xk, xn, xt, xp, xs, xu, xf, xc, xa, xg⟩ := m
  simp only at hz
  have hmx : maxLen = 9223372036854775807 := rfl
  obtain ⟨sv, hsv⟩ : ∃ sv, sevOf xg = sv := ⟨_, rfl⟩
  have hsl : sv.length = 5 := by rw [← hsv]; unfold sevOf; split <;> rfl
  have hA := pRIsState xa
  have hB := pRHas0 xt
  have hS1 : PFun Tryd.prog 62 [.own 0 1 [[.int .u8 83]], .d (.str sv)] ⟨[], [some ⟨5, 1, 1⟩]⟩ (.own 0 1 (encB ([83] ++ sv ++ [0]))) ⟨[], [some ⟨5, 1, ([83] ++ sv ++ [0]).length⟩]⟩ := pRStro [83] sv (by simp; omega)
  obtain ⟨c1, hc1⟩ : ∃ c, [83] ++ sv ++ [0] = c := ⟨_, rfl⟩
  have hl1 : c1.length = 7 := by rw [← hc1]; simp; omega
  rw [hc1] at hS1
  have hS2 := pRStro (c1 ++ [86]) sv (by simp; omega)
  obtain ⟨c2, hc2⟩ : ∃ c, c1 ++ [86] ++ sv ++ [0] = c := ⟨_, rfl⟩
  have hl2 : c2.length = 14 := by rw [← hc2]; simp; omega
  rw [hc2] at hS2
  have hS3 := pRStro (c2 ++ [67]) xa (by simp; omega)
  obtain ⟨c3, hc3⟩ : ∃ c, c2 ++ [67] ++ xa ++ [0] = c := ⟨_, rfl⟩
  have hl3 : c3.length = 16 + xa.length := by rw [← hc3]; simp; omega
  rw [hc3] at hS3
  have hS4 := pRStro (c3 ++ [77]) xt (by simp; omega)
  obtain ⟨c4, hc4⟩ : ∃ c, c3 ++ [77] ++ xt ++ [0] = c := ⟨_, rfl⟩
  have hl4 : c4.length = 18 + xa.length + xt.length := by rw [← hc4]; simp; omega
  rw [hc4] at hS4
  have hE : errBody ⟨xk, xn, xt, xp, xs, xu, xf, xc, xa, xg⟩ = c4 ++ [0] := by
    rw [← hc4, ← hc3, ← hc2, ← hc1, ← hsv]
    simp [errBody]
  rw [hE]
  clear hE hc1 hc2 hc3 hc4
  cases xg
  all_goals
    have hsv2 := hsv.symm
    simp only [sevOf, Bool.false_eq_true, ↓reduceIte] at hsv2
    subst hsv2
    repeat' (first
      | ((with_reducible (first
       | (refine PW.seq fun K1 hK1 => ?_) | (refine PW.region fun K2 hK2 => ?_) | ((refine hK3 _ ?_; clear hK3)) | ((refine opsP_nil ?_; refine hK2 _ ?_; clear hK2)) | (refine litX_old ?_) | (refine litC_data ?_) | (refine PW.skip ?_)
       | (refine PW.ret ?_) | ((refine hX1 ?_; clear hX1 hY1; try simp only [hb])) | ((refine hY1 ?_; clear hX1 hY1; try simp only [hb])) | ((refine opsO_nil ?_; refine hK2 _ ?_; clear hK2)) | ((refine keepA_intro ?_ ?_; focus (first | exact keep_same _ _ | exact keep_box _ _ _ _ | exact keep_hd _ _ _ _ _ | exact keep_02 _ _ _ _ _ _ _ | exact keep_1 _ _ _ _ _ _ _))))))
      | (((with_reducible refine cC_row ?_ ?_ ?_ (hS1) ?_); (with_reducible exact rfl); (focus (simp only [Ua]; try rfl)); (focus ((repeat' constructor) <;> (simp only [purAs, purA, Vf, Bool.and_self, Back.v, Back.c]; done)))))
      | (((with_reducible refine cC_row ?_ ?_ ?_ (hS2) ?_); (with_reducible exact rfl); (focus (simp only [Ua, Ui, Uf, Ug, V9]; try rfl)); (focus ((repeat' constructor) <;> (simp only [purAs, purA, Vf, Bool.and_self, Back.v, Back.c]; done)))))
      | (((with_reducible refine cC_row ?_ ?_ ?_ (hS3) ?_); (with_reducible exact rfl); (focus (simp only [Ua, Ui, Uf, Ug, V9]; try rfl)); (focus ((repeat' constructor) <;> (simp only [purAs, purA, Vf, Bool.and_self, Back.v, Back.c]; done)))))
      | (((with_reducible refine cC_row ?_ ?_ ?_ (hS4) ?_); (with_reducible exact rfl); (focus (simp only [Ua, Ui, Uf, Ug, V9]; try rfl)); (focus ((repeat' constructor) <;> (simp only [purAs, purA, Vf, Bool.and_self, Back.v, Back.c]; done)))))
      | (((with_reducible refine cC_pure ?_ (hA) (fun _ => ?_)); (focus ((repeat' constructor) <;> (simp only [purAs, purA, Vf, Bool.and_self, Back.v, Back.c]; done)))))
      | (((with_reducible refine cC_pure ?_ (hB) (fun _ => ?_)); (focus ((repeat' constructor) <;> (simp only [purAs, purA, Vf, Bool.and_self, Back.v, Back.c]; done)))))
      | (((with_reducible refine PW.draw (id := 8) mixed [0] [] [(0, true), (3, true), (4, true), (1, false), (2, false), (5, false), (6, true)] (by kernel_rfl) (by decide) fun K2 hK2 => ?_)))
      | (((with_reducible refine PW.draw (id := 9) mixed [0] [] [(0, true), (3, true), (4, true), (1, false), (2, false), (5, false), (6, true)] (by kernel_rfl) (by decide) fun K2 hK2 => ?_)))
      | (((with_reducible refine And.intro ?_ ?_); (focus (first | omega | (simp; done) | assumption))))
      | ((simp only [thenP]; (try ((repeat (fail_if_success (with_reducible refine hK1 _ ?_)); clear hK1); (with_reducible refine hK1 _ ?_); clear hK1))))
      | (((with_reducible refine opsP_consD (d := 16) fun K3 hK3 => ?_); simp only [wantP, opP, Ur, Us, List.mapM_cons, List.mapM_nil, Uw, Ux]; simp (disch := omega) only [St.eval, St.put, avOf, avOf1, cellsA, AV.okv, U3, U4, U5, elA, dv1, Uf, Ug, Ut, Uu, Uv, List.mapM_cons, List.mapM_nil, Uw, Ux, V0, V1, V4, Option.bind_eq_bind, Option.pure_def, V9, Ve, UU9, PmL, simprocAttr, PmT]; (with_reducible refine litX_old ?_); (with_reducible refine litC_own ?_)))
      | (((first | ((with_reducible (first | refine opsP_consMt (d := ?_) (dj := ?_) (b := ?_) (r := ?_) ?_ ?_ (fun hb => ?_) (fun K3 hK3 => ?_) | refine opsP_consMf (d := ?_) (dj := ?_) (b := ?_) (r := ?_) ?_ ?_ (fun hb => ?_) (fun K3 hK3 => ?_))); rotate_left 3; (focus exact rfl); (focus (simp only [upd_app, simprocAttr]; exact rfl))) | ((with_reducible (first | refine opsP_consNt (d := ?_) (dj := ?_) (b := ?_) (r := ?_) (c := ?_) ?_ ?_ (fun hb => ?_) (fun K3 hK3 => ?_) | refine opsP_consNf (d := ?_) (dj := ?_) (b := ?_) (r := ?_) (c := ?_) ?_ ?_ (fun hb => ?_) (fun K3 hK3 => ?_))); rotate_left 4; (focus exact rfl); (focus (simp only [St.put, upd_app, iniT_app, simprocAttr, mrg_t, mrg_f]; exact rfl)))); (focus (simp only [opP, valP]; (try (simp only [Bool.and_eq_true, Bool.not_eq_true'] at hb)); (try (have hp := hb; simp only [PmH, beq_iff_eq, beq_eq_false_iff_ne, ne_eq] at hp)); simp (disch := omega) only [St.eval, upd_app, unP, PmL, simprocAttr, mrg_t, hb]; (repeat' (first | (exact rfl) | ((refine And.intro ?_ ?_); (focus (exact rfl)); (exact rfl)) | (refine And.intro (by first | omega | (simp; done) | assumption) ?_) | ((with_reducible refine cC_pure ?_ (hA) (fun _ => ?_)); (focus ((repeat' constructor) <;> (simp only [purAs, purA, Vf, Bool.and_self, Back.v, Back.c]; done)))) | ((with_reducible refine cC_pure ?_ (hB) (fun _ => ?_)); (focus ((repeat' constructor) <;> (simp only [purAs, purA, Vf, Bool.and_self, Back.v, Back.c]; done)))))); done)); (try simp only [St.put, Nat.reduceLT, ↓reduceIte])))
      | (((first | (((with_reducible refine opsP_cons fun K3 hK3 => ?_); simp only [wantP, opP, valP, Ur, Us, List.mapM_cons, List.mapM_nil, Uw, Ux])) | (((with_reducible refine opsO_first (o := ?_) ?_ fun K3 hK3 => ?_); rotate_left 1; (focus (simp only [Uz, Ub, Ua] <;> rfl)); simp only [wantP, firstP, valP])) | (((with_reducible refine opsO_only (o := ?_) ?_ fun K3 hK3 => ?_); rotate_left 1; (focus (simp only [Uz, Ub, Ua] <;> rfl)); simp only [wantP, opP, Ur, Us, List.mapM_cons, List.mapM_nil, Uw, Ux])) | ((with_reducible refine PW.condM fun X1 Y1 hX1 hY1 => ?_)) | (skip)); simp (disch := omega) only [St.eval, St.put, upd_app, iniT_app, avOf, avOf1, nom, cellsA, AV.okv, loadA, builtinP, appP, srcA, srcTy, bsz, U1, isBsl, U3, U4, U5, elA, dv1, U7, Ua, Uc, Uf, Ug, Uk, Ul, Ur, Us, Ut, Uu, Uv, List.mapM_cons, List.mapM_nil, Uw, Ux, V0, V1, V2, V4, Option.bind_eq_bind, Option.pure_def, V9, Vd, Ve, Int.cast_ofNat_Int, UU9, Vs, PmL, simprocAttr, PmT, Back.v, Back.c, pick_and, retQ, resP, tupA, fg, fgs, condP, condB_t, condB_f, firstOk, List.mem_cons]; try (with_reducible (first | exact co_refl _ | exact co_own _ _ _ | exact co_nilsB | exact co_nilsL _ _)))))
    all_goals trace_state
    all_goals sorry
end PM
end Go.Proofs.YthaekefdadccaaaDoor
