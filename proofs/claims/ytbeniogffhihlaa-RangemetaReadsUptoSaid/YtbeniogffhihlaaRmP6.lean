/- rangemeta in the abstract: ranges as bytes. -/
import Derived.Test.YtbeniogffhihlaaRmP5
set_option linter.unusedVariables false
set_option linter.unusedSimpArgs false
namespace Go.Proofs.Ytbeniogffhihlaa
open Go.RowKit
namespace PM
def txT (f : List Int) : List Int := Codec.numN f.length ++ f
def rgT (x : Rg) : List Int := Codec.numN x.id.toNat ++ (Codec.numN x.gen.toNat ++ (txT x.f ++ txT x.t))
def rgsT : List Rg → List Int
  | [] => []
  | x :: l => rgT x ++ rgsT l
def bytesT (l : List Rg) : List Int := Codec.numN l.length ++ rgsT l
def okL (l : List Rg) : Bool := decide (l.length ≤ 255) && l.all Rg.right
theorem rgsT_take {l : List Rg} {k : Nat} {x : Rg} (hx : l[k]? = some x) : rgsT (l.take (k + 1)) = rgsT (l.take k) ++ rgT x := by
  have : ∀ (l m : List Rg), rgsT (l ++ m) = rgsT l ++ rgsT m := fun l m => by
    induction l with
    | nil => rfl
    | cons y l ih => simp only [List.cons_append, rgsT, ih, List.append_assoc]
  rw [List.take_add_one, hx, this]
  simp [rgsT]
theorem wr1 : IntKind.i64.wrap 1 = 1 := by decide
theorem wr2 : IntKind.i64.wrap 2 = 2 := by decide
theorem any_right (l : List Rg) : (l.any fun x => !x.right) = !l.all Rg.right := by
  induction l with
  | nil => rfl
  | cons x l ih => simp [ih]
set_option maxRecDepth 100000 in
theorem pBytesNo (l : List Rg) (h : okL l = false) : Pure Try.prog 32 [rl l] (.tup [bs [], .d (.int .i64 150)]) := by
  refine pure_intro Try.func32 rfl rfl rfl 60 rfl (fun hh => ?_)
  by_cases hq : (255 : Int) < l.length
  · have hq' := eq_true hq
    repeat' (first
      | (with_reducible (first
       | refine PW.seq fun K1 hK1 => ?_ | refine PW.region fun K2 hK2 => ?_ | (refine hK3 _ ?_; clear hK3) | (refine opsP_nil ?_; refine hK2 _ ?_; clear hK2) | refine litX_old ?_ | refine litC_data ?_ | (refine Exists.intro _ (Exists.intro _ (And.intro rfl (And.intro rfl (And.intro ?_ ?_)))); focus omega) | (refine hK1 _ ?_; clear hK1) | refine nilC_intro (fun hz => ?_) ?_
       | refine PW.block ?_ | refine PW.skip ?_ | refine PW.exit ?_ | refine PW.ret ?_ | (refine hX1 ?_; clear hX1 hY1; try simp only [hb]) | (refine hY1 ?_; clear hX1 hY1; try simp only [hb]) | exact co_refl _ | exact co_own _ _ _ | exact co_nilsB | exact co_nilsL _ _))
      | ((first | (with_reducible refine wantB_intro (fun hb => ?_) (fun hb => ?_)) | (with_reducible refine condB_intro (fun hb => ?_) (fun hb => ?_))) <;> ((try (have hp := hb; simp only [PmH, beq_iff_eq, beq_eq_false_iff_ne, ne_eq] at hp)); try simp only [hb, Bool.not_true, Bool.not_false]))
      | ((with_reducible refine cC_pure ?_ (pContains _ [] rfl (fun x => !x.right) pBytes1 ?_) (fun _ => ?_)); (focus ((repeat' (first | refine .cons ?_ ?_ | exact .nil | exact .d _ | exact .own _ _ _ | exact .nl | exact .nilsB | exact .nilsL _ _ | exact .nils _ | exact .cp _ | refine .agg ?_ | refine .fn ?_ | refine .rf _ ?_)) <;> (simp only [purAs, purA, Vf, Bool.and_self, hq']; done))))
      | ((with_reducible refine And.intro ?_ ?_); (focus (first | omega | (simp; done) | assumption)))
      | (simp only [thenP, blockP, Nat.reduceEqDiff, ↓reduceIte]; (try ((repeat (fail_if_success (with_reducible refine hK1 _ ?_)); clear hK1); (with_reducible refine hK1 _ ?_); clear hK1)))
      | (with_reducible omega)
      | (assumption)
      | ((first | ((with_reducible refine opsP_cons fun K3 hK3 => ?_); simp only [wantP, opP, valP, Uy, U0, Ur, Us, List.mapM_cons, List.mapM_nil, Uw, Ux]) | (with_reducible refine PW.condM fun X1 Y1 hX1 hY1 => ?_) | skip); simp (disch := omega) only [wantP, wantB_tt, wantB_ff, wantB_tf, wantB_ft, opP, valP, St.eval, St.put, upd_app, iniT_app, avOf, avOf1, nom, cellsA, AV.okv, loadA, lenP, binP, intsP, intP, strP, eqP, nilP, convP, unP, builtinP, appP, srcA, srcTy, bsz, U0, U1, dvEqC, eqAll, srcAll, srcOk, appB, cellsV, maplenP, isMapA, isBsl, viewA, U2, U3, U4, U5, U6, slA, putCells, fillA, buildA, elA, dv1, U7, U8, U9, Ua, Ub, List.getElem?_nil, Uc, Ud, Ue, Uf, Ug, Uh, Ui, Uj, Uk, Ul, Um, Un, Uo, Up, Uq, Ur, Us, Ut, Uu, Uv, List.mapM_cons, List.mapM_nil, Uw, Ux, Uy, Uz, V0, V1, V2, V3, V4, V5, Option.bind_eq_bind, Option.pure_def, V6, V7, V8, V9, Va, Vb, Vc, Vd, Ve, Vt, Int.cast_ofNat_Int, ite_same, UU2, UU3, UU4, UU7, UU8, Vq, UU9, UUa, Vr, Vs, PmL, simprocAttr, PmT, hq', retQ, resP, tupA, fg, fgs, condP, condB_t, condB_f]; try (with_reducible (first | exact co_refl _ | exact co_own _ _ _ | exact co_nilsB | exact co_nilsL _ _))))
    all_goals exact co_tup (cos_cons co_nilsB (cos_refl _))
  · have hq' := eq_false hq
    have ha : (l.any fun x => !x.right) = true := by
      rw [any_right]
      unfold okL at h
      rw [decide_eq_true (by omega), Bool.true_and] at h
      rw [h]; rfl
    repeat' (first
      | (with_reducible (first
       | refine PW.seq fun K1 hK1 => ?_ | refine PW.region fun K2 hK2 => ?_ | (refine hK3 _ ?_; clear hK3) | (refine opsP_nil ?_; refine hK2 _ ?_; clear hK2) | refine litX_old ?_ | refine litC_data ?_ | (refine Exists.intro _ (Exists.intro _ (And.intro rfl (And.intro rfl (And.intro ?_ ?_)))); focus omega) | (refine hK1 _ ?_; clear hK1) | refine nilC_intro (fun hz => ?_) ?_
       | refine PW.block ?_ | refine PW.skip ?_ | refine PW.exit ?_ | refine PW.ret ?_ | (refine hX1 ?_; clear hX1 hY1; try simp only [hb]) | (refine hY1 ?_; clear hX1 hY1; try simp only [hb]) | exact co_refl _ | exact co_own _ _ _ | exact co_nilsB | exact co_nilsL _ _))
      | ((first | (with_reducible refine wantB_intro (fun hb => ?_) (fun hb => ?_)) | (with_reducible refine condB_intro (fun hb => ?_) (fun hb => ?_))) <;> ((try (have hp := hb; simp only [PmH, beq_iff_eq, beq_eq_false_iff_ne, ne_eq] at hp)); try simp only [hb, Bool.not_true, Bool.not_false]))
      | ((with_reducible refine cC_pure ?_ (pContains _ [] rfl (fun x => !x.right) pBytes1 ?_) (fun _ => ?_)); (focus ((repeat' (first | refine .cons ?_ ?_ | exact .nil | exact .d _ | exact .own _ _ _ | exact .nl | exact .nilsB | exact .nilsL _ _ | exact .nils _ | exact .cp _ | refine .agg ?_ | refine .fn ?_ | refine .rf _ ?_)) <;> (simp only [purAs, purA, Vf, Bool.and_self, hq', ha]; done))))
      | ((with_reducible refine And.intro ?_ ?_); (focus (first | omega | (simp; done) | assumption)))
      | (simp only [thenP, blockP, Nat.reduceEqDiff, ↓reduceIte]; (try ((repeat (fail_if_success (with_reducible refine hK1 _ ?_)); clear hK1); (with_reducible refine hK1 _ ?_); clear hK1)))
      | (with_reducible omega)
      | (assumption)
      | ((first | ((with_reducible refine opsP_cons fun K3 hK3 => ?_); simp only [wantP, opP, valP, Uy, U0, Ur, Us, List.mapM_cons, List.mapM_nil, Uw, Ux]) | (with_reducible refine PW.condM fun X1 Y1 hX1 hY1 => ?_) | skip); simp (disch := omega) only [wantP, wantB_tt, wantB_ff, wantB_tf, wantB_ft, opP, valP, St.eval, St.put, upd_app, iniT_app, avOf, avOf1, nom, cellsA, AV.okv, loadA, lenP, binP, intsP, intP, strP, eqP, nilP, convP, unP, builtinP, appP, srcA, srcTy, bsz, U0, U1, dvEqC, eqAll, srcAll, srcOk, appB, cellsV, maplenP, isMapA, isBsl, viewA, U2, U3, U4, U5, U6, slA, putCells, fillA, buildA, elA, dv1, U7, U8, U9, Ua, Ub, List.getElem?_nil, Uc, Ud, Ue, Uf, Ug, Uh, Ui, Uj, Uk, Ul, Um, Un, Uo, Up, Uq, Ur, Us, Ut, Uu, Uv, List.mapM_cons, List.mapM_nil, Uw, Ux, Uy, Uz, V0, V1, V2, V3, V4, V5, Option.bind_eq_bind, Option.pure_def, V6, V7, V8, V9, Va, Vb, Vc, Vd, Ve, Vt, Int.cast_ofNat_Int, ite_same, UU2, UU3, UU4, UU7, UU8, Vq, UU9, UUa, Vr, Vs, PmL, simprocAttr, PmT, hq', ha, retQ, resP, tupA, fg, fgs, condP, condB_t, condB_f]; try (with_reducible (first | exact co_refl _ | exact co_own _ _ _ | exact co_nilsB | exact co_nilsL _ _))))
    all_goals exact co_tup (cos_cons co_nilsB (cos_refl _))
set_option maxRecDepth 100000 in
theorem pBytesOk (l : List Rg) (h : okL l = true) : Pure Try.prog 32 [rl l] (.tup [bs (bytesT l), .d (.int .i64 0)]) := by
  refine pure_intro Try.func32 rfl rfl rfl 60 rfl (fun hh => ?_)
  unfold okL at h
  simp only [Bool.and_eq_true, decide_eq_true_eq] at h
  obtain ⟨h255, hall⟩ := h
  have hq' := eq_false (show ¬ (255 : Int) < l.length by omega)
  have ha : (l.any fun x => !x.right) = false := by rw [any_right, hall]; rfl
  have hwl : IntKind.u64.wrap (l.length : Int) = (l.length : Int) := wrap_nat rfl _ (by simp [IntKind.bits]; omega)
  have hN : (l.length : Nat) < 18446744073709551616 := by omega
  repeat' (first
    | (with_reducible (first
     | refine PW.seq fun K1 hK1 => ?_ | refine PW.region fun K2 hK2 => ?_ | (refine hK3 _ ?_; clear hK3) | (refine opsP_nil ?_; refine hK2 _ ?_; clear hK2) | refine litX_old ?_ | refine litC_data ?_ | (refine Exists.intro _ (Exists.intro _ (And.intro rfl (And.intro rfl (And.intro ?_ ?_)))); focus omega) | (refine hK1 _ ?_; clear hK1) | refine nilC_intro (fun hz => ?_) ?_
     | refine PW.block ?_ | refine PW.skip ?_ | refine PW.exit ?_ | refine PW.ret ?_ | (refine hX1 ?_; clear hX1 hY1; try simp only [hb]) | (refine hY1 ?_; clear hX1 hY1; try simp only [hb]) | exact co_refl _ | exact co_own _ _ _ | exact co_nilsB | exact co_nilsL _ _))
    | ((first | (with_reducible refine wantB_intro (fun hb => ?_) (fun hb => ?_)) | (with_reducible refine condB_intro (fun hb => ?_) (fun hb => ?_))) <;> ((try (have hp := hb; simp only [PmH, beq_iff_eq, beq_eq_false_iff_ne, ne_eq] at hp)); try simp only [hb, Bool.not_true, Bool.not_false]))
    | ((with_reducible refine cC_new ?_ (pNumber ?_ ?_) ?_); (focus ((repeat' (first | refine .cons ?_ ?_ | exact .nil | exact .d _ | exact .own _ _ _ | exact .nl | exact .nilsB | exact .nilsL _ _ | exact .nils _ | exact .cp _ | refine .agg ?_ | refine .fn ?_ | refine .rf _ ?_)) <;> (simp only [purAs, purA, Vf, Bool.and_self, hq', ha, hwl]; done))))
    | ((with_reducible refine cC_pure ?_ (pContains _ [] rfl (fun x => !x.right) pBytes1 ?_) (fun _ => ?_)); (focus ((repeat' (first | refine .cons ?_ ?_ | exact .nil | exact .d _ | exact .own _ _ _ | exact .nl | exact .nilsB | exact .nilsL _ _ | exact .nils _ | exact .cp _ | refine .agg ?_ | refine .fn ?_ | refine .rf _ ?_)) <;> (simp only [purAs, purA, Vf, Bool.and_self, hq', ha, hwl]; done))))
    | ((with_reducible refine And.intro ?_ ?_); (focus (first | omega | (simp; done) | assumption)))
    | (simp only [thenP, blockP, Nat.reduceEqDiff, ↓reduceIte]; (try ((repeat (fail_if_success (with_reducible refine hK1 _ ?_)); clear hK1); (with_reducible refine hK1 _ ?_); clear hK1)))
    | (with_reducible omega)
    | (assumption)
    | ((first | ((with_reducible refine opsP_cons fun K3 hK3 => ?_); simp only [wantP, opP, valP, Uy, U0, Ur, Us, List.mapM_cons, List.mapM_nil, Uw, Ux]) | (with_reducible refine PW.condM fun X1 Y1 hX1 hY1 => ?_) | skip); simp (disch := omega) only [wantP, wantB_tt, wantB_ff, wantB_tf, wantB_ft, opP, valP, St.eval, St.put, upd_app, iniT_app, avOf, avOf1, nom, cellsA, AV.okv, loadA, lenP, binP, intsP, intP, strP, eqP, nilP, convP, unP, builtinP, appP, srcA, srcTy, bsz, U0, U1, dvEqC, eqAll, srcAll, srcOk, appB, cellsV, maplenP, isMapA, isBsl, viewA, U2, U3, U4, U5, U6, slA, putCells, fillA, buildA, elA, dv1, U7, U8, U9, Ua, Ub, List.getElem?_nil, Uc, Ud, Ue, Uf, Ug, Uh, Ui, Uj, Uk, Ul, Um, Un, Uo, Up, Uq, Ur, Us, Ut, Uu, Uv, List.mapM_cons, List.mapM_nil, Uw, Ux, Uy, Uz, V0, V1, V2, V3, V4, V5, Option.bind_eq_bind, Option.pure_def, V6, V7, V8, V9, Va, Vb, Vc, Vd, Ve, Vt, Int.cast_ofNat_Int, ite_same, UU2, UU3, UU4, UU7, UU8, Vq, UU9, UUa, Vr, Vs, PmL, simprocAttr, PmT, hq', ha, hwl, retQ, resP, tupA, fg, fgs, condP, condB_t, condB_f]; try (with_reducible (first | exact co_refl _ | exact co_own _ _ _ | exact co_nilsB | exact co_nilsL _ _))))
  (with_reducible refine PW.loop (fun n s => ∃ (k : Nat) (out : List Int), s.t 4 = .own 0 1 (encB out) ∧ s.t 20 = rl l ∧ s.t 21 = .d (.int .i64 l.length) ∧ s.t 22 = .d (.int .i64 k) ∧ s.n = 60 ∧ s.m = ⟨[], [some ⟨5, 1, out.length⟩]⟩ ∧ k ≤ l.length ∧ n = l.length - k ∧ out = Codec.numN l.length ++ rgsT (l.take k) ∧ out.length ≤ 10 + 260 * k) l.length ?_ ?_)
  · exact ⟨0, Codec.numN l.length, rfl, rfl, rfl, rfl, rfl, rfl, Nat.zero_le _, rfl, by simp [rgsT], Codec.numN_len10 (by omega)⟩
  rintro n ⟨t, nn, m⟩ ⟨k, out, h4, h20, h21, h22, hn, hm, hk, hnk, ho, hol⟩ - -
  simp only at h4 h20 h21 h22 hn hm
  subst hn hm
  by_cases hlt : (k : Int) < l.length
  · have hlt' := eq_true hlt
    obtain ⟨x, hx⟩ : ∃ x, l[k]? = some x := ⟨_, List.getElem?_eq_getElem (by omega)⟩
    have hr : x.right = true := List.all_eq_true.1 hall x (List.mem_of_getElem? hx)
    unfold Rg.right at hr
    simp only [Bool.and_eq_true, decide_eq_true_eq] at hr
    obtain ⟨⟨⟨⟨⟨⟨r1, r2⟩, r3⟩, r4⟩, r5⟩, r6⟩, -⟩ := hr
    have hw : IntKind.i64.wrap ((k : Int) + 1) = k + 1 := IntWalk.i64_in ((k : Int) + 1) (by omega)
    have hid : IntKind.u64.wrap x.id = ((x.id.toNat : Nat) : Int) := by rw [← wrap_nat (k := .u64) rfl x.id.toNat (by simp [IntKind.bits]; omega)]; congr 1; omega
    have hgen : IntKind.u64.wrap x.gen = ((x.gen.toNat : Nat) : Int) := by rw [← wrap_nat (k := .u64) rfl x.gen.toNat (by simp [IntKind.bits]; omega)]; congr 1; omega
    have hfl : IntKind.u64.wrap (x.f.length : Int) = (x.f.length : Int) := wrap_nat rfl _ (by simp [IntKind.bits]; omega)
    have htl : IntKind.u64.wrap (x.t.length : Int) = (x.t.length : Int) := wrap_nat rfl _ (by simp [IntKind.bits]; omega)
    have n1 := Codec.numN_len10 (n := x.id.toNat) (by omega)
    have n2 := Codec.numN_len10 (n := x.gen.toNat) (by omega)
    have n3 := Codec.numN_len10 (n := x.f.length) (by omega)
    have n4 := Codec.numN_len10 (n := x.t.length) (by omega)
    repeat' (first
      | (with_reducible (first
       | refine PW.seq fun K1 hK1 => ?_ | refine PW.region fun K2 hK2 => ?_ | (refine hK3 _ ?_; clear hK3) | (refine opsP_nil ?_; refine hK2 _ ?_; clear hK2) | refine litX_old ?_ | refine litC_data ?_ | (refine Exists.intro _ (Exists.intro _ (And.intro rfl (And.intro rfl (And.intro ?_ ?_)))); focus omega) | (refine hK1 _ ?_; clear hK1) | refine nilC_intro (fun hz => ?_) ?_ | refine PW.rounds (id := 2) 3 ?_
       | refine rounds_more fun K1 hK1 => ?_ | refine PW.block ?_ | refine PW.skip ?_ | refine PW.exit ?_ | refine PW.ret ?_ | (refine hX1 ?_; clear hX1 hY1; try simp only [hb]) | (refine hY1 ?_; clear hX1 hY1; try simp only [hb]) | exact co_refl _ | exact co_own _ _ _ | exact co_nilsB | exact co_nilsL _ _))
      | ((first | (with_reducible refine wantB_intro (fun hb => ?_) (fun hb => ?_)) | (with_reducible refine condB_intro (fun hb => ?_) (fun hb => ?_))) <;> ((try (have hp := hb; simp only [PmH, beq_iff_eq, beq_eq_false_iff_ne, ne_eq] at hp)); try simp only [hb, Bool.not_true, Bool.not_false]))
      | ((with_reducible refine cC_new ?_ (pNumber ?_ ?_) ?_); (focus ((repeat' (first | refine .cons ?_ ?_ | exact .nil | exact .d _ | exact .own _ _ _ | exact .nl | exact .nilsB | exact .nilsL _ _ | exact .nils _ | exact .cp _ | refine .agg ?_ | refine .fn ?_ | refine .rf _ ?_)) <;> (simp only [purAs, purA, Vf, Bool.and_self, h4, h20, h21, h22, hlt', hx, hw, hid, hgen, hfl, htl, Rg.c, wr1, wr2]; done))))
      | ((with_reducible refine And.intro ?_ ?_); (focus (first | omega | (simp; done) | assumption)))
      | (simp only [thenP, blockP, Nat.reduceEqDiff, ↓reduceIte]; (try ((repeat (fail_if_success (with_reducible refine hK1 _ ?_)); clear hK1); (with_reducible refine hK1 _ ?_); clear hK1)))
      | (with_reducible omega)
      | (assumption)
      | ((first | ((with_reducible refine opsP_cons fun K3 hK3 => ?_); simp only [wantP, opP, valP, Uy, U0, Ur, Us, List.mapM_cons, List.mapM_nil, Uw, Ux]) | (with_reducible refine PW.condM fun X1 Y1 hX1 hY1 => ?_) | skip); simp (disch := omega) only [wantP, wantB_tt, wantB_ff, wantB_tf, wantB_ft, opP, valP, St.eval, St.put, upd_app, iniT_app, avOf, avOf1, nom, cellsA, AV.okv, loadA, lenP, binP, intsP, intP, strP, eqP, nilP, convP, unP, builtinP, appP, srcA, srcTy, bsz, U0, U1, dvEqC, eqAll, srcAll, srcOk, appB, cellsV, maplenP, isMapA, isBsl, viewA, U2, U3, U4, U5, U6, slA, putCells, fillA, buildA, elA, dv1, U7, U8, U9, Ua, Ub, List.getElem?_nil, Uc, Ud, Ue, Uf, Ug, Uh, Ui, Uj, Uk, Ul, Um, Un, Uo, Up, Uq, Ur, Us, Ut, Uu, Uv, List.mapM_cons, List.mapM_nil, Uw, Ux, Uy, Uz, V0, V1, V2, V3, V4, V5, Option.bind_eq_bind, Option.pure_def, V6, V7, V8, V9, Va, Vb, Vc, Vd, Ve, Vt, Int.cast_ofNat_Int, ite_same, UU2, UU3, UU4, UU7, UU8, Vq, UU9, UUa, Vr, Vs, PmL, simprocAttr, PmT, h4, h20, h21, h22, hlt', hx, hw, hid, hgen, hfl, htl, Rg.c, wr1, wr2, retQ, resP, tupA, fg, fgs, condP, condB_t, condB_f]; try (with_reducible (first | exact co_refl _ | exact co_own _ _ _ | exact co_nilsB | exact co_nilsL _ _))))
    refine ⟨l.length - (k + 1), by omega, k + 1, out ++ rgT x, ?_, ?_, ?_, ?_, ?_, ?_, by omega, rfl, ?_, ?_⟩
    case refine_7 => rw [rgsT_take hx, ho, List.append_assoc]
    case refine_8 => simp only [rgT, txT, List.length_append]; omega
    all_goals (simp only [St.cut, Mem.cut, fg, fgs, upd_app, Nat.reduceEqDiff, ↓reduceIte, List.take_nil, List.map_nil, List.take_succ_cons, List.take_zero, List.map_cons, Option.map_some, Option.map_none, Nat.reduceLT, Nat.zero_lt_one, Nat.reduceAdd, List.length_append, List.length_cons, List.length_nil, List.append_assoc, Nat.add_assoc, Int.natCast_add, Int.cast_ofNat_Int, nom, h4, h20, h21, h22, hw, rgT, txT]; try rfl)
  · have hlt' := eq_false hlt
    repeat' (first
      | (with_reducible (first
       | refine PW.seq fun K1 hK1 => ?_ | refine PW.region fun K2 hK2 => ?_ | (refine hK3 _ ?_; clear hK3) | (refine opsP_nil ?_; refine hK2 _ ?_; clear hK2) | refine litX_old ?_ | refine litC_data ?_ | (refine Exists.intro _ (Exists.intro _ (And.intro rfl (And.intro rfl (And.intro ?_ ?_)))); focus omega) | (refine hK1 _ ?_; clear hK1) | refine nilC_intro (fun hz => ?_) ?_
       | refine PW.block ?_ | refine PW.skip ?_ | refine PW.exit ?_ | refine PW.ret ?_ | (refine hX1 ?_; clear hX1 hY1; try simp only [hb]) | (refine hY1 ?_; clear hX1 hY1; try simp only [hb]) | exact co_refl _ | exact co_own _ _ _ | exact co_nilsB | exact co_nilsL _ _))
      | ((first | (with_reducible refine wantB_intro (fun hb => ?_) (fun hb => ?_)) | (with_reducible refine condB_intro (fun hb => ?_) (fun hb => ?_))) <;> ((try (have hp := hb; simp only [PmH, beq_iff_eq, beq_eq_false_iff_ne, ne_eq] at hp)); try simp only [hb, Bool.not_true, Bool.not_false]))
      | ((with_reducible refine cC_new ?_ (pNumber ?_ ?_) ?_); (focus ((repeat' (first | refine .cons ?_ ?_ | exact .nil | exact .d _ | exact .own _ _ _ | exact .nl | exact .nilsB | exact .nilsL _ _ | exact .nils _ | exact .cp _ | refine .agg ?_ | refine .fn ?_ | refine .rf _ ?_)) <;> (simp only [purAs, purA, Vf, Bool.and_self, h4, h20, h21, h22, hlt']; done))))
      | ((with_reducible refine And.intro ?_ ?_); (focus (first | omega | (simp; done) | assumption)))
      | (simp only [thenP, blockP, Nat.reduceEqDiff, ↓reduceIte]; (try ((repeat (fail_if_success (with_reducible refine hK1 _ ?_)); clear hK1); (with_reducible refine hK1 _ ?_); clear hK1)))
      | (with_reducible omega)
      | (assumption)
      | ((first | ((with_reducible refine opsP_cons fun K3 hK3 => ?_); simp only [wantP, opP, valP, Uy, U0, Ur, Us, List.mapM_cons, List.mapM_nil, Uw, Ux]) | (with_reducible refine PW.condM fun X1 Y1 hX1 hY1 => ?_) | skip); simp (disch := omega) only [wantP, wantB_tt, wantB_ff, wantB_tf, wantB_ft, opP, valP, St.eval, St.put, upd_app, iniT_app, avOf, avOf1, nom, cellsA, AV.okv, loadA, lenP, binP, intsP, intP, strP, eqP, nilP, convP, unP, builtinP, appP, srcA, srcTy, bsz, U0, U1, dvEqC, eqAll, srcAll, srcOk, appB, cellsV, maplenP, isMapA, isBsl, viewA, U2, U3, U4, U5, U6, slA, putCells, fillA, buildA, elA, dv1, U7, U8, U9, Ua, Ub, List.getElem?_nil, Uc, Ud, Ue, Uf, Ug, Uh, Ui, Uj, Uk, Ul, Um, Un, Uo, Up, Uq, Ur, Us, Ut, Uu, Uv, List.mapM_cons, List.mapM_nil, Uw, Ux, Uy, Uz, V0, V1, V2, V3, V4, V5, Option.bind_eq_bind, Option.pure_def, V6, V7, V8, V9, Va, Vb, Vc, Vd, Ve, Vt, Int.cast_ofNat_Int, ite_same, UU2, UU3, UU4, UU7, UU8, Vq, UU9, UUa, Vr, Vs, PmL, simprocAttr, PmT, h4, h20, h21, h22, hlt', retQ, resP, tupA, fg, fgs, condP, condB_t, condB_f]; try (with_reducible (first | exact co_refl _ | exact co_own _ _ _ | exact co_nilsB | exact co_nilsL _ _))))
    have e : bytesT l = out := by rw [ho, List.take_of_length_le (by omega)]; rfl
    rw [e]
    exact co_refl _
end PM
end Go.Proofs.Ytbeniogffhihlaa
