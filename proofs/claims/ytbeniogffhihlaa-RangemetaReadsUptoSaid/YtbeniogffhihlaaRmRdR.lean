/- rangemeta: the reference's reader in the abstract. -/
import Derived.Test.YtbeniogffhihlaaRmP11
set_option linter.unusedVariables false
set_option linter.unusedSimpArgs false
namespace Go.Proofs.Ytbeniogffhihlaa
open Go.RowKit
set_option maxRecDepth 100000
namespace PM
theorem end_box {e : TypeId} {cs : List AV} {bx : List (Option (TypeId × List AV))} {r : AV} {rw_ : List (Option RowI)} (h : fgs 1 0 cs = cs) : Co r r ∧ SubM ⟨some (e, cs) :: bx, rw_⟩ ⟨[some (e, cs)], []⟩ := ⟨co_refl _, subM_box (by rw [h]; exact cos_refl _)⟩
section
variable {P : Program} {ops : Array Oper} {L : List Nat} {m0 : Mem} {F : List Nat} {K : St → Prop} {s : St}
/-- as 'opsO_only', told by the slot -/
theorem opsO_onlyD (d : Nat) {i : Nat} {rest : List (Nat × Bool)} {op : Op} {ty : TypeId} {pos : String} {after : Array Edge} {guard : Option (Nat × Bool)} (ho : ops[i]? = some ⟨some d, op, ty, pos, after, guard⟩) (h : ∀ K' : St → Prop, (∀ s', opsO P ops L m0 F rest K s' → K' s') → wantP ops s ⟨some d, op, ty, pos, after, guard⟩ (opP P s.eval s.m ⟨some d, op, ty, pos, after, guard⟩ fun r m' => (keepL L m0 m' ∨ (F.contains i = true ∧ rest.all (fun x => !x.2) = true)) ∧ K' (({ s with m := m' } : St).put (some d) r)) ((keepL L m0 s.m ∨ (F.contains i = true ∧ rest.all (fun x => !x.2) = true)) ∧ K' (s.put (some d) (.tup [])))) : opsO P ops L m0 F ((i, false) :: rest) K s := opsO_only ho h
end
abbrev rdM9 (B : List Int) (a : Nat) (bad : Bool) : Mem := ⟨[some (108, [bs B, .d (.int .i64 a), .d (.bool bad)])], []⟩
/-- a byte is read -/
def byteR (B : List Int) (a : Nat) (bad : Bool) : Int × Nat × Bool := if bad = true ∨ B.length ≤ a then (0, a, true) else (B.getD a 0, a + 1, bad)
theorem byteR_rng {B : List Int} (h : Rng B) (a : Nat) (bad : Bool) : 0 ≤ (byteR B a bad).1 ∧ (byteR B a bad).1 < 256 := by
  unfold byteR
  split
  · simp
  · exact ⟨(h.getD a).1, by have := (h.getD a).2; omega⟩
theorem pRByte9 (B : List Int) (a : Nat) (bad : Bool) (ha : a ≤ B.length) : PFun Try.prog 85 [.ptr 0 0] (rdM9 B a bad) (.d (.int .i64 (byteR B a bad).1)) (rdM9 B (byteR B a bad).2.1 (byteR B a bad).2.2) := by
  refine fun_introM Try.func85 rfl rfl rfl 41 rfl ⟨Nat.le_refl _, Nat.le_refl _⟩ (fun hh hM => ?_)
  obtain ⟨hrl, hml⟩ := has_bytes (hM.box (i := 0) rfl (bs B) (by simp))
  have hmx : maxLen = 9223372036854775807 := rfl
  cases bad with
  | true =>
    have e : byteR B a true = (0, a, true) := if_pos (.inl rfl)
    rw [e]
    repeat' (first
      | (with_reducible (first
       | refine PW.seq fun K1 hK1 => ?_ | refine PW.region fun K2 hK2 => ?_ | (refine hK3 _ ?_; clear hK3) | (refine opsP_nil ?_; refine hK2 _ ?_; clear hK2) | refine litX_old ?_ | refine litC_data ?_ | (refine Exists.intro _ (Exists.intro _ (And.intro rfl (And.intro rfl (And.intro ?_ ?_)))); focus omega) | (refine hK1 _ ?_; clear hK1) | refine nilC_intro (fun hz => ?_) ?_ | refine PW.block ?_ | refine PW.skip ?_
       | refine PW.exit ?_ | refine PW.ret ?_ | (refine hX1 ?_; clear hX1 hY1; try simp only [hb]) | (refine hY1 ?_; clear hX1 hY1; try simp only [hb]) | exact co_refl _ | exact co_own _ _ _ | exact co_nilsB | exact co_nilsL _ _ | (refine opsO_nil ?_; refine hK2 _ ?_; clear hK2) | (refine keepO_intro ?_ ?_; focus (first | exact .inl (keep_same _ _) | exact .inl (keep_box _ _ _ _) | exact .inl (keep_hd _ _ _ _ _) | exact .inl (keep_02 _ _ _ _ _ _ _) | exact .inl (keep_1 _ _ _ _ _ _ _) | exact .inr ⟨rfl, rfl⟩)) | (refine keepA_intro ?_ ?_; focus (first | exact keep_same _ _ | exact keep_box _ _ _ _ | exact keep_hd _ _ _ _ _ | exact keep_02 _ _ _ _ _ _ _ | exact keep_1 _ _ _ _ _ _ _))))
      | ((first | (with_reducible refine wantB_intro (fun hb => ?_) (fun hb => ?_)) | (with_reducible refine condB_intro (fun hb => ?_) (fun hb => ?_))) <;> ((try (have hp := hb; simp only [PmH, beq_iff_eq, beq_eq_false_iff_ne, ne_eq] at hp)); try simp only [hb, Bool.not_true, Bool.not_false]))
      | ((with_reducible refine PW.drawR (id := 1) mixed [] [(0, true), (1, true), (2, true), (3, true), (4, true), (5, true), (6, true), (7, true), (8, true), (9, true), (10, true), (11, true), (12, true), (13, true), (14, true), (15, true)] (by kernel_rfl) (by decide) fun K2 hK2 => ?_))
      | ((with_reducible refine PW.drawR (id := 5) mixed [] [(0, true), (1, true), (2, true), (3, true), (4, true), (5, true), (6, true), (7, true), (8, true), (9, true), (10, true), (11, true), (12, true)] (by kernel_rfl) (by decide) fun K2 hK2 => ?_))
      | ((with_reducible refine And.intro ?_ ?_); (focus (first | omega | (simp; done) | assumption)))
      | (simp only [thenP, blockP, Nat.reduceEqDiff, ↓reduceIte]; (try ((repeat (fail_if_success (with_reducible refine hK1 _ ?_)); clear hK1); (with_reducible refine hK1 _ ?_); clear hK1)))
      | (with_reducible omega)
      | (assumption)
      | ((first | ((with_reducible refine opsP_cons fun K3 hK3 => ?_); simp only [wantP, opP, valP, Uy, U0, Ur, Us, List.mapM_cons, List.mapM_nil, Uw, Ux]) | ((with_reducible refine opsO_first (o := ?_) ?_ fun K3 hK3 => ?_); rotate_left 1; (focus (simp only [Uz, Ub, Ua] <;> rfl)); simp only [wantP, firstP, valP, Uy, U0, Ur, Us, List.mapM_cons, List.mapM_nil, Uw, Ux]) | ((with_reducible refine opsO_only (o := ?_) ?_ fun K3 hK3 => ?_); rotate_left 1; (focus (simp only [Uz, Ub, Ua] <;> rfl)); simp only [wantP, opP, valP, Uy, U0, Ur, Us, List.mapM_cons, List.mapM_nil, Uw, Ux]) | (with_reducible refine PW.condM fun X1 Y1 hX1 hY1 => ?_) | skip); simp (disch := omega) only [wantP, wantB_tt, wantB_ff, wantB_tf, wantB_ft, opP, valP, St.eval, St.put, upd_app, iniT_app, avOf, avOf1, nom, cellsA, AV.okv, loadA, lenP, binP, intsP, intP, strP, eqP, nilP, convP, unP, builtinP, bsz, U0, U1, dvEqC, eqAll, cellsV, maplenP, isMapA, isBsl, viewA, U2, U3, U4, U5, U6, slA, putCells, fillA, buildA, elA, dv1, U7, U8, U9, Ua, Ub, List.getElem?_nil, Uc, Ud, Ue, Uf, Ug, Uh, Ui, Uj, Uk, Ul, Um, Un, Uo, Up, Uq, Ur, Us, Ut, Uu, Uv, List.mapM_cons, List.mapM_nil, Uw, Ux, Uy, Uz, V0, V1, V2, V3, V4, V5, Option.bind_eq_bind, Option.pure_def, V6, V7, V8, V9, Va, Vb, Vc, Vd, Ve, Vt, Int.cast_ofNat_Int, ite_same, UU2, UU3, UU4, UU7, UU8, Vq, UU9, UUa, Vr, Vs, PmL, simprocAttr, PmT, retQ, resP, tupA, fg, fgs, condP, condB_t, condB_f, firstP, firstOk, List.mem_range, List.mem_singleton, List.mem_cons]; try (with_reducible (first | exact co_refl _ | exact co_own _ _ _ | exact co_nilsB | exact co_nilsL _ _))))
    all_goals exact end_box rfl
  | false =>
    by_cases h : B.length ≤ a
    · have e : byteR B a false = (0, a, true) := if_pos (.inr h)
      rw [e]
      have h' := eq_true (show (B.length : Int) ≤ a by omega)
      repeat' (first
        | (with_reducible (first
         | refine PW.seq fun K1 hK1 => ?_ | refine PW.region fun K2 hK2 => ?_ | (refine hK3 _ ?_; clear hK3) | (refine opsP_nil ?_; refine hK2 _ ?_; clear hK2) | refine litX_old ?_ | refine litC_data ?_ | (refine Exists.intro _ (Exists.intro _ (And.intro rfl (And.intro rfl (And.intro ?_ ?_)))); focus omega) | (refine hK1 _ ?_; clear hK1) | refine nilC_intro (fun hz => ?_) ?_ | refine PW.block ?_ | refine PW.skip ?_
         | refine PW.exit ?_ | refine PW.ret ?_ | (refine hX1 ?_; clear hX1 hY1; try simp only [hb]) | (refine hY1 ?_; clear hX1 hY1; try simp only [hb]) | exact co_refl _ | exact co_own _ _ _ | exact co_nilsB | exact co_nilsL _ _ | (refine opsO_nil ?_; refine hK2 _ ?_; clear hK2) | (refine keepO_intro ?_ ?_; focus (first | exact .inl (keep_same _ _) | exact .inl (keep_box _ _ _ _) | exact .inl (keep_hd _ _ _ _ _) | exact .inl (keep_02 _ _ _ _ _ _ _) | exact .inl (keep_1 _ _ _ _ _ _ _) | exact .inr ⟨rfl, rfl⟩)) | (refine keepA_intro ?_ ?_; focus (first | exact keep_same _ _ | exact keep_box _ _ _ _ | exact keep_hd _ _ _ _ _ | exact keep_02 _ _ _ _ _ _ _ | exact keep_1 _ _ _ _ _ _ _))))
        | ((first | (with_reducible refine wantB_intro (fun hb => ?_) (fun hb => ?_)) | (with_reducible refine condB_intro (fun hb => ?_) (fun hb => ?_))) <;> ((try (have hp := hb; simp only [PmH, beq_iff_eq, beq_eq_false_iff_ne, ne_eq] at hp)); try simp only [hb, Bool.not_true, Bool.not_false]))
        | ((with_reducible refine PW.drawR (id := 1) mixed [] [(0, true), (1, true), (2, true), (3, true), (4, true), (5, true), (6, true), (7, true), (8, true), (9, true), (10, true), (11, true), (12, true), (13, true), (14, true), (15, true)] (by kernel_rfl) (by decide) fun K2 hK2 => ?_))
        | ((with_reducible refine PW.drawR (id := 5) mixed [] [(0, true), (1, true), (2, true), (3, true), (4, true), (5, true), (6, true), (7, true), (8, true), (9, true), (10, true), (11, true), (12, true)] (by kernel_rfl) (by decide) fun K2 hK2 => ?_))
        | ((with_reducible refine And.intro ?_ ?_); (focus (first | omega | (simp; done) | assumption)))
        | (simp only [thenP, blockP, Nat.reduceEqDiff, ↓reduceIte]; (try ((repeat (fail_if_success (with_reducible refine hK1 _ ?_)); clear hK1); (with_reducible refine hK1 _ ?_); clear hK1)))
        | (with_reducible omega)
        | (assumption)
        | ((first | ((with_reducible refine opsP_cons fun K3 hK3 => ?_); simp only [wantP, opP, valP, Uy, U0, Ur, Us, List.mapM_cons, List.mapM_nil, Uw, Ux]) | ((with_reducible refine opsO_first (o := ?_) ?_ fun K3 hK3 => ?_); rotate_left 1; (focus (simp only [Uz, Ub, Ua] <;> rfl)); simp only [wantP, firstP, valP, Uy, U0, Ur, Us, List.mapM_cons, List.mapM_nil, Uw, Ux]) | ((with_reducible refine opsO_only (o := ?_) ?_ fun K3 hK3 => ?_); rotate_left 1; (focus (simp only [Uz, Ub, Ua] <;> rfl)); simp only [wantP, opP, valP, Uy, U0, Ur, Us, List.mapM_cons, List.mapM_nil, Uw, Ux]) | (with_reducible refine PW.condM fun X1 Y1 hX1 hY1 => ?_) | skip); simp (disch := omega) only [wantP, wantB_tt, wantB_ff, wantB_tf, wantB_ft, opP, valP, St.eval, St.put, upd_app, iniT_app, avOf, avOf1, nom, cellsA, AV.okv, loadA, lenP, binP, intsP, intP, strP, eqP, nilP, convP, unP, builtinP, bsz, U0, U1, dvEqC, eqAll, cellsV, maplenP, isMapA, isBsl, viewA, U2, U3, U4, U5, U6, slA, putCells, fillA, buildA, elA, dv1, U7, U8, U9, Ua, Ub, List.getElem?_nil, Uc, Ud, Ue, Uf, Ug, Uh, Ui, Uj, Uk, Ul, Um, Un, Uo, Up, Uq, Ur, Us, Ut, Uu, Uv, List.mapM_cons, List.mapM_nil, Uw, Ux, Uy, Uz, V0, V1, V2, V3, V4, V5, Option.bind_eq_bind, Option.pure_def, V6, V7, V8, V9, Va, Vb, Vc, Vd, Ve, Vt, Int.cast_ofNat_Int, ite_same, UU2, UU3, UU4, UU7, UU8, Vq, UU9, UUa, Vr, Vs, PmL, simprocAttr, PmT, h', retQ, resP, tupA, fg, fgs, condP, condB_t, condB_f, firstP, firstOk, List.mem_range, List.mem_singleton, List.mem_cons]; try (with_reducible (first | exact co_refl _ | exact co_own _ _ _ | exact co_nilsB | exact co_nilsL _ _))))
      all_goals exact end_box rfl
    · have e : byteR B a false = (B.getD a 0, a + 1, false) := if_neg (by simp; omega)
      rw [e]
      have h' := eq_false (show ¬ (B.length : Int) ≤ a by omega)
      obtain ⟨c, hc⟩ : ∃ c, B[a]? = some c := ⟨_, List.getElem?_eq_getElem (by omega)⟩
      have hcr := hrl.getD a
      have hcd : B.getD a 0 = c := by simp [List.getD, hc]
      rw [hcd] at hcr ⊢
      have hw1 : IntKind.i64.wrap ((a : Int) + 1) = ((a + 1 : Nat) : Int) := by rw [IntWalk.i64_in _ (by omega)]; omega
      have hw2 : IntKind.i64.wrap (((a + 1 : Nat) : Int) - 1) = (a : Int) := by rw [IntWalk.i64_in _ (by omega)]; omega
      have hi : ((a : Int) + 1 - 1).toNat = a := by omega
      have hwc : IntKind.i64.wrap c = c := IntWalk.i64_in c (by omega)
      repeat' (first
        | (with_reducible (first
         | refine PW.seq fun K1 hK1 => ?_ | refine PW.region fun K2 hK2 => ?_ | (refine hK3 _ ?_; clear hK3) | (refine opsP_nil ?_; refine hK2 _ ?_; clear hK2) | refine litX_old ?_ | refine litC_data ?_ | (refine Exists.intro _ (Exists.intro _ (And.intro rfl (And.intro rfl (And.intro ?_ ?_)))); focus omega) | (refine hK1 _ ?_; clear hK1) | refine nilC_intro (fun hz => ?_) ?_ | refine PW.block ?_ | refine PW.skip ?_
         | refine PW.exit ?_ | refine PW.ret ?_ | (refine hX1 ?_; clear hX1 hY1; try simp only [hb]) | (refine hY1 ?_; clear hX1 hY1; try simp only [hb]) | exact co_refl _ | exact co_own _ _ _ | exact co_nilsB | exact co_nilsL _ _ | (refine opsO_nil ?_; refine hK2 _ ?_; clear hK2) | (refine keepO_intro ?_ ?_; focus (first | exact .inl (keep_same _ _) | exact .inl (keep_box _ _ _ _) | exact .inl (keep_hd _ _ _ _ _) | exact .inl (keep_02 _ _ _ _ _ _ _) | exact .inl (keep_1 _ _ _ _ _ _ _) | exact .inr ⟨rfl, rfl⟩)) | (refine keepA_intro ?_ ?_; focus (first | exact keep_same _ _ | exact keep_box _ _ _ _ | exact keep_hd _ _ _ _ _ | exact keep_02 _ _ _ _ _ _ _ | exact keep_1 _ _ _ _ _ _ _))))
        | ((first | (with_reducible refine wantB_intro (fun hb => ?_) (fun hb => ?_)) | (with_reducible refine condB_intro (fun hb => ?_) (fun hb => ?_))) <;> ((try (have hp := hb; simp only [PmH, beq_iff_eq, beq_eq_false_iff_ne, ne_eq] at hp)); try simp only [hb, Bool.not_true, Bool.not_false]))
        | ((with_reducible refine PW.drawR (id := 1) mixed [] [(0, true), (1, true), (2, true), (3, true), (4, true), (5, true), (6, true), (7, true), (8, true), (9, true), (10, true), (11, true), (12, true), (13, true), (14, true), (15, true)] (by kernel_rfl) (by decide) fun K2 hK2 => ?_))
        | ((with_reducible refine PW.drawR (id := 5) mixed [] [(0, true), (1, true), (2, true), (3, true), (4, true), (5, true), (6, true), (7, true), (8, true), (9, true), (10, true), (11, true), (12, true)] (by kernel_rfl) (by decide) fun K2 hK2 => ?_))
        | ((with_reducible refine And.intro ?_ ?_); (focus (first | omega | (simp; done) | assumption)))
        | (simp only [thenP, blockP, Nat.reduceEqDiff, ↓reduceIte]; (try ((repeat (fail_if_success (with_reducible refine hK1 _ ?_)); clear hK1); (with_reducible refine hK1 _ ?_); clear hK1)))
        | (with_reducible omega)
        | (assumption)
        | ((first | ((with_reducible refine opsP_cons fun K3 hK3 => ?_); simp only [wantP, opP, valP, Uy, U0, Ur, Us, List.mapM_cons, List.mapM_nil, Uw, Ux]) | ((with_reducible refine opsO_first (o := ?_) ?_ fun K3 hK3 => ?_); rotate_left 1; (focus (simp only [Uz, Ub, Ua] <;> rfl)); simp only [wantP, firstP, valP, Uy, U0, Ur, Us, List.mapM_cons, List.mapM_nil, Uw, Ux]) | ((with_reducible refine opsO_only (o := ?_) ?_ fun K3 hK3 => ?_); rotate_left 1; (focus (simp only [Uz, Ub, Ua] <;> rfl)); simp only [wantP, opP, valP, Uy, U0, Ur, Us, List.mapM_cons, List.mapM_nil, Uw, Ux]) | (with_reducible refine PW.condM fun X1 Y1 hX1 hY1 => ?_) | skip); simp (disch := omega) only [wantP, wantB_tt, wantB_ff, wantB_tf, wantB_ft, opP, valP, St.eval, St.put, upd_app, iniT_app, avOf, avOf1, nom, cellsA, AV.okv, loadA, lenP, binP, intsP, intP, strP, eqP, nilP, convP, unP, builtinP, bsz, U0, U1, dvEqC, eqAll, cellsV, maplenP, isMapA, isBsl, viewA, U2, U3, U4, U5, U6, slA, putCells, fillA, buildA, elA, dv1, U7, U8, U9, Ua, Ub, List.getElem?_nil, Uc, Ud, Ue, Uf, Ug, Uh, Ui, Uj, Uk, Ul, Um, Un, Uo, Up, Uq, Ur, Us, Ut, Uu, Uv, List.mapM_cons, List.mapM_nil, Uw, Ux, Uy, Uz, V0, V1, V2, V3, V4, V5, Option.bind_eq_bind, Option.pure_def, V6, V7, V8, V9, Va, Vb, Vc, Vd, Ve, Vt, Int.cast_ofNat_Int, ite_same, UU2, UU3, UU4, UU7, UU8, Vq, UU9, UUa, Vr, Vs, PmL, simprocAttr, PmT, h', hi, hc, hw1, hw2, hwc, retQ, resP, tupA, fg, fgs, condP, condB_t, condB_f, firstP, firstOk, List.mem_range, List.mem_singleton, List.mem_cons]; try (with_reducible (first | exact co_refl _ | exact co_own _ _ _ | exact co_nilsB | exact co_nilsL _ _))))
      all_goals exact end_box rfl
theorem byteR_at (B : List Int) (a : Nat) (bad : Bool) (ha : a ≤ B.length) : a ≤ (byteR B a bad).2.1 ∧ (byteR B a bad).2.1 ≤ B.length := by
  unfold byteR
  split
  · exact ⟨Nat.le_refl _, ha⟩
  · rename_i h
    simp only [not_or, Nat.not_le] at h
    exact ⟨Nat.le_succ _, h.2⟩
/-- a count is read -/
def varGo (B : List Int) : Nat → Nat → Nat → Bool → Int → Int → Int × Nat × Bool
  | 0, _, a, _, _, _ => (0, a, true)
  | f + 1, k, a, bad, n, sc =>
    if (byteR B a bad).1 < 128 then (n + (byteR B a bad).1 % 128 * sc, (byteR B a bad).2.1, (byteR B a bad).2.2 || (decide (0 < k) && decide ((byteR B a bad).1 = 0)) || decide (9007199254740991 < n + (byteR B a bad).1 % 128 * sc))
    else varGo B f (k + 1) (byteR B a bad).2.1 (byteR B a bad).2.2 (n + (byteR B a bad).1 % 128 * sc) (sc * 128)
def varR (B : List Int) (a : Nat) (bad : Bool) : Int × Nat × Bool := varGo B 8 0 a bad 0 1
theorem varGo_at (B : List Int) : ∀ (f k a : Nat) (bad : Bool) (n sc : Int), a ≤ B.length → a ≤ (varGo B f k a bad n sc).2.1 ∧ (varGo B f k a bad n sc).2.1 ≤ B.length
  | 0, _, a, _, _, _, ha => ⟨Nat.le_refl _, ha⟩
  | f + 1, k, a, bad, n, sc, ha => by
    obtain ⟨h1, h2⟩ := byteR_at B a bad ha
    unfold varGo
    split
    · exact ⟨h1, h2⟩
    · obtain ⟨h3, h4⟩ := varGo_at B f (k + 1) (byteR B a bad).2.1 (byteR B a bad).2.2 (n + (byteR B a bad).1 % 128 * sc) (sc * 128) h2
      exact ⟨Nat.le_trans h1 h3, h4⟩
theorem varR_at (B : List Int) (a : Nat) (bad : Bool) (ha : a ≤ B.length) : a ≤ (varR B a bad).2.1 ∧ (varR B a bad).2.1 ≤ B.length := varGo_at B 8 0 a bad 0 1 ha
theorem varGo_rng {B : List Int} (hB : Rng B) : ∀ (f k a : Nat) (bad : Bool) (n sc : Int), 0 ≤ n → 0 ≤ sc → 0 ≤ (varGo B f k a bad n sc).1 ∧ ((varGo B f k a bad n sc).2.2 = false → (varGo B f k a bad n sc).1 ≤ 9007199254740991)
  | 0, _, a, _, _, _, _, _ => by unfold varGo; simp
  | f + 1, k, a, bad, n, sc, hn, hs => by
    have hc := byteR_rng hB a bad
    have hp : 0 ≤ (byteR B a bad).1 % 128 * sc := Int.mul_nonneg (by omega) hs
    unfold varGo
    split
    · refine ⟨by simp only; omega, fun h => ?_⟩
      simp only [Bool.or_eq_false_iff, decide_eq_false_iff_not] at h
      simp only
      omega
    · exact varGo_rng hB f (k + 1) _ _ _ _ (by omega) (by omega)
theorem varR_rng {B : List Int} (hB : Rng B) (a : Nat) (bad : Bool) : 0 ≤ (varR B a bad).1 ∧ ((varR B a bad).2.2 = false → (varR B a bad).1 ≤ 9007199254740991) := varGo_rng hB 8 0 a bad 0 1 (by omega) (by omega)
set_option maxHeartbeats 4000000 in
theorem pRVar9 (B : List Int) (a : Nat) (bad : Bool) (ha : a ≤ B.length) : PFun Try.prog 69 [.ptr 0 0] (rdM9 B a bad) (.d (.int .i64 (varR B a bad).1)) (rdM9 B (varR B a bad).2.1 (varR B a bad).2.2) := by
  refine fun_introM Try.func69 rfl rfl rfl 40 rfl ⟨Nat.le_refl _, Nat.le_refl _⟩ (fun hh hM => ?_)
  obtain ⟨hrl, hml⟩ := has_bytes (hM.box (i := 0) rfl (bs B) (by simp))
  obtain ⟨R, hR⟩ : ∃ R, varR B a bad = R := ⟨_, rfl⟩
  rw [hR]
  unfold varR at hR
  repeat' (first
    | (with_reducible (first
     | refine PW.seq fun K1 hK1 => ?_ | refine PW.region fun K2 hK2 => ?_ | (refine hK3 _ ?_; clear hK3) | (refine opsP_nil ?_; refine hK2 _ ?_; clear hK2) | refine litX_old ?_ | refine litC_data ?_ | (refine Exists.intro _ (Exists.intro _ (And.intro rfl (And.intro rfl (And.intro ?_ ?_)))); focus omega) | (refine hK1 _ ?_; clear hK1) | refine nilC_intro (fun hz => ?_) ?_
     | refine PW.block ?_ | refine PW.skip ?_ | refine PW.exit ?_ | refine PW.ret ?_ | (refine hX1 ?_; clear hX1 hY1; try simp only [hb]) | (refine hY1 ?_; clear hX1 hY1; try simp only [hb]) | exact co_refl _ | exact co_own _ _ _ | exact co_nilsB | exact co_nilsL _ _))
    | ((first | (with_reducible refine wantB_intro (fun hb => ?_) (fun hb => ?_)) | (with_reducible refine condB_intro (fun hb => ?_) (fun hb => ?_))) <;> ((try (have hp := hb; simp only [PmH, beq_iff_eq, beq_eq_false_iff_ne, ne_eq] at hp)); try simp only [hb, Bool.not_true, Bool.not_false]))
    | ((with_reducible refine And.intro ?_ ?_); (focus (first | omega | (simp; done) | assumption)))
    | (simp only [thenP, blockP, Nat.reduceEqDiff, ↓reduceIte]; (try ((repeat (fail_if_success (with_reducible refine hK1 _ ?_)); clear hK1); (with_reducible refine hK1 _ ?_); clear hK1)))
    | (with_reducible omega)
    | (assumption)
    | ((first | ((with_reducible refine opsP_cons fun K3 hK3 => ?_); simp only [wantP, opP, valP, Uy, U0, Ur, Us, List.mapM_cons, List.mapM_nil, Uw, Ux]) | (with_reducible refine PW.condM fun X1 Y1 hX1 hY1 => ?_) | skip); simp (disch := omega) only [wantP, wantB_tt, wantB_ff, wantB_tf, wantB_ft, opP, valP, St.eval, St.put, upd_app, iniT_app, avOf, avOf1, nom, cellsA, AV.okv, loadA, lenP, binP, intsP, intP, strP, eqP, nilP, convP, unP, builtinP, bsz, U0, U1, dvEqC, eqAll, cellsV, maplenP, isMapA, isBsl, viewA, U2, U3, U4, U5, U6, slA, putCells, fillA, buildA, elA, dv1, U7, U8, U9, Ua, Ub, List.getElem?_nil, Uc, Ud, Ue, Uf, Ug, Uh, Ui, Uj, Uk, Ul, Um, Un, Uo, Up, Uq, Ur, Us, Ut, Uu, Uv, List.mapM_cons, List.mapM_nil, Uw, Ux, Uy, Uz, V0, V1, V2, V3, V4, V5, Option.bind_eq_bind, Option.pure_def, V6, V7, V8, V9, Va, Vb, Vc, Vd, Ve, Vt, Int.cast_ofNat_Int, ite_same, UU2, UU3, UU4, UU7, UU8, Vq, UU9, UUa, Vr, Vs, PmL, simprocAttr, PmT, retQ, resP, tupA, fg, fgs, condP, condB_t, condB_f]; try (with_reducible (first | exact co_refl _ | exact co_own _ _ _ | exact co_nilsB | exact co_nilsL _ _))))
  (with_reducible refine PW.loop (fun n s => ∃ (k a : Nat) (bad : Bool) (m sc : Int), s.t 0 = .ptr 0 0 ∧ s.t 3 = .d (.int .i64 m) ∧ s.t 4 = .d (.int .i64 sc) ∧ s.t 5 = .d (.int .i64 k) ∧ s.n = 40 ∧ s.m = rdM9 B a bad ∧ a ≤ B.length ∧ k ≤ 8 ∧ n = 8 - k ∧ 0 ≤ m ∧ m < sc ∧ 1 ≤ sc ∧ sc = 128 ^ k ∧ varGo B (8 - k) k a bad m sc = R) 8 ?_ ?_)
  · exact ⟨0, a, bad, 0, 1, rfl, rfl, rfl, rfl, rfl, rfl, ha, by omega, rfl, by omega, by omega, by omega, rfl, hR⟩
  clear hR ha
  rintro n ⟨t, nn, m⟩ ⟨k, a, bad, v, sc, h0, h3, h4, h5, hn, hm, ha, hk, hnk, hv0, hv1, hs1, hsc, hR⟩ - -
  simp only at h0 h3 h4 h5 hn hm
  subst hn hm
  by_cases hlt : (k : Int) < 8
  · have hlt' := eq_true hlt
    have hB := pRByte9 B a bad ha
    obtain ⟨hc0, hc1⟩ := byteR_rng hrl a bad
    obtain ⟨hb0, hb1⟩ := byteR_at B a bad ha
    rw [show 8 - k = (8 - (k + 1)) + 1 by omega] at hR
    unfold varGo at hR
    obtain ⟨⟨c, a1, bad1⟩, hq⟩ : ∃ r, byteR B a bad = r := ⟨_, rfl⟩
    rw [hq] at hB hc0 hc1 hb0 hb1 hR
    simp only at hB hc0 hc1 hb0 hb1 hR
    have hsc7 : sc ≤ 562949953421312 := by
      have : (128 : Nat) ^ k ≤ 128 ^ 7 := Nat.pow_le_pow_right (by omega) (by omega)
      have h2 : ((128 ^ k : Nat) : Int) = (128 : Int) ^ k := Int.natCast_pow 128 k
      rw [hsc, ← h2]
      omega
    have hp0 : 0 ≤ c % 128 * sc := Int.mul_nonneg (by omega) (by omega)
    have hp1 : c % 128 * sc ≤ 127 * sc := Int.mul_le_mul_of_nonneg_right (by omega) (by omega)
    obtain ⟨p, hp⟩ : ∃ p, c % 128 * sc = p := ⟨_, rfl⟩
    rw [hp] at hp0 hp1 hR
    have e1 : c.tmod 128 = c % 128 := Int.tmod_eq_emod_of_nonneg hc0
    have e2 : IntKind.i64.wrap p = p := IntWalk.i64_in _ (by omega)
    have e3 : IntKind.i64.wrap (v + p) = v + p := IntWalk.i64_in _ (by omega)
    have e4 : IntKind.i64.wrap (sc * 128) = sc * 128 := IntWalk.i64_in _ (by omega)
    have e5 : IntKind.i64.wrap ((k : Int) + 1) = k + 1 := IntWalk.i64_in _ (by omega)
    by_cases h128 : c < 128
    · have h128' := eq_true h128
      rw [if_pos h128, show decide (0 < k) = decide ((0 : Int) < k) by simp] at hR
      rcases Classical.propComplete ((0 : Int) < k) with hk0 | hk0 <;> rcases Classical.propComplete (c = 0) with hc00 | hc00 <;> rcases Classical.propComplete (9007199254740991 < v + p) with hM | hM
      all_goals
        simp only [hk0, hc00, hM, decide_true, decide_false, Bool.and_true, Bool.and_false, Bool.or_true, Bool.or_false] at hR
        subst hR
        repeat' (first
          | (with_reducible (first
           | refine PW.seq fun K1 hK1 => ?_ | refine PW.region fun K2 hK2 => ?_ | (refine hK3 _ ?_; clear hK3) | (refine opsP_nil ?_; refine hK2 _ ?_; clear hK2) | refine litX_old ?_ | refine litC_data ?_ | (refine Exists.intro _ (Exists.intro _ (And.intro rfl (And.intro rfl (And.intro ?_ ?_)))); focus omega) | (refine hK1 _ ?_; clear hK1) | refine nilC_intro (fun hz => ?_) ?_
           | refine PW.block ?_ | refine PW.skip ?_ | refine PW.exit ?_ | refine PW.ret ?_ | (refine hX1 ?_; clear hX1 hY1; try simp only [hb]) | (refine hY1 ?_; clear hX1 hY1; try simp only [hb]) | exact co_refl _ | exact co_own _ _ _ | exact co_nilsB | exact co_nilsL _ _))
          | ((first | (with_reducible refine wantB_intro (fun hb => ?_) (fun hb => ?_)) | (with_reducible refine condB_intro (fun hb => ?_) (fun hb => ?_))) <;> ((try (have hp := hb; simp only [PmH, beq_iff_eq, beq_eq_false_iff_ne, ne_eq] at hp)); try simp only [hb, Bool.not_true, Bool.not_false]))
          | ((with_reducible refine cC_recv (cs := ?_) ?_ ?_ ?_ ?_ (hB) (fun _ => ?_)); rotate_left 1; (focus (first | exact rfl | (simp only [Ua, Ub]; rfl))); (focus ((repeat' constructor) <;> (simp only [purAs, purA, Vf, Bool.and_self, h0, h3, h4, h5, hlt', e1, e2, e3, hp, h128', hk0, hc00, hM]; done))); (focus ((repeat' constructor) <;> (simp only [purAs, purA, Vf, Bool.and_self, h0, h3, h4, h5, hlt', e1, e2, e3, hp, h128', hk0, hc00, hM]; done))); (focus (simp only [purAs, purA, Vf, Bool.and_self, h0, h3, h4, h5, hlt', e1, e2, e3, hp, h128', hk0, hc00, hM]; done)))
          | ((with_reducible refine And.intro ?_ ?_); (focus (first | omega | (simp; done) | assumption)))
          | (simp only [thenP, blockP, Nat.reduceEqDiff, ↓reduceIte]; (try ((repeat (fail_if_success (with_reducible refine hK1 _ ?_)); clear hK1); (with_reducible refine hK1 _ ?_); clear hK1)))
          | (with_reducible omega)
          | (assumption)
          | ((first | ((with_reducible refine opsP_cons fun K3 hK3 => ?_); simp only [wantP, opP, valP, Uy, U0, Ur, Us, List.mapM_cons, List.mapM_nil, Uw, Ux]) | (with_reducible refine PW.condM fun X1 Y1 hX1 hY1 => ?_) | skip); simp (disch := omega) only [wantP, wantB_tt, wantB_ff, wantB_tf, wantB_ft, opP, valP, St.eval, St.put, upd_app, iniT_app, avOf, avOf1, nom, cellsA, AV.okv, loadA, lenP, binP, intsP, intP, strP, eqP, nilP, convP, unP, builtinP, bsz, U0, U1, dvEqC, eqAll, cellsV, maplenP, isMapA, isBsl, viewA, U2, U3, U4, U5, U6, slA, putCells, fillA, buildA, elA, dv1, U7, U8, U9, Ua, Ub, List.getElem?_nil, Uc, Ud, Ue, Uf, Ug, Uh, Ui, Uj, Uk, Ul, Um, Un, Uo, Up, Uq, Ur, Us, Ut, Uu, Uv, List.mapM_cons, List.mapM_nil, Uw, Ux, Uy, Uz, V0, V1, V2, V3, V4, V5, Option.bind_eq_bind, Option.pure_def, V6, V7, V8, V9, Va, Vb, Vc, Vd, Ve, Vt, Int.cast_ofNat_Int, ite_same, UU2, UU3, UU4, UU7, UU8, Vq, UU9, UUa, Vr, Vs, PmL, simprocAttr, PmT, h0, h3, h4, h5, hlt', e1, e2, e3, hp, h128', hk0, hc00, hM, retQ, resP, tupA, fg, fgs, condP, condB_t, condB_f]; try (with_reducible (first | exact co_refl _ | exact co_own _ _ _ | exact co_nilsB | exact co_nilsL _ _))))
      all_goals exact end_box rfl
    · have h128' := eq_false h128
      rw [if_neg h128] at hR
      repeat' (first
        | (with_reducible (first
         | refine PW.seq fun K1 hK1 => ?_ | refine PW.region fun K2 hK2 => ?_ | (refine hK3 _ ?_; clear hK3) | (refine opsP_nil ?_; refine hK2 _ ?_; clear hK2) | refine litX_old ?_ | refine litC_data ?_ | (refine Exists.intro _ (Exists.intro _ (And.intro rfl (And.intro rfl (And.intro ?_ ?_)))); focus omega) | (refine hK1 _ ?_; clear hK1) | refine nilC_intro (fun hz => ?_) ?_
         | refine PW.block ?_ | refine PW.skip ?_ | refine PW.exit ?_ | refine PW.ret ?_ | (refine hX1 ?_; clear hX1 hY1; try simp only [hb]) | (refine hY1 ?_; clear hX1 hY1; try simp only [hb]) | exact co_refl _ | exact co_own _ _ _ | exact co_nilsB | exact co_nilsL _ _))
        | ((first | (with_reducible refine wantB_intro (fun hb => ?_) (fun hb => ?_)) | (with_reducible refine condB_intro (fun hb => ?_) (fun hb => ?_))) <;> ((try (have hp := hb; simp only [PmH, beq_iff_eq, beq_eq_false_iff_ne, ne_eq] at hp)); try simp only [hb, Bool.not_true, Bool.not_false]))
        | ((with_reducible refine cC_recv (cs := ?_) ?_ ?_ ?_ ?_ (hB) (fun _ => ?_)); rotate_left 1; (focus (first | exact rfl | (simp only [Ua, Ub]; rfl))); (focus ((repeat' constructor) <;> (simp only [purAs, purA, Vf, Bool.and_self, h0, h3, h4, h5, hlt', e1, e2, e3, e4, e5, hp, h128']; done))); (focus ((repeat' constructor) <;> (simp only [purAs, purA, Vf, Bool.and_self, h0, h3, h4, h5, hlt', e1, e2, e3, e4, e5, hp, h128']; done))); (focus (simp only [purAs, purA, Vf, Bool.and_self, h0, h3, h4, h5, hlt', e1, e2, e3, e4, e5, hp, h128']; done)))
        | ((with_reducible refine And.intro ?_ ?_); (focus (first | omega | (simp; done) | assumption)))
        | (simp only [thenP, blockP, Nat.reduceEqDiff, ↓reduceIte]; (try ((repeat (fail_if_success (with_reducible refine hK1 _ ?_)); clear hK1); (with_reducible refine hK1 _ ?_); clear hK1)))
        | (with_reducible omega)
        | (assumption)
        | ((first | ((with_reducible refine opsP_cons fun K3 hK3 => ?_); simp only [wantP, opP, valP, Uy, U0, Ur, Us, List.mapM_cons, List.mapM_nil, Uw, Ux]) | (with_reducible refine PW.condM fun X1 Y1 hX1 hY1 => ?_) | skip); simp (disch := omega) only [wantP, wantB_tt, wantB_ff, wantB_tf, wantB_ft, opP, valP, St.eval, St.put, upd_app, iniT_app, avOf, avOf1, nom, cellsA, AV.okv, loadA, lenP, binP, intsP, intP, strP, eqP, nilP, convP, unP, builtinP, bsz, U0, U1, dvEqC, eqAll, cellsV, maplenP, isMapA, isBsl, viewA, U2, U3, U4, U5, U6, slA, putCells, fillA, buildA, elA, dv1, U7, U8, U9, Ua, Ub, List.getElem?_nil, Uc, Ud, Ue, Uf, Ug, Uh, Ui, Uj, Uk, Ul, Um, Un, Uo, Up, Uq, Ur, Us, Ut, Uu, Uv, List.mapM_cons, List.mapM_nil, Uw, Ux, Uy, Uz, V0, V1, V2, V3, V4, V5, Option.bind_eq_bind, Option.pure_def, V6, V7, V8, V9, Va, Vb, Vc, Vd, Ve, Vt, Int.cast_ofNat_Int, ite_same, UU2, UU3, UU4, UU7, UU8, Vq, UU9, UUa, Vr, Vs, PmL, simprocAttr, PmT, h0, h3, h4, h5, hlt', e1, e2, e3, e4, e5, hp, h128', retQ, resP, tupA, fg, fgs, condP, condB_t, condB_f]; try (with_reducible (first | exact co_refl _ | exact co_own _ _ _ | exact co_nilsB | exact co_nilsL _ _))))
      refine ⟨8 - (k + 1), by omega, k + 1, a1, bad1, v + p, sc * 128, ?_, ?_, ?_, ?_, ?_, ?_, hb1, by omega, rfl, by omega, by omega, by omega, ?_, hR⟩
      case refine_7 => rw [hsc, Int.pow_succ]
      all_goals (simp only [St.cut, Mem.cut, fg, fgs, upd_app, Nat.reduceEqDiff, ↓reduceIte, List.take_nil, List.map_nil, List.take_succ_cons, List.take_zero, List.map_cons, Option.map_some, Option.map_none, Nat.reduceLT, Nat.zero_lt_one, Nat.reduceAdd, List.length_append, List.length_cons, List.length_nil, List.append_assoc, Nat.add_assoc, Int.natCast_add, Int.cast_ofNat_Int, nom, h0, h3, h4, h5]; try rfl)
  · have hlt' := eq_false hlt
    obtain rfl : k = 8 := by omega
    repeat' (first
      | (with_reducible (first
       | refine PW.seq fun K1 hK1 => ?_ | refine PW.region fun K2 hK2 => ?_ | (refine hK3 _ ?_; clear hK3) | (refine opsP_nil ?_; refine hK2 _ ?_; clear hK2) | refine litX_old ?_ | refine litC_data ?_ | (refine Exists.intro _ (Exists.intro _ (And.intro rfl (And.intro rfl (And.intro ?_ ?_)))); focus omega) | (refine hK1 _ ?_; clear hK1) | refine nilC_intro (fun hz => ?_) ?_
       | refine PW.block ?_ | refine PW.skip ?_ | refine PW.exit ?_ | refine PW.ret ?_ | (refine hX1 ?_; clear hX1 hY1; try simp only [hb]) | (refine hY1 ?_; clear hX1 hY1; try simp only [hb]) | exact co_refl _ | exact co_own _ _ _ | exact co_nilsB | exact co_nilsL _ _))
      | ((first | (with_reducible refine wantB_intro (fun hb => ?_) (fun hb => ?_)) | (with_reducible refine condB_intro (fun hb => ?_) (fun hb => ?_))) <;> ((try (have hp := hb; simp only [PmH, beq_iff_eq, beq_eq_false_iff_ne, ne_eq] at hp)); try simp only [hb, Bool.not_true, Bool.not_false]))
      | ((with_reducible refine And.intro ?_ ?_); (focus (first | omega | (simp; done) | assumption)))
      | (simp only [thenP, blockP, Nat.reduceEqDiff, ↓reduceIte]; (try ((repeat (fail_if_success (with_reducible refine hK1 _ ?_)); clear hK1); (with_reducible refine hK1 _ ?_); clear hK1)))
      | (with_reducible omega)
      | (assumption)
      | ((first | ((with_reducible refine opsP_cons fun K3 hK3 => ?_); simp only [wantP, opP, valP, Uy, U0, Ur, Us, List.mapM_cons, List.mapM_nil, Uw, Ux]) | (with_reducible refine PW.condM fun X1 Y1 hX1 hY1 => ?_) | skip); simp (disch := omega) only [wantP, wantB_tt, wantB_ff, wantB_tf, wantB_ft, opP, valP, St.eval, St.put, upd_app, iniT_app, avOf, avOf1, nom, cellsA, AV.okv, loadA, lenP, binP, intsP, intP, strP, eqP, nilP, convP, unP, builtinP, bsz, U0, U1, dvEqC, eqAll, cellsV, maplenP, isMapA, isBsl, viewA, U2, U3, U4, U5, U6, slA, putCells, fillA, buildA, elA, dv1, U7, U8, U9, Ua, Ub, List.getElem?_nil, Uc, Ud, Ue, Uf, Ug, Uh, Ui, Uj, Uk, Ul, Um, Un, Uo, Up, Uq, Ur, Us, Ut, Uu, Uv, List.mapM_cons, List.mapM_nil, Uw, Ux, Uy, Uz, V0, V1, V2, V3, V4, V5, Option.bind_eq_bind, Option.pure_def, V6, V7, V8, V9, Va, Vb, Vc, Vd, Ve, Vt, Int.cast_ofNat_Int, ite_same, UU2, UU3, UU4, UU7, UU8, Vq, UU9, UUa, Vr, Vs, PmL, simprocAttr, PmT, h0, h3, h4, h5, hlt', retQ, resP, tupA, fg, fgs, condP, condB_t, condB_f]; try (with_reducible (first | exact co_refl _ | exact co_own _ _ _ | exact co_nilsB | exact co_nilsL _ _))))
    simp only [Nat.sub_self] at hR
    unfold varGo at hR
    subst hR
    exact end_box rfl
/-- a text is read -/
def textR (B : List Int) (a : Nat) (bad : Bool) : List Int × Nat × Bool :=
  if (varR B a bad).2.2 = true ∨ (B.length : Int) - (varR B a bad).2.1 < (varR B a bad).1 then ([], (varR B a bad).2.1, true)
  else ((B.drop (varR B a bad).2.1).take (varR B a bad).1.toNat, (varR B a bad).2.1 + (varR B a bad).1.toNat, false)
set_option maxHeartbeats 4000000 in
theorem pRText9 (B : List Int) (a : Nat) (bad : Bool) (ha : a ≤ B.length) (hB : B.length ≤ 100000000) : PFun Try.prog 70 [.ptr 0 0] (rdM9 B a bad) (bs (textR B a bad).1) (rdM9 B (textR B a bad).2.1 (textR B a bad).2.2) := by
  refine fun_introM Try.func70 rfl rfl rfl 53 rfl ⟨Nat.le_refl _, Nat.le_refl _⟩ (fun hh hM => ?_)
  obtain ⟨hrl, hml⟩ := has_bytes (hM.box (i := 0) rfl (bs B) (by simp))
  have hV := pRVar9 B a bad ha
  have hr := varR_rng hrl a bad
  have hat := varR_at B a bad ha
  have ht : textR B a bad = if (varR B a bad).2.2 = true ∨ (B.length : Int) - (varR B a bad).2.1 < (varR B a bad).1 then ([], (varR B a bad).2.1, true)
    else ((B.drop (varR B a bad).2.1).take (varR B a bad).1.toNat, (varR B a bad).2.1 + (varR B a bad).1.toNat, false) := rfl
  obtain ⟨⟨v, a1, bad1⟩, hq⟩ : ∃ r, varR B a bad = r := ⟨_, rfl⟩
  rw [hq] at hV hr hat ht
  simp only at hV hr hat ht
  have e1 : IntKind.i64.wrap ((B.length : Int) - a1) = B.length - a1 := IntWalk.i64_in _ (by omega)
  cases bad1 with
  | true =>
    rw [if_pos (.inl rfl)] at ht
    rw [ht]
    repeat' (first
      | (with_reducible (first
       | refine PW.seq fun K1 hK1 => ?_ | refine PW.region fun K2 hK2 => ?_ | (refine hK3 _ ?_; clear hK3) | (refine opsP_nil ?_; refine hK2 _ ?_; clear hK2) | refine litX_old ?_ | refine litC_data ?_ | (refine Exists.intro _ (Exists.intro _ (And.intro rfl (And.intro rfl (And.intro ?_ ?_)))); focus omega) | (refine hK1 _ ?_; clear hK1) | refine nilC_intro (fun hz => ?_) ?_ | refine PW.block ?_ | refine PW.skip ?_
       | refine PW.exit ?_ | refine PW.ret ?_ | (refine hX1 ?_; clear hX1 hY1; try simp only [hb]) | (refine hY1 ?_; clear hX1 hY1; try simp only [hb]) | exact co_refl _ | exact co_own _ _ _ | exact co_nilsB | exact co_nilsL _ _ | (refine opsO_nil ?_; refine hK2 _ ?_; clear hK2) | (refine keepO_intro ?_ ?_; focus (first | exact .inl (keep_same _ _) | exact .inl (keep_box _ _ _ _) | exact .inl (keep_hd _ _ _ _ _) | exact .inl (keep_02 _ _ _ _ _ _ _) | exact .inl (keep_1 _ _ _ _ _ _ _) | exact .inr ⟨rfl, rfl⟩)) | (refine keepA_intro ?_ ?_; focus (first | exact keep_same _ _ | exact keep_box _ _ _ _ | exact keep_hd _ _ _ _ _ | exact keep_02 _ _ _ _ _ _ _ | exact keep_1 _ _ _ _ _ _ _))))
      | ((first | (with_reducible refine wantB_intro (fun hb => ?_) (fun hb => ?_)) | (with_reducible refine condB_intro (fun hb => ?_) (fun hb => ?_))) <;> ((try (have hp := hb; simp only [PmH, beq_iff_eq, beq_eq_false_iff_ne, ne_eq] at hp)); try simp only [hb, Bool.not_true, Bool.not_false]))
      | ((with_reducible refine cC_recv (cs := ?_) ?_ ?_ ?_ ?_ (hV) (fun _ => ?_)); rotate_left 1; (focus (first | exact rfl | (simp only [Ua, Ub]; rfl))); (focus ((repeat' constructor) <;> (simp only [purAs, purA, Vf, Bool.and_self, e1]; done))); (focus ((repeat' constructor) <;> (simp only [purAs, purA, Vf, Bool.and_self, e1]; done))); (focus (simp only [purAs, purA, Vf, Bool.and_self, e1]; done)))
      | ((with_reducible refine PW.drawR (id := 2) mixed [] [(0, true), (1, true), (2, true), (3, true), (4, true), (5, true), (6, true), (7, true), (8, true), (9, true), (10, true), (11, true), (12, true), (13, true), (14, true), (15, true), (16, true), (17, true)] (by kernel_rfl) (by decide) fun K2 hK2 => ?_))
      | ((with_reducible refine PW.drawR (id := 6) mixed [] [(1, true), (2, true), (3, true), (4, true), (5, true), (6, true), (7, true), (8, true), (9, true), (10, true), (11, true), (12, true), (13, true), (14, true), (15, true), (0, false), (16, false), (17, true)] (by kernel_rfl) (by decide) fun K2 hK2 => ?_))
      | ((with_reducible refine And.intro ?_ ?_); (focus (first | omega | (simp; done) | assumption)))
      | (simp only [thenP, blockP, Nat.reduceEqDiff, ↓reduceIte]; (try ((repeat (fail_if_success (with_reducible refine hK1 _ ?_)); clear hK1); (with_reducible refine hK1 _ ?_); clear hK1)))
      | (with_reducible omega)
      | (assumption)
      | ((with_reducible refine opsP_consD (d := 36) fun K3 hK3 => ?_); simp only [wantP, opP, valP, Uy, U0, Ur, Us, List.mapM_cons, List.mapM_nil, Uw, Ux]; simp (disch := omega) only [wantP, wantB_tt, wantB_ff, wantB_tf, wantB_ft, opP, valP, St.eval, St.put, upd_app, iniT_app, avOf, avOf1, nom, cellsA, AV.okv, loadA, lenP, binP, intsP, intP, strP, eqP, nilP, convP, sliceP, boundLo, boundHi, unP, builtinP, appP, srcA, srcTy, bsz, U0, U1, dvEqC, eqAll, boundMx, srcAll, srcOk, appB, cellsV, maplenP, isMapA, isBsl, viewA, U2, U3, U4, U5, U6, slA, putCells, fillA, buildA, elA, dv1, U7, U8, U9, Ua, Ub, List.getElem?_nil, Uc, Ud, Ue, Uf, Ug, Uh, Ui, Uj, Uk, Ul, Um, Un, Uo, Up, Uq, Ur, Us, Ut, Uu, Uv, List.mapM_cons, List.mapM_nil, Uw, Ux, Uy, Uz, V0, V1, V2, V3, V4, V5, Option.bind_eq_bind, Option.pure_def, V6, V7, V8, V9, Va, Vb, Vc, Vd, Ve, Vt, Int.cast_ofNat_Int, ite_same, UU2, UU3, UU4, UU7, UU8, Vq, UU9, UUa, Vr, Vs, PmL, simprocAttr, PmT, e1]; (with_reducible refine litX_old ?_); (with_reducible refine litC_own ?_))
      | ((first | ((with_reducible refine opsP_cons fun K3 hK3 => ?_); simp only [wantP, opP, valP, Uy, U0, Ur, Us, List.mapM_cons, List.mapM_nil, Uw, Ux]) | ((with_reducible refine opsO_first (o := ?_) ?_ fun K3 hK3 => ?_); rotate_left 1; (focus (simp only [Uz, Ub, Ua] <;> rfl)); simp only [wantP, firstP, valP, Uy, U0, Ur, Us, List.mapM_cons, List.mapM_nil, Uw, Ux]) | ((with_reducible refine opsO_only (o := ?_) ?_ fun K3 hK3 => ?_); rotate_left 1; (focus (simp only [Uz, Ub, Ua] <;> rfl)); simp only [wantP, opP, valP, Uy, U0, Ur, Us, List.mapM_cons, List.mapM_nil, Uw, Ux]) | (with_reducible refine PW.condM fun X1 Y1 hX1 hY1 => ?_) | skip); simp (disch := omega) only [wantP, wantB_tt, wantB_ff, wantB_tf, wantB_ft, opP, valP, St.eval, St.put, upd_app, iniT_app, avOf, avOf1, nom, cellsA, AV.okv, loadA, lenP, binP, intsP, intP, strP, eqP, nilP, convP, sliceP, boundLo, boundHi, unP, builtinP, appP, srcA, srcTy, bsz, U0, U1, dvEqC, eqAll, boundMx, srcAll, srcOk, appB, cellsV, maplenP, isMapA, isBsl, viewA, U2, U3, U4, U5, U6, slA, putCells, fillA, buildA, elA, dv1, U7, U8, U9, Ua, Ub, List.getElem?_nil, Uc, Ud, Ue, Uf, Ug, Uh, Ui, Uj, Uk, Ul, Um, Un, Uo, Up, Uq, Ur, Us, Ut, Uu, Uv, List.mapM_cons, List.mapM_nil, Uw, Ux, Uy, Uz, V0, V1, V2, V3, V4, V5, Option.bind_eq_bind, Option.pure_def, V6, V7, V8, V9, Va, Vb, Vc, Vd, Ve, Vt, Int.cast_ofNat_Int, ite_same, UU2, UU3, UU4, UU7, UU8, Vq, UU9, UUa, Vr, Vs, PmL, simprocAttr, PmT, e1, retQ, resP, tupA, fg, fgs, condP, condB_t, condB_f, firstP, firstOk, List.mem_range, List.mem_singleton, List.mem_cons]; try (with_reducible (first | exact co_refl _ | exact co_own _ _ _ | exact co_nilsB | exact co_nilsL _ _))))
    all_goals exact ⟨co_nilsB, subM_box (by simp only [fgs, fg]; exact cos_refl _)⟩
  | false =>
    obtain ⟨hr0, hr1⟩ := hr
    have hr1 := hr1 rfl
    by_cases hx : (B.length : Int) - a1 < v
    · rw [if_pos (.inr hx)] at ht
      rw [ht]
      have hx' := eq_true hx
      repeat' (first
        | (with_reducible (first
         | refine PW.seq fun K1 hK1 => ?_ | refine PW.region fun K2 hK2 => ?_ | (refine hK3 _ ?_; clear hK3) | (refine opsP_nil ?_; refine hK2 _ ?_; clear hK2) | refine litX_old ?_ | refine litC_data ?_ | (refine Exists.intro _ (Exists.intro _ (And.intro rfl (And.intro rfl (And.intro ?_ ?_)))); focus omega) | (refine hK1 _ ?_; clear hK1) | refine nilC_intro (fun hz => ?_) ?_ | refine PW.block ?_ | refine PW.skip ?_
         | refine PW.exit ?_ | refine PW.ret ?_ | (refine hX1 ?_; clear hX1 hY1; try simp only [hb]) | (refine hY1 ?_; clear hX1 hY1; try simp only [hb]) | exact co_refl _ | exact co_own _ _ _ | exact co_nilsB | exact co_nilsL _ _ | (refine opsO_nil ?_; refine hK2 _ ?_; clear hK2) | (refine keepO_intro ?_ ?_; focus (first | exact .inl (keep_same _ _) | exact .inl (keep_box _ _ _ _) | exact .inl (keep_hd _ _ _ _ _) | exact .inl (keep_02 _ _ _ _ _ _ _) | exact .inl (keep_1 _ _ _ _ _ _ _) | exact .inr ⟨rfl, rfl⟩)) | (refine keepA_intro ?_ ?_; focus (first | exact keep_same _ _ | exact keep_box _ _ _ _ | exact keep_hd _ _ _ _ _ | exact keep_02 _ _ _ _ _ _ _ | exact keep_1 _ _ _ _ _ _ _))))
        | ((first | (with_reducible refine wantB_intro (fun hb => ?_) (fun hb => ?_)) | (with_reducible refine condB_intro (fun hb => ?_) (fun hb => ?_))) <;> ((try (have hp := hb; simp only [PmH, beq_iff_eq, beq_eq_false_iff_ne, ne_eq] at hp)); try simp only [hb, Bool.not_true, Bool.not_false]))
        | ((with_reducible refine cC_recv (cs := ?_) ?_ ?_ ?_ ?_ (hV) (fun _ => ?_)); rotate_left 1; (focus (first | exact rfl | (simp only [Ua, Ub]; rfl))); (focus ((repeat' constructor) <;> (simp only [purAs, purA, Vf, Bool.and_self, e1, hx']; done))); (focus ((repeat' constructor) <;> (simp only [purAs, purA, Vf, Bool.and_self, e1, hx']; done))); (focus (simp only [purAs, purA, Vf, Bool.and_self, e1, hx']; done)))
        | ((with_reducible refine PW.drawR (id := 2) mixed [] [(0, true), (1, true), (2, true), (3, true), (4, true), (5, true), (6, true), (7, true), (8, true), (9, true), (10, true), (11, true), (12, true), (13, true), (14, true), (15, true), (16, true), (17, true)] (by kernel_rfl) (by decide) fun K2 hK2 => ?_))
        | ((with_reducible refine PW.drawR (id := 6) mixed [] [(1, true), (2, true), (3, true), (4, true), (5, true), (6, true), (7, true), (8, true), (9, true), (10, true), (11, true), (12, true), (13, true), (14, true), (15, true), (0, false), (16, false), (17, true)] (by kernel_rfl) (by decide) fun K2 hK2 => ?_))
        | ((with_reducible refine And.intro ?_ ?_); (focus (first | omega | (simp; done) | assumption)))
        | (simp only [thenP, blockP, Nat.reduceEqDiff, ↓reduceIte]; (try ((repeat (fail_if_success (with_reducible refine hK1 _ ?_)); clear hK1); (with_reducible refine hK1 _ ?_); clear hK1)))
        | (with_reducible omega)
        | (assumption)
        | ((with_reducible refine opsP_consD (d := 36) fun K3 hK3 => ?_); simp only [wantP, opP, valP, Uy, U0, Ur, Us, List.mapM_cons, List.mapM_nil, Uw, Ux]; simp (disch := omega) only [wantP, wantB_tt, wantB_ff, wantB_tf, wantB_ft, opP, valP, St.eval, St.put, upd_app, iniT_app, avOf, avOf1, nom, cellsA, AV.okv, loadA, lenP, binP, intsP, intP, strP, eqP, nilP, convP, sliceP, boundLo, boundHi, unP, builtinP, appP, srcA, srcTy, bsz, U0, U1, dvEqC, eqAll, boundMx, srcAll, srcOk, appB, cellsV, maplenP, isMapA, isBsl, viewA, U2, U3, U4, U5, U6, slA, putCells, fillA, buildA, elA, dv1, U7, U8, U9, Ua, Ub, List.getElem?_nil, Uc, Ud, Ue, Uf, Ug, Uh, Ui, Uj, Uk, Ul, Um, Un, Uo, Up, Uq, Ur, Us, Ut, Uu, Uv, List.mapM_cons, List.mapM_nil, Uw, Ux, Uy, Uz, V0, V1, V2, V3, V4, V5, Option.bind_eq_bind, Option.pure_def, V6, V7, V8, V9, Va, Vb, Vc, Vd, Ve, Vt, Int.cast_ofNat_Int, ite_same, UU2, UU3, UU4, UU7, UU8, Vq, UU9, UUa, Vr, Vs, PmL, simprocAttr, PmT, e1, hx']; (with_reducible refine litX_old ?_); (with_reducible refine litC_own ?_))
        | ((first | ((with_reducible refine opsP_cons fun K3 hK3 => ?_); simp only [wantP, opP, valP, Uy, U0, Ur, Us, List.mapM_cons, List.mapM_nil, Uw, Ux]) | ((with_reducible refine opsO_first (o := ?_) ?_ fun K3 hK3 => ?_); rotate_left 1; (focus (simp only [Uz, Ub, Ua] <;> rfl)); simp only [wantP, firstP, valP, Uy, U0, Ur, Us, List.mapM_cons, List.mapM_nil, Uw, Ux]) | ((with_reducible refine opsO_only (o := ?_) ?_ fun K3 hK3 => ?_); rotate_left 1; (focus (simp only [Uz, Ub, Ua] <;> rfl)); simp only [wantP, opP, valP, Uy, U0, Ur, Us, List.mapM_cons, List.mapM_nil, Uw, Ux]) | (with_reducible refine PW.condM fun X1 Y1 hX1 hY1 => ?_) | skip); simp (disch := omega) only [wantP, wantB_tt, wantB_ff, wantB_tf, wantB_ft, opP, valP, St.eval, St.put, upd_app, iniT_app, avOf, avOf1, nom, cellsA, AV.okv, loadA, lenP, binP, intsP, intP, strP, eqP, nilP, convP, sliceP, boundLo, boundHi, unP, builtinP, appP, srcA, srcTy, bsz, U0, U1, dvEqC, eqAll, boundMx, srcAll, srcOk, appB, cellsV, maplenP, isMapA, isBsl, viewA, U2, U3, U4, U5, U6, slA, putCells, fillA, buildA, elA, dv1, U7, U8, U9, Ua, Ub, List.getElem?_nil, Uc, Ud, Ue, Uf, Ug, Uh, Ui, Uj, Uk, Ul, Um, Un, Uo, Up, Uq, Ur, Us, Ut, Uu, Uv, List.mapM_cons, List.mapM_nil, Uw, Ux, Uy, Uz, V0, V1, V2, V3, V4, V5, Option.bind_eq_bind, Option.pure_def, V6, V7, V8, V9, Va, Vb, Vc, Vd, Ve, Vt, Int.cast_ofNat_Int, ite_same, UU2, UU3, UU4, UU7, UU8, Vq, UU9, UUa, Vr, Vs, PmL, simprocAttr, PmT, e1, hx', retQ, resP, tupA, fg, fgs, condP, condB_t, condB_f, firstP, firstOk, List.mem_range, List.mem_singleton, List.mem_cons]; try (with_reducible (first | exact co_refl _ | exact co_own _ _ _ | exact co_nilsB | exact co_nilsL _ _))))
      all_goals exact ⟨co_nilsB, subM_box (by simp only [fgs, fg]; exact cos_refl _)⟩
    · rw [if_neg (by simp; omega)] at ht
      rw [ht]
      obtain ⟨n, rfl⟩ : ∃ n : Nat, v = n := ⟨v.toNat, by omega⟩
      have hx' := eq_false hx
      have e3 : ((a1 : Int) + n - n).toNat = a1 := by omega
      have e4 : ((a1 : Int) + n).toNat = a1 + n := by omega
      have e5 : (n : Int).toNat = n := by omega
      have e6 : (List.take (a1 + n) B).drop a1 = (B.drop a1).take n := by rw [List.drop_take]; congr 1; omega
      have hlen : ((B.drop a1).take n).length ≤ 100000000 := by rw [List.length_take, List.length_drop]; omega
      rw [e5]
      repeat' (first
        | (with_reducible (first
         | refine PW.seq fun K1 hK1 => ?_ | refine PW.region fun K2 hK2 => ?_ | (refine hK3 _ ?_; clear hK3) | (refine opsP_nil ?_; refine hK2 _ ?_; clear hK2) | refine litX_old ?_ | refine litC_data ?_ | (refine Exists.intro _ (Exists.intro _ (And.intro rfl (And.intro rfl (And.intro ?_ ?_)))); focus omega) | (refine hK1 _ ?_; clear hK1) | refine nilC_intro (fun hz => ?_) ?_ | refine PW.block ?_ | refine PW.skip ?_
         | refine PW.exit ?_ | refine PW.ret ?_ | (refine hX1 ?_; clear hX1 hY1; try simp only [hb]) | (refine hY1 ?_; clear hX1 hY1; try simp only [hb]) | exact co_refl _ | exact co_own _ _ _ | exact co_nilsB | exact co_nilsL _ _ | (refine opsO_nil ?_; refine hK2 _ ?_; clear hK2) | (refine keepO_intro ?_ ?_; focus (first | exact .inl (keep_same _ _) | exact .inl (keep_box _ _ _ _) | exact .inl (keep_hd _ _ _ _ _) | exact .inl (keep_02 _ _ _ _ _ _ _) | exact .inl (keep_1 _ _ _ _ _ _ _) | exact .inr ⟨rfl, rfl⟩)) | (refine keepA_intro ?_ ?_; focus (first | exact keep_same _ _ | exact keep_box _ _ _ _ | exact keep_hd _ _ _ _ _ | exact keep_02 _ _ _ _ _ _ _ | exact keep_1 _ _ _ _ _ _ _))))
        | ((first | (with_reducible refine wantB_intro (fun hb => ?_) (fun hb => ?_)) | (with_reducible refine condB_intro (fun hb => ?_) (fun hb => ?_))) <;> ((try (have hp := hb; simp only [PmH, beq_iff_eq, beq_eq_false_iff_ne, ne_eq] at hp)); try simp only [hb, Bool.not_true, Bool.not_false]))
        | ((with_reducible refine cC_recv (cs := ?_) ?_ ?_ ?_ ?_ (hV) (fun _ => ?_)); rotate_left 1; (focus (first | exact rfl | (simp only [Ua, Ub]; rfl))); (focus ((repeat' constructor) <;> (simp only [purAs, purA, Vf, Bool.and_self, e1, e3, e4, e6, hx']; done))); (focus ((repeat' constructor) <;> (simp only [purAs, purA, Vf, Bool.and_self, e1, e3, e4, e6, hx']; done))); (focus (simp only [purAs, purA, Vf, Bool.and_self, e1, e3, e4, e6, hx']; done)))
        | ((with_reducible refine PW.drawR (id := 2) mixed [] [(0, true), (1, true), (2, true), (3, true), (4, true), (5, true), (6, true), (7, true), (8, true), (9, true), (10, true), (11, true), (12, true), (13, true), (14, true), (15, true), (16, true), (17, true)] (by kernel_rfl) (by decide) fun K2 hK2 => ?_))
        | ((with_reducible refine PW.drawR (id := 6) mixed [] [(1, true), (2, true), (3, true), (4, true), (5, true), (6, true), (7, true), (8, true), (9, true), (10, true), (11, true), (12, true), (13, true), (14, true), (15, true), (0, false), (16, false), (17, true)] (by kernel_rfl) (by decide) fun K2 hK2 => ?_))
        | ((with_reducible refine And.intro ?_ ?_); (focus (first | omega | (simp; done) | assumption)))
        | (simp only [thenP, blockP, Nat.reduceEqDiff, ↓reduceIte]; (try ((repeat (fail_if_success (with_reducible refine hK1 _ ?_)); clear hK1); (with_reducible refine hK1 _ ?_); clear hK1)))
        | (with_reducible omega)
        | (assumption)
        | ((with_reducible refine opsO_onlyD 36 (op := ?_) (ty := ?_) (pos := ?_) (after := ?_) (guard := ?_) ?_ fun K3 hK3 => ?_); rotate_left 5; (focus (simp only [Uz, Ub, Ua] <;> rfl)); simp only [wantP, opP, valP, Uy, U0, Ur, Us, List.mapM_cons, List.mapM_nil, Uw, Ux]; simp (disch := omega) only [wantP, wantB_tt, wantB_ff, wantB_tf, wantB_ft, opP, valP, St.eval, St.put, upd_app, iniT_app, avOf, avOf1, nom, cellsA, AV.okv, loadA, lenP, binP, intsP, intP, strP, eqP, nilP, convP, sliceP, boundLo, boundHi, unP, builtinP, appP, srcA, srcTy, bsz, U0, U1, dvEqC, eqAll, boundMx, srcAll, srcOk, appB, cellsV, maplenP, isMapA, isBsl, viewA, U2, U3, U4, U5, U6, slA, putCells, fillA, buildA, elA, dv1, U7, U8, U9, Ua, Ub, List.getElem?_nil, Uc, Ud, Ue, Uf, Ug, Uh, Ui, Uj, Uk, Ul, Um, Un, Uo, Up, Uq, Ur, Us, Ut, Uu, Uv, List.mapM_cons, List.mapM_nil, Uw, Ux, Uy, Uz, V0, V1, V2, V3, V4, V5, Option.bind_eq_bind, Option.pure_def, V6, V7, V8, V9, Va, Vb, Vc, Vd, Ve, Vt, Int.cast_ofNat_Int, ite_same, UU2, UU3, UU4, UU7, UU8, Vq, UU9, UUa, Vr, Vs, PmL, simprocAttr, PmT, e1, e3, e4, e6, hx', retQ, resP, tupA, fg, fgs, condP, condB_t, condB_f, firstP, firstOk, List.mem_range, List.mem_singleton, List.mem_cons]; (with_reducible refine litX_old ?_); (with_reducible refine litC_own ?_))
        | ((with_reducible refine opsP_consD (d := 36) fun K3 hK3 => ?_); simp only [wantP, opP, valP, Uy, U0, Ur, Us, List.mapM_cons, List.mapM_nil, Uw, Ux]; simp (disch := omega) only [wantP, wantB_tt, wantB_ff, wantB_tf, wantB_ft, opP, valP, St.eval, St.put, upd_app, iniT_app, avOf, avOf1, nom, cellsA, AV.okv, loadA, lenP, binP, intsP, intP, strP, eqP, nilP, convP, sliceP, boundLo, boundHi, unP, builtinP, appP, srcA, srcTy, bsz, U0, U1, dvEqC, eqAll, boundMx, srcAll, srcOk, appB, cellsV, maplenP, isMapA, isBsl, viewA, U2, U3, U4, U5, U6, slA, putCells, fillA, buildA, elA, dv1, U7, U8, U9, Ua, Ub, List.getElem?_nil, Uc, Ud, Ue, Uf, Ug, Uh, Ui, Uj, Uk, Ul, Um, Un, Uo, Up, Uq, Ur, Us, Ut, Uu, Uv, List.mapM_cons, List.mapM_nil, Uw, Ux, Uy, Uz, V0, V1, V2, V3, V4, V5, Option.bind_eq_bind, Option.pure_def, V6, V7, V8, V9, Va, Vb, Vc, Vd, Ve, Vt, Int.cast_ofNat_Int, ite_same, UU2, UU3, UU4, UU7, UU8, Vq, UU9, UUa, Vr, Vs, PmL, simprocAttr, PmT, e1, e3, e4, e6, hx']; (with_reducible refine litX_old ?_); (with_reducible refine litC_own ?_))
        | ((first | ((with_reducible refine opsP_cons fun K3 hK3 => ?_); simp only [wantP, opP, valP, Uy, U0, Ur, Us, List.mapM_cons, List.mapM_nil, Uw, Ux]) | ((with_reducible refine opsO_first (o := ?_) ?_ fun K3 hK3 => ?_); rotate_left 1; (focus (simp only [Uz, Ub, Ua] <;> rfl)); simp only [wantP, firstP, valP, Uy, U0, Ur, Us, List.mapM_cons, List.mapM_nil, Uw, Ux]) | ((with_reducible refine opsO_only (o := ?_) ?_ fun K3 hK3 => ?_); rotate_left 1; (focus (simp only [Uz, Ub, Ua] <;> rfl)); simp only [wantP, opP, valP, Uy, U0, Ur, Us, List.mapM_cons, List.mapM_nil, Uw, Ux]) | (with_reducible refine PW.condM fun X1 Y1 hX1 hY1 => ?_) | skip); simp (disch := omega) only [wantP, wantB_tt, wantB_ff, wantB_tf, wantB_ft, opP, valP, St.eval, St.put, upd_app, iniT_app, avOf, avOf1, nom, cellsA, AV.okv, loadA, lenP, binP, intsP, intP, strP, eqP, nilP, convP, sliceP, boundLo, boundHi, unP, builtinP, appP, srcA, srcTy, bsz, U0, U1, dvEqC, eqAll, boundMx, srcAll, srcOk, appB, cellsV, maplenP, isMapA, isBsl, viewA, U2, U3, U4, U5, U6, slA, putCells, fillA, buildA, elA, dv1, U7, U8, U9, Ua, Ub, List.getElem?_nil, Uc, Ud, Ue, Uf, Ug, Uh, Ui, Uj, Uk, Ul, Um, Un, Uo, Up, Uq, Ur, Us, Ut, Uu, Uv, List.mapM_cons, List.mapM_nil, Uw, Ux, Uy, Uz, V0, V1, V2, V3, V4, V5, Option.bind_eq_bind, Option.pure_def, V6, V7, V8, V9, Va, Vb, Vc, Vd, Ve, Vt, Int.cast_ofNat_Int, ite_same, UU2, UU3, UU4, UU7, UU8, Vq, UU9, UUa, Vr, Vs, PmL, simprocAttr, PmT, e1, e3, e4, e6, hx', retQ, resP, tupA, fg, fgs, condP, condB_t, condB_f, firstP, firstOk, List.mem_range, List.mem_singleton, List.mem_cons]; try (with_reducible (first | exact co_refl _ | exact co_own _ _ _ | exact co_nilsB | exact co_nilsL _ _))))
      all_goals exact end_box rfl
end PM
end Go.Proofs.Ytbeniogffhihlaa
