/- pgwire's reference in the abstract: texts, columns, cells of a body. pgwire's reference in the abstract: the cells of a body. -/
import Derived.Test.YthaekefdadccaaaDoorPgTk
import Derived.Test.YthaekefdadccaaaDoorPg4
import Derived.Test.YthaekefdadccaaaDoorPgTd
namespace Go.Proofs.YthaekefdadccaaaDoor
open Go.RowKit
namespace PM
theorem strsS_next {b : List Int} (h : b ≠ []) : strsS b = match cut0 b with | none => none | some (a, r) => (strsS r).map (a :: ·) := by
  unfold strsS
  rw [strsF, if_neg h]
  cases hc : cut0 b with
  | none => rfl
  | some p =>
    obtain ⟨a, r⟩ := p
    have := cut0_len hc
    simp only
    rw [strsF_fuel b.length (r.length + 1) r (by omega) (by omega)]
/-- where a text ends, and what it is -/
theorem cut_at {b : List Int} {k : Nat} {a r : List Int} (h : cut0 (b.drop k) = some (a, r)) : endS b k = ((k + a.length : Nat) : Int) ∧ (b.take (k + a.length)).drop k = a ∧ r = b.drop (k + a.length + 1) ∧ k + a.length + 1 + r.length = b.length := by
  have hs := (cut0_spec h).1
  have l1 := cut0_len h
  rw [List.length_drop] at l1
  refine ⟨by unfold endS; rw [h], ?_, ?_, by omega⟩
  · rw [List.drop_take, hs, show k + a.length - k = a.length by omega, List.take_left]
  · have h2 : b.drop (k + a.length + 1) = (b.drop k).drop (a.length + 1) := by rw [List.drop_drop]; rfl
    rw [h2, hs]
    simp
theorem cut_no {b : List Int} {k : Nat} (h : cut0 (b.drop k) = none) : endS b k = -1 := by unfold endS; rw [h]
theorem drop_ne {b : List Int} {k : Nat} (h : (k : Int) < b.length) : b.drop k ≠ [] := fun h0 => by have := congrArg List.length h0; simp at this; omega
def strsV (o : Option (List (List Int))) : AV := match o with
  | some l => .tup [.d (.sl 1 (encL strC l)), .d (.bool true)]
  | none => .tup [.d (.sl 1 (encL strC [])), .d (.bool false)]
set_option maxRecDepth 100000 in
set_option maxHeartbeats 4000000 in
theorem pStrings (b : List Int) (hz : b.length ≤ 100000000000) : Pure Tryd.prog 76 [bs b] (strsV (strsS b)) := by
  refine pure_intro Tryd.func76 rfl rfl rfl 27 rfl (fun hh => ?_)
  have hmx : maxLen = 9223372036854775807 := rfl
  obtain ⟨R, hR⟩ : ∃ R, strsS b = R := ⟨_, rfl⟩
  rw [hR]
  repeat' (first
    | ((with_reducible (first
     | (refine PW.seq fun K1 hK1 => ?_) | (refine PW.region fun K2 hK2 => ?_) | ((refine hK3 _ ?_; clear hK3)) | ((refine opsP_nil ?_; refine hK2 _ ?_; clear hK2)) 
     | (refine PW.block ?_) )))
    | ((simp only [thenP]; (try ((repeat (fail_if_success (with_reducible refine hK1 _ ?_)); clear hK1); (with_reducible refine hK1 _ ?_); clear hK1))))
    | (((first | (((with_reducible refine opsP_cons fun K3 hK3 => ?_); simp only [wantP, opP, valP])) | (skip)); simp (disch := omega) only [St.eval, St.put, avOf, avOf1, nom, PmL, simprocAttr]; try (with_reducible (first | exact co_refl _ | exact co_own _ _ _ | exact co_nilsB | exact co_nilsL _ _)))))
  (with_reducible refine PW.nil2ownL (bx := ?_) strC 4 9 1 (by decide) ?_ ?_ ?_; rotate_left 1; (focus (simp only [upd_app, Nat.reduceEqDiff, ↓reduceIte])); (focus (exact rfl)))
  (with_reducible refine PW.loop (fun n s => ∃ (k : Nat) (l : List (List Int)), s.t 0 = bs b ∧ s.t 4 = .own 0 1 (encL strC l) ∧ s.t 5 = .d (.int .i64 k) ∧ s.n = 27 ∧ s.m = ⟨[], [some ⟨9, 1, l.length⟩]⟩ ∧ k ≤ b.length ∧ l.length ≤ k ∧ n = b.length - k ∧ (strsS (b.drop k)).map (l ++ ·) = R) b.length ?_ ?_)
  · exact ⟨0, [], rfl, rfl, rfl, rfl, rfl, Nat.zero_le _, Nat.le_refl _, rfl, by rw [List.drop_zero, hR]; cases R <;> simp⟩
  rintro n ⟨t, nn, m⟩ ⟨k, l, h0, h4, h5, hn, hm, hk, hl, hnk, hs⟩ - -
  simp only at h0 h4 h5 hn hm
  subst hn hm
  by_cases hlt : (k : Int) < b.length
  · have hlt' := eq_true hlt
    have hE := pEnd b k
    rw [strsS_next (drop_ne hlt)] at hs
    cases hc : cut0 (b.drop k) with
    | none =>
      rw [hc] at hs
      subst hs
      rw [cut_no hc] at hE
      repeat' (first
        | ((with_reducible (first
         | (refine PW.seq fun K1 hK1 => ?_) | (refine PW.region fun K2 hK2 => ?_) | ((refine hK3 _ ?_; clear hK3)) | ((refine opsP_nil ?_; refine hK2 _ ?_; clear hK2)) 
         | (refine PW.block ?_) | (refine PW.skip ?_) | (refine PW.ret ?_) | ((refine hX1 ?_; clear hX1 hY1; try simp only [hb])) )))
        | (((with_reducible refine cC_pure ?_ (hE) (fun _ => ?_)); (focus ((repeat' constructor) <;> (simp only [purAs, purA, Vf, Bool.and_self, h0, h4, h5, hlt']; done)))))
        | ((simp only [thenP, blockP]; (try ((repeat (fail_if_success (with_reducible refine hK1 _ ?_)); clear hK1); (with_reducible refine hK1 _ ?_); clear hK1))))
        | (((first | (((with_reducible refine opsP_cons fun K3 hK3 => ?_); simp only [wantP, opP, valP, Ur, Us])) | ((with_reducible refine PW.condM fun X1 Y1 hX1 hY1 => ?_)) | (skip)); simp (disch := omega) only [St.eval, St.put, upd_app, avOf, avOf1, lenP, binP, intsP, intP, nilP, builtinP, isMapA, slA, Uv, V3, PmL, simprocAttr, PmT, h0, h5, hlt', retQ, resP, tupA, fg, fgs, condP, condB_t]; try (with_reducible (first | exact co_refl _ | exact co_own _ _ _ | exact co_nilsB | exact co_nilsL _ _)))))
      all_goals exact co_tup (cos_cons (co_nilsL _ _) (cos_cons (co_refl _) cos_nil))
    | some p =>
      obtain ⟨a, r⟩ := p
      rw [hc] at hs
      simp only at hs
      obtain ⟨q1, q2, q3, q4⟩ := cut_at hc
      obtain ⟨e1, hE1⟩ : ∃ e1, k + a.length = e1 := ⟨_, rfl⟩
      rw [hE1] at q1 q2 q3 q4
      rw [q1] at hE
      have k0 := eq_false (show ¬ ((e1 : Int) < 0) by omega)
      have hw : IntKind.i64.wrap ((e1 : Int) + 1) = e1 + 1 := wl_i64 (by simp only [Bool.and_eq_true, decide_eq_true_eq]; omega)
      repeat' (first
        | ((with_reducible (first
         | (refine PW.seq fun K1 hK1 => ?_) | (refine PW.region fun K2 hK2 => ?_) | ((refine hK3 _ ?_; clear hK3)) | ((refine opsP_nil ?_; refine hK2 _ ?_; clear hK2)) | (refine litX_old ?_) | (refine litC_data ?_) | ((refine Exists.intro _ (Exists.intro _ (And.intro rfl (And.intro rfl (And.intro ?_ ?_)))); focus omega)) 
         | (refine PW.block ?_) | (refine PW.skip ?_) | ((refine hX1 ?_; clear hX1 hY1; try simp only [hb])) | ((refine hY1 ?_; clear hX1 hY1; try simp only [hb])) )))
        | (((with_reducible refine cC_pure ?_ (hE) (fun _ => ?_)); (focus ((repeat' constructor) <;> (simp only [purAs, purA, Vf, Bool.and_self, h0, h4, h5, hlt', k0, hw, q2]; done)))))
        | (((with_reducible refine And.intro ?_ ?_); (focus (first | omega | (simp; done) | assumption))))
        | ((simp only [thenP, blockP]; (try ((repeat (fail_if_success (with_reducible refine hK1 _ ?_)); clear hK1); (with_reducible refine hK1 _ ?_); clear hK1))))
        | (((first | (((with_reducible refine opsP_cons fun K3 hK3 => ?_); simp only [wantP, opP, valP, Ur, Us, List.mapM_cons, List.mapM_nil, Uw, Ux])) | ((with_reducible refine PW.condM fun X1 Y1 hX1 hY1 => ?_)) | (skip)); simp (disch := omega) only [St.eval, St.put, upd_app, avOf, avOf1, cellsA, AV.okv, lenP, binP, intsP, intP, nilP, convP, sliceP, boundLo, boundHi, builtinP, appP, srcA, srcTy, isMapA, isBsl, U3, U4, U5, slA, elA, dv1, Ua, Uc, Uf, Ug, Ut, Uu, Uv, List.mapM_cons, List.mapM_nil, Uw, Ux, V0, V1, V2, V3, V4, Option.bind_eq_bind, Option.pure_def, V7, V9, Ve, UU2, UU4, UU9, PmL, simprocAttr, PmT, h0, h4, h5, hlt', k0, hw, q2, condP, condB_t, condB_f]; try (with_reducible (first | exact co_refl _ | exact co_own _ _ _ | exact co_nilsB | exact co_nilsL _ _)))))
      refine ⟨b.length - (e1 + 1), by omega, e1 + 1, l ++ [a], ?_, ?_, ?_, ?_, ?_, by omega, by rw [List.length_append, List.length_singleton]; omega, rfl, ?_⟩
      case refine_6 =>
        rw [← hs, q3, Option.map_map]
        congr 1
        funext x
        simp
      all_goals (simp only [St.cut, Mem.cut, fg, upd_app, Nat.reduceEqDiff, ↓reduceIte, List.take_nil, List.map_nil, List.take_succ_cons, Nat.zero_lt_one, Nat.reduceAdd, List.length_append, List.length_cons, List.length_nil, Int.natCast_add, Int.cast_ofNat_Int, h0, encL_snoc, strC]; try rfl)
  · have hlt' := eq_false hlt
    have hkl : b.drop k = [] := List.drop_eq_nil_of_le (by omega)
    rw [hkl] at hs
    have : R = some l := by rw [← hs]; show (some []).map _ = _; simp
    subst this
    repeat' (first
      | ((with_reducible (first
       | (refine PW.seq fun K1 hK1 => ?_) | (refine PW.region fun K2 hK2 => ?_) | ((refine hK3 _ ?_; clear hK3)) | ((refine opsP_nil ?_; refine hK2 _ ?_; clear hK2)) 
       | (refine PW.exit ?_) | (refine PW.ret ?_) | ((refine hY1 ?_; clear hX1 hY1; try simp only [hb])) )))
      | ((simp only [thenP, blockP, ↓reduceIte]; (try ((repeat (fail_if_success (with_reducible refine hK1 _ ?_)); clear hK1); (with_reducible refine hK1 _ ?_); clear hK1))))
      | (((first | (((with_reducible refine opsP_cons fun K3 hK3 => ?_); simp only [wantP, opP, valP, Ur, Us])) | ((with_reducible refine PW.condM fun X1 Y1 hX1 hY1 => ?_)) | (skip)); simp (disch := omega) only [St.eval, St.put, upd_app, avOf, avOf1, lenP, binP, intsP, intP, nilP, builtinP, isMapA, slA, Vd, Ve, PmL, simprocAttr, PmT, h0, h4, h5, hlt', retQ, resP, tupA, fg, fgs, condP, condB_f]; try (with_reducible (first | exact co_refl _ | exact co_own _ _ _ | exact co_nilsB | exact co_nilsL _ _)))))
    exact co_tup (cos_cons (co_refl _) (cos_cons (co_refl _) cos_nil))
def gFldsL (b : List Int) : Option (List (List Int × Int)) := gFldsF (b.length + 1) b
theorem gFldsL_next {b : List Int} (h : b ≠ []) : gFldsL b = match cut0 b with | none => none | some (a, r) => if r.length < 18 then none else (gFldsL (r.drop 18)).map ((a, gTyp (i32v (r.drop 6))) :: ·) := by
  unfold gFldsL
  rw [gFldsF, if_neg h]
  cases hc : cut0 b with
  | none => rfl
  | some p =>
    obtain ⟨a, r⟩ := p
    have := cut0_len hc
    simp only
    rw [gFldsF_fuel b.length ((r.drop 18).length + 1) (r.drop 18) (by rw [List.length_drop]; omega) (by omega)]
def gFldsB (o : Option (List (List Int × Int))) : Back := match o with
  | some l => { zB with kind := 5, fields := l }
  | none => zB
set_option maxRecDepth 100000 in
set_option maxHeartbeats 4000000 in
theorem pGuessF (b : List Int) (hz : b.length ≤ 100000000000) : Pure Tryd.prog 74 [bs b] (gFldsS b).v := by
  have e0 : gFldsS b = gFldsB (gFldsL (b.drop 2)) := rfl
  rw [e0]
  obtain ⟨R, hR⟩ : ∃ R, gFldsL (b.drop 2) = R := ⟨_, rfl⟩
  rw [hR]
  clear e0
  refine pure_intro Tryd.func74 rfl rfl rfl 49 rfl (fun hh => ?_)
  have hmx : maxLen = 9223372036854775807 := rfl
  repeat' (first
    | ((with_reducible (first
     | (refine PW.seq fun K1 hK1 => ?_) | (refine PW.region fun K2 hK2 => ?_) | ((refine hK3 _ ?_; clear hK3)) | ((refine opsP_nil ?_; refine hK2 _ ?_; clear hK2)) | (refine PW.block ?_) 
     )))
    | ((simp only [thenP]; (try ((repeat (fail_if_success (with_reducible refine hK1 _ ?_)); clear hK1); (with_reducible refine hK1 _ ?_); clear hK1))))
    | (((first | (((with_reducible refine opsP_cons fun K3 hK3 => ?_); simp only [wantP, opP, valP, Ur, Us])) | (skip)); simp (disch := omega) only [St.eval, St.put, upd_app, avOf, avOf1, nom, cellsA, AV.okv, putCells, fillA, buildA, Ua, Ub, Uc, Ud, Uf, Ug, Ut, Uu, V9, Vt, UU2, UU3, Vr, PmL, simprocAttr, PmT]; try (with_reducible (first | exact co_refl _ | exact co_own _ _ _ | exact co_nilsB | exact co_nilsL _ _)))))
  refine PW.nil2box 1 6 86 2 rfl rfl (by decide) ?_
  simp only [List.set_cons_succ, List.set_cons_zero, List.length_nil, List.nil_append]
  (with_reducible refine PW.loop (fun n s => ∃ (k : Nat) (l : List (List Int × Int)), s.t 0 = bs b ∧ s.t 2 = .ptr 0 0 ∧ s.t 3 = .ptr 1 0 ∧ s.t 4 = .d (.int .i64 k) ∧ s.n = 49 ∧
    s.m = ⟨[some (35, [.d (.int .i64 0), .d (.str []), .d (.str []), .d (.int .i64 0), .d (.int .i64 0), .d (.int .u8 0), .nils, .nils, .d (.str []), .d (.bool false)]),
      some (35, [.d (.int .i64 5), .d (.str []), .d (.str []), .d (.int .i64 0), .d (.int .i64 0), .d (.int .u8 0), .own 0 2 (encL fldC l), .nils, .d (.str []), .d (.bool false)])], [some ⟨86, 2, l.length⟩]⟩ ∧
    l.length ≤ k ∧ k ≤ 2 + b.length ∧ n = b.length - k ∧ (gFldsL (b.drop k)).map (l ++ ·) = R) (b.length - 2) ?_ ?_)
  · exact ⟨2, [], rfl, rfl, rfl, rfl, rfl, rfl, by simp, by omega, rfl, by rw [hR]; cases R <;> simp⟩
  rintro n ⟨t, nn, m⟩ ⟨k, l, h0, h2, h3, h4, hn, hm, hl, hk, hnk, hs⟩ - -
  simp only at h0 h2 h3 h4 hn hm
  subst hn hm
  by_cases hlt : (k : Int) < b.length
  · have hlt' := eq_true hlt
    have hE := pEnd b k
    rw [gFldsL_next (drop_ne hlt)] at hs
    cases hc : cut0 (b.drop k) with
    | none =>
      rw [hc] at hs
      subst hs
      rw [cut_no hc] at hE
      repeat' (first
        | ((with_reducible (first
         | (refine PW.seq fun K1 hK1 => ?_) | (refine PW.region fun K2 hK2 => ?_) | ((refine hK3 _ ?_; clear hK3)) | ((refine opsP_nil ?_; refine hK2 _ ?_; clear hK2)) | (refine PW.block ?_) | (refine PW.skip ?_)
         | (refine PW.ret ?_) | ((refine hX1 ?_; clear hX1 hY1; try simp only [hb])) )))
        | (((with_reducible refine cC_pure ?_ (hE) (fun _ => ?_)); (focus ((repeat' constructor) <;> (simp only [purAs, purA, Vf, Bool.and_self, h0, h2, h3, h4, hlt']; done)))))
        | ((simp only [thenP, blockP]; (try ((repeat (fail_if_success (with_reducible refine hK1 _ ?_)); clear hK1); (with_reducible refine hK1 _ ?_); clear hK1))))
        | (((first | ((with_reducible (first | refine opsP_consMt (d := ?_) (dj := ?_) (b := ?_) (r := ?_) ?_ ?_ (fun hb => ?_) (fun K3 hK3 => ?_) | refine opsP_consMf (d := ?_) (dj := ?_) (b := ?_) (r := ?_) ?_ ?_ (fun hb => ?_) (fun K3 hK3 => ?_))); rotate_left 3; (focus exact rfl); (focus (simp only [upd_app, simprocAttr]; exact rfl))) | ((with_reducible (first | refine opsP_consNt (d := ?_) (dj := ?_) (b := ?_) (r := ?_) (c := ?_) ?_ ?_ (fun hb => ?_) (fun K3 hK3 => ?_) | refine opsP_consNf (d := ?_) (dj := ?_) (b := ?_) (r := ?_) (c := ?_) ?_ ?_ (fun hb => ?_) (fun K3 hK3 => ?_))); rotate_left 4; (focus exact rfl); (focus (simp only [St.put, upd_app, iniT_app, simprocAttr, mrg_t, mrg_f]; exact rfl)))); (focus (simp only [opP, valP, Ur, Us]; (try (simp only [Bool.not_eq_true'] at hb)); (try (have hp := hb; simp only [PmH, beq_iff_eq, beq_eq_false_iff_ne, ne_eq] at hp)); simp (disch := omega) only [St.eval, upd_app, avOf, avOf1, binP, nilP, builtinP, maplenP, isMapA, slA, PmL, simprocAttr, h0, hb]; (repeat' (first | (exact rfl) | ((refine And.intro ?_ ?_); (focus (exact rfl)); (exact rfl)) | (refine And.intro (by first | omega | (simp; done) | assumption) ?_) | ((with_reducible refine cC_pure ?_ (hE) (fun _ => ?_)); (focus ((repeat' constructor) <;> (simp only [purAs, purA, Vf, Bool.and_self, h0, h2, h3, h4, hlt']; done)))))); done)); (try simp only [St.put, Nat.reduceLT, ↓reduceIte, mrg_f, Bool.not_true])))
        | (((first | (((with_reducible refine opsP_cons fun K3 hK3 => ?_); simp only [wantP, opP, valP, Ur, Us])) | ((with_reducible refine PW.condM fun X1 Y1 hX1 hY1 => ?_)) | (skip)); simp (disch := omega) only [wantB_tf, St.eval, St.put, upd_app, avOf, avOf1, cellsA, AV.okv, loadA, lenP, binP, intsP, intP, nilP, builtinP, isMapA, slA, putCells, fillA, buildA, Ua, Ub, Uc, Ud, Uf, Ug, Uk, Un, Up, Uv, Uz, V3, V4, V9, Vr, PmL, simprocAttr, PmT, h0, h2, h4, hlt', retQ, resP, tupA, fg, fgs, condP, condB_t]; try (with_reducible (first | exact co_refl _ | exact co_own _ _ _ | exact co_nilsB | exact co_nilsL _ _)))))
      all_goals exact co_agg (by repeat' (first | (refine cos_cons ?_ ?_) | exact cos_nil | exact co_refl _ | exact co_own _ _ _ | exact co_nilsB | exact co_nilsL _ _ | exact co_nils _))
    | some p =>
      obtain ⟨a, r⟩ := p
      rw [hc] at hs
      simp only at hs
      obtain ⟨q1, q2, q3, q4⟩ := cut_at hc
      obtain ⟨e1, hE1⟩ : ∃ e1, k + a.length = e1 := ⟨_, rfl⟩
      rw [hE1] at q1 q2 q3 q4
      rw [q1] at hE
      have k0 := eq_false (show ¬ ((e1 : Int) < 0) by omega)
      have hw0 : IntKind.i64.wrap ((b.length : Int) - e1) = b.length - e1 := wl_i64 (by simp only [Bool.and_eq_true, decide_eq_true_eq]; omega)
      by_cases h19 : r.length < 18
      · rw [if_pos h19] at hs
        subst hs
        have k19 := eq_true (show (b.length : Int) - e1 < 19 by omega)
        repeat' (first
          | ((with_reducible (first
           | (refine PW.seq fun K1 hK1 => ?_) | (refine PW.region fun K2 hK2 => ?_) | ((refine hK3 _ ?_; clear hK3)) | ((refine opsP_nil ?_; refine hK2 _ ?_; clear hK2)) | (refine PW.block ?_) | (refine PW.skip ?_)
           | (refine PW.ret ?_) | ((refine hX1 ?_; clear hX1 hY1; try simp only [hb])) )))
          | (((with_reducible refine cC_pure ?_ (hE) (fun _ => ?_)); (focus ((repeat' constructor) <;> (simp only [purAs, purA, Vf, Bool.and_self, h0, h2, h3, h4, hlt', k0, hw0, k19]; done)))))
          | ((simp only [thenP, blockP]; (try ((repeat (fail_if_success (with_reducible refine hK1 _ ?_)); clear hK1); (with_reducible refine hK1 _ ?_); clear hK1))))
          | (((first | ((with_reducible (first | refine opsP_consMt (d := ?_) (dj := ?_) (b := ?_) (r := ?_) ?_ ?_ (fun hb => ?_) (fun K3 hK3 => ?_) | refine opsP_consMf (d := ?_) (dj := ?_) (b := ?_) (r := ?_) ?_ ?_ (fun hb => ?_) (fun K3 hK3 => ?_))); rotate_left 3; (focus exact rfl); (focus (simp only [upd_app, simprocAttr]; exact rfl))) | ((with_reducible (first | refine opsP_consNt (d := ?_) (dj := ?_) (b := ?_) (r := ?_) (c := ?_) ?_ ?_ (fun hb => ?_) (fun K3 hK3 => ?_) | refine opsP_consNf (d := ?_) (dj := ?_) (b := ?_) (r := ?_) (c := ?_) ?_ ?_ (fun hb => ?_) (fun K3 hK3 => ?_))); rotate_left 4; (focus exact rfl); (focus (simp only [St.put, upd_app, iniT_app, simprocAttr, mrg_t, mrg_f]; exact rfl)))); (focus (simp only [opP, valP, Ur, Us]; (try (simp only [Bool.not_eq_true'] at hb)); (try (have hp := hb; simp only [PmH, beq_iff_eq, beq_eq_false_iff_ne, ne_eq] at hp)); simp (disch := omega) only [St.eval, upd_app, avOf, avOf1, lenP, binP, intsP, intP, nilP, builtinP, isMapA, slA, PmL, simprocAttr, PmT, h0, hw0, k19]; (repeat' (first | (exact rfl) | ((refine And.intro ?_ ?_); (focus (exact rfl)); (exact rfl)) | (refine And.intro (by first | omega | (simp; done) | assumption) ?_) | ((with_reducible refine cC_pure ?_ (hE) (fun _ => ?_)); (focus ((repeat' constructor) <;> (simp only [purAs, purA, Vf, Bool.and_self, h0, h2, h3, h4, hlt', k0, hw0, k19]; done)))))); done)); (try simp only [St.put, Nat.reduceLT, ↓reduceIte, mrg_t, Bool.not_false])))
          | (((first | (((with_reducible refine opsP_cons fun K3 hK3 => ?_); simp only [wantP, opP, valP, Ur, Us])) | ((with_reducible refine PW.condM fun X1 Y1 hX1 hY1 => ?_)) | (skip)); simp (disch := omega) only [St.eval, St.put, upd_app, avOf, avOf1, cellsA, AV.okv, loadA, lenP, binP, intsP, intP, nilP, builtinP, isMapA, slA, putCells, fillA, buildA, Ua, Uc, Ud, Uf, Ug, Uk, Un, Up, Uv, V3, V9, Vr, PmL, simprocAttr, PmT, h0, h2, h4, hlt', k0, retQ, resP, tupA, fg, fgs, condP, condB_t]; try (with_reducible (first | exact co_refl _ | exact co_own _ _ _ | exact co_nilsB | exact co_nilsL _ _)))))
        all_goals exact co_agg (by repeat' (first | (refine cos_cons ?_ ?_) | exact cos_nil | exact co_refl _ | exact co_own _ _ _ | exact co_nilsB | exact co_nilsL _ _ | exact co_nils _))
      · rw [if_neg h19] at hs
        have k19 := eq_false (show ¬ (b.length : Int) - e1 < 19 by omega)
        have hw7 : IntKind.i64.wrap ((e1 : Int) + 7) = e1 + 7 := wl_i64 (by simp only [Bool.and_eq_true, decide_eq_true_eq]; omega)
        have hw19 : IntKind.i64.wrap ((e1 : Int) + 19) = e1 + 19 := wl_i64 (by simp only [Bool.and_eq_true, decide_eq_true_eq]; omega)
        have ht7 : ((e1 : Int) + 7).toNat = e1 + 7 := by omega
        have hI := pI32 (b.drop (e1 + 7)) (by rw [List.length_drop]; omega)
        have r6 : r.drop 6 = b.drop (e1 + 7) := by rw [q3, List.drop_drop]
        have r18 : r.drop 18 = b.drop (e1 + 19) := by rw [q3, List.drop_drop]
        rw [r6, r18] at hs
        obtain ⟨V, hV⟩ : ∃ V, i32v (b.drop (e1 + 7)) = V := ⟨_, rfl⟩
        rw [hV] at hI hs
        have hs19 : ((e1 : Int) + 19) = ((e1 + 19 : Nat) : Int) := by omega
        have hal : l.length ≤ 100000000002 := by omega
        repeat' (first
          | ((with_reducible (first
           | (refine PW.seq fun K1 hK1 => ?_) | (refine PW.region fun K2 hK2 => ?_) | ((refine hK3 _ ?_; clear hK3)) | ((refine opsP_nil ?_; refine hK2 _ ?_; clear hK2)) | (refine litX_old ?_) | (refine litC_data ?_) | ((refine Exists.intro _ (Exists.intro _ (And.intro rfl (And.intro rfl (And.intro ?_ ?_)))); focus omega)) | (refine PW.block ?_) | (refine PW.skip ?_)
           | ((refine hX1 ?_; clear hX1 hY1; try simp only [hb])) | ((refine hY1 ?_; clear hX1 hY1; try simp only [hb])) | ((refine opsO_nil ?_; refine hK2 _ ?_; clear hK2)) | ((refine keepA_intro ?_ ?_; focus (first | exact keep_same _ _ | exact keep_box _ _ _ _ | exact keep_hd _ _ _ _ _ | exact keep_02 _ _ _ _ _ _ _ | exact keep_1 _ _ _ _ _ _ _))))))
          | (((first | (with_reducible refine wantB_intro (fun hb => ?_) (fun hb => ?_)) | (with_reducible refine condB_intro (fun hb => ?_) (fun hb => ?_))) <;> ((try (have hp := hb; simp only [PmH] at hp)); try simp only [hb, Bool.not_true, Bool.not_false])))
          | (((with_reducible refine cC_pure ?_ (hE) (fun _ => ?_)); (focus ((repeat' constructor) <;> (simp only [purAs, purA, Vf, Bool.and_self, h0, h2, h3, h4, hlt', k0, hw0, k19, hw7, hw19, ht7, q2, fldC]; done)))))
          | (((with_reducible refine cC_pure ?_ (hI) (fun _ => ?_)); (focus ((repeat' constructor) <;> (simp only [purAs, purA, Vf, Bool.and_self, h0, h2, h3, h4, hlt', k0, hw0, k19, hw7, hw19, ht7, q2, fldC]; done)))))
          | (((with_reducible refine PW.drawR (id := 13) mixed [12] [(0, true), (1, true), (2, true), (3, true), (4, true), (5, true), (6, true), (7, true), (8, true), (9, false), (10, false), (11, true), (12, false)] (by kernel_rfl) (by decide) fun K2 hK2 => ?_)))
          | (((with_reducible refine And.intro ?_ ?_); (focus (first | omega | (simp; done) | assumption))))
          | ((simp only [thenP, blockP]; (try ((repeat (fail_if_success (with_reducible refine hK1 _ ?_)); clear hK1); (with_reducible refine hK1 _ ?_); clear hK1))))
          | (((first | ((with_reducible (first | refine opsP_consMt (d := ?_) (dj := ?_) (b := ?_) (r := ?_) ?_ ?_ (fun hb => ?_) (fun K3 hK3 => ?_) | refine opsP_consMf (d := ?_) (dj := ?_) (b := ?_) (r := ?_) ?_ ?_ (fun hb => ?_) (fun K3 hK3 => ?_))); rotate_left 3; (focus exact rfl); (focus (simp only [upd_app, simprocAttr]; exact rfl))) | ((with_reducible (first | refine opsP_consNt (d := ?_) (dj := ?_) (b := ?_) (r := ?_) (c := ?_) ?_ ?_ (fun hb => ?_) (fun K3 hK3 => ?_) | refine opsP_consNf (d := ?_) (dj := ?_) (b := ?_) (r := ?_) (c := ?_) ?_ ?_ (fun hb => ?_) (fun K3 hK3 => ?_))); rotate_left 4; (focus exact rfl); (focus (simp only [St.put, upd_app, iniT_app, simprocAttr, mrg_t, mrg_f]; exact rfl)))); (focus (simp only [opP, valP, Ur, Us]; (try (simp only [Bool.not_eq_true'] at hb)); (try (have hp := hb; simp only [PmH, beq_iff_eq, beq_eq_false_iff_ne, ne_eq] at hp)); simp (disch := omega) only [St.eval, upd_app, avOf, avOf1, lenP, binP, intsP, intP, nilP, builtinP, isMapA, slA, PmL, simprocAttr, PmT, h0, hw0, k19]; (repeat' (first | (exact rfl) | ((refine And.intro ?_ ?_); (focus (exact rfl)); (exact rfl)) | (refine And.intro (by first | omega | (simp; done) | assumption) ?_) | ((with_reducible refine cC_pure ?_ (hE) (fun _ => ?_)); (focus ((repeat' constructor) <;> (simp only [purAs, purA, Vf, Bool.and_self, h0, h2, h3, h4, hlt', k0, hw0, k19, hw7, hw19, ht7, q2, fldC]; done)))) | ((with_reducible refine cC_pure ?_ (hI) (fun _ => ?_)); (focus ((repeat' constructor) <;> (simp only [purAs, purA, Vf, Bool.and_self, h0, h2, h3, h4, hlt', k0, hw0, k19, hw7, hw19, ht7, q2, fldC]; done)))))); done)); (try simp only [St.put, Nat.reduceLT, ↓reduceIte, mrg_t, Bool.not_false])))
          | (((first | (((with_reducible refine opsP_cons fun K3 hK3 => ?_); simp only [wantP, opP, valP, Ur, Us])) | (((with_reducible refine opsO_first (o := ?_) ?_ fun K3 hK3 => ?_); rotate_left 1; (focus (simp only [Uz, Ub, Ua] <;> rfl)); simp only [wantP, firstP, valP, Ur, Us])) | (((with_reducible refine opsO_only (o := ?_) ?_ fun K3 hK3 => ?_); rotate_left 1; (focus (simp only [Uz, Ub, Ua] <;> rfl)); simp only [wantP, opP, Ur, Us, List.mapM_cons, List.mapM_nil, Uw, Ux])) | ((with_reducible refine PW.condM fun X1 Y1 hX1 hY1 => ?_)) | (skip)); simp (disch := omega) only [St.eval, St.put, upd_app, avOf, avOf1, cellsA, AV.okv, loadA, lenP, binP, intsP, intP, nilP, convP, sliceP, boundLo, boundHi, builtinP, appP, srcA, srcTy, isMapA, isBsl, U3, U4, U5, slA, putCells, fillA, buildA, elA, dv1, Ua, Ub, Uc, Ud, Uf, Ug, Uk, Ul, Uq, Ut, Uu, Uv, List.mapM_cons, List.mapM_nil, Uw, Ux, V0, V1, V2, V3, V4, Option.bind_eq_bind, Option.pure_def, V7, V9, Vd, Ve, Vt, UU2, UU3, UU4, UU9, PmL, simprocAttr, PmT, h0, h3, h4, hlt', k0, hw7, hw19, ht7, q2, condP, condB_t, condB_f, firstOk, List.mem_cons]; try (with_reducible (first | exact co_refl _ | exact co_own _ _ _ | exact co_nilsB | exact co_nilsL _ _)))))
        · have hv := of_decide_eq_true hb
          have hg : gTyp V = 2 := if_pos hv
          refine ⟨b.length - (e1 + 19), by omega, e1 + 19, l ++ [(a, gTyp V)], ?_, ?_, ?_, ?_, ?_, ?_, by rw [List.length_append, List.length_singleton]; omega, by omega, rfl, ?_⟩
          case refine_7 =>
            rw [← hs, Option.map_map]
            congr 1
            funext x
            simp
          all_goals (simp only [St.cut, Mem.cut, fg, fgs, upd_app, Nat.reduceEqDiff, ↓reduceIte, List.take_nil, List.map_nil, List.take_succ_cons, List.map_cons, Option.map_some, Nat.reduceLT, Nat.zero_lt_one, Nat.reduceAdd, List.length_append, List.length_cons, List.length_nil, Int.natCast_add, Int.cast_ofNat_Int, h0, h2, h3, encL_snoc, fldC, hg]; try rfl)
        · have hv := of_decide_eq_true hb
          have hg : gTyp V = 3 := by unfold gTyp; rw [hv]; rfl
          refine ⟨b.length - (e1 + 19), by omega, e1 + 19, l ++ [(a, gTyp V)], ?_, ?_, ?_, ?_, ?_, ?_, by rw [List.length_append, List.length_singleton]; omega, by omega, rfl, ?_⟩
          case refine_7 =>
            rw [← hs, Option.map_map]
            congr 1
            funext x
            simp
          all_goals (simp only [St.cut, Mem.cut, fg, fgs, upd_app, Nat.reduceEqDiff, ↓reduceIte, List.take_nil, List.map_nil, List.take_succ_cons, List.map_cons, Option.map_some, Nat.reduceLT, Nat.zero_lt_one, Nat.reduceAdd, List.length_append, List.length_cons, List.length_nil, Int.natCast_add, Int.cast_ofNat_Int, h0, h2, h3, encL_snoc, fldC, hg]; try rfl)
        · have hv := of_decide_eq_false hb
          have hv2 : ¬ V = 16 := of_decide_eq_false (by assumption)
          have hg : gTyp V = 1 := by unfold gTyp; rw [if_neg hv2, if_neg hv]
          refine ⟨b.length - (e1 + 19), by omega, e1 + 19, l ++ [(a, gTyp V)], ?_, ?_, ?_, ?_, ?_, ?_, by rw [List.length_append, List.length_singleton]; omega, by omega, rfl, ?_⟩
          case refine_7 =>
            rw [← hs, Option.map_map]
            congr 1
            funext x
            simp
          all_goals (simp only [St.cut, Mem.cut, fg, fgs, upd_app, Nat.reduceEqDiff, ↓reduceIte, List.take_nil, List.map_nil, List.take_succ_cons, List.map_cons, Option.map_some, Nat.reduceLT, Nat.zero_lt_one, Nat.reduceAdd, List.length_append, List.length_cons, List.length_nil, Int.natCast_add, Int.cast_ofNat_Int, h0, h2, h3, encL_snoc, fldC, hg]; try rfl)
  · have hlt' := eq_false hlt
    have hkl : b.drop k = [] := List.drop_eq_nil_of_le (by omega)
    rw [hkl] at hs
    have : R = some l := by rw [← hs]; show (some []).map _ = _; simp
    subst this
    repeat' (first
      | ((with_reducible (first
       | (refine PW.seq fun K1 hK1 => ?_) | (refine PW.region fun K2 hK2 => ?_) | ((refine hK3 _ ?_; clear hK3)) | ((refine opsP_nil ?_; refine hK2 _ ?_; clear hK2)) 
       | (refine PW.exit ?_) | (refine PW.ret ?_) | ((refine hY1 ?_; clear hX1 hY1; try simp only [hb])) )))
      | ((simp only [thenP, blockP, ↓reduceIte]; (try ((repeat (fail_if_success (with_reducible refine hK1 _ ?_)); clear hK1); (with_reducible refine hK1 _ ?_); clear hK1))))
      | (((first | (((with_reducible refine opsP_cons fun K3 hK3 => ?_); simp only [wantP, opP, valP, Ur, Us])) | ((with_reducible refine PW.condM fun X1 Y1 hX1 hY1 => ?_)) | (skip)); simp (disch := omega) only [St.eval, St.put, upd_app, cellsA, AV.okv, loadA, lenP, binP, intsP, intP, nilP, builtinP, isMapA, slA, putCells, Ua, Ub, Uc, Ud, Uf, Ug, Uk, Un, Up, V9, Vd, Ve, Vr, PmL, simprocAttr, PmT, h0, h2, h3, h4, hlt', retQ, resP, tupA, fg, fgs, condP, condB_f]; try (with_reducible (first | exact co_refl _ | exact co_own _ _ _ | exact co_nilsB | exact co_nilsL _ _)))))
    all_goals exact co_agg (by repeat' (first | (refine cos_cons ?_ ?_) | exact cos_nil | exact co_refl _ | exact co_own _ _ _ | exact co_nilsB | exact co_nilsL _ _ | exact co_nils _))
end PM
end Go.Proofs.YthaekefdadccaaaDoor
namespace Go.Proofs.YthaekefdadccaaaDoor
open Go.RowKit
namespace PM
def gCelsL (b : List Int) : Option (List (Bool × List Int)) := gCelsF (b.length + 1) b
theorem gCelsL_next {b : List Int} (h : b ≠ []) : gCelsL b = if b.length < 4 then none else if i32v b < 0 then (gCelsL (b.drop 4)).map ((true, []) :: ·) else
    if ((b.length : Int) - 4) < i32v b then none else (gCelsL ((b.drop 4).drop (i32v b).toNat)).map ((false, (b.drop 4).take (i32v b).toNat) :: ·) := by
  have hp := List.length_pos_iff.2 h
  unfold gCelsL
  rw [gCelsF, if_neg h]
  split
  · rfl
  rename_i h4
  rw [gCelsF_fuel b.length ((b.drop 4).length + 1) (b.drop 4) (by rw [List.length_drop]; omega) (by omega), gCelsF_fuel b.length (((b.drop 4).drop (i32v b).toNat).length + 1) ((b.drop 4).drop (i32v b).toNat) (by rw [List.length_drop, List.length_drop]; omega) (by omega)]
def gCelsB (o : Option (List (Bool × List Int))) : Back := match o with
  | some l => { zB with kind := 6, cells := l }
  | none => zB
set_option maxRecDepth 100000 in
set_option maxHeartbeats 4000000 in
theorem pGuessC (b : List Int) (hz : b.length ≤ 100000000000) : Pure Tryd.prog 75 [bs b] (gCelsS b).v := by
  have e0 : gCelsS b = gCelsB (gCelsL (b.drop 2)) := rfl
  rw [e0]
  obtain ⟨R, hR⟩ : ∃ R, gCelsL (b.drop 2) = R := ⟨_, rfl⟩
  rw [hR]
  clear e0
  refine pure_intro Tryd.func75 rfl rfl rfl 55 rfl (fun hh => ?_)
  have hmx : maxLen = 9223372036854775807 := rfl
  have hrg := (has_bytes (hh (bs b) (by simp))).1
  repeat' (first
    | ((with_reducible (first
     | (refine PW.seq fun K1 hK1 => ?_) | (refine PW.region fun K2 hK2 => ?_) | ((refine hK3 _ ?_; clear hK3)) | ((refine opsP_nil ?_; refine hK2 _ ?_; clear hK2)) | (refine PW.block ?_) 
     )))
    | ((simp only [thenP]; (try ((repeat (fail_if_success (with_reducible refine hK1 _ ?_)); clear hK1); (with_reducible refine hK1 _ ?_); clear hK1))))
    | (((first | (((with_reducible refine opsP_cons fun K3 hK3 => ?_); simp only [wantP, opP, valP, Ur, Us])) | (skip)); simp (disch := omega) only [St.eval, St.put, upd_app, avOf, avOf1, nom, cellsA, AV.okv, putCells, fillA, buildA, Ua, Ub, Uc, Ud, Uf, Ug, Ut, Uu, V9, Vt, UU2, UU3, Vr, PmL, simprocAttr, PmT]; try (with_reducible (first | exact co_refl _ | exact co_own _ _ _ | exact co_nilsB | exact co_nilsL _ _)))))
  refine PW.nil2box 1 7 52 2 rfl rfl (by decide) ?_
  simp only [List.set_cons_succ, List.set_cons_zero, List.length_nil, List.nil_append]
  (with_reducible refine PW.loop (fun n s => ∃ (k : Nat) (l : List (Bool × List Int)), s.t 0 = bs b ∧ s.t 2 = .ptr 0 0 ∧ s.t 3 = .ptr 1 0 ∧ s.t 4 = .d (.int .i64 k) ∧ s.n = 55 ∧
    s.m = ⟨[some (35, [.d (.int .i64 0), .d (.str []), .d (.str []), .d (.int .i64 0), .d (.int .i64 0), .d (.int .u8 0), .nils, .nils, .d (.str []), .d (.bool false)]),
      some (35, [.d (.int .i64 6), .d (.str []), .d (.str []), .d (.int .i64 0), .d (.int .i64 0), .d (.int .u8 0), .nils, .own 0 2 (encL celC l), .d (.str []), .d (.bool false)])], [some ⟨52, 2, l.length⟩]⟩ ∧
    l.length ≤ k ∧ k ≤ 2 + b.length ∧ n = b.length - k ∧ (gCelsL (b.drop k)).map (l ++ ·) = R) (b.length - 2) ?_ ?_)
  · exact ⟨2, [], rfl, rfl, rfl, rfl, rfl, rfl, by simp, by omega, rfl, by rw [hR]; cases R <;> simp⟩
  rintro n ⟨t, nn, m⟩ ⟨k, l, h0, h2, h3, h4, hn, hm, hl, hk, hnk, hs⟩ - -
  simp only at h0 h2 h3 h4 hn hm
  subst hn hm
  by_cases hlt : (k : Int) < b.length
  · have hlt' := eq_true hlt
    rw [gCelsL_next (drop_ne hlt), List.length_drop] at hs
    have hw0 : IntKind.i64.wrap ((b.length : Int) - k) = b.length - k := wl_i64 (by simp only [Bool.and_eq_true, decide_eq_true_eq]; omega)
    by_cases h4' : b.length - k < 4
    · rw [if_pos h4'] at hs
      subst hs
      have k4 := eq_true (show (b.length : Int) - k < 4 by omega)
      repeat' (first
        | ((with_reducible (first
         | (refine PW.seq fun K1 hK1 => ?_) | (refine PW.region fun K2 hK2 => ?_) | ((refine hK3 _ ?_; clear hK3)) | ((refine opsP_nil ?_; refine hK2 _ ?_; clear hK2)) | (refine PW.block ?_) | (refine PW.skip ?_)
         | (refine PW.ret ?_) | ((refine hX1 ?_; clear hX1 hY1; try simp only [hb])) )))
        | ((simp only [thenP, blockP]; (try ((repeat (fail_if_success (with_reducible refine hK1 _ ?_)); clear hK1); (with_reducible refine hK1 _ ?_); clear hK1))))
        | (((first | (((with_reducible refine opsP_cons fun K3 hK3 => ?_); simp only [wantP, opP, valP, Ur, Us])) | ((with_reducible refine PW.condM fun X1 Y1 hX1 hY1 => ?_)) | (skip)); simp (disch := omega) only [St.eval, St.put, upd_app, avOf, avOf1, cellsA, AV.okv, loadA, lenP, binP, intsP, intP, nilP, builtinP, isMapA, slA, putCells, fillA, buildA, Ua, Uc, Ud, Uf, Ug, Uk, Un, Up, V3, V9, Vr, PmL, simprocAttr, PmT, h0, h2, h4, hlt', hw0, k4, retQ, resP, tupA, fg, fgs, condP, condB_t]; try (with_reducible (first | exact co_refl _ | exact co_own _ _ _ | exact co_nilsB | exact co_nilsL _ _)))))
      all_goals exact co_agg (by repeat' (first | (refine cos_cons ?_ ?_) | exact cos_nil | exact co_refl _ | exact co_own _ _ _ | exact co_nilsB | exact co_nilsL _ _ | exact co_nils _))
    · rw [if_neg h4'] at hs
      have k4 := eq_false (show ¬ (b.length : Int) - k < 4 by omega)
      have hI := pI32 (b.drop k) (by rw [List.length_drop]; omega)
      have hvr := i32v_rng (b := b.drop k) (fun x hx => hrg x (List.mem_of_mem_drop hx))
      obtain ⟨V, hV⟩ : ∃ V, i32v (b.drop k) = V := ⟨_, rfl⟩
      rw [hV] at hI hs hvr
      have hw4 : IntKind.i64.wrap ((k : Int) + 4) = k + 4 := wl_i64 (by simp only [Bool.and_eq_true, decide_eq_true_eq]; omega)
      have hal : l.length ≤ 100000000002 := by omega
      by_cases hv : V < 0
      · rw [if_pos hv] at hs
        have kv := eq_true hv
        repeat' (first
          | ((with_reducible (first
           | (refine PW.seq fun K1 hK1 => ?_) | (refine PW.region fun K2 hK2 => ?_) | ((refine hK3 _ ?_; clear hK3)) | ((refine opsP_nil ?_; refine hK2 _ ?_; clear hK2)) | (refine litX_old ?_) | (refine litC_data ?_) | ((refine Exists.intro _ (Exists.intro _ (And.intro rfl (And.intro rfl (And.intro ?_ ?_)))); focus omega)) | (refine PW.block ?_) | (refine PW.skip ?_)
           | (refine PW.exit ?_) | ((refine hX1 ?_; clear hX1 hY1; try simp only [hb])) | ((refine hY1 ?_; clear hX1 hY1; try simp only [hb])) )))
          | (((with_reducible refine cC_pure ?_ (hI) (fun _ => ?_)); (focus ((repeat' constructor) <;> (simp only [purAs, purA, Vf, Bool.and_self, h0, h2, h3, h4, hlt', hw0, k4, hw4, kv, celC]; done)))))
          | (((with_reducible refine And.intro ?_ ?_); (focus (first | omega | (simp; done) | assumption))))
          | ((simp only [thenP, blockP, ↓reduceIte]; (try ((repeat (fail_if_success (with_reducible refine hK1 _ ?_)); clear hK1); (with_reducible refine hK1 _ ?_); clear hK1))))
          | (((first | (((with_reducible refine opsP_cons fun K3 hK3 => ?_); simp only [wantP, opP, valP, Ur, Us, List.mapM_cons, List.mapM_nil, Uw, Ux])) | ((with_reducible refine PW.condM fun X1 Y1 hX1 hY1 => ?_)) | (skip)); simp (disch := omega) only [St.eval, St.put, upd_app, avOf, avOf1, cellsA, AV.okv, loadA, lenP, binP, intsP, intP, nilP, sliceP, boundLo, boundHi, builtinP, appP, srcA, srcTy, isMapA, isBsl, U3, U4, U5, slA, putCells, fillA, buildA, elA, dv1, Ua, Ub, Uc, Ud, Uf, Ug, Uk, Ul, Uq, Ut, Uu, Uv, List.mapM_cons, List.mapM_nil, Uw, Ux, V0, V1, V2, V3, V4, Option.bind_eq_bind, Option.pure_def, V7, V9, Ve, Vt, UU2, UU3, UU4, UU9, PmL, simprocAttr, PmT, h0, h3, h4, hlt', hw0, k4, hw4, kv, condP, condB_t, condB_f]; try (with_reducible (first | exact co_refl _ | exact co_own _ _ _ | exact co_nilsB | exact co_nilsL _ _)))))
        refine ⟨b.length - (k + 4), by omega, k + 4, l ++ [(true, [])], ?_, ?_, ?_, ?_, ?_, ?_, by rw [List.length_append, List.length_singleton]; omega, by omega, rfl, ?_⟩
        case refine_7 =>
          rw [← hs, List.drop_drop, Option.map_map]
          congr 1
          funext x
          simp
        all_goals (simp only [St.cut, Mem.cut, fg, fgs, upd_app, Nat.reduceEqDiff, ↓reduceIte, List.take_nil, List.map_nil, List.take_succ_cons, List.map_cons, Option.map_some, Nat.reduceLT, Nat.zero_lt_one, Nat.reduceAdd, List.length_append, List.length_cons, List.length_nil, Int.natCast_add, Int.cast_ofNat_Int, h0, h2, h3, encL_snoc, celC]; try rfl)
      · rw [if_neg hv] at hs
        have kv := eq_false hv
        have hw5 : IntKind.i64.wrap ((b.length : Int) - (k + 4)) = b.length - (k + 4) := wl_i64 (by simp only [Bool.and_eq_true, decide_eq_true_eq]; omega)
        by_cases hg : (((b.length - k : Nat) : Int) - 4) < V
        · rw [if_pos hg] at hs
          subst hs
          have kg := eq_true (show (b.length : Int) - (k + 4) < V by omega)
          repeat' (first
            | ((with_reducible (first
             | (refine PW.seq fun K1 hK1 => ?_) | (refine PW.region fun K2 hK2 => ?_) | ((refine hK3 _ ?_; clear hK3)) | ((refine opsP_nil ?_; refine hK2 _ ?_; clear hK2)) | ((refine Exists.intro _ (Exists.intro _ (And.intro rfl (And.intro rfl (And.intro ?_ ?_)))); focus omega)) | (refine PW.block ?_) | (refine PW.skip ?_)
             | (refine PW.ret ?_) | ((refine hX1 ?_; clear hX1 hY1; try simp only [hb])) | ((refine hY1 ?_; clear hX1 hY1; try simp only [hb])) )))
            | (((with_reducible refine cC_pure ?_ (hI) (fun _ => ?_)); (focus ((repeat' constructor) <;> (simp only [purAs, purA, Vf, Bool.and_self, h0, h2, h3, h4, hlt', hw0, k4, hw4, kv, hw5, kg]; done)))))
            | ((simp only [thenP, blockP]; (try ((repeat (fail_if_success (with_reducible refine hK1 _ ?_)); clear hK1); (with_reducible refine hK1 _ ?_); clear hK1))))
            | (((first | (((with_reducible refine opsP_cons fun K3 hK3 => ?_); simp only [wantP, opP, valP, Ur, Us])) | ((with_reducible refine PW.condM fun X1 Y1 hX1 hY1 => ?_)) | (skip)); simp (disch := omega) only [St.eval, St.put, upd_app, avOf, avOf1, cellsA, AV.okv, loadA, lenP, binP, intsP, intP, nilP, sliceP, boundLo, boundHi, builtinP, isMapA, slA, putCells, fillA, buildA, Ua, Uc, Ud, Uf, Ug, Uk, Un, Up, Uq, Uv, V2, V3, V7, V9, UU2, UU4, Vr, PmL, simprocAttr, PmT, h0, h2, h4, hlt', hw0, k4, hw4, kv, hw5, kg, retQ, resP, tupA, fg, fgs, condP, condB_t, condB_f]; try (with_reducible (first | exact co_refl _ | exact co_own _ _ _ | exact co_nilsB | exact co_nilsL _ _)))))
          all_goals exact co_agg (by repeat' (first | (refine cos_cons ?_ ?_) | exact cos_nil | exact co_refl _ | exact co_own _ _ _ | exact co_nilsB | exact co_nilsL _ _ | exact co_nils _))
        · rw [if_neg hg] at hs
          have kg := eq_false (show ¬ (b.length : Int) - (k + 4) < V by omega)
          obtain ⟨v, rfl⟩ := Int.eq_ofNat_of_zero_le (a := V) (by omega)
          have hw6 : IntKind.i64.wrap ((k : Int) + 4 + v) = k + 4 + v := wl_i64 (by simp only [Bool.and_eq_true, decide_eq_true_eq]; omega)
          have t1 : ((k : Int) + 4).toNat = k + 4 := by omega
          have t2 : ((k : Int) + 4 + v).toNat = k + 4 + v := by omega
          have hsl : (b.take (k + 4 + v)).drop (k + 4) = ((b.drop k).drop 4).take v := by
            rw [List.drop_take, List.drop_drop]
            congr 1
            omega
          rw [Int.toNat_natCast] at hs
          have dd : b.drop (k + 4 + v) = ((b.drop k).drop 4).drop v := by rw [List.drop_drop, List.drop_drop, Nat.add_assoc]
          have hass : (k : Int) + 4 + v = k + (4 + v) := by omega
          obtain ⟨A, hA⟩ : ∃ A, ((b.drop k).drop 4).take v = A := ⟨_, rfl⟩
          rw [hA] at hs hsl
          repeat' (first
            | ((with_reducible (first
             | (refine PW.seq fun K1 hK1 => ?_) | (refine PW.region fun K2 hK2 => ?_) | ((refine hK3 _ ?_; clear hK3)) | ((refine opsP_nil ?_; refine hK2 _ ?_; clear hK2)) | (refine litX_old ?_) | (refine litC_data ?_) | ((refine Exists.intro _ (Exists.intro _ (And.intro rfl (And.intro rfl (And.intro ?_ ?_)))); focus omega)) | (refine PW.block ?_) | (refine PW.skip ?_)
             | ((refine hX1 ?_; clear hX1 hY1; try simp only [hb])) | ((refine hY1 ?_; clear hX1 hY1; try simp only [hb])) | ((refine opsO_nil ?_; refine hK2 _ ?_; clear hK2)) | ((refine keepA_intro ?_ ?_; focus (first | exact keep_same _ _ | exact keep_box _ _ _ _ | exact keep_hd _ _ _ _ _ | exact keep_02 _ _ _ _ _ _ _ | exact keep_1 _ _ _ _ _ _ _))))))
            | (((with_reducible refine cC_pure ?_ (hI) (fun _ => ?_)); (focus ((repeat' constructor) <;> (simp only [purAs, purA, Vf, Bool.and_self, h0, h2, h3, h4, hlt', hw0, k4, hw4, kv, hw5, kg, hw6, t1, t2, hsl, celC]; done)))))
            | (((with_reducible refine PW.drawR (id := 12) mixed [13] [(0, true), (1, true), (2, true), (3, true), (4, true), (5, true), (6, true), (7, true), (8, true), (9, true), (10, false), (11, false), (12, true), (13, false)] (by kernel_rfl) (by decide) fun K2 hK2 => ?_)))
            | (((with_reducible refine And.intro ?_ ?_); (focus (first | omega | (simp; done) | assumption))))
            | ((simp only [thenP, blockP]; (try ((repeat (fail_if_success (with_reducible refine hK1 _ ?_)); clear hK1); (with_reducible refine hK1 _ ?_); clear hK1))))
            | (((first | (((with_reducible refine opsP_cons fun K3 hK3 => ?_); simp only [wantP, opP, valP, Ur, Us])) | (((with_reducible refine opsO_first (o := ?_) ?_ fun K3 hK3 => ?_); rotate_left 1; (focus (simp only [Uz, Ub, Ua] <;> rfl)); simp only [wantP, firstP, valP, Ur, Us])) | (((with_reducible refine opsO_only (o := ?_) ?_ fun K3 hK3 => ?_); rotate_left 1; (focus (simp only [Uz, Ub, Ua] <;> rfl)); simp only [wantP, opP, Ur, Us, List.mapM_cons, List.mapM_nil, Uw, Ux])) | ((with_reducible refine PW.condM fun X1 Y1 hX1 hY1 => ?_)) | (skip)); simp (disch := omega) only [St.eval, St.put, upd_app, avOf, avOf1, cellsA, AV.okv, loadA, lenP, binP, intsP, intP, nilP, convP, sliceP, boundLo, boundHi, builtinP, appP, srcA, srcTy, isMapA, isBsl, U3, U4, U5, slA, putCells, fillA, buildA, elA, dv1, Ua, Ub, Uc, Ud, Uf, Ug, Uk, Ul, Uq, Ut, Uu, Uv, List.mapM_cons, List.mapM_nil, Uw, Ux, V0, V1, V2, V3, V4, Option.bind_eq_bind, Option.pure_def, V7, V9, Vd, Ve, Vt, UU2, UU3, UU4, UU9, PmL, simprocAttr, PmT, h0, h3, h4, hlt', hw0, k4, hw4, kv, hw5, kg, hw6, t1, t2, hsl, condP, condB_t, condB_f, firstOk, List.mem_cons]; try (with_reducible (first | exact co_refl _ | exact co_own _ _ _ | exact co_nilsB | exact co_nilsL _ _)))))
          refine ⟨b.length - (k + 4 + v), by omega, k + 4 + v, l ++ [(false, A)], ?_, ?_, ?_, ?_, ?_, ?_, by rw [List.length_append, List.length_singleton]; omega, by omega, rfl, ?_⟩
          case refine_7 =>
            rw [← hs, ← dd, Option.map_map]
            congr 1
            funext x
            simp
          all_goals (simp only [St.cut, Mem.cut, fg, fgs, upd_app, Nat.reduceEqDiff, ↓reduceIte, List.take_nil, List.map_nil, List.take_succ_cons, List.map_cons, Option.map_some, Nat.reduceLT, Nat.zero_lt_one, Nat.reduceAdd, List.length_append, List.length_cons, List.length_nil, Nat.add_assoc, Int.natCast_add, Int.cast_ofNat_Int, h0, h2, h3, encL_snoc, celC, hass]; try rfl)
  · have hlt' := eq_false hlt
    have hkl : b.drop k = [] := List.drop_eq_nil_of_le (by omega)
    rw [hkl] at hs
    have : R = some l := by rw [← hs]; show (some []).map _ = _; simp
    subst this
    repeat' (first
      | ((with_reducible (first
       | (refine PW.seq fun K1 hK1 => ?_) | (refine PW.region fun K2 hK2 => ?_) | ((refine hK3 _ ?_; clear hK3)) | ((refine opsP_nil ?_; refine hK2 _ ?_; clear hK2)) 
       | (refine PW.exit ?_) | (refine PW.ret ?_) | ((refine hY1 ?_; clear hX1 hY1; try simp only [hb])) )))
      | ((simp only [thenP, blockP, ↓reduceIte]; (try ((repeat (fail_if_success (with_reducible refine hK1 _ ?_)); clear hK1); (with_reducible refine hK1 _ ?_); clear hK1))))
      | (((first | (((with_reducible refine opsP_cons fun K3 hK3 => ?_); simp only [wantP, opP, valP, Ur, Us])) | ((with_reducible refine PW.condM fun X1 Y1 hX1 hY1 => ?_)) | (skip)); simp (disch := omega) only [St.eval, St.put, upd_app, cellsA, AV.okv, loadA, lenP, binP, intsP, intP, nilP, builtinP, isMapA, slA, putCells, Ua, Ub, Uc, Ud, Uf, Ug, Uk, Un, Up, V9, Vd, Ve, Vr, PmL, simprocAttr, PmT, h0, h2, h3, h4, hlt', retQ, resP, tupA, fg, fgs, condP, condB_f]; try (with_reducible (first | exact co_refl _ | exact co_own _ _ _ | exact co_nilsB | exact co_nilsL _ _)))))
    all_goals exact co_agg (by repeat' (first | (refine cos_cons ?_ ?_) | exact cos_nil | exact co_refl _ | exact co_own _ _ _ | exact co_nilsB | exact co_nilsL _ _ | exact co_nils _))
end PM
end Go.Proofs.YthaekefdadccaaaDoor
