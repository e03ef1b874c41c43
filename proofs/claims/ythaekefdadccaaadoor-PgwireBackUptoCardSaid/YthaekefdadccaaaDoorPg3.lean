/- pgwire in the abstract: a first message's body. -/
import Derived.Test.YthaekefdadccaaaDoorPg2
namespace Go.Proofs.YthaekefdadccaaaDoor
open Go.RowKit
namespace PM
theorem paramsF_fuel : ∀ (f g k : Nat) (b : List Int), b.length < f → b.length < g → paramsF f k b = paramsF g k b
  | 0, _, _, _, h, _ => by omega
  | _ + 1, 0, _, _, _, h => by omega
  | f + 1, g + 1, k, b, hf, hg => by
    unfold paramsF
    cases b with
    | nil => rfl
    | cons c r =>
      simp only
      split
      · rfl
      split
      · rfl
      cases h1 : cut0 (c :: r) with
      | none => rfl
      | some p =>
        obtain ⟨nm, r1⟩ := p
        simp only
        cases h2 : cut0 r1 with
        | none => rfl
        | some q =>
          obtain ⟨v, r2⟩ := q
          have l1 := cut0_len h1
          have l2 := cut0_len h2
          simp only [List.length_cons] at l1 hf hg
          simp only
          rw [paramsF_fuel f g (k + 1) r2 (by omega) (by omega)]
/-- what comes of what is left -/
def outF (b : List Int) (bad : Bool) (l : List (List Int × List Int)) : Front × Int :=
  if bad = true then (zF, 230) else if (paramsF (b.length + 1) l.length b).2 ≠ 0 then (zF, (paramsF (b.length + 1) l.length b).2) else ({ zF with kind := 1, params := l ++ (paramsF (b.length + 1) l.length b).1 }, 0)
def openS (b : List Int) : Front × Int :=
  if i32v b = 80877103 then (if b.length = 4 then ({ zF with kind := 2 }, 0) else (zF, 230)) else
  if i32v b = 80877102 then (if b.length = 12 then ({ zF with kind := 3, pid := i32v (b.drop 4), secret := i32v (b.drop 8) }, 0) else (zF, 230)) else
  if i32v b = 196608 then outF (b.drop 4) false [] else (zF, 232)
theorem outF_next {c : Int} {r : List Int} {l : List (List Int × List Int)} (hc : c ≠ 0) (hl : l.length ≠ 32) :
    outF (c :: r) false l = outF (pgText (pgText (c :: r) false).2.1 (pgText (c :: r) false).2.2).2.1 (pgText (pgText (c :: r) false).2.1 (pgText (c :: r) false).2.2).2.2 (l ++ [((pgText (c :: r) false).1, (pgText (pgText (c :: r) false).2.1 (pgText (c :: r) false).2.2).1)]) := by
  cases h1 : cut0 (c :: r) with
  | none =>
    have e1 : pgText (c :: r) false = ([], c :: r, true) := by unfold pgText; rw [h1]
    have e2 : pgText (c :: r) true = ([], c :: r, true) := by unfold pgText; rw [h1]
    rw [e1]
    simp only
    rw [e2]
    simp only [outF, Bool.false_eq_true, ↓reduceIte, List.length_cons]
    unfold paramsF
    simp [hc, hl, h1]
  | some p =>
    obtain ⟨nm, r1⟩ := p
    have e1 : pgText (c :: r) false = (nm, r1, false) := by unfold pgText; rw [h1]; simp
    rw [e1]
    simp only
    have l1 := cut0_len h1
    cases h2 : cut0 r1 with
    | none =>
      have e2 : pgText r1 false = ([], r1, true) := by unfold pgText; rw [h2]
      rw [e2]
      simp only [outF, Bool.false_eq_true, ↓reduceIte, List.length_cons]
      unfold paramsF
      simp [hc, hl, h1, h2]
    | some q =>
      obtain ⟨v, r2⟩ := q
      have l2 := cut0_len h2
      simp only [List.length_cons] at l1
      have e2 : pgText r1 false = (v, r2, false) := by unfold pgText; rw [h2]; simp
      rw [e2]
      simp only [outF, Bool.false_eq_true, ↓reduceIte, List.length_cons]
      rw [paramsF]
      simp only [hc, hl, h1, h2, ↓reduceIte]
      rw [paramsF_fuel (r.length + 1) (r2.length + 1) (l.length + 1) r2 (by omega) (by omega)]
      rw [List.length_append, List.length_cons, List.length_nil]
      split <;> simp_all
theorem pgText_bad (b : List Int) : (pgText b true).2.2 = true ∧ (pgText b true).2.1.length ≤ b.length := by
  unfold pgText
  cases h : cut0 b with
  | none => exact ⟨rfl, Nat.le_refl _⟩
  | some p =>
    obtain ⟨a, r⟩ := p
    have := cut0_len h
    refine ⟨rfl, ?_⟩
    simp only [↓reduceIte, List.length_cons]
    omega
theorem pgText_less (b : List Int) : (pgText (pgText b false).2.1 (pgText b false).2.2).2.1.length + (if (pgText (pgText b false).2.1 (pgText b false).2.2).2.2 = true then 0 else 1) ≤ b.length := by
  cases h : cut0 b with
  | none =>
    have e : pgText b false = ([], b, true) := by unfold pgText; rw [h]
    rw [e]
    obtain ⟨h1, h2⟩ := pgText_bad b
    simp only [h1, ↓reduceIte]
    omega
  | some p =>
    obtain ⟨a, r⟩ := p
    have hl := cut0_len h
    have e : pgText b false = (a, r, false) := by unfold pgText; rw [h]; simp
    rw [e]
    simp only
    cases h2 : cut0 r with
    | none =>
      have e2 : pgText r false = ([], r, true) := by unfold pgText; rw [h2]
      rw [e2]
      simp only [↓reduceIte]
      omega
    | some q =>
      obtain ⟨a2, r2⟩ := q
      have hl2 := cut0_len h2
      have e2 : pgText r false = (a2, r2, false) := by unfold pgText; rw [h2]; simp
      rw [e2]
      simp only [Bool.false_eq_true, ↓reduceIte]
      omega
theorem cancel_spec (b : List Int) (hb : 4 ≤ b.length) : (!(pgNum (pgNum (b.drop 4) false).2.1 (pgNum (b.drop 4) false).2.2).2.2 && decide ((pgNum (pgNum (b.drop 4) false).2.1 (pgNum (b.drop 4) false).2.2).2.1.length = 0)) = decide (b.length = 12) ∧
    (b.length = 12 → (pgNum (b.drop 4) false).1 = i32v (b.drop 4) ∧ (pgNum (pgNum (b.drop 4) false).2.1 (pgNum (b.drop 4) false).2.2).1 = i32v (b.drop 8)) := by
  have hd : (b.drop 4).length = b.length - 4 := List.length_drop ..
  by_cases h1 : (b.drop 4).length < 4
  · have e1 : pgNum (b.drop 4) false = (0, b.drop 4, true) := if_pos h1
    rw [e1]
    have e2 : pgNum (b.drop 4) true = (0, b.drop 4, true) := if_pos h1
    simp only
    rw [e2]
    refine ⟨?_, fun h => by omega⟩
    simp; omega
  · have e1 : pgNum (b.drop 4) false = (i32v (b.drop 4), b.drop 8, false) := by unfold pgNum; rw [if_neg h1, List.drop_drop]
    rw [e1]
    simp only
    have hd8 : (b.drop 8).length = b.length - 8 := List.length_drop ..
    by_cases h2 : (b.drop 8).length < 4
    · have e2 : pgNum (b.drop 8) false = (0, b.drop 8, true) := if_pos h2
      rw [e2]
      refine ⟨?_, fun h => by omega⟩
      simp; omega
    · have e2 : pgNum (b.drop 8) false = (i32v (b.drop 8), b.drop 12, false) := by unfold pgNum; rw [if_neg h2, List.drop_drop]
      rw [e2]
      refine ⟨?_, fun h => by simp⟩
      simp only [Bool.not_false, Bool.true_and, List.length_drop]
      exact decide_eq_decide.2 ⟨fun h => by omega, fun h => by omega⟩
set_option maxRecDepth 100000 in
set_option maxHeartbeats 4000000 in
theorem pOpening (b : List Int) (hb : 4 ≤ b.length) : Pure Tryd.prog 32 [bs b] (.tup [(openS b).1.v, .d (.int .i64 (openS b).2)]) := by
  refine pure_intro Tryd.func32 rfl rfl rfl 74 rfl (fun hh => ?_)
  obtain ⟨hr, hml⟩ := has_bytes (hh (bs b) (by simp))
  have en : pgNum b false = (i32v b, b.drop 4, false) := if_neg (by omega)
  have hd4 : (b.drop 4).length = b.length - 4 := List.length_drop ..
  obtain ⟨hW, hW2⟩ := cancel_spec b hb
  repeat' (first
    | ((with_reducible (first
     | (refine PW.seq fun K1 hK1 => ?_) | (refine PW.region fun K2 hK2 => ?_) | ((refine hK3 _ ?_; clear hK3)) | ((refine opsP_nil ?_; refine hK2 _ ?_; clear hK2))
     | (refine PW.block ?_) | (refine PW.skip ?_) | (refine PW.ret ?_) | ((refine hX1 ?_; clear hX1 hY1; try simp only [hb])) | ((refine hY1 ?_; clear hX1 hY1; try simp only [hb])) )))
    | (((first | (with_reducible refine wantB_intro (fun hb => ?_) (fun hb => ?_)) | (with_reducible refine condB_intro (fun hb => ?_) (fun hb => ?_))) <;> ((try (have hp := hb; simp only [PmH] at hp)); try simp only [hb, Bool.not_true, Bool.not_false])))
    | (((with_reducible refine cC_recv (cs := ?_) ?_ ?_ ?_ ?_ (pPgNum ?_ ?_) (fun _ => ?_)); rotate_left 1; (focus (first | exact rfl | (simp only [Ua, Ub]; rfl))); (focus ((with_reducible (repeat' (first | (refine .cons ?_ ?_) | (exact .nil) | (exact .d _) ))) <;> (simp only [purAs, purA, Vf, Bool.and_self, en, hW]; done))); (focus ((with_reducible (repeat' (first | (refine .cons ?_ ?_) | (exact .nil) | (exact .d _) ))) <;> (simp only [purAs, purA, Vf, Bool.and_self, en, hW]; done))); (focus (simp only [purAs, purA, Bool.and_self]; done))))
    | (((with_reducible refine cC_recv (cs := ?_) ?_ ?_ ?_ ?_ (pPgWhole ?_ ?_) (fun _ => ?_)); rotate_left 1; (focus (first | exact rfl | (simp only [Ua, Ub]; rfl))); (focus ((with_reducible (repeat' (first | (refine .cons ?_ ?_) | (exact .nil) | (exact .d _) ))) <;> (simp only [purAs, purA, Vf, Bool.and_self, en, hW]; done))); (focus ((with_reducible (repeat' (first | (exact .nil) ))) <;> (simp only [purAs, purA, Vf, Bool.and_self, en, hW]; done))); (focus (simp only [purAs, purA, Bool.and_self]; done))))
    | ((simp only [thenP, blockP]; (try ((repeat (fail_if_success (with_reducible refine hK1 _ ?_)); clear hK1); (with_reducible refine hK1 _ ?_); clear hK1))))
    | (((first | (((with_reducible refine opsP_cons fun K3 hK3 => ?_); simp only [wantP, opP, valP, Ur, Us])) | ((with_reducible refine PW.condM fun X1 Y1 hX1 hY1 => ?_)) | (skip)); simp (disch := omega) only [St.eval, St.put, upd_app, iniT_app, avOf, avOf1, nom, cellsA, AV.okv, loadA, binP, intsP, intP, nilP, unP, slA, putCells, fillA, buildA, U7, Ua, Ub, Uc, Ud, Uf, Ug, Uk, Un, Up, Ut, Uu, Uv, V9, Va, Ve, Vt, UU2, UU3, Vr, PmL, simprocAttr, PmT, en, hW, retQ, resP, tupA, fg, fgs, condP]; try (with_reducible (first | exact co_refl _ | exact co_own _ _ _ | exact co_nilsB | exact co_nilsL _ _)))))
  case refine_8.refine_2.refine_2.refine_1 =>
    have hv : i32v b = 196608 := of_decide_eq_true hb
    have hS : openS b = outF (b.drop 4) false [] := by unfold openS; rw [if_neg (by omega), if_neg (by omega), if_pos hv]
    (with_reducible refine PW.nil2box 2 1 64 2 rfl rfl (by decide) ?_)
    (with_reducible refine PW.loop (fun n s => ∃ (rest : List Int) (bad : Bool) (l : List (List Int × List Int)), s.t 2 = .ptr 0 0 ∧ s.t 4 = .ptr 1 0 ∧ s.t 5 = .ptr 2 0 ∧ s.n = 74 ∧
      s.m = ⟨[some (26, [.d (.int .i64 0), .nils, .d (.str []), .d (.int .i64 0), .d (.int .i64 0), .d (.int .u8 0)]), some (99, [bs rest, .d (.bool bad)]), some (26, [.d (.int .i64 1), .own 0 2 (encL prmC l), .d (.str []), .d (.int .i64 0), .d (.int .i64 0), .d (.int .u8 0)])], [some ⟨64, 2, l.length⟩]⟩ ∧
      outF rest bad l = openS b ∧ l.length ≤ 32 ∧ n = rest.length + (if bad = true then 0 else 1)) ((b.drop 4).length + 1) ?_ ?_)
    · exact ⟨b.drop 4, false, [], rfl, rfl, rfl, rfl, rfl, hS.symm, by simp, rfl⟩
    rintro n ⟨t, nn, m⟩ ⟨rest, bad, l, h2, h4, h5, hn, hm, hO, hl, hnn⟩ - -
    simp only at h2 h4 h5 hn hm
    subst hn hm
    have tb : ∀ b n, (pgTake b true n).2.2 = true := fun b n => by unfold pgTake; split <;> rfl
    cases rest with
    | nil =>
      have hS2 : openS b = (zF, 230) := by rw [← hO]; cases bad <;> simp [outF, paramsF]
      have e1 : pgTake [] bad 1 = ([], [], true) := if_pos (.inr (by decide))
      repeat' (first
        | ((with_reducible (first
         | (refine PW.seq fun K1 hK1 => ?_) | (refine PW.region fun K2 hK2 => ?_) | ((refine hK3 _ ?_; clear hK3)) | ((refine opsP_nil ?_; refine hK2 _ ?_; clear hK2)) | (refine PW.exit ?_) | (refine PW.ret ?_) | ((refine hX1 ?_; clear hX1 hY1; try simp only [hb])) | ((refine hY1 ?_; clear hX1 hY1; try simp only [hb])) )))
        | (((with_reducible refine cC_recv (cs := ?_) ?_ ?_ ?_ ?_ (pPgTake ?_ ?_ ?_) (fun _ => ?_)); rotate_left 1; (focus (first | exact rfl | (simp only [Ua, Ub]; rfl))); (focus ((with_reducible (repeat' (first | (refine .cons ?_ ?_) | (exact .nil) | (exact .d _) ))) <;> (simp only [purAs, purA, Vf, Bool.and_self, h2, h4, h5, e1]; done))); (focus ((with_reducible (repeat' (first | (refine .cons ?_ ?_) | (exact .nil) | (exact .d _) ))) <;> (simp only [purAs, purA, Vf, Bool.and_self, h2, h4, h5, e1]; done))); (focus (simp only [purAs, purA, Bool.and_self]; done))))
        | (((with_reducible refine cC_recv (cs := ?_) ?_ ?_ ?_ ?_ (pPgWhole ?_ ?_) (fun _ => ?_)); rotate_left 1; (focus (first | exact rfl | (simp only [Ua, Ub]; rfl))); (focus ((with_reducible (repeat' (first | (refine .cons ?_ ?_) | (exact .nil) | (exact .d _) ))) <;> (simp only [purAs, purA, Vf, Bool.and_self, h2, h4, h5, e1]; done))); (focus ((with_reducible (repeat' (first | (exact .nil) ))) <;> (simp only [purAs, purA, Vf, Bool.and_self, h2, h4, h5, e1]; done))); (focus (simp only [purAs, purA, Bool.and_self]; done))))
        | ((simp only [thenP, blockP, ↓reduceIte]; (try ((repeat (fail_if_success (with_reducible refine hK1 _ ?_)); clear hK1); (with_reducible refine hK1 _ ?_); clear hK1))))
        | (((first | (((with_reducible refine opsP_cons fun K3 hK3 => ?_); simp only [wantP, opP, valP, Ur, Us])) | ((with_reducible refine PW.condM fun X1 Y1 hX1 hY1 => ?_)) | (skip)); simp (disch := omega) only [wantB_ft, St.eval, St.put, upd_app, avOf, avOf1, cellsA, AV.okv, loadA, lenP, binP, intsP, intP, eqP, nilP, unP, builtinP, isMapA, slA, putCells, fillA, buildA, Ua, Ub, Uc, Ud, Uf, Ug, Uk, Un, Up, Uv, Uz, V4, V9, Va, Ve, Int.cast_ofNat_Int, Vr, Vs, PmL, simprocAttr, PmT, h2, h4, e1, retQ, resP, tupA, fg, fgs, condP, condB_t, condB_f]; try (with_reducible (first | exact co_refl _ | exact co_own _ _ _ | exact co_nilsB | exact co_nilsL _ _)))))
      all_goals (try (focus ((try simp only [hS2, zF]); (repeat' split) <;> (first | (exfalso; omega) | ((try ((with_reducible refine And.intro ?_ ?_); rotate_left 1; (focus (first | exact subM_row1 | exact subM_nom _ | (refine subM_box1 ?_; simp only [fgs, fg]; (repeat' (first | exact cos_refl _ | refine cos_cons ?_ ?_ | exact co_refl _ | exact co_nilsB | exact co_own _ _ _ | exact co_nilsL _ _ | exact co_nils _ | refine co_agg ?_ | refine co_tup ?_)); done))))); (first | ((repeat' (first | exact cos_refl _ | refine cos_cons ?_ ?_ | exact co_refl _ | exact co_nilsB | exact co_own _ _ _ | exact co_nilsL _ _ | exact co_nils _ | refine co_agg ?_ | refine co_tup ?_)); done) | (refine co_eq ?_; simp_all; done))) | (exfalso; simp_all; done)))))
    | cons c r =>
      cases bad with
      | true =>
        have hS2 : openS b = (zF, 230) := by rw [← hO]; rfl
        repeat' (first
          | ((with_reducible (first
           | (refine PW.seq fun K1 hK1 => ?_) | (refine PW.region fun K2 hK2 => ?_) | ((refine hK3 _ ?_; clear hK3)) | ((refine opsP_nil ?_; refine hK2 _ ?_; clear hK2)) | (refine PW.exit ?_) | (refine PW.ret ?_) | ((refine hX1 ?_; clear hX1 hY1; try simp only [hb])) | ((refine hY1 ?_; clear hX1 hY1; try simp only [hb])) )))
          | (((first | (with_reducible refine wantB_intro (fun hb => ?_) (fun hb => ?_)) | (with_reducible refine condB_intro (fun hb => ?_) (fun hb => ?_))) <;> ((try (have hp := hb; simp only [PmH] at hp)); try simp only [hb, Bool.not_true])))
          | (((with_reducible refine cC_recv (cs := ?_) ?_ ?_ ?_ ?_ (pPgTake ?_ ?_ ?_) (fun _ => ?_)); rotate_left 1; (focus (first | exact rfl | (simp only [Ua, Ub]; rfl))); (focus ((with_reducible (repeat' (first | (refine .cons ?_ ?_) | (exact .nil) | (exact .d _) ))) <;> (simp only [purAs, purA, Vf, Bool.and_self, h2, h4, h5, tb]; done))); (focus ((with_reducible (repeat' (first | (refine .cons ?_ ?_) | (exact .nil) | (exact .d _) ))) <;> (simp only [purAs, purA, Vf, Bool.and_self, h2, h4, h5, tb]; done))); (focus (simp only [purAs, purA, Bool.and_self]; done))))
          | (((with_reducible refine cC_recv (cs := ?_) ?_ ?_ ?_ ?_ (pPgWhole ?_ ?_) (fun _ => ?_)); rotate_left 1; (focus (first | exact rfl | (simp only [Ua, Ub]; rfl))); (focus ((with_reducible (repeat' (first | (refine .cons ?_ ?_) | (exact .nil) | (exact .d _) ))) <;> (simp only [purAs, purA, Vf, Bool.and_self, h2, h4, h5, tb]; done))); (focus ((with_reducible (repeat' (first | (exact .nil) ))) <;> (simp only [purAs, purA, Vf, Bool.and_self, h2, h4, h5, tb]; done))); (focus (simp only [purAs, purA, Bool.and_self]; done))))
          | ((simp only [thenP, blockP, ↓reduceIte]; (try ((repeat (fail_if_success (with_reducible refine hK1 _ ?_)); clear hK1); (with_reducible refine hK1 _ ?_); clear hK1))))
          | ((with_reducible omega))
          | (((first | (((with_reducible refine opsP_cons fun K3 hK3 => ?_); simp only [wantP, opP, valP, Ur, Us])) | ((with_reducible refine PW.condM fun X1 Y1 hX1 hY1 => ?_)) | (skip)); simp (disch := omega) only [wantB_tt, wantB_ft, St.eval, St.put, upd_app, avOf, avOf1, cellsA, AV.okv, loadA, lenP, binP, intsP, intP, nilP, unP, builtinP, isMapA, slA, putCells, fillA, buildA, Ua, Ub, Uc, Ud, Uf, Ug, Uk, Ul, Un, Up, Ur, Us, Uv, Uz, V2, V4, V8, V9, Va, Ve, Int.cast_ofNat_Int, Vq, Vr, Vs, PmL, simprocAttr, PmT, h2, h4, tb, retQ, resP, tupA, fg, fgs, condP, condB_t, condB_f]; try (with_reducible (first | exact co_refl _ | exact co_own _ _ _ | exact co_nilsB | exact co_nilsL _ _)))))
        all_goals (try (focus ((try simp only [hS2, zF]); (repeat' split) <;> (first | (exfalso; omega) | ((try ((with_reducible refine And.intro ?_ ?_); rotate_left 1; (focus (first | exact subM_row1 | exact subM_nom _ | (refine subM_box1 ?_; simp only [fgs, fg]; (repeat' (first | exact cos_refl _ | refine cos_cons ?_ ?_ | exact co_refl _ | exact co_nilsB | exact co_own _ _ _ | exact co_nilsL _ _ | exact co_nils _ | refine co_agg ?_ | refine co_tup ?_)); done))))); (first | ((repeat' (first | exact cos_refl _ | refine cos_cons ?_ ?_ | exact co_refl _ | exact co_nilsB | exact co_own _ _ _ | exact co_nilsL _ _ | exact co_nils _ | refine co_agg ?_ | refine co_tup ?_)); done) | (refine co_eq ?_; simp_all; done))) | (exfalso; simp_all; done)))))
      | false =>
        by_cases hc : c = 0
        · have e1 : pgTake (c :: r) false 1 = ([c], r, false) := by unfold pgTake; rw [if_neg (by simp; omega)]; rfl
          have hc' := eq_true hc
          have hS2 : openS b = if r = [] then ({ zF with kind := 1, params := l }, 0) else (zF, 230) := by
            rw [← hO]
            unfold outF paramsF
            subst hc
            by_cases hr : r = [] <;> simp [hr]
          have hrl : r = [] ↔ r.length = 0 := by simp
          repeat' (first
            | ((with_reducible (first
             | (refine PW.seq fun K1 hK1 => ?_) | (refine PW.region fun K2 hK2 => ?_) | ((refine hK3 _ ?_; clear hK3)) | ((refine opsP_nil ?_; refine hK2 _ ?_; clear hK2)) | (refine PW.skip ?_) | (refine PW.exit ?_) | (refine PW.ret ?_) | ((refine hX1 ?_; clear hX1 hY1; try simp only [hb])) | ((refine hY1 ?_; clear hX1 hY1; try simp only [hb])) )))
            | (((first | (with_reducible refine wantB_intro (fun hb => ?_) (fun hb => ?_)) | (with_reducible refine condB_intro (fun hb => ?_) (fun hb => ?_))) <;> ((try (have hp := hb; simp only [PmH] at hp)); try simp only [hb, Bool.not_true])))
            | (((with_reducible refine cC_recv (cs := ?_) ?_ ?_ ?_ ?_ (pPgTake ?_ ?_ ?_) (fun _ => ?_)); rotate_left 1; (focus (first | exact rfl | (simp only [Ua, Ub]; rfl))); (focus ((with_reducible (repeat' (first | (refine .cons ?_ ?_) | (exact .nil) | (exact .d _) ))) <;> (simp only [purAs, purA, Vf, Bool.and_self, h2, h4, h5, e1, hc']; done))); (focus ((with_reducible (repeat' (first | (refine .cons ?_ ?_) | (exact .nil) | (exact .d _) ))) <;> (simp only [purAs, purA, Vf, Bool.and_self, h2, h4, h5, e1, hc']; done))); (focus (simp only [purAs, purA, Bool.and_self]; done))))
            | (((with_reducible refine cC_recv (cs := ?_) ?_ ?_ ?_ ?_ (pPgWhole ?_ ?_) (fun _ => ?_)); rotate_left 1; (focus (first | exact rfl | (simp only [Ua, Ub]; rfl))); (focus ((with_reducible (repeat' (first | (refine .cons ?_ ?_) | (exact .nil) | (exact .d _) ))) <;> (simp only [purAs, purA, Vf, Bool.and_self, h2, h4, h5, e1, hc']; done))); (focus ((with_reducible (repeat' (first | (exact .nil) ))) <;> (simp only [purAs, purA, Vf, Bool.and_self, h2, h4, h5, e1, hc']; done))); (focus (simp only [purAs, purA, Bool.and_self]; done))))
            | ((simp only [thenP, blockP, ↓reduceIte]; (try ((repeat (fail_if_success (with_reducible refine hK1 _ ?_)); clear hK1); (with_reducible refine hK1 _ ?_); clear hK1))))
            | ((with_reducible omega))
            | (((first | (((with_reducible refine opsP_cons fun K3 hK3 => ?_); simp only [wantP, opP, valP, Ur, Us])) | ((with_reducible refine PW.condM fun X1 Y1 hX1 hY1 => ?_)) | (skip)); simp (disch := omega) only [wantB_tt, wantB_ft, St.eval, St.put, upd_app, avOf, avOf1, cellsA, AV.okv, loadA, lenP, binP, intsP, intP, nilP, unP, builtinP, isMapA, slA, putCells, fillA, buildA, Ua, Ub, Uc, Ud, Uf, Ug, Uk, Un, Up, Ur, Us, Uv, Uz, V2, V4, V8, V9, Va, Vd, Ve, Int.cast_ofNat_Int, Vq, Vr, Vs, PmL, simprocAttr, PmT, h2, h4, h5, e1, hc', retQ, resP, tupA, fg, fgs, condP, condB_f]; try (with_reducible (first | exact co_refl _ | exact co_own _ _ _ | exact co_nilsB | exact co_nilsL _ _)))))
          all_goals (try (focus ((try simp only [hS2, hrl, zF]); (repeat' split) <;> (first | (exfalso; omega) | ((try ((with_reducible refine And.intro ?_ ?_); rotate_left 1; (focus (first | exact subM_row1 | exact subM_nom _ | (refine subM_box1 ?_; simp only [fgs, fg]; (repeat' (first | exact cos_refl _ | refine cos_cons ?_ ?_ | exact co_refl _ | exact co_nilsB | exact co_own _ _ _ | exact co_nilsL _ _ | exact co_nils _ | refine co_agg ?_ | refine co_tup ?_)); done))))); (first | ((repeat' (first | exact cos_refl _ | refine cos_cons ?_ ?_ | exact co_refl _ | exact co_nilsB | exact co_own _ _ _ | exact co_nilsL _ _ | exact co_nils _ | refine co_agg ?_ | refine co_tup ?_)); done) | (refine co_eq ?_; simp_all; done))) | (exfalso; simp_all; done)))))
        · have hc' := eq_false hc
          by_cases hl32 : (l.length : Int) = 32
          · have hl' := eq_true hl32
            have hS2 : openS b = (zF, 231) := by
              rw [← hO]
              unfold outF paramsF
              have : l.length = 32 := by omega
              simp [hc, this]
            repeat' (first
              | ((with_reducible (first
               | (refine PW.seq fun K1 hK1 => ?_) | (refine PW.region fun K2 hK2 => ?_) | ((refine hK3 _ ?_; clear hK3)) | ((refine opsP_nil ?_; refine hK2 _ ?_; clear hK2))
               | (refine PW.block ?_) | (refine PW.skip ?_) | (refine PW.ret ?_) | ((refine hX1 ?_; clear hX1 hY1; try simp only [hb])) )))
              | (((first | (with_reducible refine wantB_intro (fun hb => ?_) (fun hb => ?_)) | (with_reducible refine condB_intro (fun hb => ?_) (fun hb => ?_))) <;> ((try (have hp := hb; simp only [PmH] at hp)); try simp only [hb, Bool.not_true])))
              | ((simp only [thenP, blockP]; (try ((repeat (fail_if_success (with_reducible refine hK1 _ ?_)); clear hK1); (with_reducible refine hK1 _ ?_); clear hK1))))
              | ((with_reducible omega))
              | (((first | (((with_reducible refine opsP_cons fun K3 hK3 => ?_); simp only [wantP, opP, valP, Ur, Us])) | ((with_reducible refine PW.condM fun X1 Y1 hX1 hY1 => ?_)) | (skip)); simp (disch := omega) only [wantB_tt, St.eval, St.put, upd_app, avOf, avOf1, cellsA, AV.okv, loadA, lenP, binP, intsP, intP, nilP, unP, builtinP, isMapA, slA, putCells, fillA, buildA, Ua, Ub, Uc, Ud, Uf, Ug, Uk, Ul, Un, Up, Ur, Us, Uz, V2, V4, V8, V9, Va, Ve, Int.cast_ofNat_Int, Vq, Vr, Vs, PmL, simprocAttr, PmT, h2, h4, h5, hc', hl', retQ, resP, tupA, fg, fgs, condP, condB_t]; try (with_reducible (first | exact co_refl _ | exact co_own _ _ _ | exact co_nilsB | exact co_nilsL _ _)))))
            all_goals (try (focus ((try simp only [hS2, zF]); (repeat' split) <;> (first | (exfalso; omega) | ((try ((with_reducible refine And.intro ?_ ?_); rotate_left 1; (focus (first | exact subM_row1 | exact subM_nom _ | (refine subM_box1 ?_; simp only [fgs, fg]; (repeat' (first | exact cos_refl _ | refine cos_cons ?_ ?_ | exact co_refl _ | exact co_nilsB | exact co_own _ _ _ | exact co_nilsL _ _ | exact co_nils _ | refine co_agg ?_ | refine co_tup ?_)); done))))); (first | ((repeat' (first | exact cos_refl _ | refine cos_cons ?_ ?_ | exact co_refl _ | exact co_nilsB | exact co_own _ _ _ | exact co_nilsL _ _ | exact co_nils _ | refine co_agg ?_ | refine co_tup ?_)); done) | (refine co_eq ?_; simp_all; done))) | (exfalso; simp_all; done)))))
          · have hl' := eq_false hl32
            have hnx := outF_next (l := l) hc (r := r) (by omega)
            have hll : (l ++ [((pgText (c :: r) false).1, (pgText (pgText (c :: r) false).2.1 (pgText (c :: r) false).2.2).1)]).length = l.length + 1 := by simp
            have hms : (pgText (pgText (c :: r) false).2.1 (pgText (c :: r) false).2.2).2.1.length + (if (pgText (pgText (c :: r) false).2.1 (pgText (c :: r) false).2.2).2.2 = true then 0 else 1) < (c :: r).length + 1 := by
              have := pgText_less (c :: r)
              omega
            repeat' (first
              | ((with_reducible (first
               | (refine PW.seq fun K1 hK1 => ?_) | (refine PW.region fun K2 hK2 => ?_) | ((refine hK3 _ ?_; clear hK3)) | ((refine opsP_nil ?_; refine hK2 _ ?_; clear hK2)) | (refine litX_old ?_) | (refine litC_data ?_)
               | (refine PW.block ?_) | (refine PW.skip ?_) | ((refine hX1 ?_; clear hX1 hY1; try simp only [hb])) | ((refine hY1 ?_; clear hX1 hY1; try simp only [hb])) )))
              | (((first | (with_reducible refine wantB_intro (fun hb => ?_) (fun hb => ?_)) | (with_reducible refine condB_intro (fun hb => ?_) (fun hb => ?_))) <;> ((try (have hp := hb; simp only [PmH] at hp)); try simp only [hb, Bool.not_true])))
              | (((with_reducible refine cC_recv (cs := ?_) ?_ ?_ ?_ ?_ (pPgText ?_ ?_) (fun _ => ?_)); rotate_left 1; (focus (first | exact rfl | (simp only [Ua, Ub]; rfl))); (focus ((with_reducible (repeat' (first | (refine .cons ?_ ?_) | (exact .nil) | (exact .d _) ))) <;> (simp only [purAs, purA, Vf, Bool.and_self, h2, h4, h5, hc', hl']; done))); (focus ((with_reducible (repeat' (first | (exact .nil) ))) <;> (simp only [purAs, purA, Vf, Bool.and_self, h2, h4, h5, hc', hl']; done))); (focus (simp only [purAs, purA, Bool.and_self]; done))))
              | (((with_reducible refine And.intro ?_ ?_); (focus (first | omega | (simp; done) | assumption))))
              | ((simp only [thenP, blockP]; (try ((repeat (fail_if_success (with_reducible refine hK1 _ ?_)); clear hK1); (with_reducible refine hK1 _ ?_); clear hK1))))
              | ((with_reducible omega))
              | (((first | (((with_reducible refine opsP_cons fun K3 hK3 => ?_); simp only [wantP, opP, valP, Ur, Us, List.mapM_cons, List.mapM_nil, Uw, Ux])) | ((with_reducible refine PW.condM fun X1 Y1 hX1 hY1 => ?_)) | (skip)); simp (disch := omega) only [wantB_tt, St.eval, St.put, upd_app, avOf, avOf1, cellsA, AV.okv, loadA, lenP, binP, intsP, intP, nilP, unP, builtinP, appP, srcA, srcTy, isMapA, isBsl, U3, U4, U5, slA, putCells, fillA, buildA, elA, dv1, Ua, Ub, Uc, Ud, Uf, Ug, Uk, Ul, Un, Up, Ur, Us, Ut, Uu, Uv, List.mapM_cons, List.mapM_nil, Uw, Ux, Uz, V0, V1, V2, V4, Option.bind_eq_bind, Option.pure_def, V8, V9, Va, Ve, Vt, Int.cast_ofNat_Int, UU2, UU3, Vq, UU9, Vr, Vs, PmL, simprocAttr, PmT, h4, h5, hc', hl', condP, condB_t, condB_f]; try (with_reducible (first | exact co_refl _ | exact co_own _ _ _ | exact co_nilsB | exact co_nilsL _ _)))))
            refine ⟨_, by subst hnn; exact hms, _, _, l ++ [((pgText (c :: r) false).1, (pgText (pgText (c :: r) false).2.1 (pgText (c :: r) false).2.2).1)], ?_, ?_, ?_, ?_, ?_, by rw [← hO]; exact hnx.symm, by omega, rfl⟩
            all_goals (simp only [St.cut, Mem.cut, fg, fgs, upd_app, Nat.reduceEqDiff, ↓reduceIte, List.take_nil, List.map_nil, List.take_succ_cons, List.take_zero, List.map_cons, Option.map_some, Nat.reduceLT, Nat.zero_lt_one, h2, h4, h5, hll, encL_snoc, prmC]; try rfl)
  case refine_8.refine_2.refine_1.refine_8.refine_8.refine_8.refine_2 =>
    have h12 : b.length = 12 := by simpa using hb
    obtain ⟨g1, g2⟩ := hW2 h12
    have hv : i32v b = 80877102 := by simp_all
    have e : openS b = ({ zF with kind := 3, pid := i32v (b.drop 4), secret := i32v (b.drop 8) }, 0) := by unfold openS; rw [if_neg (by omega), if_pos hv, if_pos h12]
    rw [e, g1, g2]
    all_goals (try (focus ((try simp only [zF]); (repeat' split) <;> (first | (exfalso; omega) | ((try ((with_reducible refine And.intro ?_ ?_); rotate_left 1; (focus (first | exact subM_row1 | exact subM_nom _ | (refine subM_box1 ?_; simp only [fgs, fg]; (repeat' (first | exact cos_refl _ | refine cos_cons ?_ ?_ | exact co_refl _ | exact co_nilsB | exact co_own _ _ _ | exact co_nilsL _ _ | exact co_nils _ | refine co_agg ?_ | refine co_tup ?_)); done))))); (first | ((repeat' (first | exact cos_refl _ | refine cos_cons ?_ ?_ | exact co_refl _ | exact co_nilsB | exact co_own _ _ _ | exact co_nilsL _ _ | exact co_nils _ | refine co_agg ?_ | refine co_tup ?_)); done) | (refine co_eq ?_; simp_all; done))) | (exfalso; simp_all; done)))))
  all_goals (try (focus ((try simp only [openS]); (repeat' split) <;> (first | (exfalso; omega) | ((try ((with_reducible refine And.intro ?_ ?_); rotate_left 1; (focus (first | exact subM_row1 | exact subM_nom _ | (refine subM_box1 ?_; simp only [fgs, fg]; (repeat' (first | exact cos_refl _ | refine cos_cons ?_ ?_ | exact co_refl _ | exact co_nilsB | exact co_own _ _ _ | exact co_nilsL _ _ | exact co_nils _ | refine co_agg ?_ | refine co_tup ?_)); done))))); (first | ((repeat' (first | exact cos_refl _ | refine cos_cons ?_ ?_ | exact co_refl _ | exact co_nilsB | exact co_own _ _ _ | exact co_nilsL _ _ | exact co_nils _ | refine co_agg ?_ | refine co_tup ?_)); done) | (refine co_eq ?_; simp_all; done))) | (exfalso; simp_all; done)))))
end PM
end Go.Proofs.YthaekefdadccaaaDoor
