/- pgwire in the abstract: the document's reading of a first message. -/
import Derived.Test.YthaekefdadccaaaDoorPg3
import Derived.Test.YthaekefdadccaaaDoorPg5
import Derived.Test.YthaekefdadccaaaDoorPmD
namespace Go.Proofs.YthaekefdadccaaaDoor
open Go.RowKit
namespace PM
/-- what comes of what is left -/
def outP (b : List Int) (l : List (List Int × List Int)) : List (List Int × List Int) × Int :=
  if (paramsF (b.length + 1) l.length b).2 ≠ 0 then ([], (paramsF (b.length + 1) l.length b).2) else (l ++ (paramsF (b.length + 1) l.length b).1, 0)
theorem outP_all (b : List Int) : outP b [] = paramsS b := by
  have key : ∀ f k b, (paramsF f k b).2 ≠ 0 → (paramsF f k b).1 = [] := by
    intro f
    induction f with
    | zero => intro k b h; rfl
    | succ f ih =>
      intro k b
      unfold paramsF
      cases b with
      | nil => intro; rfl
      | cons c r =>
        simp only
        split
        · split <;> simp
        split
        · simp
        cases cut0 (c :: r) with
        | none => simp
        | some p =>
          simp only
          cases cut0 p.2 with
          | none => simp
          | some q => simp only; split <;> simp
  unfold outP paramsS
  simp only [List.length_nil, List.nil_append]
  split
  · rename_i h; rw [← key _ _ _ h]
  · rename_i h; have : (paramsF (b.length + 1) 0 b).2 = 0 := by omega
    rw [← this]
theorem outP_next {b nm v r1 r2 : List Int} {c : Int} {r : List Int} {l : List (List Int × List Int)} (hb : b = c :: r) (hc : c ≠ 0) (hl : l.length ≠ 32) (h1 : cut0 b = some (nm, r1)) (h2 : cut0 r1 = some (v, r2)) : outP b l = outP r2 (l ++ [(nm, v)]) := by
  subst hb
  have l1 := cut0_len h1
  have l2 := cut0_len h2
  simp only [List.length_cons] at l1
  simp only [outP, List.length_cons]
  rw [paramsF]
  simp only [hc, hl, h1, h2, ↓reduceIte]
  rw [paramsF_fuel (r.length + 1) (r2.length + 1) (l.length + 1) r2 (by omega) (by omega)]
  rw [List.length_append, List.length_cons, List.length_nil]
  split <;> simp_all
set_option maxRecDepth 100000 in
set_option maxHeartbeats 4000000 in
theorem pParams (b : List Int) : Pure Tryd.prog 55 [bs b] (.tup [.d (.sl 2 (encL prmC (paramsS b).1)), .d (.int .i64 (paramsS b).2)]) := by
  refine pure_intro Tryd.func55 rfl rfl rfl 56 rfl (fun hh => ?_)
  obtain ⟨hr, hml⟩ := has_bytes (hh (bs b) (by simp))
  have hmx : maxLen = 9223372036854775807 := rfl
  repeat' (first
    | (with_reducible (first
      | refine PW.seq fun K1 hK1 => ?_
      | refine PW.region fun K2 hK2 => ?_
      | (refine hK3 _ ?_; clear hK3)
      | (refine opsP_nil ?_; refine hK2 _ ?_; clear hK2)
      | refine litX_old ?_
      | refine litC_data ?_
      | (refine Exists.intro _ (Exists.intro _ (And.intro rfl (And.intro rfl (And.intro ?_ ?_)))); focus omega)
      | (refine hK1 _ ?_; clear hK1)
      | refine nilC_intro (fun hz => ?_) ?_
      | refine PW.block ?_
      | refine PW.skip ?_
      | refine PW.exit ?_
      | refine PW.ret ?_
      | (refine hX1 ?_; clear hX1 hY1; try simp only [hb])
      | (refine hY1 ?_; clear hX1 hY1; try simp only [hb])
      | exact co_refl _
      | exact co_own _ _ _
      | exact co_nilsB
      | exact co_nilsL _ _
      | (refine opsO_nil ?_; refine hK2 _ ?_; clear hK2)
      | (refine keepO_intro ?_ ?_; focus (first | exact .inl (keep_same _ _) | exact .inl (keep_box _ _ _ _) | exact .inl (keep_hd _ _ _ _ _) | exact .inl (keep_02 _ _ _ _ _ _ _) | exact .inr ⟨rfl, rfl⟩))
      | (refine keepA_intro ?_ ?_; focus (first | exact keep_same _ _ | exact keep_box _ _ _ _ | exact keep_hd _ _ _ _ _ | exact keep_02 _ _ _ _ _ _ _))))
    | ((first | (with_reducible refine wantB_intro (fun hb => ?_) (fun hb => ?_)) | (with_reducible refine condB_intro (fun hb => ?_) (fun hb => ?_))) <;> ((try (have hp := hb; simp only [Bool.and_eq_true, Bool.or_eq_true, Bool.not_eq_true', Bool.not_eq_false', Bool.and_eq_false_iff, Bool.or_eq_false_iff, Bool.not_eq_eq_eq_not, Bool.not_true, Bool.not_false, decide_eq_true_eq, decide_eq_false_iff_not, Int.not_lt, Int.not_le, beq_iff_eq, beq_eq_false_iff_ne, ne_eq] at hp)); try simp only [hb, Bool.not_true, Bool.not_false]))
    | ((with_reducible refine PW.drawR (id := 12) mixed [] [(0, true), (1, true), (2, true), (3, true), (4, true), (5, true), (6, true), (7, true), (8, true), (9, true), (10, true), (11, true), (12, true), (13, false), (14, false), (15, true)] (by kernel_rfl) (by decide) fun K2 hK2 => ?_))
    | ((with_reducible refine And.intro ?_ ?_); (focus (first | omega | (simp; done) | assumption)))
    | (simp only [thenP]; (try ((repeat (fail_if_success (with_reducible refine hK1 _ ?_)); clear hK1); (with_reducible refine hK1 _ ?_); clear hK1)))
    | (with_reducible omega)
    | (assumption)
    | ((first | ((with_reducible refine opsP_cons fun K3 hK3 => ?_); simp only [wantP, opP, valP]) | ((with_reducible refine opsO_first (o := ?_) ?_ fun K3 hK3 => ?_); rotate_left 1; (focus (simp only [List.getElem?_toArray, List.getElem?_cons_succ, List.getElem?_cons_zero] <;> rfl)); simp only [wantP, firstP, valP, List.toList_toArray, Array.toList_empty, List.map_cons, List.map_nil, List.mapM_cons, List.mapM_nil, List.all_cons, List.all_nil]) | ((with_reducible refine opsO_only (o := ?_) ?_ fun K3 hK3 => ?_); rotate_left 1; (focus (simp only [List.getElem?_toArray, List.getElem?_cons_succ, List.getElem?_cons_zero] <;> rfl)); simp only [wantP, opP, valP, List.toList_toArray, Array.toList_empty, List.map_cons, List.map_nil, List.mapM_cons, List.mapM_nil, List.all_cons, List.all_nil]) | (with_reducible refine PW.condM fun X1 Y1 hX1 hY1 => ?_) | skip); simp (disch := omega) only [St.eval, St.put, avOf, avOf1, wf_i64, nom, Nat.reduceLT, Int.reduceLE, Int.reduceNeg, Vu, Vf, ↓reduceIte]; try (with_reducible (first | exact co_refl _ | exact co_own _ _ _ | exact co_nilsB | exact co_nilsL _ _))))
  (with_reducible refine PW.nil2ownL (bx := ?_) prmC 4 64 2 (by decide) ?_ ?_ ?_; rotate_left 1; (focus (simp only [upd_app, Nat.reduceEqDiff, ↓reduceIte])); (focus (exact rfl)))
  (with_reducible refine PW.loop (fun n s => ∃ (k : Nat) (l : List (List Int × List Int)), s.t 0 = bs b ∧ s.t 4 = .own 0 2 (encL prmC l) ∧ s.t 5 = .d (.int .i64 k) ∧ s.n = 56 ∧ s.m = ⟨[], [some ⟨64, 2, l.length⟩]⟩ ∧ k ≤ b.length ∧ l.length ≤ 32 ∧ n = b.length - k ∧ outP (b.drop k) l = paramsS b) b.length ?_ ?_)
  · exact ⟨0, [], rfl, rfl, rfl, rfl, rfl, Nat.zero_le _, by simp, rfl, outP_all b⟩
  rintro n ⟨t, nn, m⟩ ⟨k, l, h0, h4, h5, hn, hm, hk, hl, hnk, hs⟩ - -
  simp only at h0 h4 h5 hn hm
  subst hn hm
  by_cases hlt : (k : Int) < b.length
  · have hlt' := eq_true hlt
    obtain ⟨c, hx⟩ := get_lt (b := b) (i := k) (by omega)
    have hd : b.drop k = c :: b.drop (k + 1) := by
      obtain ⟨hk, rfl⟩ := List.getElem?_eq_some_iff.1 hx
      exact List.drop_eq_getElem_cons hk
    by_cases hc : c = 0
    · have hc' := eq_true hc
      have hS : paramsS b = if k + 1 = b.length then (l, 0) else ([], 230) := by
        rw [← hs, hd]
        unfold outP paramsF
        subst hc
        by_cases hr : k + 1 = b.length
        · have : b.drop (k + 1) = [] := List.drop_eq_nil_of_le (by omega)
          simp [hr]
        · have : b.drop (k + 1) ≠ [] := fun h => by have := congrArg List.length h; simp at this; omega
          simp [hr, this]
      repeat' (first
        | (with_reducible (first
          | refine PW.seq fun K1 hK1 => ?_
          | refine PW.region fun K2 hK2 => ?_
          | (refine hK3 _ ?_; clear hK3)
          | (refine opsP_nil ?_; refine hK2 _ ?_; clear hK2)
          | refine litX_old ?_
          | refine litC_data ?_
          | (refine Exists.intro _ (Exists.intro _ (And.intro rfl (And.intro rfl (And.intro ?_ ?_)))); focus omega)
          | (refine hK1 _ ?_; clear hK1)
          | refine nilC_intro (fun hz => ?_) ?_
          | refine PW.block ?_
          | refine PW.skip ?_
          | refine PW.exit ?_
          | refine PW.ret ?_
          | (refine hX1 ?_; clear hX1 hY1; try simp only [hb])
          | (refine hY1 ?_; clear hX1 hY1; try simp only [hb])
          | exact co_refl _
          | exact co_own _ _ _
          | exact co_nilsB
          | exact co_nilsL _ _
          | (refine opsO_nil ?_; refine hK2 _ ?_; clear hK2)
          | (refine keepO_intro ?_ ?_; focus (first | exact .inl (keep_same _ _) | exact .inl (keep_box _ _ _ _) | exact .inl (keep_hd _ _ _ _ _) | exact .inl (keep_02 _ _ _ _ _ _ _) | exact .inr ⟨rfl, rfl⟩))
          | (refine keepA_intro ?_ ?_; focus (first | exact keep_same _ _ | exact keep_box _ _ _ _ | exact keep_hd _ _ _ _ _ | exact keep_02 _ _ _ _ _ _ _))))
        | ((first | (with_reducible refine wantB_intro (fun hb => ?_) (fun hb => ?_)) | (with_reducible refine condB_intro (fun hb => ?_) (fun hb => ?_))) <;> ((try (have hp := hb; simp only [Bool.not_eq_eq_eq_not, Bool.not_true, Bool.not_false, decide_eq_true_eq, decide_eq_false_iff_not] at hp)); try simp only [hb, Bool.not_true, Bool.not_false]))
        | ((with_reducible refine PW.drawR (id := 12) mixed [] [(0, true), (1, true), (2, true), (3, true), (4, true), (5, true), (6, true), (7, true), (8, true), (9, true), (10, true), (11, true), (12, true), (13, false), (14, false), (15, true)] (by kernel_rfl) (by decide) fun K2 hK2 => ?_))
        | ((with_reducible refine And.intro ?_ ?_); (focus (first | omega | (simp; done) | assumption)))
        | (simp only [thenP, blockP, ↓reduceIte]; (try ((repeat (fail_if_success (with_reducible refine hK1 _ ?_)); clear hK1); (with_reducible refine hK1 _ ?_); clear hK1)))
        | (with_reducible omega)
        | (assumption)
        | ((first | ((with_reducible refine opsP_consMt (d := ?_) (dj := ?_) (b := ?_) (r := ?_) ?_ ?_ (fun hb => ?_) (fun K3 hK3 => ?_)); rotate_left 3; (focus exact rfl); (focus (simp only [upd_app, Nat.reduceEqDiff, ↓reduceIte]; exact rfl))) | ((with_reducible refine opsP_consMf (d := ?_) (dj := ?_) (b := ?_) (r := ?_) ?_ ?_ (fun hb => ?_) (fun K3 hK3 => ?_)); rotate_left 3; (focus exact rfl); (focus (simp only [St.put, upd_app, iniT_app, Nat.reduceEqDiff, ↓reduceIte, mrg_t, mrg_f]; exact rfl))) | ((with_reducible refine opsP_consNt (d := ?_) (dj := ?_) (b := ?_) (r := ?_) (c := ?_) ?_ ?_ (fun hb => ?_) (fun K3 hK3 => ?_)); rotate_left 4; (focus exact rfl); (focus (simp only [St.put, upd_app, iniT_app, Nat.reduceEqDiff, ↓reduceIte, mrg_t, mrg_f]; exact rfl))) | ((with_reducible refine opsP_consNf (d := ?_) (dj := ?_) (b := ?_) (r := ?_) (c := ?_) ?_ ?_ (fun hb => ?_) (fun K3 hK3 => ?_)); rotate_left 4; (focus exact rfl); (focus (simp only [St.put, upd_app, iniT_app, Nat.reduceEqDiff, ↓reduceIte, mrg_t, mrg_f]; exact rfl)))); (focus (simp only [opP, valP]; (try (simp only at hb)); (try (have hp := hb; simp only [Bool.and_eq_true, Bool.or_eq_true, Bool.not_eq_true', Bool.not_eq_false', Bool.and_eq_false_iff, Bool.or_eq_false_iff, Bool.not_eq_eq_eq_not, Bool.not_true, Bool.not_false, decide_eq_true_eq, decide_eq_false_iff_not, Int.not_lt, Int.not_le, beq_iff_eq, beq_eq_false_iff_ne, ne_eq] at hp)); simp (disch := omega) only [St.eval, upd_app, avOf, avOf1, wf_u8, loadA, binP, intsP, intP, nilP, slA, encB_get, Ur, Us, V2, V7, Nat.reduceEqDiff, Int.reduceLE, Vu, Vf, Vn, ↓reduceIte, reduceCtorEq, Vw, Vx, Vz, UU0, Vs, sz5, el22, h0, h5, hx, hc']; (repeat' (first | (exact rfl) | ((refine And.intro ?_ ?_); (focus (exact rfl)); (exact rfl)) | (refine And.intro (by first | omega | (simp; done) | assumption) ?_))); done)); (try simp only [St.put, Nat.reduceLT, ↓reduceIte, mrg_t]))
        | ((first | ((with_reducible refine opsP_cons fun K3 hK3 => ?_); simp only [wantP, opP, valP, List.map_cons, List.map_nil]) | ((with_reducible refine opsO_first (o := ?_) ?_ fun K3 hK3 => ?_); rotate_left 1; (focus (simp only [List.getElem?_toArray, List.getElem?_cons_succ, List.getElem?_cons_zero] <;> rfl)); simp only [wantP, firstP, valP, List.toList_toArray, Array.toList_empty, List.map_cons, List.map_nil, List.mapM_cons, List.mapM_nil, List.all_cons, List.all_nil]) | ((with_reducible refine opsO_only (o := ?_) ?_ fun K3 hK3 => ?_); rotate_left 1; (focus (simp only [List.getElem?_toArray, List.getElem?_cons_succ, List.getElem?_cons_zero] <;> rfl)); simp only [wantP, opP, valP, List.toList_toArray, Array.toList_empty, List.map_cons, List.map_nil, List.mapM_cons, List.mapM_nil, List.all_cons, List.all_nil]) | (with_reducible refine PW.condM fun X1 Y1 hX1 hY1 => ?_) | skip); simp (disch := omega) only [St.eval, St.put, upd_app, avOf, avOf1, wf_i64, lenP, binP, intsP, intP, nilP, builtinP, wi_i64, isMapA, slA, encB_len, Nat.reduceLT, Nat.reduceEqDiff, Vd, Ve, Int.reduceLE, Int.reduceNeg, Vu, Vf, ↓reduceIte, Vp, reduceCtorEq, Vw, Vz, UU0, Tryd.underlying22, h0, h4, h5, hlt', retQ, resP, tupA, fg, fgs, condP, condB_f]; try (with_reducible (first | exact co_refl _ | exact co_own _ _ _ | exact co_nilsB | exact co_nilsL _ _))))
      all_goals (try (focus ((try simp only [hS]); (repeat' split) <;> (first | (exfalso; omega) | ((try ((with_reducible refine And.intro ?_ ?_); rotate_left 1; (focus (first | exact subM_row1 | exact subM_nom _ | (refine subM_box1 ?_; simp only [fgs, fg]; (repeat' (first | exact cos_refl _ | refine cos_cons ?_ ?_ | exact co_refl _ | exact co_nilsB | exact co_own _ _ _ | exact co_nilsL _ _ | exact co_nils _ | refine co_agg ?_ | refine co_tup ?_)); done))))); (first | ((repeat' (first | exact cos_refl _ | refine cos_cons ?_ ?_ | exact co_refl _ | exact co_nilsB | exact co_own _ _ _ | exact co_nilsL _ _ | exact co_nils _ | refine co_agg ?_ | refine co_tup ?_)); done) | (refine co_eq ?_; simp_all; done))) | (exfalso; simp_all; done)))))
    · have hc' := eq_false hc
      by_cases hl32 : (l.length : Int) = 32
      · have hl' := eq_true hl32
        have hS : paramsS b = ([], 231) := by
          rw [← hs, hd]
          unfold outP paramsF
          have : l.length = 32 := by omega
          simp [hc, this]
        repeat' (first
          | (with_reducible (first
            | refine PW.seq fun K1 hK1 => ?_
            | refine PW.region fun K2 hK2 => ?_
            | (refine hK3 _ ?_; clear hK3)
            | (refine opsP_nil ?_; refine hK2 _ ?_; clear hK2)
            | refine litX_old ?_
            | refine litC_data ?_
            | (refine Exists.intro _ (Exists.intro _ (And.intro rfl (And.intro rfl (And.intro ?_ ?_)))); focus omega)
            | (refine hK1 _ ?_; clear hK1)
            | refine nilC_intro (fun hz => ?_) ?_
            | refine PW.block ?_
            | refine PW.skip ?_
            | refine PW.exit ?_
            | refine PW.ret ?_
            | (refine hX1 ?_; clear hX1 hY1; try simp only [hb])
            | (refine hY1 ?_; clear hX1 hY1; try simp only [hb])
            | exact co_refl _
            | exact co_own _ _ _
            | exact co_nilsB
            | exact co_nilsL _ _
            | (refine opsO_nil ?_; refine hK2 _ ?_; clear hK2)
            | (refine keepO_intro ?_ ?_; focus (first | exact .inl (keep_same _ _) | exact .inl (keep_box _ _ _ _) | exact .inl (keep_hd _ _ _ _ _) | exact .inl (keep_02 _ _ _ _ _ _ _) | exact .inr ⟨rfl, rfl⟩))
            | (refine keepA_intro ?_ ?_; focus (first | exact keep_same _ _ | exact keep_box _ _ _ _ | exact keep_hd _ _ _ _ _ | exact keep_02 _ _ _ _ _ _ _))))
          | ((first | (with_reducible refine wantB_intro (fun hb => ?_) (fun hb => ?_)) | (with_reducible refine condB_intro (fun hb => ?_) (fun hb => ?_))) <;> ((try (have hp := hb; simp only [Bool.and_eq_true, Bool.or_eq_true, Bool.not_eq_true', Bool.not_eq_false', Bool.and_eq_false_iff, Bool.or_eq_false_iff, Bool.not_eq_eq_eq_not, Bool.not_true, Bool.not_false, decide_eq_true_eq, decide_eq_false_iff_not, Int.not_lt, Int.not_le, beq_iff_eq, beq_eq_false_iff_ne, ne_eq] at hp)); try simp only [hb, Bool.not_true, Bool.not_false]))
          | ((with_reducible refine PW.drawR (id := 12) mixed [] [(0, true), (1, true), (2, true), (3, true), (4, true), (5, true), (6, true), (7, true), (8, true), (9, true), (10, true), (11, true), (12, true), (13, false), (14, false), (15, true)] (by kernel_rfl) (by decide) fun K2 hK2 => ?_))
          | ((with_reducible refine And.intro ?_ ?_); (focus (first | omega | (simp; done) | assumption)))
          | (simp only [thenP, blockP]; (try ((repeat (fail_if_success (with_reducible refine hK1 _ ?_)); clear hK1); (with_reducible refine hK1 _ ?_); clear hK1)))
          | (with_reducible omega)
          | (assumption)
          | ((first | ((with_reducible refine opsP_consMt (d := ?_) (dj := ?_) (b := ?_) (r := ?_) ?_ ?_ (fun hb => ?_) (fun K3 hK3 => ?_)); rotate_left 3; (focus exact rfl); (focus (simp only [upd_app, Nat.reduceEqDiff, ↓reduceIte]; exact rfl))) | ((with_reducible refine opsP_consMf (d := ?_) (dj := ?_) (b := ?_) (r := ?_) ?_ ?_ (fun hb => ?_) (fun K3 hK3 => ?_)); rotate_left 3; (focus exact rfl); (focus (simp only [St.put, upd_app, iniT_app, Nat.reduceEqDiff, ↓reduceIte, mrg_t, mrg_f]; exact rfl))) | ((with_reducible refine opsP_consNt (d := ?_) (dj := ?_) (b := ?_) (r := ?_) (c := ?_) ?_ ?_ (fun hb => ?_) (fun K3 hK3 => ?_)); rotate_left 4; (focus exact rfl); (focus (simp only [St.put, upd_app, iniT_app, Nat.reduceEqDiff, ↓reduceIte, mrg_t, mrg_f]; exact rfl))) | ((with_reducible refine opsP_consNf (d := ?_) (dj := ?_) (b := ?_) (r := ?_) (c := ?_) ?_ ?_ (fun hb => ?_) (fun K3 hK3 => ?_)); rotate_left 4; (focus exact rfl); (focus (simp only [St.put, upd_app, iniT_app, Nat.reduceEqDiff, ↓reduceIte, mrg_t, mrg_f]; exact rfl)))); (focus (simp only [opP, valP]; (try (simp only at hb)); (try (have hp := hb; simp only [Bool.and_eq_true, Bool.or_eq_true, Bool.not_eq_true', Bool.not_eq_false', Bool.and_eq_false_iff, Bool.or_eq_false_iff, Bool.not_eq_eq_eq_not, Bool.not_true, Bool.not_false, decide_eq_true_eq, decide_eq_false_iff_not, Int.not_lt, Int.not_le, beq_iff_eq, beq_eq_false_iff_ne, ne_eq] at hp)); simp (disch := omega) only [St.eval, upd_app, avOf, avOf1, wf_u8, loadA, binP, intsP, intP, nilP, slA, encB_get, Ur, Us, V2, V7, Nat.reduceEqDiff, Int.reduceLE, Vu, Vv, Vf, Vo, ↓reduceIte, reduceCtorEq, Vw, Vx, Vz, UU0, Vs, sz5, el22, h0, h5, hx, hc']; (repeat' (first | (exact rfl) | ((refine And.intro ?_ ?_); (focus (exact rfl)); (exact rfl)) | (refine And.intro (by first | omega | (simp; done) | assumption) ?_))); done)); (try simp only [St.put, Nat.reduceLT, ↓reduceIte, mrg_t]))
          | ((first | ((with_reducible refine opsP_cons fun K3 hK3 => ?_); simp only [wantP, opP, valP, List.map_cons, List.map_nil]) | ((with_reducible refine opsO_first (o := ?_) ?_ fun K3 hK3 => ?_); rotate_left 1; (focus (simp only [List.getElem?_toArray, List.getElem?_cons_succ, List.getElem?_cons_zero] <;> rfl)); simp only [wantP, firstP, valP, List.toList_toArray, Array.toList_empty, List.map_cons, List.map_nil, List.mapM_cons, List.mapM_nil, List.all_cons, List.all_nil]) | ((with_reducible refine opsO_only (o := ?_) ?_ fun K3 hK3 => ?_); rotate_left 1; (focus (simp only [List.getElem?_toArray, List.getElem?_cons_succ, List.getElem?_cons_zero] <;> rfl)); simp only [wantP, opP, valP, List.toList_toArray, Array.toList_empty, List.map_cons, List.map_nil, List.mapM_cons, List.mapM_nil, List.all_cons, List.all_nil]) | (with_reducible refine PW.condM fun X1 Y1 hX1 hY1 => ?_) | skip); simp (disch := omega) only [St.eval, St.put, upd_app, avOf, avOf1, wf_i64, lenP, binP, intsP, intP, nilP, builtinP, isMapA, slA, encB_len, encL_len, Nat.reduceLT, Nat.reduceEqDiff, Int.reduceLE, Int.reduceNeg, Vu, Vf, ↓reduceIte, Vp, reduceCtorEq, Vw, Vz, UU0, Tryd.underlying22, Tryd.underlying24, h0, h4, h5, hlt', hl', retQ, resP, tupA, fg, fgs, condP, condB_t]; try (with_reducible (first | exact co_refl _ | exact co_own _ _ _ | exact co_nilsB | exact co_nilsL _ _))))
        all_goals (try (focus ((try simp only [hS]); (repeat' split) <;> (first | (exfalso; omega) | ((try ((with_reducible refine And.intro ?_ ?_); rotate_left 1; (focus (first | exact subM_row1 | exact subM_nom _ | (refine subM_box1 ?_; simp only [fgs, fg]; (repeat' (first | exact cos_refl _ | refine cos_cons ?_ ?_ | exact co_refl _ | exact co_nilsB | exact co_own _ _ _ | exact co_nilsL _ _ | exact co_nils _ | refine co_agg ?_ | refine co_tup ?_)); done))))); (first | ((repeat' (first | exact cos_refl _ | refine cos_cons ?_ ?_ | exact co_refl _ | exact co_nilsB | exact co_own _ _ _ | exact co_nilsL _ _ | exact co_nils _ | refine co_agg ?_ | refine co_tup ?_)); done) | (refine co_eq ?_; simp_all; done))) | (exfalso; simp_all; done)))))
      · have hl' := eq_false hl32
        cases h1 : cut0 (b.drop k) with
        | none =>
          have he1 : endS b k = -1 := by unfold endS; rw [h1]
          have hS : paramsS b = ([], 230) := by
            rw [← hs]
            rw [hd] at h1 ⊢
            unfold outP paramsF
            have : l.length ≠ 32 := by omega
            simp [hc, h1, this]
          repeat' (first
            | (with_reducible (first
              | refine PW.seq fun K1 hK1 => ?_
              | refine PW.region fun K2 hK2 => ?_
              | (refine hK3 _ ?_; clear hK3)
              | (refine opsP_nil ?_; refine hK2 _ ?_; clear hK2)
              | refine litX_old ?_
              | refine litC_data ?_
              | (refine Exists.intro _ (Exists.intro _ (And.intro rfl (And.intro rfl (And.intro ?_ ?_)))); focus omega)
              | (refine hK1 _ ?_; clear hK1)
              | refine nilC_intro (fun hz => ?_) ?_
              | refine PW.block ?_
              | refine PW.skip ?_
              | refine PW.exit ?_
              | refine PW.ret ?_
              | (refine hX1 ?_; clear hX1 hY1; try simp only [hb])
              | (refine hY1 ?_; clear hX1 hY1; try simp only [hb])
              | exact co_refl _
              | exact co_own _ _ _
              | exact co_nilsB
              | exact co_nilsL _ _
              | (refine opsO_nil ?_; refine hK2 _ ?_; clear hK2)
              | (refine keepO_intro ?_ ?_; focus (first | exact .inl (keep_same _ _) | exact .inl (keep_box _ _ _ _) | exact .inl (keep_hd _ _ _ _ _) | exact .inl (keep_02 _ _ _ _ _ _ _) | exact .inr ⟨rfl, rfl⟩))
              | (refine keepA_intro ?_ ?_; focus (first | exact keep_same _ _ | exact keep_box _ _ _ _ | exact keep_hd _ _ _ _ _ | exact keep_02 _ _ _ _ _ _ _))))
            | ((first | (with_reducible refine wantB_intro (fun hb => ?_) (fun hb => ?_)) | (with_reducible refine condB_intro (fun hb => ?_) (fun hb => ?_))) <;> ((try (have hp := hb; simp only [Bool.and_eq_true, Bool.or_eq_true, Bool.not_eq_true', Bool.not_eq_false', Bool.and_eq_false_iff, Bool.or_eq_false_iff, Bool.not_eq_eq_eq_not, Bool.not_true, Bool.not_false, decide_eq_true_eq, decide_eq_false_iff_not, Int.not_lt, Int.not_le, beq_iff_eq, beq_eq_false_iff_ne, ne_eq] at hp)); try simp only [hb, Bool.not_true, Bool.not_false]))
            | ((with_reducible refine callP_pure ?_ ?_ (pEnd b k) (fun _ => ?_)); (focus (repeat' (first | exact cos_refl _ | (refine cos_cons ?_ ?_) | exact co_refl _ | exact co_own _ _ _ | exact co_nilsB | exact co_nilsL _ _ | exact co_nils _ | (refine co_agg ?_) | (refine co_fn ?_)))); (focus (simp only [purAs, purA, Bool.and_self])))
            | ((with_reducible refine firstP_call ?_ ?_ (pEnd b k) ?_); (focus (repeat' (first | exact cos_refl _ | (refine cos_cons ?_ ?_) | exact co_refl _ | exact co_own _ _ _ | exact co_nilsB | exact co_nilsL _ _ | exact co_nils _ | (refine co_agg ?_) | (refine co_fn ?_)))); (focus (simp only [purAs, purA, Bool.and_self, Bool.and_true, h0, h4, h5, hlt', hx, hc', hl', he1])))
            | ((with_reducible refine PW.drawR (id := 12) mixed [] [(0, true), (1, true), (2, true), (3, true), (4, true), (5, true), (6, true), (7, true), (8, true), (9, true), (10, true), (11, true), (12, true), (13, false), (14, false), (15, true)] (by kernel_rfl) (by decide) fun K2 hK2 => ?_))
            | ((with_reducible refine And.intro ?_ ?_); (focus (first | omega | (simp; done) | assumption)))
            | (simp only [thenP, blockP]; (try ((repeat (fail_if_success (with_reducible refine hK1 _ ?_)); clear hK1); (with_reducible refine hK1 _ ?_); clear hK1)))
            | (with_reducible omega)
            | (assumption)
            | ((first | ((with_reducible refine opsP_consMt (d := ?_) (dj := ?_) (b := ?_) (r := ?_) ?_ ?_ (fun hb => ?_) (fun K3 hK3 => ?_)); rotate_left 3; (focus exact rfl); (focus (simp only [upd_app, Nat.reduceEqDiff, ↓reduceIte]; exact rfl))) | ((with_reducible refine opsP_consMf (d := ?_) (dj := ?_) (b := ?_) (r := ?_) ?_ ?_ (fun hb => ?_) (fun K3 hK3 => ?_)); rotate_left 3; (focus exact rfl); (focus (simp only [St.put, upd_app, iniT_app, Nat.reduceEqDiff, ↓reduceIte, mrg_t, mrg_f]; exact rfl))) | ((with_reducible refine opsP_consNt (d := ?_) (dj := ?_) (b := ?_) (r := ?_) (c := ?_) ?_ ?_ (fun hb => ?_) (fun K3 hK3 => ?_)); rotate_left 4; (focus exact rfl); (focus (simp only [St.put, upd_app, iniT_app, Nat.reduceEqDiff, ↓reduceIte, mrg_t, mrg_f]; exact rfl))) | ((with_reducible refine opsP_consNf (d := ?_) (dj := ?_) (b := ?_) (r := ?_) (c := ?_) ?_ ?_ (fun hb => ?_) (fun K3 hK3 => ?_)); rotate_left 4; (focus exact rfl); (focus (simp only [St.put, upd_app, iniT_app, Nat.reduceEqDiff, ↓reduceIte, mrg_t, mrg_f]; exact rfl)))); (focus (simp only [opP, valP]; (try (simp only at hb)); (try (have hp := hb; simp only [Bool.and_eq_true, Bool.or_eq_true, Bool.not_eq_true', Bool.not_eq_false', Bool.and_eq_false_iff, Bool.or_eq_false_iff, Bool.not_eq_eq_eq_not, Bool.not_true, Bool.not_false, decide_eq_true_eq, decide_eq_false_iff_not, Int.not_lt, Int.not_le, beq_iff_eq, beq_eq_false_iff_ne, ne_eq] at hp)); simp (disch := omega) only [St.eval, upd_app, avOf, avOf1, wf_u8, loadA, binP, intsP, intP, nilP, slA, encB_get, Ur, Us, V2, V7, Nat.reduceEqDiff, Int.reduceLE, Vu, Vv, Vf, Vo, ↓reduceIte, reduceCtorEq, Vw, Vx, Vz, UU0, Vs, sz5, el22, h0, h5, hx, hc']; (repeat' (first | (exact rfl) | ((refine And.intro ?_ ?_); (focus (exact rfl)); (exact rfl)) | (refine And.intro (by first | omega | (simp; done) | assumption) ?_) | ((with_reducible refine callP_pure ?_ ?_ (pEnd b k) (fun _ => ?_)); (focus (repeat' (first | exact cos_refl _ | (refine cos_cons ?_ ?_) | exact co_refl _ | exact co_own _ _ _ | exact co_nilsB | exact co_nilsL _ _ | exact co_nils _ | (refine co_agg ?_) | (refine co_fn ?_)))); (focus (simp only [purAs, purA, Bool.and_self, Bool.and_true, h0, h4, h5, hlt', hx, hc', hl', he1]))))); done)); (try simp only [St.put, Nat.reduceLT, ↓reduceIte, mrg_t]))
            | ((first | ((with_reducible refine opsP_cons fun K3 hK3 => ?_); simp only [wantP, opP, valP, List.map_cons, List.map_nil]) | ((with_reducible refine opsO_first (o := ?_) ?_ fun K3 hK3 => ?_); rotate_left 1; (focus (simp only [List.getElem?_toArray, List.getElem?_cons_succ, List.getElem?_cons_zero] <;> rfl)); simp only [wantP, firstP, valP, List.toList_toArray, Array.toList_empty, List.map_cons, List.map_nil, List.mapM_cons, List.mapM_nil, List.all_cons, List.all_nil]) | ((with_reducible refine opsO_only (o := ?_) ?_ fun K3 hK3 => ?_); rotate_left 1; (focus (simp only [List.getElem?_toArray, List.getElem?_cons_succ, List.getElem?_cons_zero] <;> rfl)); simp only [wantP, opP, valP, List.toList_toArray, Array.toList_empty, List.map_cons, List.map_nil, List.mapM_cons, List.mapM_nil, List.all_cons, List.all_nil]) | (with_reducible refine PW.condM fun X1 Y1 hX1 hY1 => ?_) | skip); simp (disch := omega) only [St.eval, St.put, upd_app, avOf, avOf1, wf_i64, lenP, binP, intsP, intP, nilP, builtinP, isMapA, slA, encB_len, encL_len, Uv, Nat.reduceLT, Nat.reduceEqDiff, Int.reduceLE, Int.reduceLT, Int.reduceNeg, Vu, Vv, Vf, ↓reduceIte, Vp, reduceCtorEq, Vw, Vz, UU0, Tryd.underlying22, Tryd.underlying24, h0, h4, h5, hlt', hl', he1, retQ, resP, tupA, fg, fgs, condP, condB_t, condB_f]; try (with_reducible (first | exact co_refl _ | exact co_own _ _ _ | exact co_nilsB | exact co_nilsL _ _))))
          all_goals (try (focus ((try simp only [hS]); (repeat' split) <;> (first | (exfalso; omega) | ((try ((with_reducible refine And.intro ?_ ?_); rotate_left 1; (focus (first | exact subM_row1 | exact subM_nom _ | (refine subM_box1 ?_; simp only [fgs, fg]; (repeat' (first | exact cos_refl _ | refine cos_cons ?_ ?_ | exact co_refl _ | exact co_nilsB | exact co_own _ _ _ | exact co_nilsL _ _ | exact co_nils _ | refine co_agg ?_ | refine co_tup ?_)); done))))); (first | ((repeat' (first | exact cos_refl _ | refine cos_cons ?_ ?_ | exact co_refl _ | exact co_nilsB | exact co_own _ _ _ | exact co_nilsL _ _ | exact co_nils _ | refine co_agg ?_ | refine co_tup ?_)); done) | (refine co_eq ?_; simp_all; done))) | (exfalso; simp_all; done)))))
        | some p =>
          obtain ⟨nm, r1⟩ := p
          have l1 := cut0_len h1
          have hr1 : r1 = b.drop (k + nm.length + 1) := by
            have := (cut0_spec h1).1
            have h2 : b.drop (k + nm.length + 1) = (b.drop k).drop (nm.length + 1) := by rw [List.drop_drop]; rfl
            rw [h2, this]
            simp
          have he1 : endS b k = ((k + nm.length : Nat) : Int) := by unfold endS; rw [h1]
          rw [List.length_drop] at l1
          have hz : ((k + nm.length : Nat) : Int) + 1 = ((k + nm.length + 1 : Nat) : Int) := by omega
          obtain ⟨e1, hE⟩ : ∃ e1, e1 = k + nm.length := ⟨_, rfl⟩
          rw [← hE] at he1 hz hr1
          obtain ⟨f1, hF⟩ : ∃ f1, f1 = e1 + 1 := ⟨_, rfl⟩
          rw [← hF] at hz hr1
          cases h2 : cut0 r1 with
          | none =>
            have he2 : endS b f1 = -1 := by unfold endS; rw [← hr1, h2]
            have hS : paramsS b = ([], 230) := by
              rw [← hs]
              rw [hd] at h1 ⊢
              unfold outP paramsF
              have : l.length ≠ 32 := by omega
              simp [hc, h1, h2, this]
            repeat' (first
              | (with_reducible (first
                | refine PW.seq fun K1 hK1 => ?_
                | refine PW.region fun K2 hK2 => ?_
                | (refine hK3 _ ?_; clear hK3)
                | (refine opsP_nil ?_; refine hK2 _ ?_; clear hK2)
                | refine litX_old ?_
                | refine litC_data ?_
                | (refine Exists.intro _ (Exists.intro _ (And.intro rfl (And.intro rfl (And.intro ?_ ?_)))); focus omega)
                | (refine hK1 _ ?_; clear hK1)
                | refine nilC_intro (fun hz => ?_) ?_
                | refine PW.block ?_
                | refine PW.skip ?_
                | refine PW.exit ?_
                | refine PW.ret ?_
                | (refine hX1 ?_; clear hX1 hY1; try simp only [hb])
                | (refine hY1 ?_; clear hX1 hY1; try simp only [hb])
                | exact co_refl _
                | exact co_own _ _ _
                | exact co_nilsB
                | exact co_nilsL _ _
                | (refine opsO_nil ?_; refine hK2 _ ?_; clear hK2)
                | (refine keepO_intro ?_ ?_; focus (first | exact .inl (keep_same _ _) | exact .inl (keep_box _ _ _ _) | exact .inl (keep_hd _ _ _ _ _) | exact .inl (keep_02 _ _ _ _ _ _ _) | exact .inr ⟨rfl, rfl⟩))
                | (refine keepA_intro ?_ ?_; focus (first | exact keep_same _ _ | exact keep_box _ _ _ _ | exact keep_hd _ _ _ _ _ | exact keep_02 _ _ _ _ _ _ _))))
              | ((first | (with_reducible refine wantB_intro (fun hb => ?_) (fun hb => ?_)) | (with_reducible refine condB_intro (fun hb => ?_) (fun hb => ?_))) <;> ((try (have hp := hb; simp only [decide_eq_true_eq, decide_eq_false_iff_not, Int.not_lt] at hp)); try simp only [hb, Bool.not_true, Bool.not_false]))
              | ((with_reducible refine callP_pure ?_ ?_ (pEnd b k) (fun _ => ?_)); (focus (repeat' (first | exact cos_refl _ | (refine cos_cons ?_ ?_) | exact co_refl _ | exact co_own _ _ _ | exact co_nilsB | exact co_nilsL _ _ | exact co_nils _ | (refine co_agg ?_) | (refine co_fn ?_)))); (focus (simp only [purAs, purA, Bool.and_self])))
              | ((with_reducible refine callP_pure ?_ ?_ (pEnd b f1) (fun _ => ?_)); (focus (repeat' (first | exact cos_refl _ | (refine cos_cons ?_ ?_) | exact co_refl _ | exact co_own _ _ _ | exact co_nilsB | exact co_nilsL _ _ | exact co_nils _ | (refine co_agg ?_) | (refine co_fn ?_)))); (focus (simp only [purAs, purA, Bool.and_self])))
              | ((with_reducible refine firstP_call ?_ ?_ (pEnd b k) ?_); (focus (repeat' (first | exact cos_refl _ | (refine cos_cons ?_ ?_) | exact co_refl _ | exact co_own _ _ _ | exact co_nilsB | exact co_nilsL _ _ | exact co_nils _ | (refine co_agg ?_) | (refine co_fn ?_)))); (focus (simp only [purAs, purA, Bool.and_self, Bool.and_true, h0, h4, h5, hlt', hx, hc', hl', he1, he2, hz])))
              | ((with_reducible refine firstP_call ?_ ?_ (pEnd b f1) ?_); (focus (repeat' (first | exact cos_refl _ | (refine cos_cons ?_ ?_) | exact co_refl _ | exact co_own _ _ _ | exact co_nilsB | exact co_nilsL _ _ | exact co_nils _ | (refine co_agg ?_) | (refine co_fn ?_)))); (focus (simp only [purAs, purA, Bool.and_self, Bool.and_true, h0, h4, h5, hlt', hx, hc', hl', he1, he2, hz])))
              | ((with_reducible refine PW.drawR (id := 12) mixed [] [(0, true), (1, true), (2, true), (3, true), (4, true), (5, true), (6, true), (7, true), (8, true), (9, true), (10, true), (11, true), (12, true), (13, false), (14, false), (15, true)] (by kernel_rfl) (by decide) fun K2 hK2 => ?_))
              | ((with_reducible refine And.intro ?_ ?_); (focus (first | omega | (simp; done) | assumption)))
              | (simp only [thenP, blockP]; (try ((repeat (fail_if_success (with_reducible refine hK1 _ ?_)); clear hK1); (with_reducible refine hK1 _ ?_); clear hK1)))
              | (with_reducible omega)
              | (assumption)
              | ((first | ((with_reducible refine opsP_consMt (d := ?_) (dj := ?_) (b := ?_) (r := ?_) ?_ ?_ (fun hb => ?_) (fun K3 hK3 => ?_)); rotate_left 3; (focus exact rfl); (focus (simp only [upd_app, Nat.reduceEqDiff, ↓reduceIte]; exact rfl))) | ((with_reducible refine opsP_consMf (d := ?_) (dj := ?_) (b := ?_) (r := ?_) ?_ ?_ (fun hb => ?_) (fun K3 hK3 => ?_)); rotate_left 3; (focus exact rfl); (focus (simp only [St.put, upd_app, iniT_app, Nat.reduceEqDiff, ↓reduceIte, mrg_t, mrg_f]; exact rfl))) | ((with_reducible refine opsP_consNt (d := ?_) (dj := ?_) (b := ?_) (r := ?_) (c := ?_) ?_ ?_ (fun hb => ?_) (fun K3 hK3 => ?_)); rotate_left 4; (focus exact rfl); (focus (simp only [St.put, upd_app, iniT_app, Nat.reduceEqDiff, ↓reduceIte, mrg_t, mrg_f]; exact rfl))) | ((with_reducible refine opsP_consNf (d := ?_) (dj := ?_) (b := ?_) (r := ?_) (c := ?_) ?_ ?_ (fun hb => ?_) (fun K3 hK3 => ?_)); rotate_left 4; (focus exact rfl); (focus (simp only [St.put, upd_app, iniT_app, Nat.reduceEqDiff, ↓reduceIte, mrg_t, mrg_f]; exact rfl)))); (focus (simp only [opP, valP]; (try (simp only at hb)); (try (have hp := hb; simp only [Bool.and_eq_true, Bool.or_eq_true, Bool.not_eq_true', Bool.not_eq_false', Bool.and_eq_false_iff, Bool.or_eq_false_iff, Bool.not_eq_eq_eq_not, Bool.not_true, Bool.not_false, decide_eq_true_eq, decide_eq_false_iff_not, Int.not_lt, Int.not_le, beq_iff_eq, beq_eq_false_iff_ne, ne_eq] at hp)); simp (disch := omega) only [St.eval, upd_app, avOf, avOf1, wf_u8, loadA, binP, intsP, intP, nilP, slA, encB_get, Ur, Us, V2, V7, Nat.reduceEqDiff, Int.reduceLE, Vu, Vv, Vf, Vo, ↓reduceIte, reduceCtorEq, Vw, Vx, Vz, UU0, Vs, sz5, el22, h0, h5, hx, hc']; (repeat' (first | (exact rfl) | ((refine And.intro ?_ ?_); (focus (exact rfl)); (exact rfl)) | (refine And.intro (by first | omega | (simp; done) | assumption) ?_) | ((with_reducible refine callP_pure ?_ ?_ (pEnd b k) (fun _ => ?_)); (focus (repeat' (first | exact cos_refl _ | (refine cos_cons ?_ ?_) | exact co_refl _ | exact co_own _ _ _ | exact co_nilsB | exact co_nilsL _ _ | exact co_nils _ | (refine co_agg ?_) | (refine co_fn ?_)))); (focus (simp only [purAs, purA, Bool.and_self, Bool.and_true, h0, h4, h5, hlt', hx, hc', hl', he1, he2, hz]))) | ((with_reducible refine callP_pure ?_ ?_ (pEnd b f1) (fun _ => ?_)); (focus (repeat' (first | exact cos_refl _ | (refine cos_cons ?_ ?_) | exact co_refl _ | exact co_own _ _ _ | exact co_nilsB | exact co_nilsL _ _ | exact co_nils _ | (refine co_agg ?_) | (refine co_fn ?_)))); (focus (simp only [purAs, purA, Bool.and_self, Bool.and_true, h0, h4, h5, hlt', hx, hc', hl', he1, he2, hz]))))); done)); (try simp only [St.put, Nat.reduceLT, ↓reduceIte, mrg_t]))
              | ((first | ((with_reducible refine opsP_cons fun K3 hK3 => ?_); simp only [wantP, opP, valP, List.map_cons, List.map_nil]) | ((with_reducible refine opsO_first (o := ?_) ?_ fun K3 hK3 => ?_); rotate_left 1; (focus (simp only [List.getElem?_toArray, List.getElem?_cons_succ, List.getElem?_cons_zero] <;> rfl)); simp only [wantP, firstP, valP, List.toList_toArray, Array.toList_empty, List.map_cons, List.map_nil, List.mapM_cons, List.mapM_nil, List.all_cons, List.all_nil]) | ((with_reducible refine opsO_only (o := ?_) ?_ fun K3 hK3 => ?_); rotate_left 1; (focus (simp only [List.getElem?_toArray, List.getElem?_cons_succ, List.getElem?_cons_zero] <;> rfl)); simp only [wantP, opP, valP, List.toList_toArray, Array.toList_empty, List.map_cons, List.map_nil, List.mapM_cons, List.mapM_nil, List.all_cons, List.all_nil]) | (with_reducible refine PW.condM fun X1 Y1 hX1 hY1 => ?_) | skip); simp (disch := omega) only [St.eval, St.put, upd_app, avOf, avOf1, wf_i64, lenP, binP, intsP, intP, nilP, builtinP, wi_i64, isMapA, slA, encB_len, encL_len, Uv, Nat.reduceLT, Nat.reduceEqDiff, Int.reduceLE, Int.reduceLT, Int.reduceNeg, Vu, Vv, Vf, ↓reduceIte, Vp, reduceCtorEq, Vw, Vz, UU0, Tryd.underlying22, Tryd.underlying24, h0, h4, h5, hlt', hl', he1, he2, hz, retQ, resP, tupA, fg, fgs, condP, condB_t, condB_f]; try (with_reducible (first | exact co_refl _ | exact co_own _ _ _ | exact co_nilsB | exact co_nilsL _ _))))
            all_goals (try (focus ((try simp only [hS]); (repeat' split) <;> (first | (exfalso; omega) | ((try ((with_reducible refine And.intro ?_ ?_); rotate_left 1; (focus (first | exact subM_row1 | exact subM_nom _ | (refine subM_box1 ?_; simp only [fgs, fg]; (repeat' (first | exact cos_refl _ | refine cos_cons ?_ ?_ | exact co_refl _ | exact co_nilsB | exact co_own _ _ _ | exact co_nilsL _ _ | exact co_nils _ | refine co_agg ?_ | refine co_tup ?_)); done))))); (first | ((repeat' (first | exact cos_refl _ | refine cos_cons ?_ ?_ | exact co_refl _ | exact co_nilsB | exact co_own _ _ _ | exact co_nilsL _ _ | exact co_nils _ | refine co_agg ?_ | refine co_tup ?_)); done) | (refine co_eq ?_; simp_all; done))) | (exfalso; simp_all; done)))))
          | some q =>
            obtain ⟨v, r2⟩ := q
            have l2 := cut0_len h2
            have l1' := congrArg List.length hr1
            rw [List.length_drop] at l1'
            have he2 : endS b f1 = ((f1 + v.length : Nat) : Int) := by unfold endS; rw [← hr1, h2]
            obtain ⟨e2, hE2⟩ : ∃ e2, e2 = f1 + v.length := ⟨_, rfl⟩
            rw [← hE2] at he2
            have hr2 : r2 = b.drop (e2 + 1) := by
              have := (cut0_spec h2).1
              have h3 : b.drop (e2 + 1) = r1.drop (v.length + 1) := by rw [hr1, List.drop_drop]; congr 1; omega
              rw [h3, this]
              simp
            have hs1 : (b.take e1).drop k = nm := by
              have := (cut0_spec h1).1
              rw [List.drop_take, this, hE]
              simp
            have hs2 : (b.take e2).drop f1 = v := by
              have := (cut0_spec h2).1
              rw [List.drop_take, ← hr1, this, hE2]
              simp
            have hnx := outP_next (l := l) hd hc (by omega) h1 h2
            rw [hs, hr2] at hnx
            have hll : (l ++ [(nm, v)]).length = l.length + 1 := by simp
            repeat' (first
              | (with_reducible (first
                | refine PW.seq fun K1 hK1 => ?_
                | refine PW.region fun K2 hK2 => ?_
                | (refine hK3 _ ?_; clear hK3)
                | (refine opsP_nil ?_; refine hK2 _ ?_; clear hK2)
                | refine litX_old ?_
                | refine litC_data ?_
                | (refine Exists.intro _ (Exists.intro _ (And.intro rfl (And.intro rfl (And.intro ?_ ?_)))); focus omega)
                | (refine hK1 _ ?_; clear hK1)
                | refine nilC_intro (fun hz => ?_) ?_
                | refine PW.block ?_
                | refine PW.skip ?_
                | refine PW.exit ?_
                | refine PW.ret ?_
                | (refine hX1 ?_; clear hX1 hY1; try simp only [hb])
                | (refine hY1 ?_; clear hX1 hY1; try simp only [hb])
                | exact co_refl _
                | exact co_own _ _ _
                | exact co_nilsB
                | exact co_nilsL _ _
                | (refine opsO_nil ?_; refine hK2 _ ?_; clear hK2)
                | (refine keepO_intro ?_ ?_; focus (first | exact .inl (keep_same _ _) | exact .inl (keep_box _ _ _ _) | exact .inl (keep_hd _ _ _ _ _) | exact .inl (keep_02 _ _ _ _ _ _ _) | exact .inr ⟨rfl, rfl⟩))
                | (refine keepA_intro ?_ ?_; focus (first | exact keep_same _ _ | exact keep_box _ _ _ _ | exact keep_hd _ _ _ _ _ | exact keep_02 _ _ _ _ _ _ _))))
              | ((first | (with_reducible refine wantB_intro (fun hb => ?_) (fun hb => ?_)) | (with_reducible refine condB_intro (fun hb => ?_) (fun hb => ?_))) <;> ((try (have hp := hb; simp only [decide_eq_true_eq, decide_eq_false_iff_not, Int.not_lt] at hp)); try simp only [hb, Bool.not_true, Bool.not_false]))
              | ((with_reducible refine callP_pure ?_ ?_ (pEnd b k) (fun _ => ?_)); (focus (repeat' (first | exact cos_refl _ | (refine cos_cons ?_ ?_) | exact co_refl _ | exact co_own _ _ _ | exact co_nilsB | exact co_nilsL _ _ | exact co_nils _ | (refine co_agg ?_) | (refine co_fn ?_)))); (focus (simp only [purAs, purA, Bool.and_self])))
              | ((with_reducible refine callP_pure ?_ ?_ (pEnd b f1) (fun _ => ?_)); (focus (repeat' (first | exact cos_refl _ | (refine cos_cons ?_ ?_) | exact co_refl _ | exact co_own _ _ _ | exact co_nilsB | exact co_nilsL _ _ | exact co_nils _ | (refine co_agg ?_) | (refine co_fn ?_)))); (focus (simp only [purAs, purA, Bool.and_self])))
              | ((with_reducible refine firstP_call ?_ ?_ (pEnd b k) ?_); (focus (repeat' (first | exact cos_refl _ | (refine cos_cons ?_ ?_) | exact co_refl _ | exact co_own _ _ _ | exact co_nilsB | exact co_nilsL _ _ | exact co_nils _ | (refine co_agg ?_) | (refine co_fn ?_)))); (focus (simp only [purAs, purA, Bool.and_self, Bool.and_true, h0, h4, h5, hlt', hx, hc', hl', he1, he2, hz, hs1, hs2])))
              | ((with_reducible refine firstP_call ?_ ?_ (pEnd b f1) ?_); (focus (repeat' (first | exact cos_refl _ | (refine cos_cons ?_ ?_) | exact co_refl _ | exact co_own _ _ _ | exact co_nilsB | exact co_nilsL _ _ | exact co_nils _ | (refine co_agg ?_) | (refine co_fn ?_)))); (focus (simp only [purAs, purA, Bool.and_self, Bool.and_true, h0, h4, h5, hlt', hx, hc', hl', he1, he2, hz, hs1, hs2])))
              | ((with_reducible refine PW.drawR (id := 12) mixed [] [(0, true), (1, true), (2, true), (3, true), (4, true), (5, true), (6, true), (7, true), (8, true), (9, true), (10, true), (11, true), (12, true), (13, false), (14, false), (15, true)] (by kernel_rfl) (by decide) fun K2 hK2 => ?_))
              | ((with_reducible refine And.intro ?_ ?_); (focus (first | omega | (simp; done) | assumption)))
              | (simp only [thenP, blockP]; (try ((repeat (fail_if_success (with_reducible refine hK1 _ ?_)); clear hK1); (with_reducible refine hK1 _ ?_); clear hK1)))
              | (with_reducible omega)
              | (assumption)
              | ((first | ((with_reducible refine opsP_consMt (d := ?_) (dj := ?_) (b := ?_) (r := ?_) ?_ ?_ (fun hb => ?_) (fun K3 hK3 => ?_)); rotate_left 3; (focus exact rfl); (focus (simp only [upd_app, Nat.reduceEqDiff, ↓reduceIte]; exact rfl))) | ((with_reducible refine opsP_consMf (d := ?_) (dj := ?_) (b := ?_) (r := ?_) ?_ ?_ (fun hb => ?_) (fun K3 hK3 => ?_)); rotate_left 3; (focus exact rfl); (focus (simp only [St.put, upd_app, iniT_app, Nat.reduceEqDiff, ↓reduceIte, mrg_t, mrg_f]; exact rfl))) | ((with_reducible refine opsP_consNt (d := ?_) (dj := ?_) (b := ?_) (r := ?_) (c := ?_) ?_ ?_ (fun hb => ?_) (fun K3 hK3 => ?_)); rotate_left 4; (focus exact rfl); (focus (simp only [St.put, upd_app, iniT_app, Nat.reduceEqDiff, ↓reduceIte, mrg_t, mrg_f]; exact rfl))) | ((with_reducible refine opsP_consNf (d := ?_) (dj := ?_) (b := ?_) (r := ?_) (c := ?_) ?_ ?_ (fun hb => ?_) (fun K3 hK3 => ?_)); rotate_left 4; (focus exact rfl); (focus (simp only [St.put, upd_app, iniT_app, Nat.reduceEqDiff, ↓reduceIte, mrg_t, mrg_f]; exact rfl)))); (focus (simp only [opP, valP]; (try (simp only at hb)); (try (have hp := hb; simp only [Bool.and_eq_true, Bool.or_eq_true, Bool.not_eq_true', Bool.not_eq_false', Bool.and_eq_false_iff, Bool.or_eq_false_iff, Bool.not_eq_eq_eq_not, Bool.not_true, Bool.not_false, decide_eq_true_eq, decide_eq_false_iff_not, Int.not_lt, Int.not_le, beq_iff_eq, beq_eq_false_iff_ne, ne_eq] at hp)); simp (disch := omega) only [St.eval, upd_app, avOf, avOf1, wf_u8, loadA, binP, intsP, intP, nilP, slA, encB_get, Ur, Us, V2, V7, Nat.reduceEqDiff, Int.reduceLE, Vu, Vv, Vf, Vo, ↓reduceIte, reduceCtorEq, Vw, Vx, Vz, UU0, Vs, sz5, el22, h0, h5, hx, hc']; (repeat' (first | (exact rfl) | ((refine And.intro ?_ ?_); (focus (exact rfl)); (exact rfl)) | (refine And.intro (by first | omega | (simp; done) | assumption) ?_) | ((with_reducible refine callP_pure ?_ ?_ (pEnd b k) (fun _ => ?_)); (focus (repeat' (first | exact cos_refl _ | (refine cos_cons ?_ ?_) | exact co_refl _ | exact co_own _ _ _ | exact co_nilsB | exact co_nilsL _ _ | exact co_nils _ | (refine co_agg ?_) | (refine co_fn ?_)))); (focus (simp only [purAs, purA, Bool.and_self, Bool.and_true, h0, h4, h5, hlt', hx, hc', hl', he1, he2, hz, hs1, hs2]))) | ((with_reducible refine callP_pure ?_ ?_ (pEnd b f1) (fun _ => ?_)); (focus (repeat' (first | exact cos_refl _ | (refine cos_cons ?_ ?_) | exact co_refl _ | exact co_own _ _ _ | exact co_nilsB | exact co_nilsL _ _ | exact co_nils _ | (refine co_agg ?_) | (refine co_fn ?_)))); (focus (simp only [purAs, purA, Bool.and_self, Bool.and_true, h0, h4, h5, hlt', hx, hc', hl', he1, he2, hz, hs1, hs2]))))); done)); (try simp only [St.put, Nat.reduceLT, ↓reduceIte, mrg_t]))
              | ((first | ((with_reducible refine opsP_cons fun K3 hK3 => ?_); simp only [wantP, opP, valP, List.map_cons, List.map_nil]) | ((with_reducible refine opsO_first (o := ?_) ?_ fun K3 hK3 => ?_); rotate_left 1; (focus (simp only [List.getElem?_toArray, List.getElem?_cons_succ, List.getElem?_cons_zero] <;> rfl)); simp only [wantP, firstP, valP, List.map_cons, List.map_nil]) | ((with_reducible refine opsO_only (o := ?_) ?_ fun K3 hK3 => ?_); rotate_left 1; (focus (simp only [List.getElem?_toArray, List.getElem?_cons_succ, List.getElem?_cons_zero] <;> rfl)); simp only [wantP, opP, List.map_cons, List.map_nil, List.mapM_cons, List.mapM_nil, List.all_cons, List.all_nil]) | (with_reducible refine PW.condM fun X1 Y1 hX1 hY1 => ?_) | skip); simp (disch := omega) only [St.eval, St.put, upd_app, avOf, avOf1, wf_i64, cellsA, AV.okv, lenP, binP, intsP, intP, nilP, convP, sliceP, boundLo, boundHi, builtinP, appP, srcA, srcTy, wi_i64, isMapA, isBsl, U3, U4, U5, slA, putCells, fillA, buildA, elA, dv1, encB_len, encB_take, encB_drop, encL_len, bytesD_enc, bytesD_some, Ua, Ub, Uc, Ud, Uf, Ug, Ut, Uu, Uv, List.mapM_cons, List.mapM_nil, Uw, Ux, V0, V1, V2, V3, V4, Option.bind_eq_bind, Option.pure_def, V7, Nat.reduceLT, Nat.reduceLeDiff, Nat.reduceAdd, Nat.reduceMul, Nat.reduceEqDiff, V9, Vd, Vt, Int.reduceLE, Int.reduceNeg, Vu, Vv, Vf, Vg, Vn, Vo, ↓reduceIte, Vp, reduceCtorEq, Vw, Vz, UU0, UU2, UU3, UU4, UU9, sz5, Tryd.underlying5, Tryd.underlying9, Tryd.underlying22, el24, Tryd.underlying24, ze64, by64, pl64, h0, h4, h5, hlt', hl', he1, he2, hz, hs1, hs2, condP, condB_t, condB_f, firstOk]; try (with_reducible (first | exact co_refl _ | exact co_own _ _ _ | exact co_nilsB | exact co_nilsL _ _))))
            refine ⟨b.length - (e2 + 1), by omega, e2 + 1, l ++ [(nm, v)], ?_, ?_, ?_, ?_, ?_, by omega, by omega, rfl, hnx.symm⟩
            all_goals (simp only [St.cut, Mem.cut, fg, upd_app, Nat.reduceEqDiff, ↓reduceIte, List.take_nil, List.map_nil, List.take_succ_cons, Nat.zero_lt_one, Int.natCast_add, Int.cast_ofNat_Int, h0, hll, encL_snoc, prmC]; try rfl)
  · have hlt' := eq_false hlt
    have hS : paramsS b = ([], 230) := by
      rw [← hs, List.drop_eq_nil_of_le (by omega)]
      rfl
    repeat' (first
      | (with_reducible (first
        | refine PW.seq fun K1 hK1 => ?_
        | refine PW.region fun K2 hK2 => ?_
        | (refine hK3 _ ?_; clear hK3)
        | (refine opsP_nil ?_; refine hK2 _ ?_; clear hK2)
        | refine litX_old ?_
        | refine litC_data ?_
        | (refine Exists.intro _ (Exists.intro _ (And.intro rfl (And.intro rfl (And.intro ?_ ?_)))); focus omega)
        | (refine hK1 _ ?_; clear hK1)
        | refine nilC_intro (fun hz => ?_) ?_
        | refine PW.block ?_
        | refine PW.skip ?_
        | refine PW.exit ?_
        | refine PW.ret ?_
        | (refine hX1 ?_; clear hX1 hY1; try simp only [hb])
        | (refine hY1 ?_; clear hX1 hY1; try simp only [hb])
        | exact co_refl _
        | exact co_own _ _ _
        | exact co_nilsB
        | exact co_nilsL _ _
        | (refine opsO_nil ?_; refine hK2 _ ?_; clear hK2)
        | (refine keepO_intro ?_ ?_; focus (first | exact .inl (keep_same _ _) | exact .inl (keep_box _ _ _ _) | exact .inl (keep_hd _ _ _ _ _) | exact .inl (keep_02 _ _ _ _ _ _ _) | exact .inr ⟨rfl, rfl⟩))
        | (refine keepA_intro ?_ ?_; focus (first | exact keep_same _ _ | exact keep_box _ _ _ _ | exact keep_hd _ _ _ _ _ | exact keep_02 _ _ _ _ _ _ _))))
      | ((first | (with_reducible refine wantB_intro (fun hb => ?_) (fun hb => ?_)) | (with_reducible refine condB_intro (fun hb => ?_) (fun hb => ?_))) <;> ((try (have hp := hb; simp only [Bool.not_eq_eq_eq_not, Bool.not_true, Bool.not_false, decide_eq_true_eq, decide_eq_false_iff_not] at hp)); try simp only [hb, Bool.not_true, Bool.not_false]))
      | ((with_reducible refine PW.drawR (id := 12) mixed [] [(0, true), (1, true), (2, true), (3, true), (4, true), (5, true), (6, true), (7, true), (8, true), (9, true), (10, true), (11, true), (12, true), (13, false), (14, false), (15, true)] (by kernel_rfl) (by decide) fun K2 hK2 => ?_))
      | ((with_reducible refine And.intro ?_ ?_); (focus (first | omega | (simp; done) | assumption)))
      | (simp only [thenP, blockP, ↓reduceIte]; (try ((repeat (fail_if_success (with_reducible refine hK1 _ ?_)); clear hK1); (with_reducible refine hK1 _ ?_); clear hK1)))
      | (with_reducible omega)
      | (assumption)
      | ((first | ((with_reducible refine opsP_consMt (d := ?_) (dj := ?_) (b := ?_) (r := ?_) ?_ ?_ (fun hb => ?_) (fun K3 hK3 => ?_)); rotate_left 3; (focus exact rfl); (focus (simp only [upd_app, Nat.reduceEqDiff, ↓reduceIte]; exact rfl))) | ((with_reducible refine opsP_consMf (d := ?_) (dj := ?_) (b := ?_) (r := ?_) ?_ ?_ (fun hb => ?_) (fun K3 hK3 => ?_)); rotate_left 3; (focus exact rfl); (focus (simp only [St.put, upd_app, iniT_app, Nat.reduceEqDiff, ↓reduceIte, mrg_t, mrg_f]; exact rfl))) | ((with_reducible refine opsP_consNt (d := ?_) (dj := ?_) (b := ?_) (r := ?_) (c := ?_) ?_ ?_ (fun hb => ?_) (fun K3 hK3 => ?_)); rotate_left 4; (focus exact rfl); (focus (simp only [St.put, upd_app, iniT_app, Nat.reduceEqDiff, ↓reduceIte, mrg_t, mrg_f]; exact rfl))) | ((with_reducible refine opsP_consNf (d := ?_) (dj := ?_) (b := ?_) (r := ?_) (c := ?_) ?_ ?_ (fun hb => ?_) (fun K3 hK3 => ?_)); rotate_left 4; (focus exact rfl); (focus (simp only [St.put, upd_app, iniT_app, Nat.reduceEqDiff, ↓reduceIte, mrg_t, mrg_f]; exact rfl)))); (focus (simp only [opP, valP]; (try (simp only [Bool.and_eq_true, Bool.not_eq_true'] at hb)); (try (have hp := hb; simp only [Bool.and_eq_true, Bool.or_eq_true, Bool.not_eq_true', Bool.not_eq_false', Bool.and_eq_false_iff, Bool.or_eq_false_iff, Bool.not_eq_eq_eq_not, Bool.not_true, Bool.not_false, decide_eq_true_eq, decide_eq_false_iff_not, Int.not_lt, Int.not_le, beq_iff_eq, beq_eq_false_iff_ne, ne_eq] at hp)); simp (disch := omega) only [St.eval, upd_app, avOf, avOf1, wf_u8, binP, eqP, nilP, slA, Nat.reduceEqDiff, Int.reduceLE, Vu, Vf, ↓reduceIte, reduceCtorEq, Vx, Vz, UU0, Vs, h0, h5, hb]; (repeat' (first | (exact rfl) | ((refine And.intro ?_ ?_); (focus (exact rfl)); (exact rfl)) | (refine And.intro (by first | omega | (simp; done) | assumption) ?_))); done)); (try simp only [St.put, Nat.reduceLT, ↓reduceIte, mrg_f]))
      | ((first | ((with_reducible refine opsP_cons fun K3 hK3 => ?_); simp only [wantP, opP, valP, List.map_cons, List.map_nil]) | ((with_reducible refine opsO_first (o := ?_) ?_ fun K3 hK3 => ?_); rotate_left 1; (focus (simp only [List.getElem?_toArray, List.getElem?_cons_succ, List.getElem?_cons_zero] <;> rfl)); simp only [wantP, firstP, valP, List.toList_toArray, Array.toList_empty, List.map_cons, List.map_nil, List.mapM_cons, List.mapM_nil, List.all_cons, List.all_nil]) | ((with_reducible refine opsO_only (o := ?_) ?_ fun K3 hK3 => ?_); rotate_left 1; (focus (simp only [List.getElem?_toArray, List.getElem?_cons_succ, List.getElem?_cons_zero] <;> rfl)); simp only [wantP, opP, valP, List.toList_toArray, Array.toList_empty, List.map_cons, List.map_nil, List.mapM_cons, List.mapM_nil, List.all_cons, List.all_nil]) | (with_reducible refine PW.condM fun X1 Y1 hX1 hY1 => ?_) | skip); simp (disch := omega) only [wantB_ft, St.eval, St.put, upd_app, avOf, avOf1, wf_i64, wf_u8, lenP, binP, intsP, intP, eqP, nilP, builtinP, wi_i64, isMapA, slA, encB_len, Ua, Ub, Uz, V4, Nat.reduceLT, Nat.reduceEqDiff, Int.reduceLE, Int.reduceNeg, Vu, Vv, Vf, ↓reduceIte, Vp, reduceCtorEq, Vw, Vz, UU0, Vs, Tryd.underlying22, h0, h5, hlt', retQ, resP, tupA, fg, fgs, condP, condB_f]; try (with_reducible (first | exact co_refl _ | exact co_own _ _ _ | exact co_nilsB | exact co_nilsL _ _))))
    all_goals (try (focus ((try simp only [hS]); (repeat' split) <;> (first | (exfalso; omega) | ((try ((with_reducible refine And.intro ?_ ?_); rotate_left 1; (focus (first | exact subM_row1 | exact subM_nom _ | (refine subM_box1 ?_; simp only [fgs, fg]; (repeat' (first | exact cos_refl _ | refine cos_cons ?_ ?_ | exact co_refl _ | exact co_nilsB | exact co_own _ _ _ | exact co_nilsL _ _ | exact co_nils _ | refine co_agg ?_ | refine co_tup ?_)); done))))); (first | ((repeat' (first | exact cos_refl _ | refine cos_cons ?_ ?_ | exact co_refl _ | exact co_nilsB | exact co_own _ _ _ | exact co_nilsL _ _ | exact co_nils _ | refine co_agg ?_ | refine co_tup ?_)); done) | (refine co_eq ?_; simp_all; done))) | (exfalso; simp_all; done)))))
end PM
end Go.Proofs.YthaekefdadccaaaDoor
