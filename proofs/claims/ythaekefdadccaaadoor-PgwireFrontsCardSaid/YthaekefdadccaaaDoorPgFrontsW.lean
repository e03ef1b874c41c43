/- pgwire: PgwireFronts in the abstract, and its walk. -/
import Derived.Test.YthaekefdadccaaaDoorPgShown
namespace Go.Proofs.YthaekefdadccaaaDoor
open Go.RowKit
namespace PM
set_option maxRecDepth 100000 in
set_option maxHeartbeats 4000000 in
theorem pFronts (b : List Int) (st : Bool) : Pure Tryd.prog 3 [bs b, .d (.bool st)] (.d (.bool true)) := by
  refine pure_intro Tryd.func3 rfl rfl rfl 45 rfl (fun hh => ?_)
  have hR := pRTakeFront b st
  have hT := pTakeFront b st
  obtain ⟨⟨f, n, e⟩, hr⟩ : ∃ r, takeFrontS b st = r := ⟨_, rfl⟩
  rw [hr] at hR hT
  obtain ⟨xk, xp, xt, xi, xs, xg⟩ := f
  have hS := pSameFront ⟨xk, xp, xt, xi, xs, xg⟩ ⟨xk, xp, xt, xi, xs, xg⟩
  simp only [Front.v, Front.c, List.map_cons, List.map_nil] at hR hT hS
  repeat' (first
    | (with_reducible (first
      | refine PW.seq fun K1 hK1 => ?_
      | refine PW.region fun K2 hK2 => ?_
      | (refine hK3 _ ?_; clear hK3)
      | (refine opsP_nil ?_; refine hK2 _ ?_; clear hK2)
      | refine litX_old ?_
      | refine litC_data ?_
      | (refine Exists.intro _ (Exists.intro _ (And.intro rfl (And.intro rfl (And.intro ?_ ?_)))); focus omega)
      | (refine hK1 _ ?_; clear hK1)
      | refine nilC_intro (fun hz => ?_) ?_
      | refine PW.block ?_
      | refine PW.skip ?_
      | refine PW.exit ?_
      | refine PW.ret ?_
      | (refine hX1 ?_; clear hX1 hY1; try simp only [hb])
      | (refine hY1 ?_; clear hX1 hY1; try simp only [hb])
      | exact co_refl _
      | exact co_own _ _ _
      | exact co_nilsB
      | exact co_nilsL _ _))
    | ((first | (with_reducible refine wantB_intro (fun hb => ?_) (fun hb => ?_)) | (with_reducible refine condB_intro (fun hb => ?_) (fun hb => ?_))) <;> ((try (have hp := hb; simp only [Bool.and_eq_true, Bool.or_eq_true, Bool.not_eq_true', Bool.not_eq_false', Bool.and_eq_false_iff, Bool.or_eq_false_iff, Bool.not_eq_eq_eq_not, Bool.not_true, Bool.not_false, decide_eq_true_eq, decide_eq_false_iff_not, Int.not_lt, Int.not_le, beq_iff_eq, beq_eq_false_iff_ne, ne_eq] at hp)); try simp only [hb, Bool.not_true, Bool.not_false]))
    | ((with_reducible refine callP_pure ?_ ?_ (pShown) (fun _ => ?_)); (focus (repeat' (first | exact cos_refl _ | (refine cos_cons ?_ ?_) | exact co_refl _ | exact co_own _ _ _ | exact co_nilsB | exact co_nilsL _ _ | exact co_nils _ | (refine co_agg ?_) | (refine co_fn ?_)))); (focus (simp only [purAs])))
    | ((with_reducible refine callP_pure ?_ ?_ (hR) (fun _ => ?_)); (focus (repeat' (first | exact cos_refl _ | (refine cos_cons ?_ ?_) | exact co_refl _ | exact co_own _ _ _ | exact co_nilsB | exact co_nilsL _ _ | exact co_nils _ | (refine co_agg ?_) | (refine co_fn ?_)))); (focus (simp only [purAs, purA, Bool.and_self])))
    | ((with_reducible refine callP_pure ?_ ?_ (hT) (fun _ => ?_)); (focus (repeat' (first | exact cos_refl _ | (refine cos_cons ?_ ?_) | exact co_refl _ | exact co_own _ _ _ | exact co_nilsB | exact co_nilsL _ _ | exact co_nils _ | (refine co_agg ?_) | (refine co_fn ?_)))); (focus (simp only [purAs, purA, Bool.and_self])))
    | ((with_reducible refine callP_pure ?_ ?_ (hS) (fun _ => ?_)); (focus (repeat' (first | exact cos_refl _ | (refine cos_cons ?_ ?_) | exact co_refl _ | exact co_own _ _ _ | exact co_nilsB | exact co_nilsL _ _ | exact co_nils _ | (refine co_agg ?_) | (refine co_fn ?_)))); (focus (simp only [purAs, purA, Bool.and_self])))
    | ((with_reducible refine And.intro ?_ ?_); (focus (first | omega | (simp; done) | assumption)))
    | (simp only [thenP]; (try ((repeat (fail_if_success (with_reducible refine hK1 _ ?_)); clear hK1); (with_reducible refine hK1 _ ?_); clear hK1)))
    | (with_reducible omega)
    | (assumption)
    | ((first | ((with_reducible refine opsP_consMt (d := ?_) (dj := ?_) (b := ?_) (r := ?_) ?_ ?_ (fun hb => ?_) (fun K3 hK3 => ?_)); rotate_left 3; (focus exact rfl); (focus (simp only [upd_app, Nat.reduceEqDiff, ↓reduceIte]; exact rfl))) | ((with_reducible refine opsP_consMf (d := ?_) (dj := ?_) (b := ?_) (r := ?_) ?_ ?_ (fun hb => ?_) (fun K3 hK3 => ?_)); rotate_left 3; (focus exact rfl); (focus (simp only [St.put, upd_app, iniT_app, Nat.reduceEqDiff, ↓reduceIte, mrg_t, mrg_f]; exact rfl))) | ((with_reducible refine opsP_consNt (d := ?_) (dj := ?_) (b := ?_) (r := ?_) (c := ?_) ?_ ?_ (fun hb => ?_) (fun K3 hK3 => ?_)); rotate_left 4; (focus exact rfl); (focus (simp only [St.put, upd_app, iniT_app, Nat.reduceEqDiff, ↓reduceIte, mrg_t, mrg_f]; exact rfl))) | ((with_reducible refine opsP_consNf (d := ?_) (dj := ?_) (b := ?_) (r := ?_) (c := ?_) ?_ ?_ (fun hb => ?_) (fun K3 hK3 => ?_)); rotate_left 4; (focus exact rfl); (focus (simp only [St.put, upd_app, iniT_app, Nat.reduceEqDiff, ↓reduceIte, mrg_t, mrg_f]; exact rfl)))); (focus (simp only [opP, valP]; (try (simp only [Bool.and_eq_true] at hb)); (try (have hp := hb; simp only [Bool.and_eq_true, Bool.or_eq_true, Bool.not_eq_true', Bool.not_eq_false', Bool.and_eq_false_iff, Bool.or_eq_false_iff, Bool.not_eq_eq_eq_not, Bool.not_true, Bool.not_false, decide_eq_true_eq, decide_eq_false_iff_not, Int.not_lt, Int.not_le, beq_iff_eq, beq_eq_false_iff_ne, ne_eq] at hp)); simp (disch := omega) only [St.eval, upd_app, binP, intsP, intP, nilP, slA, Nat.reduceEqDiff, decide_true, ↓reduceIte, true_and, and_true, and_false, or_false]; (repeat' (first | (exact rfl) | ((refine And.intro ?_ ?_); (focus (exact rfl)); (exact rfl)) | (refine And.intro (by first | omega | (simp; done) | assumption) ?_) | ((with_reducible refine callP_pure ?_ ?_ (pShown) (fun _ => ?_)); (focus (repeat' (first | exact cos_refl _ | (refine cos_cons ?_ ?_) | exact co_refl _ | exact co_own _ _ _ | exact co_nilsB | exact co_nilsL _ _ | exact co_nils _ | (refine co_agg ?_) | (refine co_fn ?_)))); (focus (simp only [purAs, purA, Bool.and_self, Bool.and_true]))) | ((with_reducible refine callP_pure ?_ ?_ (hR) (fun _ => ?_)); (focus (repeat' (first | exact cos_refl _ | (refine cos_cons ?_ ?_) | exact co_refl _ | exact co_own _ _ _ | exact co_nilsB | exact co_nilsL _ _ | exact co_nils _ | (refine co_agg ?_) | (refine co_fn ?_)))); (focus (simp only [purAs, purA, Bool.and_self, Bool.and_true]))) | ((with_reducible refine callP_pure ?_ ?_ (hT) (fun _ => ?_)); (focus (repeat' (first | exact cos_refl _ | (refine cos_cons ?_ ?_) | exact co_refl _ | exact co_own _ _ _ | exact co_nilsB | exact co_nilsL _ _ | exact co_nils _ | (refine co_agg ?_) | (refine co_fn ?_)))); (focus (simp only [purAs, purA, Bool.and_self, Bool.and_true]))) | ((with_reducible refine callP_pure ?_ ?_ (hS) (fun _ => ?_)); (focus (repeat' (first | exact cos_refl _ | (refine cos_cons ?_ ?_) | exact co_refl _ | exact co_own _ _ _ | exact co_nilsB | exact co_nilsL _ _ | exact co_nils _ | (refine co_agg ?_) | (refine co_fn ?_)))); (focus (simp only [purAs, purA, Bool.and_self, Bool.and_true]))))); done)); (try simp only [St.put, Nat.reduceLT, ↓reduceIte, mrg_t]))
    | ((first | ((with_reducible refine opsP_cons fun K3 hK3 => ?_); simp only [wantP, opP, valP, List.map_cons, List.map_nil]) | (with_reducible refine PW.condM fun X1 Y1 hX1 hY1 => ?_) | skip); simp (disch := omega) only [St.eval, St.put, upd_app, iniT_app, avOf, avOf1, nom, cellsA, AV.okv, loadA, putCells, List.getD_cons_zero, List.getD_cons_succ, List.getElem?_cons_zero, List.getElem?_cons_succ, List.set_cons_zero, List.set_cons_succ, List.length_cons, List.length_nil, List.drop_zero, List.take_succ_cons, List.take_nil, List.nil_append, List.cons_append, List.append_nil, Nat.reduceLT, Nat.reduceAdd, Nat.reduceEqDiff, Nat.zero_add, Nat.lt_add_one, ↓reduceIte, reduceCtorEq, true_and, Nat.le_refl, sz26, ze26, retQ, resP, tupA, fg]; try (with_reducible (first | exact co_refl _ | exact co_own _ _ _ | exact co_nilsB | exact co_nilsL _ _))))
  all_goals exact co_eq (by simp [Front.same])
end PM
open PM
set_option maxRecDepth 100000 in
/-- the walk of PgwireFronts -/
theorem fronts_walk (v : Value) (l : List Int) (st : Bool) (w : World) (h : IsB w v l) : Calls Tryd.prog 3 #[v, .bool st] w (Ret (.bool true) w) := by
  have hc := calls_of_pure (vs := [v, .bool st]) Tryd.func3 rfl rfl (pFronts l st) (.cons (relB h) (.cons relA_bool .nil))
  refine hc.mono fun e w' ⟨v', G', h1, h2, h3, h4⟩ => ⟨?_, h2⟩
  rw [h1, bool_ret h4]
end Go.Proofs.YthaekefdadccaaaDoor
