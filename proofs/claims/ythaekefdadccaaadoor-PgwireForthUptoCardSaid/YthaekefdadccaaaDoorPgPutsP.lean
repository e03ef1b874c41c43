/- pgwire: PgwirePuts in the abstract. -/
import Derived.Test.YthaekefdadccaaaDoorPgF0
import Derived.Test.YthaekefdadccaaaDoorPgF1
import Derived.Test.YthaekefdadccaaaDoorPgF2
import Derived.Test.YthaekefdadccaaaDoorPgF3
import Derived.Test.YthaekefdadccaaaDoorPgF4
import Derived.Test.YthaekefdadccaaaDoorPgF5
import Derived.Test.YthaekefdadccaaaDoorPgF6
import Derived.Test.YthaekefdadccaaaDoorPgR4
import Derived.Test.YthaekefdadccaaaDoorPgShown
namespace Go.Proofs.YthaekefdadccaaaDoor
open Go.RowKit
namespace PM
set_option maxRecDepth 100000 in
theorem pPutFront (f : Front) (hz : (prmB f.params).length ≤ 100000000000) (ht : f.text.length ≤ 100000000000) : Pure Tryd.prog 18 [f.v] (.tup [bs (putFrontS f).1, .d (.int .i64 (putFrontS f).2)]) := by
  by_cases h0 : f.kind < 1 ∨ 6 < f.kind
  · exact pPutFront0 f h0
  have hk : f.kind = 1 ∨ f.kind = 2 ∨ f.kind = 3 ∨ f.kind = 4 ∨ f.kind = 5 ∨ f.kind = 6 := by omega
  rcases hk with h | h | h | h | h | h
  · exact pPutFront1 f h hz
  · exact pPutFront2 f h
  · exact pPutFront3 f h
  · exact pPutFront4 f h ht
  · exact pPutFront5 f h
  · exact pPutFront6 f h
set_option maxRecDepth 100000 in
theorem pRAlone (f : Front) (hz : (prmB f.params).length ≤ 100000000000) (ht : f.text.length ≤ 100000000000) : Pure Tryd.prog 46 [f.v] (aloneV f) := by
  by_cases h0 : f.kind < 1 ∨ 6 < f.kind
  · exact pRAlone0 f h0
  have hk : f.kind = 1 ∨ f.kind = 2 ∨ f.kind = 3 ∨ f.kind = 4 ∨ f.kind = 5 ∨ f.kind = 6 := by omega
  rcases hk with h | h | h | h | h | h
  · exact pRAlone1 f h hz
  · exact pRAlone2 f h
  · exact pRAlone3 f h
  · exact pRAlone4 f h ht
  · exact pRAlone5 f h
  · exact pRAlone6 f h
theorem frontBody_len (f : Front) (hz : (prmB f.params).length ≤ 100000000000) (ht : f.text.length ≤ 100000000000) : (frontBody f).length ≤ 100000000100 := by
  unfold frontBody
  repeat' split
  all_goals simp only [List.length_append, big4_l, List.length_cons, List.length_nil]
  all_goals omega
set_option maxRecDepth 100000 in
set_option maxHeartbeats 4000000 in
theorem pPuts (f : Front) (hz : (prmB f.params).length ≤ 100000000000) (ht : f.text.length ≤ 100000000000) : Pure Tryd.prog 6 [f.v] (.d (.bool true)) := by
  refine pure_intro Tryd.func6 rfl rfl rfl 32 rfl (fun hh => ?_)
  have h1 := pPutFront f hz ht
  have h2 := pRPutFront f (pRAlone f hz ht) (frontBody_len f hz ht)
  obtain ⟨⟨b, e⟩, hr⟩ : ∃ r, putFrontS f = r := ⟨_, rfl⟩
  rw [hr] at h1 h2
  obtain ⟨xk, xp, xt, xi, xs, xg⟩ := f
  simp only [Front.v, Front.c, List.map_cons, List.map_nil] at h1 h2
  repeat' (first
    | (with_reducible (first
      | refine PW.seq fun K1 hK1 => ?_
      | refine PW.region fun K2 hK2 => ?_
      | (refine hK3 _ ?_; clear hK3)
      | (refine opsP_nil ?_; refine hK2 _ ?_; clear hK2)
      | refine litX_old ?_
      | refine litC_data ?_
      | (refine Exists.intro _ (Exists.intro _ (And.intro rfl (And.intro rfl (And.intro ?_ ?_)))); focus omega)
      | (refine hK1 _ ?_; clear hK1)
      | refine nilC_intro (fun hz => ?_) ?_
      | refine PW.block ?_
      | refine PW.skip ?_
      | refine PW.exit ?_
      | refine PW.ret ?_
      | (refine hX1 ?_; clear hX1 hY1; try simp only [hb])
      | (refine hY1 ?_; clear hX1 hY1; try simp only [hb])
      | exact co_refl _
      | exact co_own _ _ _
      | exact co_nilsB
      | exact co_nilsL _ _))
    | ((first | (with_reducible refine wantB_intro (fun hb => ?_) (fun hb => ?_)) | (with_reducible refine condB_intro (fun hb => ?_) (fun hb => ?_))) <;> ((try (have hp := hb; simp only [Bool.and_eq_true, Bool.or_eq_true, Bool.not_eq_true', Bool.not_eq_false', Bool.and_eq_false_iff, Bool.or_eq_false_iff, Bool.not_eq_eq_eq_not, Bool.not_true, Bool.not_false, decide_eq_true_eq, decide_eq_false_iff_not, Int.not_lt, Int.not_le, beq_iff_eq, beq_eq_false_iff_ne, ne_eq] at hp)); try simp only [hb, Bool.not_true, Bool.not_false]))
    | ((with_reducible refine callP_pure ?_ ?_ (pShown) (fun _ => ?_)); (focus (repeat' (first | exact cos_refl _ | (refine cos_cons ?_ ?_) | exact co_refl _ | exact co_own _ _ _ | exact co_nilsB | exact co_nilsL _ _ | exact co_nils _ | (refine co_agg ?_) | (refine co_fn ?_)))); (focus (simp only [purAs])))
    | ((with_reducible refine callP_pure ?_ ?_ (h1) (fun _ => ?_)); (focus (repeat' (first | exact cos_refl _ | (refine cos_cons ?_ ?_) | exact co_refl _ | exact co_own _ _ _ | exact co_nilsB | exact co_nilsL _ _ | exact co_nils _ | (refine co_agg ?_) | (refine co_fn ?_)))); (focus (simp only [purAs, purA, Bool.and_self])))
    | ((with_reducible refine callP_pure ?_ ?_ (h2) (fun _ => ?_)); (focus (repeat' (first | exact cos_refl _ | (refine cos_cons ?_ ?_) | exact co_refl _ | exact co_own _ _ _ | exact co_nilsB | exact co_nilsL _ _ | exact co_nils _ | (refine co_agg ?_) | (refine co_fn ?_)))); (focus (simp only [purAs, purA, Bool.and_self])))
    | ((with_reducible refine And.intro ?_ ?_); (focus (first | omega | (simp; done) | assumption)))
    | (simp only [thenP]; (try ((repeat (fail_if_success (with_reducible refine hK1 _ ?_)); clear hK1); (with_reducible refine hK1 _ ?_); clear hK1)))
    | (with_reducible omega)
    | (assumption)
    | ((first | ((with_reducible refine opsP_consMt (d := ?_) (dj := ?_) (b := ?_) (r := ?_) ?_ ?_ (fun hb => ?_) (fun K3 hK3 => ?_)); rotate_left 3; (focus exact rfl); (focus (simp only [upd_app, Nat.reduceEqDiff, ↓reduceIte]; exact rfl))) | ((with_reducible refine opsP_consMf (d := ?_) (dj := ?_) (b := ?_) (r := ?_) ?_ ?_ (fun hb => ?_) (fun K3 hK3 => ?_)); rotate_left 3; (focus exact rfl); (focus (simp only [St.put, upd_app, iniT_app, Nat.reduceEqDiff, ↓reduceIte, mrg_t, mrg_f]; exact rfl))) | ((with_reducible refine opsP_consNt (d := ?_) (dj := ?_) (b := ?_) (r := ?_) (c := ?_) ?_ ?_ (fun hb => ?_) (fun K3 hK3 => ?_)); rotate_left 4; (focus exact rfl); (focus (simp only [St.put, upd_app, iniT_app, Nat.reduceEqDiff, ↓reduceIte, mrg_t, mrg_f]; exact rfl))) | ((with_reducible refine opsP_consNf (d := ?_) (dj := ?_) (b := ?_) (r := ?_) (c := ?_) ?_ ?_ (fun hb => ?_) (fun K3 hK3 => ?_)); rotate_left 4; (focus exact rfl); (focus (simp only [St.put, upd_app, iniT_app, Nat.reduceEqDiff, ↓reduceIte, mrg_t, mrg_f]; exact rfl)))); (focus (simp only [opP, valP]; (try (simp only at hb)); (try (have hp := hb; simp only [Bool.and_eq_true, Bool.or_eq_true, Bool.not_eq_true', Bool.not_eq_false', Bool.and_eq_false_iff, Bool.or_eq_false_iff, Bool.not_eq_eq_eq_not, Bool.not_true, Bool.not_false, decide_eq_true_eq, decide_eq_false_iff_not, Int.not_lt, Int.not_le, beq_iff_eq, beq_eq_false_iff_ne, ne_eq] at hp)); simp (disch := omega) only [St.eval, upd_app, binP, intsP, intP, strP, nilP, convP, slA, bytesD_enc, bytesD_some, Nat.reduceEqDiff, Vu, ↓reduceIte, Vw, Vx, Vz, UU0, Tryd.underlying5, Tryd.underlying9, Tryd.underlying22]; (repeat' (first | (exact rfl) | ((refine And.intro ?_ ?_); (focus (exact rfl)); (exact rfl)) | (refine And.intro (by first | omega | (simp; done) | assumption) ?_) | ((with_reducible refine callP_pure ?_ ?_ (pShown) (fun _ => ?_)); (focus (repeat' (first | exact cos_refl _ | (refine cos_cons ?_ ?_) | exact co_refl _ | exact co_own _ _ _ | exact co_nilsB | exact co_nilsL _ _ | exact co_nils _ | (refine co_agg ?_) | (refine co_fn ?_)))); (focus (simp only [purAs, purA, Bool.and_self, Bool.and_true, Front.v, Front.c]))) | ((with_reducible refine callP_pure ?_ ?_ (h1) (fun _ => ?_)); (focus (repeat' (first | exact cos_refl _ | (refine cos_cons ?_ ?_) | exact co_refl _ | exact co_own _ _ _ | exact co_nilsB | exact co_nilsL _ _ | exact co_nils _ | (refine co_agg ?_) | (refine co_fn ?_)))); (focus (simp only [purAs, purA, Bool.and_self, Bool.and_true, Front.v, Front.c]))) | ((with_reducible refine callP_pure ?_ ?_ (h2) (fun _ => ?_)); (focus (repeat' (first | exact cos_refl _ | (refine cos_cons ?_ ?_) | exact co_refl _ | exact co_own _ _ _ | exact co_nilsB | exact co_nilsL _ _ | exact co_nils _ | (refine co_agg ?_) | (refine co_fn ?_)))); (focus (simp only [purAs, purA, Bool.and_self, Bool.and_true, Front.v, Front.c]))))); done)); (try simp only [St.put, Nat.reduceLT, ↓reduceIte, mrg_t]))
    | ((first | ((with_reducible refine opsP_cons fun K3 hK3 => ?_); simp only [wantP, opP, valP, List.map_cons, List.map_nil]) | (with_reducible refine PW.condM fun X1 Y1 hX1 hY1 => ?_) | skip); simp (disch := omega) only [St.eval, St.put, upd_app, iniT_app, avOf, avOf1, nom, cellsA, AV.okv, loadA, U7, Ua, Ub, Uf, Ug, Uk, Un, Up, Ur, Us, Ut, Uv, Nat.reduceLT, Nat.reduceAdd, Nat.reduceEqDiff, V9, Ve, ↓reduceIte, Vw, Vr, sz26, Front.v, Front.c, retQ, resP, tupA, fg]; try (with_reducible (first | exact co_refl _ | exact co_own _ _ _ | exact co_nilsB | exact co_nilsL _ _))))
end PM
end Go.Proofs.YthaekefdadccaaaDoor
