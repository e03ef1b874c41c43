/- pgwire: PgwireBacks in the abstract, and its walk. -/
import Derived.Test.YthaekefdadccaaaDoorPgRP
import Derived.Test.YthaekefdadccaaaDoorPgB2
import Derived.Test.YthaekefdadccaaaDoorPgB3
import Derived.Test.YthaekefdadccaaaDoorPgB5
import Derived.Test.YthaekefdadccaaaDoorPgB6
import Derived.Test.YthaekefdadccaaaDoorPgB9
import Derived.Test.YthaekefdadccaaaDoorPgShown
import Derived.Test.YthaekefdadccaaaDoorPgBOpen
namespace Go.Proofs.YthaekefdadccaaaDoor
open Go.RowKit
namespace PM
set_option maxRecDepth 100000 in
theorem pPut4 (m : Back) (hk : m.kind = 4) : Pure Tryd.prog 16 [m.v] (putV (putBackS m)) := by
  have e0 : putBackS m = putEnd m (statusOk m.status) 0 [m.status] := by simp only [putBackS, backMay, backLong, backBody, hk, Int.reduceEq, ↓reduceIte]
  rw [e0]
  exact pPutReady m hk
set_option maxRecDepth 100000 in
theorem pPut (m : Back) (hz : backSmall m) : Pure Tryd.prog 16 [m.v] (putV (putBackS m)) := by
  obtain ⟨z1, z2, z3, z4, z5⟩ := hz
  by_cases h0 : m.kind < 1 ∨ 10 < m.kind
  · exact pPut0 m h0
  have hk : m.kind = 1 ∨ m.kind = 2 ∨ m.kind = 3 ∨ m.kind = 4 ∨ m.kind = 5 ∨ m.kind = 6 ∨ m.kind = 7 ∨ m.kind = 8 ∨ m.kind = 9 ∨ m.kind = 10 := by omega
  rcases hk with h | h | h | h | h | h | h | h | h | h
  · exact pPut1 m h
  · exact pPut2 m h ⟨z3, z4⟩
  · exact pPut3 m h
  · exact pPut4 m h
  · exact pPut5 m h z1
  · exact pPut6 m h z2
  · exact pPut7 m h z4
  · exact pPut8 m h
  · exact pPut9 m h ⟨z5, z4⟩
  · exact pPut10 m h
set_option maxRecDepth 100000 in
set_option maxHeartbeats 4000000 in
theorem pBacks (f : Back) (hz : backSmall f) : Pure Tryd.prog 4 [f.v] (.d (.bool true)) := by
  refine pure_intro Tryd.func4 rfl rfl rfl 32 rfl (fun hh => ?_)
  have h1 := pPut f hz
  have h2 := pRPut f hz
  obtain ⟨⟨b, e⟩, hr⟩ : ∃ r, putBackS f = r := ⟨_, rfl⟩
  rw [hr] at h1 h2
  obtain ⟨xk, xn, xt, xp, xs, xu, xf, xc, xa, xg⟩ := f
  simp only [Back.v, Back.c, putV, List.map_cons, List.map_nil] at h1 h2
  repeat' (first
    | (with_reducible (first
      | refine PW.seq fun K1 hK1 => ?_
      | refine PW.region fun K2 hK2 => ?_
      | (refine hK3 _ ?_; clear hK3)
      | (refine opsP_nil ?_; refine hK2 _ ?_; clear hK2)
      | refine litX_old ?_
      | refine litC_data ?_
      | (refine Exists.intro _ (Exists.intro _ (And.intro rfl (And.intro rfl (And.intro ?_ ?_)))); focus omega)
      | (refine hK1 _ ?_; clear hK1)
      | refine nilC_intro (fun hz => ?_) ?_
      | refine PW.block ?_
      | refine PW.skip ?_
      | refine PW.exit ?_
      | refine PW.ret ?_
      | (refine hX1 ?_; clear hX1 hY1; try simp only [hb])
      | (refine hY1 ?_; clear hX1 hY1; try simp only [hb])
      | exact co_refl _
      | exact co_own _ _ _
      | exact co_nilsB
      | exact co_nilsL _ _))
    | ((first | (with_reducible refine wantB_intro (fun hb => ?_) (fun hb => ?_)) | (with_reducible refine condB_intro (fun hb => ?_) (fun hb => ?_))) <;> ((try (have hp := hb; simp only [Bool.and_eq_true, Bool.or_eq_true, Bool.not_eq_true', Bool.not_eq_false', Bool.and_eq_false_iff, Bool.or_eq_false_iff, Bool.not_eq_eq_eq_not, Bool.not_true, Bool.not_false, decide_eq_true_eq, decide_eq_false_iff_not, Int.not_lt, Int.not_le, beq_iff_eq, beq_eq_false_iff_ne, ne_eq] at hp)); try simp only [hb, Bool.not_true, Bool.not_false]))
    | ((with_reducible refine callP_pure ?_ ?_ (pShown) (fun _ => ?_)); (focus (repeat' (first | exact cos_refl _ | (refine cos_cons ?_ ?_) | exact co_refl _ | exact co_own _ _ _ | exact co_nilsB | exact co_nilsL _ _ | exact co_nils _ | (refine co_agg ?_) | (refine co_fn ?_)))); (focus (simp only [purAs])))
    | ((with_reducible refine callP_pure ?_ ?_ (h1) (fun _ => ?_)); (focus (repeat' (first | exact cos_refl _ | (refine cos_cons ?_ ?_) | exact co_refl _ | exact co_own _ _ _ | exact co_nilsB | exact co_nilsL _ _ | exact co_nils _ | (refine co_agg ?_) | (refine co_fn ?_)))); (focus (simp only [purAs, purA, Bool.and_self])))
    | ((with_reducible refine callP_pure ?_ ?_ (h2) (fun _ => ?_)); (focus (repeat' (first | exact cos_refl _ | (refine cos_cons ?_ ?_) | exact co_refl _ | exact co_own _ _ _ | exact co_nilsB | exact co_nilsL _ _ | exact co_nils _ | (refine co_agg ?_) | (refine co_fn ?_)))); (focus (simp only [purAs, purA, Bool.and_self])))
    | ((with_reducible refine And.intro ?_ ?_); (focus (first | omega | (simp; done) | assumption)))
    | (simp only [thenP]; (try ((repeat (fail_if_success (with_reducible refine hK1 _ ?_)); clear hK1); (with_reducible refine hK1 _ ?_); clear hK1)))
    | (with_reducible omega)
    | (assumption)
    | ((first | ((with_reducible refine opsP_consMt (d := ?_) (dj := ?_) (b := ?_) (r := ?_) ?_ ?_ (fun hb => ?_) (fun K3 hK3 => ?_)); rotate_left 3; (focus exact rfl); (focus (simp only [upd_app, Nat.reduceEqDiff, ↓reduceIte]; exact rfl))) | ((with_reducible refine opsP_consMf (d := ?_) (dj := ?_) (b := ?_) (r := ?_) ?_ ?_ (fun hb => ?_) (fun K3 hK3 => ?_)); rotate_left 3; (focus exact rfl); (focus (simp only [St.put, upd_app, iniT_app, Nat.reduceEqDiff, ↓reduceIte, mrg_t, mrg_f]; exact rfl))) | ((with_reducible refine opsP_consNt (d := ?_) (dj := ?_) (b := ?_) (r := ?_) (c := ?_) ?_ ?_ (fun hb => ?_) (fun K3 hK3 => ?_)); rotate_left 4; (focus exact rfl); (focus (simp only [St.put, upd_app, iniT_app, Nat.reduceEqDiff, ↓reduceIte, mrg_t, mrg_f]; exact rfl))) | ((with_reducible refine opsP_consNf (d := ?_) (dj := ?_) (b := ?_) (r := ?_) (c := ?_) ?_ ?_ (fun hb => ?_) (fun K3 hK3 => ?_)); rotate_left 4; (focus exact rfl); (focus (simp only [St.put, upd_app, iniT_app, Nat.reduceEqDiff, ↓reduceIte, mrg_t, mrg_f]; exact rfl)))); (focus (simp only [opP, valP]; (try (simp only at hb)); (try (have hp := hb; simp only [Bool.and_eq_true, Bool.or_eq_true, Bool.not_eq_true', Bool.not_eq_false', Bool.and_eq_false_iff, Bool.or_eq_false_iff, Bool.not_eq_eq_eq_not, Bool.not_true, Bool.not_false, decide_eq_true_eq, decide_eq_false_iff_not, Int.not_lt, Int.not_le, beq_iff_eq, beq_eq_false_iff_ne, ne_eq] at hp)); simp (disch := omega) only [St.eval, upd_app, binP, intsP, intP, strP, nilP, convP, slA, bytesD_enc, bytesD_some, Nat.reduceEqDiff, Vu, ↓reduceIte, Vw, Vx, Vz, UU0, Tryd.underlying5, Tryd.underlying9, Tryd.underlying22]; (repeat' (first | (exact rfl) | ((refine And.intro ?_ ?_); (focus (exact rfl)); (exact rfl)) | (refine And.intro (by first | omega | (simp; done) | assumption) ?_) | ((with_reducible refine callP_pure ?_ ?_ (pShown) (fun _ => ?_)); (focus (repeat' (first | exact cos_refl _ | (refine cos_cons ?_ ?_) | exact co_refl _ | exact co_own _ _ _ | exact co_nilsB | exact co_nilsL _ _ | exact co_nils _ | (refine co_agg ?_) | (refine co_fn ?_)))); (focus (simp only [purAs, purA, Bool.and_self, Bool.and_true, Back.v, Back.c]))) | ((with_reducible refine callP_pure ?_ ?_ (h1) (fun _ => ?_)); (focus (repeat' (first | exact cos_refl _ | (refine cos_cons ?_ ?_) | exact co_refl _ | exact co_own _ _ _ | exact co_nilsB | exact co_nilsL _ _ | exact co_nils _ | (refine co_agg ?_) | (refine co_fn ?_)))); (focus (simp only [purAs, purA, Bool.and_self, Bool.and_true, Back.v, Back.c]))) | ((with_reducible refine callP_pure ?_ ?_ (h2) (fun _ => ?_)); (focus (repeat' (first | exact cos_refl _ | (refine cos_cons ?_ ?_) | exact co_refl _ | exact co_own _ _ _ | exact co_nilsB | exact co_nilsL _ _ | exact co_nils _ | (refine co_agg ?_) | (refine co_fn ?_)))); (focus (simp only [purAs, purA, Bool.and_self, Bool.and_true, Back.v, Back.c]))))); done)); (try simp only [St.put, Nat.reduceLT, ↓reduceIte, mrg_t]))
    | ((first | ((with_reducible refine opsP_cons fun K3 hK3 => ?_); simp only [wantP, opP, valP, List.map_cons, List.map_nil]) | (with_reducible refine PW.condM fun X1 Y1 hX1 hY1 => ?_) | skip); simp (disch := omega) only [St.eval, St.put, upd_app, iniT_app, avOf, avOf1, nom, cellsA, AV.okv, loadA, U7, Ua, Ub, Uf, Ug, Uk, Un, Up, Ur, Us, Ut, Uv, Nat.reduceLT, Nat.reduceAdd, Nat.reduceEqDiff, V9, Ve, ↓reduceIte, Vw, Vr, sz35, Back.v, Back.c, retQ, resP, tupA, fg]; try (with_reducible (first | exact co_refl _ | exact co_own _ _ _ | exact co_nilsB | exact co_nilsL _ _))))
end PM
open PM
set_option maxRecDepth 100000 in
/-- the walk of PgwireBacks -/
theorem backs_walk (v : Value) (f : Back) (w : World) (h : RelA G0 nom w f.v v) (hz : backSmall f) : Calls Tryd.prog 4 #[v] w (Ret (.bool true) w) := by
  have hc := calls_of_pure (vs := [v]) Tryd.func4 rfl rfl (pBacks f hz) (.cons h .nil)
  refine hc.mono fun e w' ⟨v', G', h1, h2, h3, h4⟩ => ⟨?_, h2⟩
  rw [h1, bool_ret h4]
end Go.Proofs.YthaekefdadccaaaDoor
