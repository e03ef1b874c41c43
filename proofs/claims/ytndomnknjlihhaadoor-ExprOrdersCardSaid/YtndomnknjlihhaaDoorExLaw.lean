/- expr in the abstract: ExprOrders and ExprSorts. -/
import Derived.Test.YtndomnknjlihhaaDoorExShown
set_option linter.unusedVariables false
set_option linter.unusedSimpArgs false
namespace Go.Proofs.YtndomnknjlihhaaDoor
open Go.RowKit
namespace PM
set_option maxRecDepth 100000 in
set_option maxHeartbeats 1000000 in
theorem pOrders (a b : XV) : Pure Tryd.prog 3 [a.v, b.v] (.d (.bool true)) := by
  refine pure_intro Tryd.func3 rfl rfl rfl 31 rfl (fun hh => ?_)
  have h1 := pROrder a b
  have h2 := pOrder a b
  have h3 := pOrder b a
  rw [ordV_swap a b] at h3
  have hr := ordV_rng a b
  obtain ⟨z, hz⟩ : ∃ z, ordV a b = z := ⟨_, rfl⟩
  rw [hz] at h1 h2 h3 hr
  have hw : IntKind.i64.wrap (0 - z) = - z := by rw [IntWalk.i64_in (0 - z) (by omega)]; omega
  obtain ⟨t1, n1, i1, s1⟩ := a
  obtain ⟨t2, n2, i2, s2⟩ := b
  simp only [XV.v, XV.c] at h1 h2 h3
  repeat' (first
    | ((with_reducible (first
     | (refine PW.seq fun K1 hK1 => ?_) | (refine PW.region fun K2 hK2 => ?_) | ((refine hK3 _ ?_; clear hK3)) | ((refine opsP_nil ?_; refine hK2 _ ?_; clear hK2)) 
     | (refine PW.ret ?_) )))
    | (((with_reducible refine cC_pure ?_ (pShown) (fun _ => ?_)); (focus ((repeat' constructor) <;> (simp only [purAs, purA, Vf, Bool.and_self, XV.v, XV.c, hw]; done)))))
    | (((with_reducible refine cC_pure ?_ (h1) (fun _ => ?_)); (focus ((repeat' constructor) <;> (simp only [purAs, purA, Vf, Bool.and_self, XV.v, XV.c, hw]; done)))))
    | (((with_reducible refine cC_pure ?_ (h2) (fun _ => ?_)); (focus ((repeat' constructor) <;> (simp only [purAs, purA, Vf, Bool.and_self, XV.v, XV.c, hw]; done)))))
    | (((with_reducible refine cC_pure ?_ (h3) (fun _ => ?_)); (focus ((repeat' constructor) <;> (simp only [purAs, purA, Vf, Bool.and_self, XV.v, XV.c, hw]; done)))))
    | ((simp only [thenP]; (try ((repeat (fail_if_success (with_reducible refine hK1 _ ?_)); clear hK1); (with_reducible refine hK1 _ ?_); clear hK1))))
    | (((first | ((with_reducible (first | refine opsP_consMt (d := ?_) (dj := ?_) (b := ?_) (r := ?_) ?_ ?_ (fun hb => ?_) (fun K3 hK3 => ?_) | refine opsP_consMf (d := ?_) (dj := ?_) (b := ?_) (r := ?_) ?_ ?_ (fun hb => ?_) (fun K3 hK3 => ?_))); rotate_left 3; (focus exact rfl); (focus (simp only [upd_app, simprocAttr]; exact rfl))) | ((with_reducible (first | refine opsP_consNt (d := ?_) (dj := ?_) (b := ?_) (r := ?_) (c := ?_) ?_ ?_ (fun hb => ?_) (fun K3 hK3 => ?_) | refine opsP_consNf (d := ?_) (dj := ?_) (b := ?_) (r := ?_) (c := ?_) ?_ ?_ (fun hb => ?_) (fun K3 hK3 => ?_))); rotate_left 4; (focus exact rfl); (focus (simp only [St.put, upd_app, iniT_app, simprocAttr, mrg_t, mrg_f]; exact rfl)))); (focus (simp only [opP, valP]; (try (simp only at hb)); (try (have hp := hb; simp only [PmH, beq_iff_eq, beq_eq_false_iff_ne, ne_eq] at hp)); simp (disch := omega) only [St.eval, upd_app, binP, intsP, intP, nilP, unP, slA, PmL, simprocAttr, hw]; (repeat' (first | (exact rfl) | ((refine And.intro ?_ ?_); (focus (exact rfl)); (exact rfl)) | (refine And.intro (by first | omega | (simp; done) | assumption) ?_) | ((with_reducible refine cC_pure ?_ (pShown) (fun _ => ?_)); (focus ((repeat' constructor) <;> (simp only [purAs, purA, Vf, Bool.and_self, XV.v, XV.c, hw]; done)))) | ((with_reducible refine cC_pure ?_ (h1) (fun _ => ?_)); (focus ((repeat' constructor) <;> (simp only [purAs, purA, Vf, Bool.and_self, XV.v, XV.c, hw]; done)))) | ((with_reducible refine cC_pure ?_ (h2) (fun _ => ?_)); (focus ((repeat' constructor) <;> (simp only [purAs, purA, Vf, Bool.and_self, XV.v, XV.c, hw]; done)))) | ((with_reducible refine cC_pure ?_ (h3) (fun _ => ?_)); (focus ((repeat' constructor) <;> (simp only [purAs, purA, Vf, Bool.and_self, XV.v, XV.c, hw]; done)))))); done)); (try simp only [St.put, Nat.reduceLT, ↓reduceIte, mrg_t])))
    | (((first | (((with_reducible refine opsP_cons fun K3 hK3 => ?_); simp only [wantP, opP, valP, Ur, Us])) | (skip)); simp (disch := omega) only [St.eval, St.put, upd_app, iniT_app, avOf, avOf1, nom, cellsA, AV.okv, loadA, U7, U8, Ua, Ub, Uf, Ug, Uk, Un, Up, Ut, Uu, Uv, V9, Ve, Vr, PmL, simprocAttr, PmT, XV.v, XV.c, retQ, resP, tupA, fg]; try (with_reducible (first | exact co_refl _ | exact co_own _ _ _ | exact co_nilsB | exact co_nilsL _ _)))))
set_option maxRecDepth 100000 in
set_option maxHeartbeats 1000000 in
theorem pSorts (a b c : XV) : Pure Tryd.prog 6 [a.v, b.v, c.v] (.d (.bool true)) := by
  refine pure_intro Tryd.func6 rfl rfl rfl 54 rfl (fun hh => ?_)
  have h1 := pOrder a b
  have h2 := pOrder b c
  have h3 := pOrder a c
  have h4 := pOrder a a
  rw [ordV_same] at h4
  have e1 : ordV a b ≤ 0 → ordV b c ≤ 0 → ordV a c ≤ 0 := ordV_trans
  have e2 : ordV a b = 0 → ordV b c = 0 → ordV a c = 0 := fun k1 k2 => by rw [ordV_congr k1, k2]
  obtain ⟨x, hx⟩ : ∃ z, ordV a b = z := ⟨_, rfl⟩
  obtain ⟨y, hy⟩ : ∃ z, ordV b c = z := ⟨_, rfl⟩
  obtain ⟨z, hz⟩ : ∃ z, ordV a c = z := ⟨_, rfl⟩
  rw [hx] at h1 e1 e2
  rw [hy] at h2 e1 e2
  rw [hz] at h3 e1 e2
  obtain ⟨t1, n1, i1, s1⟩ := a
  obtain ⟨t2, n2, i2, s2⟩ := b
  obtain ⟨t3, n3, i3, s3⟩ := c
  simp only [XV.v, XV.c] at h1 h2 h3 h4
  repeat' (first
    | ((with_reducible (first
     | (refine PW.seq fun K1 hK1 => ?_) | (refine PW.region fun K2 hK2 => ?_) | ((refine hK3 _ ?_; clear hK3)) | ((refine opsP_nil ?_; refine hK2 _ ?_; clear hK2)) 
     | (refine PW.ret ?_) )))
    | (((with_reducible refine cC_pure ?_ (pShown) (fun _ => ?_)); (focus ((repeat' constructor) <;> (simp only [purAs, purA, Vf, Bool.and_self, XV.v, XV.c]; done)))))
    | (((with_reducible refine cC_pure ?_ (h1) (fun _ => ?_)); (focus ((repeat' constructor) <;> (simp only [purAs, purA, Vf, Bool.and_self, XV.v, XV.c]; done)))))
    | (((with_reducible refine cC_pure ?_ (h2) (fun _ => ?_)); (focus ((repeat' constructor) <;> (simp only [purAs, purA, Vf, Bool.and_self, XV.v, XV.c]; done)))))
    | (((with_reducible refine cC_pure ?_ (h3) (fun _ => ?_)); (focus ((repeat' constructor) <;> (simp only [purAs, purA, Vf, Bool.and_self, XV.v, XV.c]; done)))))
    | (((with_reducible refine cC_pure ?_ (h4) (fun _ => ?_)); (focus ((repeat' constructor) <;> (simp only [purAs, purA, Vf, Bool.and_self, XV.v, XV.c]; done)))))
    | ((simp only [thenP]; (try ((repeat (fail_if_success (with_reducible refine hK1 _ ?_)); clear hK1); (with_reducible refine hK1 _ ?_); clear hK1))))
    | (((first | ((with_reducible (first | refine opsP_consMt (d := ?_) (dj := ?_) (b := ?_) (r := ?_) ?_ ?_ (fun hb => ?_) (fun K3 hK3 => ?_) | refine opsP_consMf (d := ?_) (dj := ?_) (b := ?_) (r := ?_) ?_ ?_ (fun hb => ?_) (fun K3 hK3 => ?_))); rotate_left 3; (focus exact rfl); (focus (simp only [upd_app, simprocAttr]; exact rfl))) | ((with_reducible (first | refine opsP_consNt (d := ?_) (dj := ?_) (b := ?_) (r := ?_) (c := ?_) ?_ ?_ (fun hb => ?_) (fun K3 hK3 => ?_) | refine opsP_consNf (d := ?_) (dj := ?_) (b := ?_) (r := ?_) (c := ?_) ?_ ?_ (fun hb => ?_) (fun K3 hK3 => ?_))); rotate_left 4; (focus exact rfl); (focus (simp only [upd_app, simprocAttr]; exact rfl)))); (focus (simp only [opP, valP]; (try (simp only [Bool.and_eq_true, Bool.not_eq_true'] at hb)); (try (have hp := hb; simp only [PmH] at hp)); simp (disch := omega) only [St.eval, upd_app, avOf, avOf1, binP, intsP, intP, nilP, slA, PmL, simprocAttr, mrg_t, pick_or, hb]; (repeat' (first | (exact rfl) | ((refine And.intro ?_ ?_); (focus (exact rfl)); (exact rfl)) | (refine And.intro (by first | omega | (simp; done) | assumption) ?_) | ((with_reducible refine cC_pure ?_ (pShown) (fun _ => ?_)); (focus ((repeat' constructor) <;> (simp only [purAs, purA, Vf, Bool.and_self, XV.v, XV.c]; done)))) | ((with_reducible refine cC_pure ?_ (h1) (fun _ => ?_)); (focus ((repeat' constructor) <;> (simp only [purAs, purA, Vf, Bool.and_self, XV.v, XV.c]; done)))) | ((with_reducible refine cC_pure ?_ (h2) (fun _ => ?_)); (focus ((repeat' constructor) <;> (simp only [purAs, purA, Vf, Bool.and_self, XV.v, XV.c]; done)))) | ((with_reducible refine cC_pure ?_ (h3) (fun _ => ?_)); (focus ((repeat' constructor) <;> (simp only [purAs, purA, Vf, Bool.and_self, XV.v, XV.c]; done)))) | ((with_reducible refine cC_pure ?_ (h4) (fun _ => ?_)); (focus ((repeat' constructor) <;> (simp only [purAs, purA, Vf, Bool.and_self, XV.v, XV.c]; done)))))); done)); (try simp only [St.put, Nat.reduceLT, ↓reduceIte, mrg_t])))
    | (((first | (((with_reducible refine opsP_cons fun K3 hK3 => ?_); simp only [wantP, opP, valP, Ur, Us])) | (skip)); simp (disch := omega) only [St.eval, St.put, upd_app, iniT_app, avOf, avOf1, nom, cellsA, AV.okv, loadA, U7, U8, Ua, Ub, Uf, Ug, Uk, Un, Up, Ut, Uu, Uv, V9, Ve, Vr, PmL, simprocAttr, PmT, XV.v, XV.c, pick_and, retQ, resP, tupA, fg]; try (with_reducible (first | exact co_refl _ | exact co_own _ _ _ | exact co_nilsB | exact co_nilsL _ _)))))
  all_goals
    refine co_eq (congrArg (fun b => AV.d (.bool b)) ?_)
    rw [Bool.eq_iff_iff]
    simp only [Bool.and_eq_true, Bool.or_eq_true, decide_eq_true_eq, Bool.not_eq_true', decide_eq_false_iff_not, iff_true]
    omega
end PM
end Go.Proofs.YtndomnknjlihhaaDoor
