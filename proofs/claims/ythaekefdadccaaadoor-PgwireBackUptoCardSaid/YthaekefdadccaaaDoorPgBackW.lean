/- pgwire: PgwireBack in the abstract, and its walk. -/
import Derived.Test.YthaekefdadccaaaDoorPgTt
import Derived.Test.YthaekefdadccaaaDoorPgRS
import Derived.Test.YthaekefdadccaaaDoorPgShown
import Derived.Test.YthaekefdadccaaaDoorPgBOpen
namespace Go.Proofs.YthaekefdadccaaaDoor
open Go.RowKit
namespace PM
set_option maxRecDepth 100000 in
set_option maxHeartbeats 4000000 in
theorem pBack (m : Back) (rest : List Int) (cut : Int) (hz : backSmall m) (hr : rest.length ≤ 100000000000) : Pure Tryd.prog 9 [m.v, bs rest, .d (.int .i64 cut)] (.d (.bool true)) := by
  refine pure_intro Tryd.func9 rfl rfl rfl 87 rfl (fun hh => ?_)
  have hmx : maxLen = 9223372036854775807 := rfl
  have h1 := pPut m hz
  by_cases he : (putBackS m).2 = 0
  · have hXl : 0 < (putBackS m).1.length ∧ (putBackS m).1.length ≤ 1073741900 := by
      by_cases hk : m.kind = 10
      · have h0 := he
        unfold putBackS at h0 ⊢
        rw [if_pos hk] at h0 ⊢
        split at h0
        · rename_i hq; rw [if_pos hq]; exact ⟨by decide, by decide⟩
        · exact absurd h0 (by decide)
      · obtain ⟨-, -, hl, -, h5⟩ := back_ok he hk
        rw [h5]
        simp only [List.length_cons, List.length_append, big4_l]
        omega
    have hS := pSameBack m m
    rw [back_same_self] at hS
    have hB := take_back told_good he rest
    have hC := fun (c : Nat) h => take_cut (g := toldS) he (c := c) h
    have hT := pTake ((putBackS m).1 ++ rest)
    rw [hB] at hT
    obtain ⟨⟨X, e⟩, hX⟩ : ∃ r, putBackS m = r := ⟨_, rfl⟩
    rw [hX] at hT h1 hC hXl he
    simp only at he hXl hT hC
    subst he
    by_cases hc : cut < 0
    · have hc' := eq_true hc
      obtain ⟨xk, xn, xt, xp, xs, xu, xf, xc, xa, xg⟩ := m
      simp only [Back.v, Back.c, putV, List.map_cons, List.map_nil] at h1
      repeat' (first
        | ((with_reducible (first
         | (refine PW.seq fun K1 hK1 => ?_) | (refine PW.region fun K2 hK2 => ?_) | ((refine hK3 _ ?_; clear hK3)) | ((refine opsP_nil ?_; refine hK2 _ ?_; clear hK2)) 
         | (refine PW.ret ?_) | ((refine hX1 ?_; clear hX1 hY1; try simp only [hb])) )))
        | (((with_reducible refine cC_pure ?_ (pShown) (fun _ => ?_)); (focus ((repeat' constructor) <;> (simp only [purAs, purA, Vf, Bool.and_self, Back.v, Back.c, hc']; done)))))
        | (((with_reducible refine cC_pure ?_ (h1) (fun _ => ?_)); (focus ((repeat' constructor) <;> (simp only [purAs, purA, Vf, Bool.and_self, Back.v, Back.c, hc']; done)))))
        | ((simp only [thenP]; (try ((repeat (fail_if_success (with_reducible refine hK1 _ ?_)); clear hK1); (with_reducible refine hK1 _ ?_); clear hK1))))
        | (((first | ((with_reducible (first | refine opsP_consMt (d := ?_) (dj := ?_) (b := ?_) (r := ?_) ?_ ?_ (fun hb => ?_) (fun K3 hK3 => ?_) | refine opsP_consMf (d := ?_) (dj := ?_) (b := ?_) (r := ?_) ?_ ?_ (fun hb => ?_) (fun K3 hK3 => ?_))); rotate_left 3; (focus exact rfl); (focus (simp only [upd_app, simprocAttr]; exact rfl))) | ((with_reducible (first | refine opsP_consNt (d := ?_) (dj := ?_) (b := ?_) (r := ?_) (c := ?_) ?_ ?_ (fun hb => ?_) (fun K3 hK3 => ?_) | refine opsP_consNf (d := ?_) (dj := ?_) (b := ?_) (r := ?_) (c := ?_) ?_ ?_ (fun hb => ?_) (fun K3 hK3 => ?_))); rotate_left 4; (focus exact rfl); (focus (simp only [St.put, upd_app, iniT_app, simprocAttr, mrg_t, mrg_f]; exact rfl)))); (focus (simp only [opP, valP, Ur, Us]; (try (simp only [Bool.not_eq_true'] at hb)); (try (have hp := hb; simp only [PmH, beq_iff_eq, beq_eq_false_iff_ne, ne_eq] at hp)); simp (disch := omega) only [St.eval, upd_app, iniT_app, avOf, avOf1, binP, intsP, intP, eqP, nilP, builtinP, maplenP, isMapA, slA, U7, U8, PmL, simprocAttr, hc', hb]; (repeat' (first | (exact rfl) | ((refine And.intro ?_ ?_); (focus (exact rfl)); (exact rfl)) | (refine And.intro (by first | omega | (simp; done) | assumption) ?_) | ((with_reducible refine cC_pure ?_ (pShown) (fun _ => ?_)); (focus ((repeat' constructor) <;> (simp only [purAs, purA, Vf, Bool.and_self, Back.v, Back.c, hc']; done)))) | ((with_reducible refine cC_pure ?_ (h1) (fun _ => ?_)); (focus ((repeat' constructor) <;> (simp only [purAs, purA, Vf, Bool.and_self, Back.v, Back.c, hc']; done)))))); done)); (try simp only [St.put, Nat.reduceLT, ↓reduceIte, mrg_t, mrg_f, Bool.not_true, Bool.not_false])))
        | (((first | (((with_reducible refine opsP_cons fun K3 hK3 => ?_); simp only [wantP, opP, valP, Ur, Us])) | ((with_reducible refine PW.condM fun X1 Y1 hX1 hY1 => ?_)) | (skip)); simp (disch := omega) only [wantB_tf, St.eval, St.put, upd_app, iniT_app, avOf, avOf1, nom, cellsA, AV.okv, loadA, lenP, binP, eqP, nilP, unP, builtinP, isMapA, slA, U7, Ua, Ub, Uf, Ug, Uk, Un, Up, Ur, Us, Ut, Uv, Uz, V4, V9, Vr, PmL, simprocAttr, PmT, Back.v, Back.c, retQ, resP, tupA, fg, condP, condB_t]; try (with_reducible (first | exact co_refl _ | exact co_own _ _ _ | exact co_nilsB | exact co_nilsL _ _)))))
    · have hc' := eq_false hc
      have hX0 : ((X.length : Int) = 0) = False := eq_false (by omega)
      obtain ⟨k, hk, hkl⟩ : ∃ k : Nat, cut.tmod (X.length : Int) = k ∧ k < X.length := by
        rw [Int.tmod_eq_emod_of_nonneg (by omega)]
        have h0 := Int.emod_nonneg cut (show (X.length : Int) ≠ 0 by omega)
        have h1 := Int.emod_lt_of_pos cut (show 0 < (X.length : Int) by omega)
        exact ⟨(cut % (X.length : Int)).toNat, by omega, by omega⟩
      have h10 := hC k hkl
      have hU := pTake (X.take k)
      rw [h10] at hU
      obtain ⟨xk, xn, xt, xp, xs, xu, xf, xc, xa, xg⟩ := m
      simp only [Back.v, Back.c, putV, zB, List.map_cons, List.map_nil] at h1 hS hU hT
      repeat' (first
        | ((with_reducible (first
         | (refine PW.seq fun K1 hK1 => ?_) | (refine PW.region fun K2 hK2 => ?_) | ((refine hK3 _ ?_; clear hK3)) | ((refine opsP_nil ?_; refine hK2 _ ?_; clear hK2)) | ((refine Exists.intro _ (Exists.intro _ (And.intro rfl (And.intro rfl (And.intro ?_ ?_)))); focus omega)) 
         | (refine PW.skip ?_) | (refine PW.ret ?_) | ((refine hY1 ?_; clear hX1 hY1; try simp only [hb])) )))
        | (((with_reducible refine cC_pure ?_ (pShown) (fun _ => ?_)); (focus ((repeat' constructor) <;> (simp only [purAs, purA, Vf, Bool.and_self, Back.v, Back.c, hc', hX0, hk]; done)))))
        | (((with_reducible refine cC_pure ?_ (h1) (fun _ => ?_)); (focus ((repeat' constructor) <;> (simp only [purAs, purA, Vf, Bool.and_self, Back.v, Back.c, hc', hX0, hk]; done)))))
        | (((with_reducible refine cC_pure ?_ (hS) (fun _ => ?_)); (focus ((repeat' constructor) <;> (simp only [purAs, purA, Vf, Bool.and_self, Back.v, Back.c, hc', hX0, hk]; done)))))
        | (((with_reducible refine cC_pure ?_ (hT) (fun _ => ?_)); (focus ((repeat' constructor) <;> (simp only [purAs, purA, Vf, Bool.and_self, Back.v, Back.c, hc', hX0, hk]; done)))))
        | (((with_reducible refine cC_pure ?_ (hU) (fun _ => ?_)); (focus ((repeat' constructor) <;> (simp only [purAs, purA, Vf, Bool.and_self, Back.v, Back.c, hc', hX0, hk]; done)))))
        | (((with_reducible refine And.intro ?_ ?_); (focus (first | omega | (simp; done) | assumption))))
        | ((simp only [thenP]; (try ((repeat (fail_if_success (with_reducible refine hK1 _ ?_)); clear hK1); (with_reducible refine hK1 _ ?_); clear hK1))))
        | (((with_reducible refine opsP_consD (d := 47) fun K3 hK3 => ?_); simp only [wantP, opP, Us, List.mapM_nil, Ux]; simp (disch := omega) only [St.put, U3, U5, Uf, Ug, Ut, Uu, Ux, V1, Option.pure_def, V9, Vb, Ve, PmL, simprocAttr, PmT]; (with_reducible refine litX_old ?_); (with_reducible refine litC_own ?_)))
        | (((first | ((with_reducible (first | refine opsP_consMt (d := ?_) (dj := ?_) (b := ?_) (r := ?_) ?_ ?_ (fun hb => ?_) (fun K3 hK3 => ?_) | refine opsP_consMf (d := ?_) (dj := ?_) (b := ?_) (r := ?_) ?_ ?_ (fun hb => ?_) (fun K3 hK3 => ?_))); rotate_left 3; (focus exact rfl); (focus (simp only [upd_app, simprocAttr]; exact rfl))) | ((with_reducible (first | refine opsP_consNt (d := ?_) (dj := ?_) (b := ?_) (r := ?_) (c := ?_) ?_ ?_ (fun hb => ?_) (fun K3 hK3 => ?_) | refine opsP_consNf (d := ?_) (dj := ?_) (b := ?_) (r := ?_) (c := ?_) ?_ ?_ (fun hb => ?_) (fun K3 hK3 => ?_))); rotate_left 4; (focus exact rfl); (focus (simp only [St.put, upd_app, iniT_app, simprocAttr, mrg_t, mrg_f]; exact rfl)))); (focus (simp only [opP, valP, Ur, Us]; (try (simp only [Bool.not_eq_true'] at hb)); (try (have hp := hb; simp only [PmH, beq_iff_eq, beq_eq_false_iff_ne, ne_eq] at hp)); simp (disch := omega) only [St.eval, upd_app, iniT_app, avOf, avOf1, lenP, binP, intsP, intP, nilP, builtinP, isMapA, slA, U7, U8, PmL, simprocAttr, PmT, hc']; (repeat' (first | (exact rfl) | ((refine And.intro ?_ ?_); (focus (exact rfl)); (exact rfl)) | (refine And.intro (by first | omega | (simp; done) | assumption) ?_) | ((with_reducible refine cC_pure ?_ (pShown) (fun _ => ?_)); (focus ((repeat' constructor) <;> (simp only [purAs, purA, Vf, Bool.and_self, Back.v, Back.c, hc', hX0, hk]; done)))) | ((with_reducible refine cC_pure ?_ (h1) (fun _ => ?_)); (focus ((repeat' constructor) <;> (simp only [purAs, purA, Vf, Bool.and_self, Back.v, Back.c, hc', hX0, hk]; done)))) | ((with_reducible refine cC_pure ?_ (hS) (fun _ => ?_)); (focus ((repeat' constructor) <;> (simp only [purAs, purA, Vf, Bool.and_self, Back.v, Back.c, hc', hX0, hk]; done)))) | ((with_reducible refine cC_pure ?_ (hT) (fun _ => ?_)); (focus ((repeat' constructor) <;> (simp only [purAs, purA, Vf, Bool.and_self, Back.v, Back.c, hc', hX0, hk]; done)))) | ((with_reducible refine cC_pure ?_ (hU) (fun _ => ?_)); (focus ((repeat' constructor) <;> (simp only [purAs, purA, Vf, Bool.and_self, Back.v, Back.c, hc', hX0, hk]; done)))))); done)); (try simp only [St.put, Nat.reduceLT, ↓reduceIte, mrg_t, Bool.not_false])))
        | (((first | (((with_reducible refine opsP_cons fun K3 hK3 => ?_); simp only [wantP, opP, valP, Ur, Us])) | ((with_reducible refine PW.condM fun X1 Y1 hX1 hY1 => ?_)) | (skip)); simp (disch := omega) only [St.eval, St.put, upd_app, iniT_app, avOf, avOf1, nom, cellsA, AV.okv, loadA, lenP, binP, intsP, intP, nilP, sliceP, boundLo, boundHi, unP, builtinP, appP, srcA, srcTy, isMapA, isBsl, slA, putCells, U7, U8, Ua, Ub, Uc, Ud, Uf, Ug, Uk, Un, Up, Ur, Us, Ut, Uu, Uv, V2, V3, V7, V8, V9, Ve, UU2, UU4, Vr, PmL, simprocAttr, PmT, Back.v, Back.c, hX0, hk, retQ, resP, tupA, fg, condP, condB_f]; try (with_reducible (first | exact co_refl _ | exact co_own _ _ _ | exact co_nilsB | exact co_nilsL _ _)))))
  · have hn := put_none he
    have he' := eq_false he
    obtain ⟨⟨X, e⟩, hX⟩ : ∃ r, putBackS m = r := ⟨_, rfl⟩
    rw [hX] at hn h1 he'
    simp only at hn he'
    subst hn
    obtain ⟨xk, xn, xt, xp, xs, xu, xf, xc, xa, xg⟩ := m
    simp only [Back.v, Back.c, putV, List.map_cons, List.map_nil] at h1
    repeat' (first
      | ((with_reducible (first
       | (refine PW.seq fun K1 hK1 => ?_) | (refine PW.region fun K2 hK2 => ?_) | ((refine hK3 _ ?_; clear hK3)) | ((refine opsP_nil ?_; refine hK2 _ ?_; clear hK2)) 
       | (refine PW.ret ?_) | ((refine hX1 ?_; clear hX1 hY1; try simp only [hb])) )))
      | (((with_reducible refine cC_pure ?_ (pShown) (fun _ => ?_)); (focus ((repeat' constructor) <;> (simp only [purAs, purA, Vf, Bool.and_self, Back.v, Back.c, he']; done)))))
      | (((with_reducible refine cC_pure ?_ (h1) (fun _ => ?_)); (focus ((repeat' constructor) <;> (simp only [purAs, purA, Vf, Bool.and_self, Back.v, Back.c, he']; done)))))
      | ((simp only [thenP]; (try ((repeat (fail_if_success (with_reducible refine hK1 _ ?_)); clear hK1); (with_reducible refine hK1 _ ?_); clear hK1))))
      | (((first | ((with_reducible (first | refine opsP_consMt (d := ?_) (dj := ?_) (b := ?_) (r := ?_) ?_ ?_ (fun hb => ?_) (fun K3 hK3 => ?_) | refine opsP_consMf (d := ?_) (dj := ?_) (b := ?_) (r := ?_) ?_ ?_ (fun hb => ?_) (fun K3 hK3 => ?_))); rotate_left 3; (focus exact rfl); (focus (simp only [upd_app, simprocAttr]; exact rfl))) | ((with_reducible (first | refine opsP_consNt (d := ?_) (dj := ?_) (b := ?_) (r := ?_) (c := ?_) ?_ ?_ (fun hb => ?_) (fun K3 hK3 => ?_) | refine opsP_consNf (d := ?_) (dj := ?_) (b := ?_) (r := ?_) (c := ?_) ?_ ?_ (fun hb => ?_) (fun K3 hK3 => ?_))); rotate_left 4; (focus exact rfl); (focus (simp only [St.put, upd_app, iniT_app, simprocAttr, mrg_t, mrg_f]; exact rfl)))); (focus (simp only [opP, valP, Ur, Us]; (try (simp only [Bool.not_eq_true'] at hb)); (try (have hp := hb; simp only [PmH, beq_iff_eq, beq_eq_false_iff_ne, ne_eq] at hp)); simp (disch := omega) only [St.eval, upd_app, iniT_app, avOf, avOf1, lenP, binP, intsP, intP, nilP, builtinP, isMapA, slA, U7, U8, Ug, Int.cast_ofNat_Int, PmL, simprocAttr, PmT, he', hb]; (repeat' (first | (exact rfl) | ((refine And.intro ?_ ?_); (focus (exact rfl)); (exact rfl)) | (refine And.intro (by first | omega | (simp; done) | assumption) ?_) | ((with_reducible refine cC_pure ?_ (pShown) (fun _ => ?_)); (focus ((repeat' constructor) <;> (simp only [purAs, purA, Vf, Bool.and_self, Back.v, Back.c, he']; done)))) | ((with_reducible refine cC_pure ?_ (h1) (fun _ => ?_)); (focus ((repeat' constructor) <;> (simp only [purAs, purA, Vf, Bool.and_self, Back.v, Back.c, he']; done)))))); done)); (try simp only [St.put, Nat.reduceLT, ↓reduceIte, mrg_t, mrg_f, Bool.not_true, Bool.not_false])))
      | (((first | (((with_reducible refine opsP_cons fun K3 hK3 => ?_); simp only [wantP, opP, valP, Ur, Us])) | ((with_reducible refine PW.condM fun X1 Y1 hX1 hY1 => ?_)) | (skip)); simp (disch := omega) only [wantB_tf, St.eval, St.put, upd_app, iniT_app, avOf, avOf1, nom, cellsA, AV.okv, loadA, binP, nilP, unP, slA, U7, Ua, Ub, Uf, Ug, Uk, Un, Up, Ur, Us, Ut, Uv, Uz, V4, V9, Vr, PmL, simprocAttr, PmT, Back.v, Back.c, retQ, resP, tupA, fg, condP, condB_t]; try (with_reducible (first | exact co_refl _ | exact co_own _ _ _ | exact co_nilsB | exact co_nilsL _ _)))))
end PM
end Go.Proofs.YthaekefdadccaaaDoor
namespace Go.Proofs.YthaekefdadccaaaDoor
open Go.RowKit
open PM
set_option maxRecDepth 100000 in
/-- the walk of PgwireBack -/
theorem back_walk (v : Value) (f : Back) (v1 : Value) (l : List Int) (n : Int) (bn : -9223372036854775808 ≤ n ∧ n ≤ 9223372036854775807) (w : World) (h : RelA G0 nom w f.v v) (hz : backSmall f) (hb : IsB w v1 l) (hl : l.length ≤ 1048575) :
    Calls Tryd.prog 9 #[v, v1, .int .i64 n] w (Ret (.bool true) w) := by
  have hc := calls_of_pure (vs := [v, v1, .int .i64 n]) Tryd.func9 rfl rfl (pBack f l n hz (by omega)) (.cons h (.cons (relB hb) (.cons (relA_int (by rw [PM.wf_i64]; simp only [Bool.and_eq_true, decide_eq_true_eq]; exact bn)) .nil)))
  refine hc.mono fun e w' ⟨v', G', h1, h2, h3, h4⟩ => ⟨?_, h2⟩
  rw [h1, bool_ret h4]
end Go.Proofs.YthaekefdadccaaaDoor
