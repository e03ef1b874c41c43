/- pgwire's reference in the abstract: the message that a tag and a body may be. pgwire's reference in the abstract: the message that a tag and a body may be: all of them. -/
import Derived.Test.YthaekefdadccaaaDoorPgTr
namespace Go.Proofs.YthaekefdadccaaaDoor
open Go.RowKit
namespace PM
set_option maxRecDepth 100000 in
set_option maxHeartbeats 4000000 in
theorem pGuessA (c : Int) (b : List Int) (hz : b.length ≤ 100000000000) (hc : c = 82 ∨ c = 73 ∨ c = 84 ∨ c = 68) : Pure Tryd.prog 47 [.d (.int .u8 c), bs b] (guessS c b).v := by
  have hF := pGuessF b hz
  have hC := pGuessC b hz
  have e1 : guessS 82 b = { zB with kind := 1 } := rfl
  have e2 : guessS 73 b = { zB with kind := 8 } := rfl
  have e3 : guessS 84 b = gFldsS b := rfl
  have e4 : guessS 68 b = gCelsS b := rfl
  obtain ⟨F, hFe⟩ : ∃ F, gFldsS b = F := ⟨_, rfl⟩
  obtain ⟨C, hCe⟩ : ∃ F, gCelsS b = F := ⟨_, rfl⟩
  rw [hFe] at hF e3
  rw [hCe] at hC e4
  obtain ⟨xk, xn, xt, xp, xs, xu, xf, xc, xa, xg⟩ := F
  obtain ⟨yk, yn, yt, yp, ys, yu, yf, yc, ya, yg⟩ := C
  simp only [Back.v, Back.c, List.map_cons, List.map_nil] at hF hC
  rcases hc with rfl | rfl | rfl | rfl
  · rw [e1]
    refine pure_intro Tryd.func47 rfl rfl rfl 123 rfl (fun hh => ?_)
    repeat' (first
      | ((with_reducible (first
       | (refine PW.seq fun K1 hK1 => ?_) | (refine PW.region fun K2 hK2 => ?_) | ((refine hK3 _ ?_; clear hK3)) | ((refine opsP_nil ?_; refine hK2 _ ?_; clear hK2)) | (refine PW.block ?_) 
       | (refine PW.ret ?_) | ((refine hX1 ?_; clear hX1 hY1; try simp only [hb])) )))
      | ((simp only [thenP, blockP]; (try ((repeat (fail_if_success (with_reducible refine hK1 _ ?_)); clear hK1); (with_reducible refine hK1 _ ?_); clear hK1))))
      | (((first | (((with_reducible refine opsP_cons fun K3 hK3 => ?_); simp only [wantP, opP, valP, Ur, Us])) | ((with_reducible refine PW.condM fun X1 Y1 hX1 hY1 => ?_)) | (skip)); simp (disch := omega) only [St.eval, St.put, upd_app, iniT_app, avOf, avOf1, nom, cellsA, AV.okv, loadA, binP, intsP, intP, nilP, slA, putCells, fillA, buildA, U7, Ua, Uc, Ud, Uf, Ug, Uk, Un, Up, Ur, Us, Ut, V9, Vt, UU2, UU3, Vr, PmL, simprocAttr, PmT, zB, Back.v, Back.c, retQ, resP, tupA, fg, fgs, condP, condB_t]; try (with_reducible (first | exact co_refl _ | exact co_own _ _ _ | exact co_nilsB | exact co_nilsL _ _)))))
    exact co_agg (by repeat' (first | (refine cos_cons ?_ ?_) | exact cos_nil | exact co_refl _ | exact co_own _ _ _ | exact co_nilsB | exact co_nilsL _ _ | exact co_nils _))
  · rw [e2]
    refine pure_intro Tryd.func47 rfl rfl rfl 123 rfl (fun hh => ?_)
    repeat' (first
      | ((with_reducible (first
       | (refine PW.seq fun K1 hK1 => ?_) | (refine PW.region fun K2 hK2 => ?_) | ((refine hK3 _ ?_; clear hK3)) | ((refine opsP_nil ?_; refine hK2 _ ?_; clear hK2)) | (refine PW.block ?_) 
       | (refine PW.ret ?_) | ((refine hX1 ?_; clear hX1 hY1; try simp only [hb])) | ((refine hY1 ?_; clear hX1 hY1; try simp only [hb])) )))
      | ((simp only [thenP, blockP]; (try ((repeat (fail_if_success (with_reducible refine hK1 _ ?_)); clear hK1); (with_reducible refine hK1 _ ?_); clear hK1))))
      | (((first | (((with_reducible refine opsP_cons fun K3 hK3 => ?_); simp only [wantP, opP, valP, Ur, Us])) | ((with_reducible refine PW.condM fun X1 Y1 hX1 hY1 => ?_)) | (skip)); simp (disch := omega) only [St.eval, St.put, upd_app, iniT_app, avOf, avOf1, nom, cellsA, AV.okv, loadA, binP, intsP, intP, nilP, slA, putCells, fillA, buildA, U7, Ua, Uc, Ud, Uf, Ug, Uk, Un, Up, Ur, Us, Ut, V9, Vt, UU2, UU3, Vr, PmL, simprocAttr, PmT, zB, Back.v, Back.c, retQ, resP, tupA, fg, fgs, condP, condB_t, condB_f]; try (with_reducible (first | exact co_refl _ | exact co_own _ _ _ | exact co_nilsB | exact co_nilsL _ _)))))
    exact co_agg (by repeat' (first | (refine cos_cons ?_ ?_) | exact cos_nil | exact co_refl _ | exact co_own _ _ _ | exact co_nilsB | exact co_nilsL _ _ | exact co_nils _))
  · rw [e3]
    refine pure_intro Tryd.func47 rfl rfl rfl 123 rfl (fun hh => ?_)
    repeat' (first
      | ((with_reducible (first
       | (refine PW.seq fun K1 hK1 => ?_) | (refine PW.region fun K2 hK2 => ?_) | ((refine hK3 _ ?_; clear hK3)) | ((refine opsP_nil ?_; refine hK2 _ ?_; clear hK2)) | (refine PW.block ?_) 
       | (refine PW.ret ?_) | ((refine hX1 ?_; clear hX1 hY1; try simp only [hb])) | ((refine hY1 ?_; clear hX1 hY1; try simp only [hb])) )))
      | (((with_reducible refine cC_pure ?_ (hF) (fun _ => ?_)); (focus ((repeat' constructor) <;> (simp only [purAs, purA, Vf, Bool.and_self, zB, Back.v, Back.c]; done)))))
      | ((simp only [thenP, blockP]; (try ((repeat (fail_if_success (with_reducible refine hK1 _ ?_)); clear hK1); (with_reducible refine hK1 _ ?_); clear hK1))))
      | (((first | (((with_reducible refine opsP_cons fun K3 hK3 => ?_); simp only [wantP, opP, valP, Ur, Us])) | ((with_reducible refine PW.condM fun X1 Y1 hX1 hY1 => ?_)) | (skip)); simp (disch := omega) only [St.eval, St.put, upd_app, iniT_app, avOf, avOf1, nom, cellsA, AV.okv, loadA, binP, intsP, intP, nilP, slA, putCells, U7, U8, Ua, Uc, Ud, Uf, Ug, Uk, Un, Up, Ur, Us, Ut, Uv, V9, Vr, PmL, simprocAttr, PmT, Back.v, Back.c, retQ, resP, tupA, fg, fgs, condP, condB_t, condB_f]; try (with_reducible (first | exact co_refl _ | exact co_own _ _ _ | exact co_nilsB | exact co_nilsL _ _)))))
    all_goals exact co_agg (by repeat' (first | (refine cos_cons ?_ ?_) | exact cos_nil | exact co_refl _ | exact co_own _ _ _ | exact co_nilsB | exact co_nilsL _ _ | exact co_nils _))
  · rw [e4]
    refine pure_intro Tryd.func47 rfl rfl rfl 123 rfl (fun hh => ?_)
    repeat' (first
      | ((with_reducible (first
       | (refine PW.seq fun K1 hK1 => ?_) | (refine PW.region fun K2 hK2 => ?_) | ((refine hK3 _ ?_; clear hK3)) | ((refine opsP_nil ?_; refine hK2 _ ?_; clear hK2)) | (refine PW.block ?_) 
       | (refine PW.ret ?_) | ((refine hX1 ?_; clear hX1 hY1; try simp only [hb])) | ((refine hY1 ?_; clear hX1 hY1; try simp only [hb])) )))
      | (((with_reducible refine cC_pure ?_ (hC) (fun _ => ?_)); (focus ((repeat' constructor) <;> (simp only [purAs, purA, Vf, Bool.and_self, zB, Back.v, Back.c]; done)))))
      | ((simp only [thenP, blockP]; (try ((repeat (fail_if_success (with_reducible refine hK1 _ ?_)); clear hK1); (with_reducible refine hK1 _ ?_); clear hK1))))
      | (((first | (((with_reducible refine opsP_cons fun K3 hK3 => ?_); simp only [wantP, opP, valP, Ur, Us])) | ((with_reducible refine PW.condM fun X1 Y1 hX1 hY1 => ?_)) | (skip)); simp (disch := omega) only [St.eval, St.put, upd_app, iniT_app, avOf, avOf1, nom, cellsA, AV.okv, loadA, binP, intsP, intP, nilP, slA, putCells, U7, U8, Ua, Uc, Ud, Uf, Ug, Uk, Un, Up, Ur, Us, Ut, Uv, V9, Vr, PmL, simprocAttr, PmT, Back.v, Back.c, retQ, resP, tupA, fg, fgs, condP, condB_t, condB_f]; try (with_reducible (first | exact co_refl _ | exact co_own _ _ _ | exact co_nilsB | exact co_nilsL _ _)))))
    all_goals exact co_agg (by repeat' (first | (refine cos_cons ?_ ?_) | exact cos_nil | exact co_refl _ | exact co_own _ _ _ | exact co_nilsB | exact co_nilsL _ _ | exact co_nils _))
set_option maxRecDepth 100000 in
set_option maxHeartbeats 4000000 in
theorem pGuessK (b : List Int) (h8 : b.length = 8) : Pure Tryd.prog 47 [.d (.int .u8 75), bs b] (guessS 75 b).v := by
  have e1 : guessS 75 b = { zB with kind := 3, pid := i32v b, secret := i32v (b.drop 4) } := if_pos h8
  rw [e1]
  have k8 := eq_true (show (b.length : Int) = 8 by omega)
  have hI := pI32 b (by omega)
  have hJ := pI32 (b.drop 4) (by rw [List.length_drop]; omega)
  refine pure_intro Tryd.func47 rfl rfl rfl 123 rfl (fun hh => ?_)
  repeat' (first
    | ((with_reducible (first
     | (refine PW.seq fun K1 hK1 => ?_) | (refine PW.region fun K2 hK2 => ?_) | ((refine hK3 _ ?_; clear hK3)) | ((refine opsP_nil ?_; refine hK2 _ ?_; clear hK2)) | ((refine Exists.intro _ (Exists.intro _ (And.intro rfl (And.intro rfl (And.intro ?_ ?_)))); focus omega)) | (refine PW.block ?_) 
     | (refine PW.ret ?_) | ((refine hX1 ?_; clear hX1 hY1; try simp only [hb])) | ((refine hY1 ?_; clear hX1 hY1; try simp only [hb])) )))
    | (((with_reducible refine cC_pure ?_ (hI) (fun _ => ?_)); (focus ((repeat' constructor) <;> (simp only [purAs, purA, Vf, Bool.and_self, zB, Back.v, Back.c, k8]; done)))))
    | (((with_reducible refine cC_pure ?_ (hJ) (fun _ => ?_)); (focus ((repeat' constructor) <;> (simp only [purAs, purA, Vf, Bool.and_self, zB, Back.v, Back.c, k8]; done)))))
    | ((simp only [thenP, blockP]; (try ((repeat (fail_if_success (with_reducible refine hK1 _ ?_)); clear hK1); (with_reducible refine hK1 _ ?_); clear hK1))))
    | (((first | (((with_reducible refine opsP_cons fun K3 hK3 => ?_); simp only [wantP, opP, valP, Ur, Us])) | ((with_reducible refine PW.condM fun X1 Y1 hX1 hY1 => ?_)) | (skip)); simp (disch := omega) only [St.eval, St.put, upd_app, iniT_app, avOf, avOf1, nom, cellsA, AV.okv, loadA, lenP, binP, intsP, intP, nilP, sliceP, boundLo, boundHi, builtinP, isMapA, slA, putCells, fillA, buildA, U7, U8, Ua, Ub, Uc, Ud, Uf, Ug, Uk, Un, Up, Uq, Ur, Us, Ut, Uv, V2, V3, V7, V9, Vt, UU2, UU3, UU4, Vr, PmL, simprocAttr, PmT, zB, Back.v, Back.c, k8, retQ, resP, tupA, fg, fgs, condP, condB_t, condB_f]; try (with_reducible (first | exact co_refl _ | exact co_own _ _ _ | exact co_nilsB | exact co_nilsL _ _)))))
  all_goals exact co_agg (by repeat' (first | (refine cos_cons ?_ ?_) | exact cos_nil | exact co_refl _ | exact co_own _ _ _ | exact co_nilsB | exact co_nilsL _ _ | exact co_nils _))
set_option maxRecDepth 100000 in
set_option maxHeartbeats 4000000 in
theorem pGuessZ (x : Int) : Pure Tryd.prog 47 [.d (.int .u8 90), bs [x]] (guessS 90 [x]).v := by
  have e1 : guessS 90 [x] = { zB with kind := 4, status := x } := rfl
  rw [e1]
  refine pure_intro Tryd.func47 rfl rfl rfl 123 rfl (fun hh => ?_)
  repeat' (first
    | ((with_reducible (first
     | (refine PW.seq fun K1 hK1 => ?_) | (refine PW.region fun K2 hK2 => ?_) | ((refine hK3 _ ?_; clear hK3)) | ((refine opsP_nil ?_; refine hK2 _ ?_; clear hK2)) | (refine PW.block ?_) 
     | (refine PW.ret ?_) | ((refine hX1 ?_; clear hX1 hY1; try simp only [hb])) | ((refine hY1 ?_; clear hX1 hY1; try simp only [hb])) )))
    | ((simp only [thenP, blockP]; (try ((repeat (fail_if_success (with_reducible refine hK1 _ ?_)); clear hK1); (with_reducible refine hK1 _ ?_); clear hK1))))
    | (((first | (((with_reducible refine opsP_cons fun K3 hK3 => ?_); simp only [wantP, opP, valP, Ur, Us])) | ((with_reducible refine PW.condM fun X1 Y1 hX1 hY1 => ?_)) | (skip)); simp (disch := omega) only [St.eval, St.put, upd_app, iniT_app, avOf, avOf1, nom, cellsA, AV.okv, loadA, lenP, binP, intsP, intP, nilP, builtinP, isMapA, slA, putCells, fillA, buildA, U7, U8, Ua, Ub, Uc, Ud, Uf, Ug, Uk, Un, Up, Ur, Us, Ut, V8, V9, Vt, Int.cast_ofNat_Int, UU2, UU3, Vr, Vs, PmL, simprocAttr, PmT, zB, Back.v, Back.c, encB, retQ, resP, tupA, fg, fgs, condP, condB_t, condB_f]; try (with_reducible (first | exact co_refl _ | exact co_own _ _ _ | exact co_nilsB | exact co_nilsL _ _)))))
  all_goals exact co_agg (by repeat' (first | (refine cos_cons ?_ ?_) | exact cos_nil | exact co_refl _ | exact co_own _ _ _ | exact co_nilsB | exact co_nilsL _ _ | exact co_nils _))
set_option maxRecDepth 100000 in
set_option maxHeartbeats 4000000 in
theorem pGuessN (c : Int) (b : List Int) (hz : b.length ≤ 100000000000) (hc : c ≠ 82 ∧ c ≠ 73 ∧ c ≠ 84 ∧ c ≠ 68) (h8 : c = 75 → b.length ≠ 8) (h1 : c = 90 → b.length ≠ 1)
    (hm : ∀ l, strsS b = some l → (c = 83 → l.length ≠ 2) ∧ (c = 67 → l.length ≠ 1) ∧ (c = 69 → l.length ≠ 5)) : Pure Tryd.prog 47 [.d (.int .u8 c), bs b] zB.v := by
  have k1 := eq_false hc.1
  have k2 := eq_false hc.2.1
  have k3 := eq_false hc.2.2.1
  have k4 := eq_false hc.2.2.2
  have hS := pStrings b hz
  have hI := fun h => pI32 b h
  have hJ := fun h => pI32 (b.drop 4) h
  refine pure_intro Tryd.func47 rfl rfl rfl 123 rfl (fun hh => ?_)
  cases hs : strsS b with
  | none =>
    rw [hs] at hS
    simp only [strsV] at hS
    repeat' (first
      | ((with_reducible (first
       | (refine PW.seq fun K1 hK1 => ?_) | (refine PW.region fun K2 hK2 => ?_) | ((refine hK3 _ ?_; clear hK3)) | ((refine opsP_nil ?_; refine hK2 _ ?_; clear hK2)) | (refine PW.block ?_) | (refine PW.skip ?_)
       | (refine PW.ret ?_) | ((refine hX1 ?_; clear hX1 hY1; try simp only [hb])) | ((refine hY1 ?_; clear hX1 hY1; try simp only [hb])) )))
      | (((first | (with_reducible refine wantB_intro (fun hb => ?_) (fun hb => ?_)) | (with_reducible refine condB_intro (fun hb => ?_) (fun hb => ?_))) <;> ((try (have hp := hb; simp only [PmH] at hp)); try simp only [hb, Bool.not_true, Bool.not_false])))
      | (((with_reducible refine cC_pure ?_ (hS) (fun _ => ?_)); (focus ((repeat' constructor) <;> (simp only [purAs, purA, Vf, Bool.and_self, zB, Back.v, Back.c, k1, k2, k3, k4]; done)))))
      | ((simp only [thenP, blockP]; (try ((repeat (fail_if_success (with_reducible refine hK1 _ ?_)); clear hK1); (with_reducible refine hK1 _ ?_); clear hK1))))
      | ((with_reducible omega))
      | (((first | ((with_reducible (first | refine opsP_consMt (d := ?_) (dj := ?_) (b := ?_) (r := ?_) ?_ ?_ (fun hb => ?_) (fun K3 hK3 => ?_) | refine opsP_consMf (d := ?_) (dj := ?_) (b := ?_) (r := ?_) ?_ ?_ (fun hb => ?_) (fun K3 hK3 => ?_))); rotate_left 3; (focus exact rfl); (focus (simp only [upd_app, simprocAttr]; exact rfl))) | ((with_reducible (first | refine opsP_consNt (d := ?_) (dj := ?_) (b := ?_) (r := ?_) (c := ?_) ?_ ?_ (fun hb => ?_) (fun K3 hK3 => ?_) | refine opsP_consNf (d := ?_) (dj := ?_) (b := ?_) (r := ?_) (c := ?_) ?_ ?_ (fun hb => ?_) (fun K3 hK3 => ?_))); rotate_left 4; (focus exact rfl); (focus (simp only [St.put, upd_app, iniT_app, simprocAttr, mrg_t, mrg_f]; exact rfl)))); (focus (simp only [opP, valP, Ur, Us]; (try (simp only [Bool.and_eq_true, Bool.not_eq_true'] at hb)); (try (have hp := hb; simp only [PmH] at hp)); simp (disch := omega) only [St.eval, upd_app, avOf, avOf1, binP, eqP, nilP, builtinP, maplenP, isMapA, slA, PmL, simprocAttr, PmT, hb]; (repeat' (first | (exact rfl) | ((refine And.intro ?_ ?_); (focus (exact rfl)); (exact rfl)) | (refine And.intro (by first | omega | (simp; done) | assumption) ?_) | ((with_reducible refine cC_pure ?_ (hS) (fun _ => ?_)); (focus ((repeat' constructor) <;> (simp only [purAs, purA, Vf, Bool.and_self, zB, Back.v, Back.c, k1, k2, k3, k4]; done)))) | ((with_reducible refine cC_pure ?_ (hI ?_) (fun _ => ?_)); (focus ((repeat' (first | fail)) <;> (simp only [purAs, purA, Vf, Bool.and_self, zB, Back.v, Back.c, k1, k2, k3, k4]; done)))) | ((with_reducible refine cC_pure ?_ (hJ ?_) (fun _ => ?_)); (focus ((repeat' (first | fail)) <;> (simp only [purAs, purA, Vf, Bool.and_self, zB, Back.v, Back.c, k1, k2, k3, k4]; done)))))); done)); (try simp only [St.put, Nat.reduceLT, ↓reduceIte, mrg_f])))
      | (((first | (((with_reducible refine opsP_cons fun K3 hK3 => ?_); simp only [wantP, opP, valP, Ur, Us])) | ((with_reducible refine PW.condM fun X1 Y1 hX1 hY1 => ?_)) | (skip)); simp (disch := omega) only [wantB_ft, St.eval, St.put, upd_app, iniT_app, avOf, avOf1, nom, cellsA, AV.okv, loadA, lenP, binP, intsP, intP, eqP, nilP, builtinP, isMapA, slA, putCells, fillA, buildA, U7, U8, Ua, Ub, Uc, Ud, Uf, Ug, Uk, Un, Up, Ur, Us, Ut, Uv, Uz, V4, V9, Ve, Vr, PmL, simprocAttr, PmT, zB, Back.v, Back.c, k1, k2, k3, k4, pick_and, retQ, resP, tupA, fg, fgs, condP, condB_f]; try (with_reducible (first | exact co_refl _ | exact co_own _ _ _ | exact co_nilsB | exact co_nilsL _ _)))))
    all_goals first
      | (exact co_agg (by repeat' (first | (refine cos_cons ?_ ?_) | exact cos_nil | exact co_refl _ | exact co_own _ _ _ | exact co_nilsB | exact co_nilsL _ _ | exact co_nils _)); done)
      | (exfalso; simp only [decide_eq_true_eq, decide_eq_false_iff_not, Bool.not_false, Bool.not_true] at *; omega)
  | some l =>
    rw [hs] at hS
    simp only [strsV] at hS
    obtain ⟨m1, m2, m3⟩ := hm l hs
    repeat' (first
      | ((with_reducible (first
       | (refine PW.seq fun K1 hK1 => ?_) | (refine PW.region fun K2 hK2 => ?_) | ((refine hK3 _ ?_; clear hK3)) | ((refine opsP_nil ?_; refine hK2 _ ?_; clear hK2)) | (refine PW.block ?_) | (refine PW.skip ?_)
       | (refine PW.ret ?_) | ((refine hX1 ?_; clear hX1 hY1; try simp only [hb])) | ((refine hY1 ?_; clear hX1 hY1; try simp only [hb])) )))
      | (((first | (with_reducible refine wantB_intro (fun hb => ?_) (fun hb => ?_)) | (with_reducible refine condB_intro (fun hb => ?_) (fun hb => ?_))) <;> ((try (have hp := hb; simp only [PmH] at hp)); try simp only [hb, Bool.not_true])))
      | (((with_reducible refine cC_pure ?_ (hS) (fun _ => ?_)); (focus ((repeat' constructor) <;> (simp only [purAs, purA, Vf, Bool.and_self, zB, Back.v, Back.c, k1, k2, k3, k4]; done)))))
      | (((with_reducible refine PW.drawR (id := 20) mixed [7] [(0, true), (1, true), (2, true), (3, true), (4, true), (5, true), (6, true), (7, false)] (by kernel_rfl) (by decide) fun K2 hK2 => ?_)))
      | ((simp only [thenP, blockP]; (try ((repeat (fail_if_success (with_reducible refine hK1 _ ?_)); clear hK1); (with_reducible refine hK1 _ ?_); clear hK1))))
      | ((with_reducible omega))
      | (((first | ((with_reducible (first | refine opsP_consMt (d := ?_) (dj := ?_) (b := ?_) (r := ?_) ?_ ?_ (fun hb => ?_) (fun K3 hK3 => ?_) | refine opsP_consMf (d := ?_) (dj := ?_) (b := ?_) (r := ?_) ?_ ?_ (fun hb => ?_) (fun K3 hK3 => ?_))); rotate_left 3; (focus exact rfl); (focus (simp only [upd_app, simprocAttr, mrg_f]; exact rfl))) | ((with_reducible (first | refine opsP_consNt (d := ?_) (dj := ?_) (b := ?_) (r := ?_) (c := ?_) ?_ ?_ (fun hb => ?_) (fun K3 hK3 => ?_) | refine opsP_consNf (d := ?_) (dj := ?_) (b := ?_) (r := ?_) (c := ?_) ?_ ?_ (fun hb => ?_) (fun K3 hK3 => ?_))); rotate_left 4; (focus exact rfl); (focus (simp only [St.put, upd_app, iniT_app, simprocAttr, mrg_t, mrg_f]; exact rfl)))); (focus (simp only [opP, valP, Ur, Us]; (try (simp only [Bool.and_eq_true] at hb)); (try (have hp := hb; simp only [PmH] at hp)); simp (disch := omega) only [St.eval, upd_app, avOf, avOf1, lenP, binP, intsP, intP, nilP, builtinP, maplenP, isMapA, slA, PmL, simprocAttr, PmT, mrg_t, hb]; (repeat' (first | (exact rfl) | ((refine And.intro ?_ ?_); (focus (exact rfl)); (exact rfl)) | (refine And.intro (by first | omega | (simp; done) | assumption) ?_) | ((with_reducible refine cC_pure ?_ (hS) (fun _ => ?_)); (focus ((repeat' constructor) <;> (simp only [purAs, purA, Vf, Bool.and_self, zB, Back.v, Back.c, k1, k2, k3, k4]; done)))) | ((with_reducible refine cC_pure ?_ (hI ?_) (fun _ => ?_)); (focus ((repeat' (first | fail)) <;> (simp only [purAs, purA, Vf, Bool.and_self, zB, Back.v, Back.c, k1, k2, k3, k4]; done)))) | ((with_reducible refine cC_pure ?_ (hJ ?_) (fun _ => ?_)); (focus ((repeat' (first | fail)) <;> (simp only [purAs, purA, Vf, Bool.and_self, zB, Back.v, Back.c, k1, k2, k3, k4]; done)))))); done)); (try simp only [St.put, Nat.reduceLT, ↓reduceIte, mrg_f])))
      | (((first | (((with_reducible refine opsP_cons fun K3 hK3 => ?_); simp only [wantP, opP, valP, Ur, Us])) | ((with_reducible refine PW.condM fun X1 Y1 hX1 hY1 => ?_)) | (skip)); simp (disch := omega) only [wantB_ft, St.eval, St.put, upd_app, iniT_app, avOf, avOf1, nom, cellsA, AV.okv, loadA, lenP, binP, intsP, intP, nilP, builtinP, isMapA, slA, putCells, fillA, buildA, U7, U8, Ua, Ub, Uc, Ud, Uf, Ug, Uk, Un, Up, Ur, Us, Ut, Uv, Uz, V4, V9, Ve, Vr, PmL, simprocAttr, PmT, zB, Back.v, Back.c, k1, k2, k3, k4, mrg_f, pick_and, retQ, resP, tupA, fg, fgs, condP, condB_f]; try (with_reducible (first | exact co_refl _ | exact co_own _ _ _ | exact co_nilsB | exact co_nilsL _ _)))))
    all_goals first
      | (exact co_agg (by repeat' (first | (refine cos_cons ?_ ?_) | exact cos_nil | exact co_refl _ | exact co_own _ _ _ | exact co_nilsB | exact co_nilsL _ _ | exact co_nils _)); done)
      | (exfalso; simp only [decide_eq_true_eq, decide_eq_false_iff_not, Bool.not_false, Bool.not_true, Bool.and_eq_true] at *; omega)
end PM
end Go.Proofs.YthaekefdadccaaaDoor
namespace Go.Proofs.YthaekefdadccaaaDoor
open Go.RowKit
namespace PM
set_option maxRecDepth 100000 in
set_option maxHeartbeats 4000000 in
theorem pGuessS2 (b x y : List Int) (hz : b.length ≤ 100000000000) (hs : strsS b = some [x, y]) : Pure Tryd.prog 47 [.d (.int .u8 83), bs b] (guessS 83 b).v := by
  have e1 : guessS 83 b = { zB with kind := 2, name := x, text := y } := by show gRest 83 b = _; unfold gRest; rw [hs]; rfl
  rw [e1]
  have hS := pStrings b hz
  rw [hs] at hS
  simp only [strsV] at hS
  refine pure_intro Tryd.func47 rfl rfl rfl 123 rfl (fun hh => ?_)
  repeat' (first
    | ((with_reducible (first
     | (refine PW.seq fun K1 hK1 => ?_) | (refine PW.region fun K2 hK2 => ?_) | ((refine hK3 _ ?_; clear hK3)) | ((refine opsP_nil ?_; refine hK2 _ ?_; clear hK2)) | (refine PW.block ?_) | (refine PW.skip ?_)
     | (refine PW.ret ?_) | ((refine hX1 ?_; clear hX1 hY1; try simp only [hb])) | ((refine hY1 ?_; clear hX1 hY1; try simp only [hb])) | ((refine opsO_nil ?_; refine hK2 _ ?_; clear hK2)) )))
    | (((with_reducible refine cC_pure ?_ (hS) (fun _ => ?_)); (focus ((repeat' constructor) <;> (simp only [purAs, purA, Vf, Bool.and_self, zB, Back.v, Back.c, strC]; done)))))
    | (((with_reducible refine PW.drawR (id := 20) mixed [7] [(0, true), (1, true), (2, true), (3, true), (4, true), (5, true), (6, true), (7, false)] (by kernel_rfl) (by decide) fun K2 hK2 => ?_)))
    | (((with_reducible refine And.intro ?_ ?_); (focus (first | omega | (simp; done) | assumption))))
    | ((simp only [thenP, blockP]; (try ((repeat (fail_if_success (with_reducible refine hK1 _ ?_)); clear hK1); (with_reducible refine hK1 _ ?_); clear hK1))))
    | (((first | ((with_reducible (first | refine opsP_consMt (d := ?_) (dj := ?_) (b := ?_) (r := ?_) ?_ ?_ (fun hb => ?_) (fun K3 hK3 => ?_) | refine opsP_consMf (d := ?_) (dj := ?_) (b := ?_) (r := ?_) ?_ ?_ (fun hb => ?_) (fun K3 hK3 => ?_))); rotate_left 3; (focus exact rfl); (focus (simp only [upd_app, simprocAttr]; exact rfl))) | ((with_reducible (first | refine opsP_consNt (d := ?_) (dj := ?_) (b := ?_) (r := ?_) (c := ?_) ?_ ?_ (fun hb => ?_) (fun K3 hK3 => ?_) | refine opsP_consNf (d := ?_) (dj := ?_) (b := ?_) (r := ?_) (c := ?_) ?_ ?_ (fun hb => ?_) (fun K3 hK3 => ?_))); rotate_left 4; (focus exact rfl); (focus (simp only [St.put, upd_app, iniT_app, simprocAttr, mrg_t, mrg_f]; exact rfl)))); (focus (simp only [opP, valP, Ur, Us]; (try (simp only at hb)); (try (have hp := hb; simp only [PmH, beq_iff_eq, beq_eq_false_iff_ne, ne_eq] at hp)); simp (disch := omega) only [St.eval, upd_app, avOf, avOf1, lenP, binP, intsP, intP, nilP, builtinP, isMapA, slA, Uf, Ug, V9, Int.cast_ofNat_Int, PmL, simprocAttr, PmT]; (repeat' (first | (exact rfl) | ((refine And.intro ?_ ?_); (focus (exact rfl)); (exact rfl)) | (refine And.intro (by first | omega | (simp; done) | assumption) ?_) | ((with_reducible refine cC_pure ?_ (hS) (fun _ => ?_)); (focus ((repeat' constructor) <;> (simp only [purAs, purA, Vf, Bool.and_self, zB, Back.v, Back.c, strC]; done)))))); done)); (try simp only [St.put, Nat.reduceLT, ↓reduceIte, mrg_t])))
    | (((first | (((with_reducible refine opsP_cons fun K3 hK3 => ?_); simp only [wantP, opP, valP, Ur, Us])) | (((with_reducible refine opsO_first (o := ?_) ?_ fun K3 hK3 => ?_); rotate_left 1; (focus (simp only [Uz, Ub, Ua] <;> rfl)); simp only [wantP, firstP, valP, Ur, Us])) | (((with_reducible refine opsO_only (o := ?_) ?_ fun K3 hK3 => ?_); rotate_left 1; (focus (simp only [Uz, Ub, Ua] <;> rfl)); simp only [wantP, opP, Ux])) | ((with_reducible refine PW.condM fun X1 Y1 hX1 hY1 => ?_)) | (skip)); simp (disch := omega) only [St.eval, St.put, upd_app, iniT_app, avOf, avOf1, nom, cellsA, AV.okv, loadA, binP, intsP, intP, nilP, slA, putCells, fillA, buildA, U7, U8, Ua, Ub, Uc, Ud, Uf, Ug, Uk, Un, Up, Ur, Us, Ut, Uv, V0, V1, V2, V8, V9, Vt, UU2, UU3, Vr, Vs, PmL, simprocAttr, PmT, zB, Back.v, Back.c, strC, retQ, resP, tupA, fg, fgs, condP, condB_t, condB_f, firstOk]; try (with_reducible (first | exact co_refl _ | exact co_own _ _ _ | exact co_nilsB | exact co_nilsL _ _)))))
  all_goals exact co_agg (by repeat' (first | (refine cos_cons ?_ ?_) | exact cos_nil | exact co_refl _ | exact co_own _ _ _ | exact co_nilsB | exact co_nilsL _ _ | exact co_nils _))
set_option maxRecDepth 100000 in
set_option maxHeartbeats 4000000 in
theorem pGuessC1 (b x : List Int) (hz : b.length ≤ 100000000000) (hs : strsS b = some [x]) : Pure Tryd.prog 47 [.d (.int .u8 67), bs b] (guessS 67 b).v := by
  have e1 : guessS 67 b = { zB with kind := 7, text := x } := by show gRest 67 b = _; unfold gRest; rw [hs]; rfl
  rw [e1]
  have hS := pStrings b hz
  rw [hs] at hS
  simp only [strsV] at hS
  refine pure_intro Tryd.func47 rfl rfl rfl 123 rfl (fun hh => ?_)
  repeat' (first
    | ((with_reducible (first
     | (refine PW.seq fun K1 hK1 => ?_) | (refine PW.region fun K2 hK2 => ?_) | ((refine hK3 _ ?_; clear hK3)) | ((refine opsP_nil ?_; refine hK2 _ ?_; clear hK2)) | (refine PW.block ?_) | (refine PW.skip ?_)
     | (refine PW.ret ?_) | ((refine hX1 ?_; clear hX1 hY1; try simp only [hb])) | ((refine hY1 ?_; clear hX1 hY1; try simp only [hb])) )))
    | (((with_reducible refine cC_pure ?_ (hS) (fun _ => ?_)); (focus ((repeat' constructor) <;> (simp only [purAs, purA, Vf, Bool.and_self, zB, Back.v, Back.c, strC]; done)))))
    | ((simp only [thenP, blockP]; (try ((repeat (fail_if_success (with_reducible refine hK1 _ ?_)); clear hK1); (with_reducible refine hK1 _ ?_); clear hK1))))
    | (((first | ((with_reducible (first | refine opsP_consMt (d := ?_) (dj := ?_) (b := ?_) (r := ?_) ?_ ?_ (fun hb => ?_) (fun K3 hK3 => ?_) | refine opsP_consMf (d := ?_) (dj := ?_) (b := ?_) (r := ?_) ?_ ?_ (fun hb => ?_) (fun K3 hK3 => ?_))); rotate_left 3; (focus exact rfl); (focus (simp only [upd_app, simprocAttr]; exact rfl))) | ((with_reducible (first | refine opsP_consNt (d := ?_) (dj := ?_) (b := ?_) (r := ?_) (c := ?_) ?_ ?_ (fun hb => ?_) (fun K3 hK3 => ?_) | refine opsP_consNf (d := ?_) (dj := ?_) (b := ?_) (r := ?_) (c := ?_) ?_ ?_ (fun hb => ?_) (fun K3 hK3 => ?_))); rotate_left 4; (focus exact rfl); (focus (simp only [St.put, upd_app, iniT_app, simprocAttr, mrg_t, mrg_f]; exact rfl)))); (focus (simp only [opP, valP, Ur, Us]; (try (simp only at hb)); (try (have hp := hb; simp only [PmH, beq_iff_eq, beq_eq_false_iff_ne, ne_eq] at hp)); simp (disch := omega) only [St.eval, upd_app, avOf, avOf1, lenP, binP, intsP, intP, eqP, nilP, builtinP, maplenP, isMapA, slA, Uf, Ug, V9, Int.cast_ofNat_Int, PmL, simprocAttr, PmT, hb]; (repeat' (first | (exact rfl) | ((refine And.intro ?_ ?_); (focus (exact rfl)); (exact rfl)) | (refine And.intro (by first | omega | (simp; done) | assumption) ?_) | ((with_reducible refine cC_pure ?_ (hS) (fun _ => ?_)); (focus ((repeat' constructor) <;> (simp only [purAs, purA, Vf, Bool.and_self, zB, Back.v, Back.c, strC]; done)))))); done)); (try simp only [St.put, Nat.reduceLT, ↓reduceIte, mrg_t, mrg_f])))
    | (((first | (((with_reducible refine opsP_cons fun K3 hK3 => ?_); simp only [wantP, opP, valP, Ur, Us])) | ((with_reducible refine PW.condM fun X1 Y1 hX1 hY1 => ?_)) | (skip)); simp (disch := omega) only [wantB_ft, St.eval, St.put, upd_app, iniT_app, avOf, avOf1, nom, cellsA, AV.okv, loadA, lenP, binP, intsP, intP, eqP, nilP, builtinP, isMapA, slA, putCells, fillA, buildA, U7, U8, Ua, Ub, Uc, Ud, Uf, Ug, Uk, Un, Up, Ur, Us, Ut, Uv, Uz, V2, V4, V8, V9, Vt, UU2, UU3, Vr, Vs, PmL, simprocAttr, PmT, zB, Back.v, Back.c, strC, retQ, resP, tupA, fg, fgs, condP, condB_t, condB_f]; try (with_reducible (first | exact co_refl _ | exact co_own _ _ _ | exact co_nilsB | exact co_nilsL _ _)))))
  all_goals exact co_agg (by repeat' (first | (refine cos_cons ?_ ?_) | exact cos_nil | exact co_refl _ | exact co_own _ _ _ | exact co_nilsB | exact co_nilsL _ _ | exact co_nils _))
set_option maxRecDepth 100000 in
set_option maxHeartbeats 4000000 in
theorem pGuessE5 (b x0 x1 x2 x3 x4 : List Int) (hz : b.length ≤ 100000000000) (hs : strsS b = some [x0, x1, x2, x3, x4]) : Pure Tryd.prog 47 [.d (.int .u8 69), bs b] (guessS 69 b).v := by
  have e1 : guessS 69 b = if 0 < x2.length ∧ 0 < x3.length then { zB with kind := 9, fatal := decide (x0 = [83, 70, 65, 84, 65, 76]), state := x2.drop 1, text := x3.drop 1 } else zB := by
    show gRest 69 b = _
    unfold gRest
    rw [hs]
    show (if (5 : Nat) = 5 ∧ 0 < x2.length ∧ 0 < x3.length then _ else _) = _
    simp only [true_and]
    rfl
  rw [e1]
  have hS := pStrings b hz
  rw [hs] at hS
  simp only [strsV] at hS
  by_cases h2 : 0 < x2.length
  · by_cases h3 : 0 < x3.length
    · have k2 := eq_true (show (0 : Int) < x2.length by omega)
      have k3 := eq_true (show (0 : Int) < x3.length by omega)
      rw [if_pos ⟨h2, h3⟩]
      refine pure_intro Tryd.func47 rfl rfl rfl 123 rfl (fun hh => ?_)
      repeat' (first
        | ((with_reducible (first
         | (refine PW.seq fun K1 hK1 => ?_) | (refine PW.region fun K2 hK2 => ?_) | ((refine hK3 _ ?_; clear hK3)) | ((refine opsP_nil ?_; refine hK2 _ ?_; clear hK2)) | ((refine Exists.intro _ (Exists.intro _ (And.intro rfl (And.intro rfl (And.intro ?_ ?_)))); focus omega)) | (refine PW.block ?_) | (refine PW.skip ?_)
         | (refine PW.ret ?_) | ((refine hX1 ?_; clear hX1 hY1; try simp only [hb])) | ((refine hY1 ?_; clear hX1 hY1; try simp only [hb])) | ((refine opsO_nil ?_; refine hK2 _ ?_; clear hK2)) )))
        | (((with_reducible refine cC_pure ?_ (hS) (fun _ => ?_)); (focus ((repeat' constructor) <;> (simp only [purAs, purA, Vf, Bool.and_self, zB, Back.v, Back.c, strC, k2, k3]; done)))))
        | (((with_reducible refine PW.drawR (id := 24) mixed [13] [(0, true), (1, true), (2, true), (3, true), (4, true), (5, true), (6, true), (7, true), (8, true), (9, true), (10, true), (11, true), (12, true), (13, false)] (by kernel_rfl) (by decide) fun K2 hK2 => ?_)))
        | (((with_reducible refine And.intro ?_ ?_); (focus (first | omega | (simp; done) | assumption))))
        | ((simp only [thenP, blockP]; (try ((repeat (fail_if_success (with_reducible refine hK1 _ ?_)); clear hK1); (with_reducible refine hK1 _ ?_); clear hK1))))
        | (((first | ((with_reducible (first | refine opsP_consMt (d := ?_) (dj := ?_) (b := ?_) (r := ?_) ?_ ?_ (fun hb => ?_) (fun K3 hK3 => ?_) | refine opsP_consMf (d := ?_) (dj := ?_) (b := ?_) (r := ?_) ?_ ?_ (fun hb => ?_) (fun K3 hK3 => ?_))); rotate_left 3; (focus exact rfl); (focus (simp only [upd_app, simprocAttr]; exact rfl))) | ((with_reducible (first | refine opsP_consNt (d := ?_) (dj := ?_) (b := ?_) (r := ?_) (c := ?_) ?_ ?_ (fun hb => ?_) (fun K3 hK3 => ?_) | refine opsP_consNf (d := ?_) (dj := ?_) (b := ?_) (r := ?_) (c := ?_) ?_ ?_ (fun hb => ?_) (fun K3 hK3 => ?_))); rotate_left 4; (focus exact rfl); (focus (simp only [St.put, upd_app, iniT_app, simprocAttr, mrg_t, mrg_f]; exact rfl)))); (focus (simp only [opP, valP, Ur, Us]; (try (simp only at hb)); (try (have hp := hb; simp only [PmH, beq_iff_eq, beq_eq_false_iff_ne, ne_eq] at hp)); simp (disch := omega) only [St.eval, upd_app, avOf, avOf1, loadA, lenP, binP, intsP, intP, eqP, nilP, builtinP, maplenP, isMapA, slA, Ua, Ub, Uf, Ug, Ur, Us, V2, V9, Int.cast_ofNat_Int, PmL, simprocAttr, PmT, strC, k2, k3, hb]; (repeat' (first | (exact rfl) | ((refine And.intro ?_ ?_); (focus (exact rfl)); (exact rfl)) | (refine And.intro (by first | omega | (simp; done) | assumption) ?_) | ((with_reducible refine cC_pure ?_ (hS) (fun _ => ?_)); (focus ((repeat' constructor) <;> (simp only [purAs, purA, Vf, Bool.and_self, zB, Back.v, Back.c, strC, k2, k3]; done)))))); done)); (try simp only [St.put, Nat.reduceLT, ↓reduceIte, mrg_t, mrg_f])))
        | (((first | (((with_reducible refine opsP_cons fun K3 hK3 => ?_); simp only [wantP, opP, valP, Ur, Us])) | (((with_reducible refine opsO_first (o := ?_) ?_ fun K3 hK3 => ?_); rotate_left 1; (focus (simp only [Uz, Ub, Ua] <;> rfl)); simp only [wantP, firstP, valP, Ur, Us])) | (((with_reducible refine opsO_only (o := ?_) ?_ fun K3 hK3 => ?_); rotate_left 1; (focus (simp only [Uz, Ub, Ua] <;> rfl)); simp only [wantP, opP, Ux])) | ((with_reducible refine PW.condM fun X1 Y1 hX1 hY1 => ?_)) | (skip)); simp (disch := omega) only [wantB_ft, St.eval, St.put, upd_app, iniT_app, avOf, avOf1, nom, cellsA, AV.okv, loadA, lenP, binP, intsP, intP, strP, eqP, nilP, sliceP, boundLo, boundHi, builtinP, bsz, U1, isMapA, slA, putCells, fillA, buildA, U7, U8, Ua, Ub, Uc, Ud, Uf, Ug, Uk, Un, Up, Uq, Ur, Us, Ut, Uv, Uz, V0, V1, V2, V3, V4, V7, V8, V9, Vd, Vt, Int.cast_ofNat_Int, UU2, UU3, Vr, Vs, PmL, simprocAttr, PmT, zB, Back.v, Back.c, strC, retQ, resP, tupA, fg, fgs, condP, condB_t, condB_f, firstOk]; try (with_reducible (first | exact co_refl _ | exact co_own _ _ _ | exact co_nilsB | exact co_nilsL _ _)))))
      all_goals exact co_agg (by repeat' (first | (refine cos_cons ?_ ?_) | exact cos_nil | exact co_refl _ | exact co_own _ _ _ | exact co_nilsB | exact co_nilsL _ _ | exact co_nils _))
    · have k2 := eq_true (show (0 : Int) < x2.length by omega)
      have k3 := eq_false (show ¬ (0 : Int) < x3.length by omega)
      rw [if_neg (fun h => h3 h.2)]
      refine pure_intro Tryd.func47 rfl rfl rfl 123 rfl (fun hh => ?_)
      repeat' (first
        | ((with_reducible (first
         | (refine PW.seq fun K1 hK1 => ?_) | (refine PW.region fun K2 hK2 => ?_) | ((refine hK3 _ ?_; clear hK3)) | ((refine opsP_nil ?_; refine hK2 _ ?_; clear hK2)) | (refine PW.block ?_) | (refine PW.skip ?_)
         | (refine PW.ret ?_) | ((refine hY1 ?_; clear hX1 hY1; try simp only [hb])) )))
        | (((with_reducible refine cC_pure ?_ (hS) (fun _ => ?_)); (focus ((repeat' constructor) <;> (simp only [purAs, purA, Vf, Bool.and_self, zB, Back.v, Back.c, strC, k2, k3]; done)))))
        | ((simp only [thenP, blockP]; (try ((repeat (fail_if_success (with_reducible refine hK1 _ ?_)); clear hK1); (with_reducible refine hK1 _ ?_); clear hK1))))
        | (((first | ((with_reducible (first | refine opsP_consMt (d := ?_) (dj := ?_) (b := ?_) (r := ?_) ?_ ?_ (fun hb => ?_) (fun K3 hK3 => ?_) | refine opsP_consMf (d := ?_) (dj := ?_) (b := ?_) (r := ?_) ?_ ?_ (fun hb => ?_) (fun K3 hK3 => ?_))); rotate_left 3; (focus exact rfl); (focus (simp only [upd_app, simprocAttr]; exact rfl))) | ((with_reducible (first | refine opsP_consNt (d := ?_) (dj := ?_) (b := ?_) (r := ?_) (c := ?_) ?_ ?_ (fun hb => ?_) (fun K3 hK3 => ?_) | refine opsP_consNf (d := ?_) (dj := ?_) (b := ?_) (r := ?_) (c := ?_) ?_ ?_ (fun hb => ?_) (fun K3 hK3 => ?_))); rotate_left 4; (focus exact rfl); (focus (simp only [St.put, upd_app, iniT_app, simprocAttr, mrg_t, mrg_f]; exact rfl)))); (focus (simp only [opP, valP, Ur, Us]; (try (simp only at hb)); (try (have hp := hb; simp only [PmH, beq_iff_eq, beq_eq_false_iff_ne, ne_eq] at hp)); simp (disch := omega) only [St.eval, upd_app, avOf, avOf1, loadA, lenP, binP, intsP, intP, eqP, nilP, builtinP, maplenP, isMapA, slA, Ua, Ub, Uf, Ug, Ur, Us, V2, V9, Int.cast_ofNat_Int, PmL, simprocAttr, PmT, strC, k2, k3, hb]; (repeat' (first | (exact rfl) | ((refine And.intro ?_ ?_); (focus (exact rfl)); (exact rfl)) | (refine And.intro (by first | omega | (simp; done) | assumption) ?_) | ((with_reducible refine cC_pure ?_ (hS) (fun _ => ?_)); (focus ((repeat' constructor) <;> (simp only [purAs, purA, Vf, Bool.and_self, zB, Back.v, Back.c, strC, k2, k3]; done)))))); done)); (try simp only [St.put, Nat.reduceLT, ↓reduceIte, mrg_t, mrg_f])))
        | (((first | (((with_reducible refine opsP_cons fun K3 hK3 => ?_); simp only [wantP, opP, valP, Ur, Us])) | ((with_reducible refine PW.condM fun X1 Y1 hX1 hY1 => ?_)) | (skip)); simp (disch := omega) only [wantB_ft, St.eval, St.put, upd_app, iniT_app, avOf, avOf1, nom, cellsA, AV.okv, loadA, lenP, binP, intsP, intP, eqP, nilP, builtinP, isMapA, slA, putCells, fillA, buildA, U7, U8, Ua, Ub, Uc, Ud, Uf, Ug, Uk, Un, Up, Ur, Us, Ut, Uv, Uz, V4, V9, Ve, Vr, PmL, simprocAttr, PmT, zB, Back.v, Back.c, retQ, resP, tupA, fg, fgs, condP, condB_f]; try (with_reducible (first | exact co_refl _ | exact co_own _ _ _ | exact co_nilsB | exact co_nilsL _ _)))))
      all_goals exact co_agg (by repeat' (first | (refine cos_cons ?_ ?_) | exact cos_nil | exact co_refl _ | exact co_own _ _ _ | exact co_nilsB | exact co_nilsL _ _ | exact co_nils _))
  · have k2 := eq_false (show ¬ (0 : Int) < x2.length by omega)
    rw [if_neg (fun h => h2 h.1)]
    refine pure_intro Tryd.func47 rfl rfl rfl 123 rfl (fun hh => ?_)
    repeat' (first
      | ((with_reducible (first
       | (refine PW.seq fun K1 hK1 => ?_) | (refine PW.region fun K2 hK2 => ?_) | ((refine hK3 _ ?_; clear hK3)) | ((refine opsP_nil ?_; refine hK2 _ ?_; clear hK2)) | (refine PW.block ?_) | (refine PW.skip ?_)
       | (refine PW.ret ?_) | ((refine hY1 ?_; clear hX1 hY1; try simp only [hb])) )))
      | (((with_reducible refine cC_pure ?_ (hS) (fun _ => ?_)); (focus ((repeat' constructor) <;> (simp only [purAs, purA, Vf, Bool.and_self, zB, Back.v, Back.c, strC, k2]; done)))))
      | ((simp only [thenP, blockP]; (try ((repeat (fail_if_success (with_reducible refine hK1 _ ?_)); clear hK1); (with_reducible refine hK1 _ ?_); clear hK1))))
      | (((first | ((with_reducible (first | refine opsP_consMt (d := ?_) (dj := ?_) (b := ?_) (r := ?_) ?_ ?_ (fun hb => ?_) (fun K3 hK3 => ?_) | refine opsP_consMf (d := ?_) (dj := ?_) (b := ?_) (r := ?_) ?_ ?_ (fun hb => ?_) (fun K3 hK3 => ?_))); rotate_left 3; (focus exact rfl); (focus (simp only [upd_app, simprocAttr]; exact rfl))) | ((with_reducible (first | refine opsP_consNt (d := ?_) (dj := ?_) (b := ?_) (r := ?_) (c := ?_) ?_ ?_ (fun hb => ?_) (fun K3 hK3 => ?_) | refine opsP_consNf (d := ?_) (dj := ?_) (b := ?_) (r := ?_) (c := ?_) ?_ ?_ (fun hb => ?_) (fun K3 hK3 => ?_))); rotate_left 4; (focus exact rfl); (focus (simp only [St.put, upd_app, iniT_app, simprocAttr, mrg_t, mrg_f]; exact rfl)))); (focus (simp only [opP, valP, Ur, Us]; (try (simp only at hb)); (try (have hp := hb; simp only [PmH, beq_iff_eq, beq_eq_false_iff_ne, ne_eq] at hp)); simp (disch := omega) only [St.eval, upd_app, avOf, avOf1, loadA, lenP, binP, intsP, intP, eqP, nilP, builtinP, maplenP, isMapA, slA, Ua, Ub, Uf, Ug, Ur, Us, V2, V9, Int.cast_ofNat_Int, PmL, simprocAttr, PmT, strC, k2, hb]; (repeat' (first | (exact rfl) | ((refine And.intro ?_ ?_); (focus (exact rfl)); (exact rfl)) | (refine And.intro (by first | omega | (simp; done) | assumption) ?_) | ((with_reducible refine cC_pure ?_ (hS) (fun _ => ?_)); (focus ((repeat' constructor) <;> (simp only [purAs, purA, Vf, Bool.and_self, zB, Back.v, Back.c, strC, k2]; done)))))); done)); (try simp only [St.put, Nat.reduceLT, ↓reduceIte, mrg_t, mrg_f])))
      | (((first | (((with_reducible refine opsP_cons fun K3 hK3 => ?_); simp only [wantP, opP, valP, Ur, Us])) | ((with_reducible refine PW.condM fun X1 Y1 hX1 hY1 => ?_)) | (skip)); simp (disch := omega) only [wantB_ft, St.eval, St.put, upd_app, iniT_app, avOf, avOf1, nom, cellsA, AV.okv, loadA, lenP, binP, intsP, intP, eqP, nilP, builtinP, isMapA, slA, putCells, fillA, buildA, U7, U8, Ua, Ub, Uc, Ud, Uf, Ug, Uk, Un, Up, Ur, Us, Ut, Uv, Uz, V4, V9, Ve, Vr, PmL, simprocAttr, PmT, zB, Back.v, Back.c, retQ, resP, tupA, fg, fgs, condP, condB_f]; try (with_reducible (first | exact co_refl _ | exact co_own _ _ _ | exact co_nilsB | exact co_nilsL _ _)))))
    all_goals exact co_agg (by repeat' (first | (refine cos_cons ?_ ?_) | exact cos_nil | exact co_refl _ | exact co_own _ _ _ | exact co_nilsB | exact co_nilsL _ _ | exact co_nils _))
set_option maxRecDepth 100000 in
theorem pGuess (c : Int) (b : List Int) (hz : b.length ≤ 100000000000) : Pure Tryd.prog 47 [.d (.int .u8 c), bs b] (guessS c b).v := by
  by_cases hA : c = 82 ∨ c = 73 ∨ c = 84 ∨ c = 68
  · exact pGuessA c b hz hA
  by_cases hK : c = 75 ∧ b.length = 8
  · obtain ⟨rfl, h8⟩ := hK
    exact pGuessK b h8
  by_cases hZ : c = 90 ∧ b.length = 1
  · obtain ⟨rfl, h1⟩ := hZ
    match b, h1 with
    | [x], _ => exact pGuessZ x
  have hR : guessS c b = gRest c b := by
    unfold guessS
    rw [if_neg (fun h => hA (.inl h)), if_neg (fun h => hA (.inr (.inl h)))]
    by_cases h75 : c = 75
    · rw [if_pos h75, if_neg (fun h => hK ⟨h75, h⟩)]
    rw [if_neg h75]
    by_cases h90 : c = 90
    · rw [if_pos h90, if_neg (fun h => hZ ⟨h90, h⟩)]
    rw [if_neg h90, if_neg (fun h => hA (.inr (.inr (.inl h)))), if_neg (fun h => hA (.inr (.inr (.inr h))))]
  have hc : c ≠ 82 ∧ c ≠ 73 ∧ c ≠ 84 ∧ c ≠ 68 := ⟨fun h => hA (.inl h), fun h => hA (.inr (.inl h)), fun h => hA (.inr (.inr (.inl h))), fun h => hA (.inr (.inr (.inr h)))⟩
  have hK' : c = 75 → b.length ≠ 8 := fun h h' => hK ⟨h, h'⟩
  have hZ' : c = 90 → b.length ≠ 1 := fun h h' => hZ ⟨h, h'⟩
  cases hs : strsS b with
  | none =>
    have : gRest c b = zB := by unfold gRest; rw [hs]
    rw [hR, this]
    exact pGuessN c b hz hc hK' hZ' (fun l h => by rw [hs] at h; cases h)
  | some l =>
    by_cases h83 : c = 83 ∧ l.length = 2
    · obtain ⟨rfl, h2⟩ := h83
      match l, h2 with
      | [x, y], _ => exact pGuessS2 b x y hz hs
    by_cases h67 : c = 67 ∧ l.length = 1
    · obtain ⟨rfl, h2⟩ := h67
      match l, h2 with
      | [x], _ => exact pGuessC1 b x hz hs
    by_cases h69 : c = 69 ∧ l.length = 5
    · obtain ⟨rfl, h2⟩ := h69
      match l, h2 with
      | [x0, x1, x2, x3, x4], _ => exact pGuessE5 b x0 x1 x2 x3 x4 hz hs
    have : gRest c b = zB := by
      unfold gRest
      rw [hs]
      simp only
      by_cases k1 : c = 83
      · rw [if_pos k1, if_neg (fun h => h83 ⟨k1, h⟩)]
      rw [if_neg k1]
      by_cases k2 : c = 67
      · rw [if_pos k2, if_neg (fun h => h67 ⟨k2, h⟩)]
      rw [if_neg k2]
      by_cases k3 : c = 69
      · rw [if_pos k3, if_neg (fun h => h69 ⟨k3, h.1⟩)]
      rw [if_neg k3]
    rw [hR, this]
    exact pGuessN c b hz hc hK' hZ' (fun l' h => by rw [hs] at h; cases h; exact ⟨fun k h => h83 ⟨k, h⟩, fun k h => h67 ⟨k, h⟩, fun k h => h69 ⟨k, h⟩⟩)
end PM
end Go.Proofs.YthaekefdadccaaaDoor
