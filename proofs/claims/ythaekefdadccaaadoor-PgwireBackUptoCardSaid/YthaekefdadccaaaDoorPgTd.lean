/- pgwire in the abstract: what a server's message tells: the kinds but fields and cells. pgwire in the abstract: what a server's message tells: cells. pgwire in the abstract: what a server's message tells: fields. -/
import Derived.Test.YthaekefdadccaaaDoorPgTk
import Derived.Test.YthaekefdadccaaaDoorPgB1
import Derived.Test.YthaekefdadccaaaDoorPmD
namespace Go.Proofs.YthaekefdadccaaaDoor
open Go.RowKit
namespace PM
theorem u8s_inj {a b : List Int} (ha : Rng a) (hb : Rng b) (h : u8s a = u8s b) : a = b := by rw [← nums_u8s ha, ← nums_u8s hb, h]
theorem rng_sub {a b : List Int} (h : Rng a) (hs : ∀ x ∈ b, x ∈ a) : Rng b := fun x hx => h x (hs x hx)
theorem trimPre_eq {l p : List Int} (hl : Rng l) (hp : Rng p) : trimPreN l p = dropPre l p := by
  unfold trimPreN dropPre Lib.trimPrefix
  have hlen : (u8s p).length = p.length := List.length_map ..
  have htk : (u8s l).take p.length = u8s (l.take p.length) := by unfold u8s; rw [List.map_take]
  have hdr : (u8s l).drop p.length = u8s (l.drop p.length) := by unfold u8s; rw [List.map_drop]
  have hiff : Lib.hasPrefix (u8s l) (u8s p) = true ↔ l.take p.length = p := by
    unfold Lib.hasPrefix
    rw [List.isPrefixOf_iff_prefix, List.prefix_iff_eq_take, hlen, htk]
    constructor
    · intro h
      exact (u8s_inj hp (rng_sub hl fun x hx => List.mem_of_mem_take hx) h).symm
    · intro h
      rw [h]
  by_cases h : l.take p.length = p
  · rw [if_pos (hiff.2 h), if_pos h, hlen, hdr, nums_u8s (rng_sub hl fun x hx => List.mem_of_mem_drop hx)]
  · rw [if_neg (fun h' => h (hiff.1 h')), if_neg h, nums_u8s hl]
set_option maxRecDepth 100000 in
theorem pTrimPre (l p : List Int) : Pure Tryd.prog 78 [.d (.str l), .d (.str p)] (.d (.str (dropPre l p))) := fun G w vs hm ha => by
  have h := pTrimPrefix l p G w vs hm ha
  unfold RelAs at ha
  obtain ⟨v1, vs1, rfl, h1, ha⟩ := ha
  unfold RelAs at ha
  obtain ⟨v2, vs2, rfl, h2, ha⟩ := ha
  rw [trimPre_eq h1.str.2.1 h2.str.2.1] at h
  exact h
set_option maxRecDepth 100000 in
set_option maxHeartbeats 4000000 in
theorem pTold0 (k : Int) (b : List Int) (hk : k = 1 ∨ k = 8) : Pure Tryd.prog 49 [.d (.int .i64 k), bs b] (toldS k b).v := by
  have e0 : toldS k b = { zB with kind := k } := by rcases hk with rfl | rfl <;> rfl
  rw [e0]
  refine pure_intro Tryd.func49 rfl rfl rfl 147 rfl (fun hh => ?_)
  rcases hk with rfl | rfl
  all_goals
    repeat' (first
      | ((with_reducible (first
       | (refine PW.seq fun K1 hK1 => ?_) | (refine PW.region fun K2 hK2 => ?_) | ((refine hK3 _ ?_; clear hK3)) | ((refine opsP_nil ?_; refine hK2 _ ?_; clear hK2)) | (refine PW.block ?_) | (refine PW.skip ?_)
       | (refine PW.exit ?_) | (refine PW.ret ?_) | ((refine hY1 ?_; clear hX1 hY1; try simp only [hb])) )))
      | ((simp only [thenP, blockP, Nat.reduceEqDiff, ↓reduceIte]; (try ((repeat (fail_if_success (with_reducible refine hK1 _ ?_)); clear hK1); (with_reducible refine hK1 _ ?_); clear hK1))))
      | (((first | (((with_reducible refine opsP_cons fun K3 hK3 => ?_); simp only [wantP, opP, valP, Ur, Us])) | ((with_reducible refine PW.condM fun X1 Y1 hX1 hY1 => ?_)) | (skip)); simp (disch := omega) only [St.eval, St.put, upd_app, iniT_app, avOf, avOf1, nom, cellsA, AV.okv, loadA, binP, intsP, intP, nilP, slA, putCells, fillA, buildA, U7, U8, Ua, Ub, Uc, Ud, Uf, Ug, Uk, Un, Up, Ur, Us, Ut, Uu, V9, Ve, Vt, UU2, UU3, Vr, PmL, simprocAttr, PmT, zB, Back.v, Back.c, retQ, resP, tupA, fg, fgs, condP, condB_f]; try (with_reducible (first | exact co_refl _ | exact co_own _ _ _ | exact co_nilsB | exact co_nilsL _ _)))))
  all_goals exact co_agg (by repeat' (first | (refine cos_cons ?_ ?_) | exact cos_nil | exact co_refl _ | exact co_nilsB | exact co_nilsL _ _ | exact co_nils _))
set_option maxRecDepth 100000 in
set_option maxHeartbeats 4000000 in
theorem pTold3 (b : List Int) : Pure Tryd.prog 49 [.d (.int .i64 3), bs b] (toldS 3 b).v := by
  refine pure_intro Tryd.func49 rfl rfl rfl 147 rfl (fun hh => ?_)
  repeat' (first
    | ((with_reducible (first
     | (refine PW.seq fun K1 hK1 => ?_) | (refine PW.region fun K2 hK2 => ?_) | ((refine hK3 _ ?_; clear hK3)) | ((refine opsP_nil ?_; refine hK2 _ ?_; clear hK2)) | (refine PW.block ?_) 
     | (refine PW.exit ?_) | (refine PW.ret ?_) | ((refine hX1 ?_; clear hX1 hY1; try simp only [hb])) )))
    | (((with_reducible refine cC_recv (cs := ?_) ?_ ?_ ?_ ?_ (pPgNum ?_ ?_) (fun _ => ?_)); rotate_left 1; (focus (first | exact rfl | (simp only [Ua, Ub]; rfl))); (focus ((repeat' (first | (refine .cons ?_ ?_) | (exact .nil) | (exact .d _) )) <;> (simp only [purAs, purA, Vf, Bool.and_self, zB, Back.v, Back.c]; done))); (focus ((repeat' (first | (refine .cons ?_ ?_) | (exact .nil) | (exact .d _) )) <;> (simp only [purAs, purA, Vf, Bool.and_self, zB, Back.v, Back.c]; done))); (focus (simp only [purAs, purA, Bool.and_self]; done))))
    | ((simp only [thenP, blockP, Nat.reduceEqDiff, ↓reduceIte]; (try ((repeat (fail_if_success (with_reducible refine hK1 _ ?_)); clear hK1); (with_reducible refine hK1 _ ?_); clear hK1))))
    | (((first | (((with_reducible refine opsP_cons fun K3 hK3 => ?_); simp only [wantP, opP, valP, Ur, Us])) | ((with_reducible refine PW.condM fun X1 Y1 hX1 hY1 => ?_)) | (skip)); simp (disch := omega) only [St.eval, St.put, upd_app, iniT_app, avOf, avOf1, nom, cellsA, AV.okv, loadA, binP, intsP, intP, nilP, slA, putCells, fillA, buildA, U7, U8, Ua, Ub, Uc, Ud, Uf, Ug, Uk, Un, Up, Ur, Us, Ut, Uu, Uv, V9, Ve, Vt, UU2, UU3, Vr, PmL, simprocAttr, PmT, Back.v, Back.c, retQ, resP, tupA, fg, fgs, condP, condB_t]; try (with_reducible (first | exact co_refl _ | exact co_own _ _ _ | exact co_nilsB | exact co_nilsL _ _)))))
  all_goals exact co_agg (by repeat' (first | (refine cos_cons ?_ ?_) | exact cos_nil | exact co_refl _ | exact co_nilsB | exact co_nilsL _ _ | exact co_nils _))
set_option maxRecDepth 100000 in
set_option maxHeartbeats 4000000 in
theorem pTold9 (b : List Int) : Pure Tryd.prog 49 [.d (.int .i64 9), bs b] (toldS 9 b).v := by
  refine pure_intro Tryd.func49 rfl rfl rfl 147 rfl (fun hh => ?_)
  repeat' (first
    | ((with_reducible (first
     | (refine PW.seq fun K1 hK1 => ?_) | (refine PW.region fun K2 hK2 => ?_) | ((refine hK3 _ ?_; clear hK3)) | ((refine opsP_nil ?_; refine hK2 _ ?_; clear hK2)) | (refine PW.block ?_) | (refine PW.skip ?_)
     | (refine PW.exit ?_) | (refine PW.ret ?_) | ((refine hX1 ?_; clear hX1 hY1; try simp only [hb])) | ((refine hY1 ?_; clear hX1 hY1; try simp only [hb])) )))
    | (((with_reducible refine cC_recv (cs := ?_) ?_ ?_ ?_ ?_ (pPgText ?_ ?_) (fun _ => ?_)); rotate_left 1; (focus (first | exact rfl | (simp only [Ua, Ub]; rfl))); (focus ((repeat' (first | (refine .cons ?_ ?_) | (exact .nil) | (exact .d _) )) <;> (simp only [purAs, purA, Vf, Bool.and_self, zB, Back.v, Back.c]; done))); (focus ((repeat' (first | (exact .nil) )) <;> (simp only [purAs, purA, Vf, Bool.and_self, zB, Back.v, Back.c]; done))); (focus (simp only [purAs, purA, Bool.and_self]; done))))
    | (((with_reducible refine cC_pure ?_ (pTrimPre ?_ ?_) (fun _ => ?_)); (focus ((repeat' (first | (refine .cons ?_ ?_) | (exact .nil) | (exact .d _) )) <;> (simp only [purAs, purA, Vf, Bool.and_self, zB, Back.v, Back.c]; done)))))
    | ((simp only [thenP, blockP, Nat.reduceEqDiff, ↓reduceIte]; (try ((repeat (fail_if_success (with_reducible refine hK1 _ ?_)); clear hK1); (with_reducible refine hK1 _ ?_); clear hK1))))
    | (((first | (((with_reducible refine opsP_cons fun K3 hK3 => ?_); simp only [wantP, opP, valP, Ur, Us])) | ((with_reducible refine PW.condM fun X1 Y1 hX1 hY1 => ?_)) | (skip)); simp (disch := omega) only [St.eval, St.put, upd_app, iniT_app, avOf, avOf1, nom, cellsA, AV.okv, loadA, binP, intsP, intP, strP, nilP, bsz, U1, slA, putCells, fillA, buildA, U7, U8, Ua, Ub, Uc, Ud, Uf, Ug, Uk, Un, Up, Ur, Us, Ut, Uu, Uv, V9, Ve, Vt, Int.cast_ofNat_Int, UU2, UU3, Vr, PmL, simprocAttr, PmT, Back.v, Back.c, retQ, resP, tupA, fg, fgs, condP, condB_t, condB_f]; try (with_reducible (first | exact co_refl _ | exact co_own _ _ _ | exact co_nilsB | exact co_nilsL _ _)))))
  all_goals exact co_agg (by repeat' (first | (refine cos_cons ?_ ?_) | exact cos_nil | exact co_refl _ | exact co_nilsB | exact co_nilsL _ _ | exact co_nils _))
set_option maxRecDepth 100000 in
set_option maxHeartbeats 4000000 in
theorem pTold2 (b : List Int) : Pure Tryd.prog 49 [.d (.int .i64 2), bs b] (toldS 2 b).v := by
  refine pure_intro Tryd.func49 rfl rfl rfl 147 rfl (fun hh => ?_)
  repeat' (first
    | ((with_reducible (first
     | (refine PW.seq fun K1 hK1 => ?_) | (refine PW.region fun K2 hK2 => ?_) | ((refine hK3 _ ?_; clear hK3)) | ((refine opsP_nil ?_; refine hK2 _ ?_; clear hK2)) | (refine PW.block ?_) | (refine PW.skip ?_)
     | (refine PW.exit ?_) | (refine PW.ret ?_) | ((refine hX1 ?_; clear hX1 hY1; try simp only [hb])) | ((refine hY1 ?_; clear hX1 hY1; try simp only [hb])) )))
    | (((with_reducible refine cC_recv (cs := ?_) ?_ ?_ ?_ ?_ (pPgText ?_ ?_) (fun _ => ?_)); rotate_left 1; (focus (first | exact rfl | (simp only [Ua, Ub]; rfl))); (focus ((repeat' (first | (refine .cons ?_ ?_) | (exact .nil) | (exact .d _) )) <;> (simp only [purAs, purA, Vf, Bool.and_self, zB, Back.v, Back.c]; done))); (focus ((repeat' (first | (exact .nil) )) <;> (simp only [purAs, purA, Vf, Bool.and_self, zB, Back.v, Back.c]; done))); (focus (simp only [purAs, purA, Bool.and_self]; done))))
    | ((simp only [thenP, blockP, Nat.reduceEqDiff, ↓reduceIte]; (try ((repeat (fail_if_success (with_reducible refine hK1 _ ?_)); clear hK1); (with_reducible refine hK1 _ ?_); clear hK1))))
    | (((first | (((with_reducible refine opsP_cons fun K3 hK3 => ?_); simp only [wantP, opP, valP, Ur, Us])) | ((with_reducible refine PW.condM fun X1 Y1 hX1 hY1 => ?_)) | (skip)); simp (disch := omega) only [St.eval, St.put, upd_app, iniT_app, avOf, avOf1, nom, cellsA, AV.okv, loadA, binP, intsP, intP, nilP, slA, putCells, fillA, buildA, U7, U8, Ua, Ub, Uc, Ud, Uf, Ug, Uk, Un, Up, Ur, Us, Ut, Uu, Uv, V9, Ve, Vt, UU2, UU3, Vr, PmL, simprocAttr, PmT, Back.v, Back.c, retQ, resP, tupA, fg, fgs, condP, condB_t, condB_f]; try (with_reducible (first | exact co_refl _ | exact co_own _ _ _ | exact co_nilsB | exact co_nilsL _ _)))))
  all_goals exact co_agg (by repeat' (first | (refine cos_cons ?_ ?_) | exact cos_nil | exact co_refl _ | exact co_nilsB | exact co_nilsL _ _ | exact co_nils _))
set_option maxRecDepth 100000 in
set_option maxHeartbeats 4000000 in
theorem pTold7 (b : List Int) : Pure Tryd.prog 49 [.d (.int .i64 7), bs b] (toldS 7 b).v := by
  refine pure_intro Tryd.func49 rfl rfl rfl 147 rfl (fun hh => ?_)
  repeat' (first
    | ((with_reducible (first
     | (refine PW.seq fun K1 hK1 => ?_) | (refine PW.region fun K2 hK2 => ?_) | ((refine hK3 _ ?_; clear hK3)) | ((refine opsP_nil ?_; refine hK2 _ ?_; clear hK2)) | (refine PW.block ?_) | (refine PW.skip ?_)
     | (refine PW.exit ?_) | (refine PW.ret ?_) | ((refine hX1 ?_; clear hX1 hY1; try simp only [hb])) | ((refine hY1 ?_; clear hX1 hY1; try simp only [hb])) )))
    | (((with_reducible refine cC_recv (cs := ?_) ?_ ?_ ?_ ?_ (pPgText ?_ ?_) (fun _ => ?_)); rotate_left 1; (focus (first | exact rfl | (simp only [Ua, Ub]; rfl))); (focus ((repeat' (first | (refine .cons ?_ ?_) | (exact .nil) | (exact .d _) )) <;> (simp only [purAs, purA, Vf, Bool.and_self, zB, Back.v, Back.c]; done))); (focus ((repeat' (first | (exact .nil) )) <;> (simp only [purAs, purA, Vf, Bool.and_self, zB, Back.v, Back.c]; done))); (focus (simp only [purAs, purA, Bool.and_self]; done))))
    | ((simp only [thenP, blockP, Nat.reduceEqDiff, ↓reduceIte]; (try ((repeat (fail_if_success (with_reducible refine hK1 _ ?_)); clear hK1); (with_reducible refine hK1 _ ?_); clear hK1))))
    | (((first | (((with_reducible refine opsP_cons fun K3 hK3 => ?_); simp only [wantP, opP, valP, Ur, Us])) | ((with_reducible refine PW.condM fun X1 Y1 hX1 hY1 => ?_)) | (skip)); simp (disch := omega) only [St.eval, St.put, upd_app, iniT_app, avOf, avOf1, nom, cellsA, AV.okv, loadA, binP, intsP, intP, nilP, slA, putCells, fillA, buildA, U7, U8, Ua, Ub, Uc, Ud, Uf, Ug, Uk, Un, Up, Ur, Us, Ut, Uu, Uv, V9, Ve, Vt, UU2, UU3, Vr, PmL, simprocAttr, PmT, Back.v, Back.c, retQ, resP, tupA, fg, fgs, condP, condB_t, condB_f]; try (with_reducible (first | exact co_refl _ | exact co_own _ _ _ | exact co_nilsB | exact co_nilsL _ _)))))
  all_goals exact co_agg (by repeat' (first | (refine cos_cons ?_ ?_) | exact cos_nil | exact co_refl _ | exact co_nilsB | exact co_nilsL _ _ | exact co_nils _))
set_option maxRecDepth 100000 in
set_option maxHeartbeats 4000000 in
theorem pTold4 (b : List Int) : Pure Tryd.prog 49 [.d (.int .i64 4), bs b] (toldS 4 b).v := by
  obtain ⟨T, hT⟩ : ∃ T, pgTake b false 1 = T := ⟨_, rfl⟩
  have hp := pPgTake b false 1
  have e0 : toldS 4 b = { zB with kind := 4, status := if T.1.length = 1 then T.1.getD 0 0 else 0 } := by rw [← hT]; rfl
  rw [e0]
  rw [hT] at hp
  obtain ⟨c, r, d⟩ := T
  simp only at hp ⊢
  match c with
  | [x] =>
    rw [if_pos (show [x].length = 1 from rfl)]
    have e1 : ([x] : List Int).getD 0 0 = x := rfl
    rw [e1]
    refine pure_intro Tryd.func49 rfl rfl rfl 147 rfl (fun hh => ?_)
    repeat' (first
      | ((with_reducible (first
       | (refine PW.seq fun K1 hK1 => ?_) | (refine PW.region fun K2 hK2 => ?_) | ((refine hK3 _ ?_; clear hK3)) | ((refine opsP_nil ?_; refine hK2 _ ?_; clear hK2)) | (refine PW.block ?_) | (refine PW.skip ?_)
       | (refine PW.exit ?_) | (refine PW.ret ?_) | ((refine hX1 ?_; clear hX1 hY1; try simp only [hb])) | ((refine hY1 ?_; clear hX1 hY1; try simp only [hb])) )))
      | (((with_reducible refine cC_recv (cs := ?_) ?_ ?_ ?_ ?_ (hp) (fun _ => ?_)); rotate_left 1; (focus (first | exact rfl | (simp only [Ua, Ub]; rfl))); (focus ((repeat' constructor) <;> (simp only [purAs, purA, Vf, Bool.and_self, zB, Back.v, Back.c, encB]; done))); (focus ((repeat' constructor) <;> (simp only [purAs, purA, Vf, Bool.and_self, zB, Back.v, Back.c, encB]; done))); (focus (simp only [purAs, purA, Bool.and_self]; done))))
      | ((simp only [thenP, blockP, Nat.reduceEqDiff, ↓reduceIte]; (try ((repeat (fail_if_success (with_reducible refine hK1 _ ?_)); clear hK1); (with_reducible refine hK1 _ ?_); clear hK1))))
      | (((first | (((with_reducible refine opsP_cons fun K3 hK3 => ?_); simp only [wantP, opP, valP, Ur, Us])) | ((with_reducible refine PW.condM fun X1 Y1 hX1 hY1 => ?_)) | (skip)); simp (disch := omega) only [St.eval, St.put, upd_app, iniT_app, avOf, avOf1, nom, cellsA, AV.okv, loadA, lenP, binP, intsP, intP, nilP, builtinP, isMapA, slA, putCells, fillA, buildA, U7, U8, Ua, Ub, Uc, Ud, Uf, Ug, Uk, Un, Up, Ur, Us, Ut, Uu, Uv, V8, V9, Ve, Vt, Int.cast_ofNat_Int, UU2, UU3, Vr, Vs, PmL, simprocAttr, PmT, zB, Back.v, Back.c, encB, retQ, resP, tupA, fg, fgs, condP, condB_t, condB_f]; try (with_reducible (first | exact co_refl _ | exact co_own _ _ _ | exact co_nilsB | exact co_nilsL _ _)))))
    all_goals exact co_agg (by repeat' (first | (refine cos_cons ?_ ?_) | exact cos_nil | exact co_refl _ | exact co_nilsB | exact co_nilsL _ _ | exact co_nils _))
  | [] =>
    rw [if_neg (by simp)]
    refine pure_intro Tryd.func49 rfl rfl rfl 147 rfl (fun hh => ?_)
    repeat' (first
      | ((with_reducible (first
       | (refine PW.seq fun K1 hK1 => ?_) | (refine PW.region fun K2 hK2 => ?_) | ((refine hK3 _ ?_; clear hK3)) | ((refine opsP_nil ?_; refine hK2 _ ?_; clear hK2)) | (refine PW.block ?_) | (refine PW.skip ?_)
       | (refine PW.exit ?_) | (refine PW.ret ?_) | ((refine hX1 ?_; clear hX1 hY1; try simp only [hb])) | ((refine hY1 ?_; clear hX1 hY1; try simp only [hb])) )))
      | (((with_reducible refine cC_recv (cs := ?_) ?_ ?_ ?_ ?_ (hp) (fun _ => ?_)); rotate_left 1; (focus (first | exact rfl | (simp only [Ua, Ub]; rfl))); (focus ((repeat' constructor) <;> (simp only [purAs, purA, Vf, Bool.and_self, zB, Back.v, Back.c, encB]; done))); (focus ((repeat' constructor) <;> (simp only [purAs, purA, Vf, Bool.and_self, zB, Back.v, Back.c, encB]; done))); (focus (simp only [purAs, purA, Bool.and_self]; done))))
      | ((simp only [thenP, blockP, Nat.reduceEqDiff, ↓reduceIte]; (try ((repeat (fail_if_success (with_reducible refine hK1 _ ?_)); clear hK1); (with_reducible refine hK1 _ ?_); clear hK1))))
      | (((first | (((with_reducible refine opsP_cons fun K3 hK3 => ?_); simp only [wantP, opP, valP, Ur, Us])) | ((with_reducible refine PW.condM fun X1 Y1 hX1 hY1 => ?_)) | (skip)); simp (disch := omega) only [St.eval, St.put, upd_app, iniT_app, avOf, avOf1, nom, cellsA, AV.okv, loadA, lenP, binP, intsP, intP, nilP, builtinP, isMapA, slA, putCells, fillA, buildA, U7, U8, Ua, Ub, Uc, Ud, Uf, Ug, Uk, Un, Up, Ur, Us, Ut, Uu, Uv, V9, Ve, Vt, Int.cast_ofNat_Int, UU2, UU3, Vr, PmL, simprocAttr, PmT, zB, Back.v, Back.c, encB, retQ, resP, tupA, fg, fgs, condP, condB_t, condB_f]; try (with_reducible (first | exact co_refl _ | exact co_own _ _ _ | exact co_nilsB | exact co_nilsL _ _)))))
    all_goals exact co_agg (by repeat' (first | (refine cos_cons ?_ ?_) | exact cos_nil | exact co_refl _ | exact co_nilsB | exact co_nilsL _ _ | exact co_nils _))
  | x :: y :: l =>
    rw [if_neg (by simp)]
    have k1 := eq_false (show ¬ ((l.length : Int) + 1 + 1 = 1) by omega)
    refine pure_intro Tryd.func49 rfl rfl rfl 147 rfl (fun hh => ?_)
    repeat' (first
      | ((with_reducible (first
       | (refine PW.seq fun K1 hK1 => ?_) | (refine PW.region fun K2 hK2 => ?_) | ((refine hK3 _ ?_; clear hK3)) | ((refine opsP_nil ?_; refine hK2 _ ?_; clear hK2)) | (refine PW.block ?_) | (refine PW.skip ?_)
       | (refine PW.exit ?_) | (refine PW.ret ?_) | ((refine hX1 ?_; clear hX1 hY1; try simp only [hb])) | ((refine hY1 ?_; clear hX1 hY1; try simp only [hb])) )))
      | (((with_reducible refine cC_recv (cs := ?_) ?_ ?_ ?_ ?_ (hp) (fun _ => ?_)); rotate_left 1; (focus (first | exact rfl | (simp only [Ua, Ub]; rfl))); (focus ((repeat' constructor) <;> (simp only [purAs, purA, Vf, Bool.and_self, zB, Back.v, Back.c, encB, k1]; done))); (focus ((repeat' constructor) <;> (simp only [purAs, purA, Vf, Bool.and_self, zB, Back.v, Back.c, encB, k1]; done))); (focus (simp only [purAs, purA, Bool.and_self]; done))))
      | ((simp only [thenP, blockP, Nat.reduceEqDiff, ↓reduceIte]; (try ((repeat (fail_if_success (with_reducible refine hK1 _ ?_)); clear hK1); (with_reducible refine hK1 _ ?_); clear hK1))))
      | (((first | (((with_reducible refine opsP_cons fun K3 hK3 => ?_); simp only [wantP, opP, valP, Ur, Us])) | ((with_reducible refine PW.condM fun X1 Y1 hX1 hY1 => ?_)) | (skip)); simp (disch := omega) only [St.eval, St.put, upd_app, iniT_app, avOf, avOf1, nom, cellsA, AV.okv, loadA, lenP, binP, intsP, intP, nilP, builtinP, isMapA, slA, putCells, fillA, buildA, U7, U8, Ua, Ub, Uc, Ud, Uf, Ug, Uh, Uk, Un, Up, Ur, Us, Ut, Uu, Uv, V9, Ve, Vt, Int.cast_ofNat_Int, UU2, UU3, Vq, Vr, PmL, simprocAttr, PmT, zB, Back.v, Back.c, encB, k1, retQ, resP, tupA, fg, fgs, condP, condB_t, condB_f]; try (with_reducible (first | exact co_refl _ | exact co_own _ _ _ | exact co_nilsB | exact co_nilsL _ _)))))
    all_goals exact co_agg (by repeat' (first | (refine cos_cons ?_ ?_) | exact cos_nil | exact co_refl _ | exact co_nilsB | exact co_nilsL _ _ | exact co_nils _))
end PM
end Go.Proofs.YthaekefdadccaaaDoor
namespace Go.Proofs.YthaekefdadccaaaDoor
open Go.RowKit
namespace PM
theorem keep_1 (a b c c' : Option (TypeId × List AV)) (l : List (Option (TypeId × List AV))) (r r' : List (Option RowI)) : keepL [1] ⟨a :: b :: c :: l, r⟩ ⟨a :: b :: c' :: l, r'⟩ := fun id h => by
  simp only [List.mem_cons, List.not_mem_nil, or_false] at h
  subst h
  rfl
set_option maxRecDepth 100000 in
set_option maxHeartbeats 4000000 in
theorem pTold6 (b : List Int) (hz : b.length ≤ 100000000000) : Pure Tryd.prog 49 [.d (.int .i64 6), bs b] (toldS 6 b).v := by
  have e0 : toldS 6 b = { zB with kind := 6, cells := celsL (pgTake b false 2).2.1 (pgTake b false 2).2.2 } := rfl
  rw [e0]
  have hl0 := (pgTake_len b false 2).2
  have hp := pPgTake b false 2
  obtain ⟨T, hT⟩ : ∃ T, pgTake b false 2 = T := ⟨_, rfl⟩
  rw [hT] at hl0 hp ⊢
  obtain ⟨c0, r0, d0⟩ := T
  simp only at hl0 hp ⊢
  clear hT e0
  refine pure_intro Tryd.func49 rfl rfl rfl 147 rfl (fun hh => ?_)
  have hmx : maxLen = 9223372036854775807 := rfl
  obtain ⟨L0, hL0⟩ : ∃ L, celsL r0 d0 = L := ⟨_, rfl⟩
  rw [hL0]
  repeat' (first
    | ((with_reducible (first
     | (refine PW.seq fun K1 hK1 => ?_) | (refine PW.region fun K2 hK2 => ?_) | ((refine hK3 _ ?_; clear hK3)) | ((refine opsP_nil ?_; refine hK2 _ ?_; clear hK2)) | (refine PW.block ?_) | (refine PW.skip ?_)
     | (refine PW.exit ?_) | ((refine hX1 ?_; clear hX1 hY1; try simp only [hb])) | ((refine hY1 ?_; clear hX1 hY1; try simp only [hb])) )))
    | (((with_reducible refine cC_recv (cs := ?_) ?_ ?_ ?_ ?_ (hp) (fun _ => ?_)); rotate_left 1; (focus (first | exact rfl | (simp only [Ua, Ub]; rfl))); (focus ((repeat' constructor) <;> (simp only [purAs, purA, Vf, Bool.and_self, zB]; done))); (focus ((repeat' constructor) <;> (simp only [purAs, purA, Vf, Bool.and_self, zB]; done))); (focus (simp only [purAs, purA, Bool.and_self]; done))))
    | ((simp only [thenP, blockP, Nat.reduceEqDiff, ↓reduceIte]; (try ((repeat (fail_if_success (with_reducible refine hK1 _ ?_)); clear hK1); (with_reducible refine hK1 _ ?_); clear hK1))))
    | (((first | (((with_reducible refine opsP_cons fun K3 hK3 => ?_); simp only [wantP, opP, valP, Ur, Us])) | ((with_reducible refine PW.condM fun X1 Y1 hX1 hY1 => ?_)) | (skip)); simp (disch := omega) only [St.eval, St.put, upd_app, iniT_app, avOf, avOf1, nom, cellsA, AV.okv, binP, intsP, intP, nilP, slA, putCells, fillA, buildA, U7, U8, Ua, Ub, Uc, Ud, Uf, Ug, Ut, Uu, Uv, V9, Vt, UU2, UU3, Vr, PmL, simprocAttr, PmT, zB, condP, condB_t, condB_f]; try (with_reducible (first | exact co_refl _ | exact co_own _ _ _ | exact co_nilsB | exact co_nilsL _ _)))))
  refine PW.nil2box 1 7 52 2 rfl rfl (by decide) ?_
  simp only [List.set_cons_succ, List.set_cons_zero, List.length_nil, List.nil_append]
  (with_reducible refine PW.loop (fun n s => ∃ acc r d, s.t 4 = .ptr 0 0 ∧ s.t 5 = .ptr 1 0 ∧ s.t 6 = .ptr 2 0 ∧ s.n = 147 ∧
    s.m = ⟨[some (35, [.d (.int .i64 0), .d (.str []), .d (.str []), .d (.int .i64 0), .d (.int .i64 0), .d (.int .u8 0), .nils, .nils, .d (.str []), .d (.bool false)]),
      some (35, [.d (.int .i64 6), .d (.str []), .d (.str []), .d (.int .i64 0), .d (.int .i64 0), .d (.int .u8 0), .nils, .own 0 2 (encL celC acc), .d (.str []), .d (.bool false)]),
      some (99, [bs r, .d (.bool d)])], [some ⟨52, 2, acc.length⟩]⟩ ∧
    n = (if d = true then 0 else r.length) ∧ acc ++ celsL r d = L0 ∧ acc.length + r.length ≤ r0.length + (if d = true then 1 else 0)) (if d0 = true then 0 else r0.length) ?_ ?_)
  · exact ⟨[], r0, d0, rfl, rfl, rfl, rfl, rfl, rfl, hL0, by simp⟩
  rintro n ⟨t, nn, m⟩ ⟨acc, r, d, h4, h5, h6, hn, hm, hnk, hacc, hlen⟩ - -
  simp only at h4 h5 h6 hn hm
  subst hn hm
  by_cases hgo : d = false ∧ r ≠ []
  · obtain ⟨rfl, hr⟩ := hgo
    have hr' : 0 < r.length := List.length_pos_iff.2 hr
    simp only [Bool.false_eq_true, ↓reduceIte, Nat.add_zero] at hlen hnk
    have hal : acc.length ≤ 100000000000 := by omega
    have hlt := eq_true (show (0 : Int) < r.length by omega)
    have hnx := celsL_next hr
    have hls := readCel_less r hr
    have hq := pPgNum r false
    obtain ⟨N, hN⟩ : ∃ N, pgNum r false = N := ⟨_, rfl⟩
    have hrc : readCel r = if N.1 < 0 then ((true, []), N.2) else ((false, (pgTake N.2.1 N.2.2 N.1).1), (pgTake N.2.1 N.2.2 N.1).2) := by rw [← hN]; rfl
    have hle1 := pgNum_le r false
    rw [hN] at hq hle1
    obtain ⟨v, r1, d1⟩ := N
    simp only at hq hrc hle1
    have hq2 := pPgTake r1 d1 v
    obtain ⟨T2, hT2⟩ : ∃ T, pgTake r1 d1 v = T := ⟨_, rfl⟩
    have hle2 := pgTake_le r1 d1 v
    rw [hT2] at hq2 hrc hle2
    obtain ⟨c2, r2, d2⟩ := T2
    simp only at hq2 hrc hle2
    clear hT2 hN
    repeat' (first
      | ((with_reducible (first
       | (refine PW.seq fun K1 hK1 => ?_) | (refine PW.region fun K2 hK2 => ?_) | ((refine hK3 _ ?_; clear hK3)) | ((refine opsP_nil ?_; refine hK2 _ ?_; clear hK2)) | (refine litX_old ?_) | (refine litC_data ?_) | (refine PW.block ?_) | (refine PW.skip ?_)
       | ((refine hX1 ?_; clear hX1 hY1; try simp only [hb])) | ((refine hY1 ?_; clear hX1 hY1; try simp only [hb])) | ((refine opsO_nil ?_; refine hK2 _ ?_; clear hK2)) | ((refine keepA_intro ?_ ?_; focus (first | exact keep_same _ _ | exact keep_box _ _ _ _ | exact keep_hd _ _ _ _ _ | exact keep_02 _ _ _ _ _ _ _ | exact keep_1 _ _ _ _ _ _ _))))))
      | (((first | (with_reducible refine wantB_intro (fun hb => ?_) (fun hb => ?_)) | (with_reducible refine condB_intro (fun hb => ?_) (fun hb => ?_))) <;> ((try (have hp := hb; simp only [PmH] at hp)); try simp only [hb, Bool.not_true, Bool.not_false])))
      | (((with_reducible refine cC_recv (cs := ?_) ?_ ?_ ?_ ?_ (hq) (fun _ => ?_)); rotate_left 1; (focus (first | exact rfl | (simp only [Ua, Ub]; rfl))); (focus ((repeat' constructor) <;> (simp only [purAs, purA, Vf, Bool.and_self, h4, h5, h6, hlt, celC]; done))); (focus ((repeat' constructor) <;> (simp only [purAs, purA, Vf, Bool.and_self, h4, h5, h6, hlt, celC]; done))); (focus (simp only [purAs, purA, Bool.and_self]; done))))
      | (((with_reducible refine cC_recv (cs := ?_) ?_ ?_ ?_ ?_ (hq2) (fun _ => ?_)); rotate_left 1; (focus (first | exact rfl | (simp only [Ua, Ub]; rfl))); (focus ((repeat' constructor) <;> (simp only [purAs, purA, Vf, Bool.and_self, h4, h5, h6, hlt, celC]; done))); (focus ((repeat' constructor) <;> (simp only [purAs, purA, Vf, Bool.and_self, h4, h5, h6, hlt, celC]; done))); (focus (simp only [purAs, purA, Bool.and_self]; done))))
      | (((with_reducible refine PW.draw (id := 33) mixed [1] [10] [(0, true), (1, true), (2, true), (3, true), (4, false), (5, true), (6, true), (7, false), (8, false), (9, true), (10, false)] (by kernel_rfl) (by decide) fun K2 hK2 => ?_)))
      | (((with_reducible refine And.intro ?_ ?_); (focus (first | omega | (simp; done) | assumption))))
      | ((simp only [thenP, blockP]; (try ((repeat (fail_if_success (with_reducible refine hK1 _ ?_)); clear hK1); (with_reducible refine hK1 _ ?_); clear hK1))))
      | (((first | ((with_reducible (first | refine opsP_consMt (d := ?_) (dj := ?_) (b := ?_) (r := ?_) ?_ ?_ (fun hb => ?_) (fun K3 hK3 => ?_) | refine opsP_consMf (d := ?_) (dj := ?_) (b := ?_) (r := ?_) ?_ ?_ (fun hb => ?_) (fun K3 hK3 => ?_))); rotate_left 3; (focus exact rfl); (focus (simp only [upd_app, simprocAttr]; exact rfl))) | ((with_reducible (first | refine opsP_consNt (d := ?_) (dj := ?_) (b := ?_) (r := ?_) (c := ?_) ?_ ?_ (fun hb => ?_) (fun K3 hK3 => ?_) | refine opsP_consNf (d := ?_) (dj := ?_) (b := ?_) (r := ?_) (c := ?_) ?_ ?_ (fun hb => ?_) (fun K3 hK3 => ?_))); rotate_left 4; (focus exact rfl); (focus (simp only [St.put, upd_app, iniT_app, simprocAttr, mrg_t, mrg_f]; exact rfl)))); (focus (simp only [opP, valP, Ur, Us]; (try (simp only at hb)); (try (have hp := hb; simp only [PmH, beq_iff_eq, beq_eq_false_iff_ne, ne_eq] at hp)); simp (disch := omega) only [St.eval, upd_app, avOf, avOf1, loadA, lenP, binP, intsP, intP, nilP, builtinP, isMapA, slA, Ua, Ub, Uk, Va, Ve, PmL, simprocAttr, PmT, h6, hlt]; (repeat' (first | (exact rfl) | ((refine And.intro ?_ ?_); (focus (exact rfl)); (exact rfl)) | (refine And.intro (by first | omega | (simp; done) | assumption) ?_))); done)); (try simp only [St.put, Nat.reduceLT, ↓reduceIte, mrg_t])))
      | (((first | (((with_reducible refine opsP_cons fun K3 hK3 => ?_); simp only [wantP, opP, valP, Ur, Us, List.mapM_cons, List.mapM_nil, Uw, Ux])) | (((with_reducible refine opsO_first (o := ?_) ?_ fun K3 hK3 => ?_); rotate_left 1; (focus (simp only [Uz, Ub, Ua] <;> rfl)); simp only [wantP, firstP, valP, Ur, Us])) | (((with_reducible refine opsO_only (o := ?_) ?_ fun K3 hK3 => ?_); rotate_left 1; (focus (simp only [Uz, Ub, Ua] <;> rfl)); simp only [wantP, opP, Ur, Us, List.mapM_cons, List.mapM_nil, Uw, Ux])) | ((with_reducible refine PW.condM fun X1 Y1 hX1 hY1 => ?_)) | (skip)); simp (disch := omega) only [St.eval, St.put, upd_app, avOf, avOf1, cellsA, AV.okv, loadA, binP, intsP, intP, nilP, convP, unP, builtinP, appP, srcA, srcTy, isBsl, U3, U4, U5, slA, putCells, fillA, buildA, elA, dv1, Ua, Ub, Uc, Ud, Uf, Ug, Uk, Ul, Ut, Uu, Uv, List.mapM_cons, List.mapM_nil, Uw, Ux, V0, V1, V2, V4, Option.bind_eq_bind, Option.pure_def, V9, Vd, Ve, Vt, UU2, UU3, UU9, PmL, simprocAttr, PmT, h5, h6, condP, condB_t, firstOk, List.mem_cons]; try (with_reducible (first | exact co_refl _ | exact co_own _ _ _ | exact co_nilsB | exact co_nilsL _ _)))))
    · have hv := of_decide_eq_true hb
      rw [if_pos hv] at hrc
      rw [hrc] at hnx hls
      simp only at hnx hls
      have hm1 : (if d1 = true then 0 else r1.length) < r.length := by cases d1 <;> simp at hls ⊢ <;> omega
      have hm2 : (acc.length + 1) + r1.length ≤ r0.length + (if d1 = true then 1 else 0) := by cases d1 <;> simp at hls ⊢ <;> omega
      refine ⟨if d1 = true then 0 else r1.length, ?_, acc ++ [(true, [])], r1, d1, ?_, ?_, ?_, ?_, ?_, rfl, ?_, ?_⟩
      case refine_1 => rw [hnk]; exact hm1
      case refine_7 => rw [List.append_assoc, List.singleton_append, ← hnx, hacc]
      case refine_8 => rw [List.length_append, List.length_singleton]; exact hm2
      all_goals (simp only [St.cut, Mem.cut, fg, fgs, upd_app, Nat.reduceEqDiff, ↓reduceIte, List.take_nil, List.map_nil, List.take_succ_cons, List.map_cons, Option.map_some, Nat.reduceLT, Nat.zero_lt_one, Nat.reduceAdd, List.length_append, List.length_cons, List.length_nil, h4, h5, h6, encL_snoc, celC]; try rfl)
    · have hv := of_decide_eq_false hb
      rw [if_neg hv] at hrc
      rw [hrc] at hnx hls
      simp only at hnx hls
      have hm1 : (if d2 = true then 0 else r2.length) < r.length := by cases d2 <;> simp at hls ⊢ <;> omega
      have hm2 : (acc.length + 1) + r2.length ≤ r0.length + (if d2 = true then 1 else 0) := by cases d2 <;> simp at hls ⊢ <;> omega
      refine ⟨if d2 = true then 0 else r2.length, ?_, acc ++ [(false, c2)], r2, d2, ?_, ?_, ?_, ?_, ?_, rfl, ?_, ?_⟩
      case refine_1 => rw [hnk]; exact hm1
      case refine_7 => rw [List.append_assoc, List.singleton_append, ← hnx, hacc]
      case refine_8 => rw [List.length_append, List.length_singleton]; exact hm2
      all_goals (simp only [St.cut, Mem.cut, fg, fgs, upd_app, Nat.reduceEqDiff, ↓reduceIte, List.take_nil, List.map_nil, List.take_succ_cons, List.map_cons, Option.map_some, Nat.reduceLT, Nat.zero_lt_one, Nat.reduceAdd, List.length_append, List.length_cons, List.length_nil, h4, h5, h6, encL_snoc, celC]; try rfl)
  · have hend : d = true ∨ r = [] := by
      cases d
      · right
        rcases Classical.em (r = []) with h | h
        · exact h
        · exact absurd ⟨rfl, h⟩ hgo
      · exact .inl rfl
    have hA : acc = L0 := by rw [← hacc, celsL_end hend, List.append_nil]
    subst hA
    cases d
    · have hr : r = [] := by rcases hend with h | h; cases h; exact h
      subst hr
      repeat' (first
        | ((with_reducible (first
         | (refine PW.seq fun K1 hK1 => ?_) | (refine PW.region fun K2 hK2 => ?_) | ((refine hK3 _ ?_; clear hK3)) | ((refine opsP_nil ?_; refine hK2 _ ?_; clear hK2)) 
         | (refine PW.exit ?_) | (refine PW.ret ?_) | ((refine hY1 ?_; clear hX1 hY1; try simp only [hb])) )))
        | ((simp only [thenP, blockP, Nat.reduceEqDiff, ↓reduceIte]; (try ((repeat (fail_if_success (with_reducible refine hK1 _ ?_)); clear hK1); (with_reducible refine hK1 _ ?_); clear hK1))))
        | (((first | ((with_reducible (first | refine opsP_consMt (d := ?_) (dj := ?_) (b := ?_) (r := ?_) ?_ ?_ (fun hb => ?_) (fun K3 hK3 => ?_) | refine opsP_consMf (d := ?_) (dj := ?_) (b := ?_) (r := ?_) ?_ ?_ (fun hb => ?_) (fun K3 hK3 => ?_))); rotate_left 3; (focus exact rfl); (focus (simp only [upd_app, simprocAttr]; exact rfl))) | ((with_reducible (first | refine opsP_consNt (d := ?_) (dj := ?_) (b := ?_) (r := ?_) (c := ?_) ?_ ?_ (fun hb => ?_) (fun K3 hK3 => ?_) | refine opsP_consNf (d := ?_) (dj := ?_) (b := ?_) (r := ?_) (c := ?_) ?_ ?_ (fun hb => ?_) (fun K3 hK3 => ?_))); rotate_left 4; (focus exact rfl); (focus (simp only [St.put, upd_app, iniT_app, simprocAttr, mrg_t, mrg_f]; exact rfl)))); (focus (simp only [opP, valP, Ur, Us]; (try (simp only at hb)); (try (have hp := hb; simp only [PmH, beq_iff_eq, beq_eq_false_iff_ne, ne_eq] at hp)); simp (disch := omega) only [St.eval, upd_app, avOf, avOf1, loadA, lenP, binP, intsP, intP, nilP, builtinP, isMapA, slA, Ua, Ub, Ug, Uk, Va, Ve, Int.cast_ofNat_Int, PmL, simprocAttr, PmT, h6, encB_nil]; (repeat' (first | (exact rfl) | ((refine And.intro ?_ ?_); (focus (exact rfl)); (exact rfl)) | (refine And.intro (by first | omega | (simp; done) | assumption) ?_))); done)); (try simp only [St.put, Nat.reduceLT, ↓reduceIte, mrg_t])))
        | (((first | (((with_reducible refine opsP_cons fun K3 hK3 => ?_); simp only [wantP, opP, valP])) | ((with_reducible refine PW.condM fun X1 Y1 hX1 hY1 => ?_)) | (skip)); simp (disch := omega) only [St.eval, St.put, upd_app, cellsA, AV.okv, loadA, unP, putCells, Ua, Ub, Uc, Ud, Uf, Ug, Uk, Ul, Un, Up, V9, Vd, Ve, Vr, PmL, simprocAttr, PmT, h4, h5, h6, retQ, resP, tupA, fg, fgs, condP, condB_f]; try (with_reducible (first | exact co_refl _ | exact co_own _ _ _ | exact co_nilsB | exact co_nilsL _ _)))))
      all_goals exact co_agg (by repeat' (first | (refine cos_cons ?_ ?_) | exact cos_nil | exact co_refl _ | exact co_nilsB | exact co_nilsL _ _ | exact co_nils _))
    · repeat' (first
        | ((with_reducible (first
         | (refine PW.seq fun K1 hK1 => ?_) | (refine PW.region fun K2 hK2 => ?_) | ((refine hK3 _ ?_; clear hK3)) | ((refine opsP_nil ?_; refine hK2 _ ?_; clear hK2)) 
         | (refine PW.exit ?_) | (refine PW.ret ?_) | ((refine hY1 ?_; clear hX1 hY1; try simp only [hb])) )))
        | ((simp only [thenP, blockP, Nat.reduceEqDiff, ↓reduceIte]; (try ((repeat (fail_if_success (with_reducible refine hK1 _ ?_)); clear hK1); (with_reducible refine hK1 _ ?_); clear hK1))))
        | (((first | ((with_reducible (first | refine opsP_consMt (d := ?_) (dj := ?_) (b := ?_) (r := ?_) ?_ ?_ (fun hb => ?_) (fun K3 hK3 => ?_) | refine opsP_consMf (d := ?_) (dj := ?_) (b := ?_) (r := ?_) ?_ ?_ (fun hb => ?_) (fun K3 hK3 => ?_))); rotate_left 3; (focus exact rfl); (focus (simp only [upd_app, simprocAttr]; exact rfl))) | ((with_reducible (first | refine opsP_consNt (d := ?_) (dj := ?_) (b := ?_) (r := ?_) (c := ?_) ?_ ?_ (fun hb => ?_) (fun K3 hK3 => ?_) | refine opsP_consNf (d := ?_) (dj := ?_) (b := ?_) (r := ?_) (c := ?_) ?_ ?_ (fun hb => ?_) (fun K3 hK3 => ?_))); rotate_left 4; (focus exact rfl); (focus (simp only [St.put, upd_app, iniT_app, simprocAttr, mrg_t, mrg_f]; exact rfl)))); (focus (simp only [opP, valP, Ur, Us]; (try (simp only [Bool.and_eq_true, Bool.not_eq_true'] at hb)); (try (have hp := hb; simp only [PmH, beq_iff_eq, beq_eq_false_iff_ne, ne_eq] at hp)); simp (disch := omega) only [St.eval, upd_app, avOf, avOf1, binP, nilP, builtinP, maplenP, isMapA, slA, Ve, PmL, simprocAttr, PmT, h6, hb]; (repeat' (first | (exact rfl) | ((refine And.intro ?_ ?_); (focus (exact rfl)); (exact rfl)) | (refine And.intro (by first | omega | (simp; done) | assumption) ?_))); done)); (try simp only [St.put, Nat.reduceLT, ↓reduceIte, mrg_f])))
        | (((first | (((with_reducible refine opsP_cons fun K3 hK3 => ?_); simp only [wantP, opP, valP, Ur, Us])) | ((with_reducible refine PW.condM fun X1 Y1 hX1 hY1 => ?_)) | (skip)); simp (disch := omega) only [wantB_ft, St.eval, St.put, upd_app, avOf, avOf1, cellsA, AV.okv, loadA, lenP, binP, nilP, unP, builtinP, isMapA, slA, putCells, Ua, Ub, Uc, Ud, Uf, Ug, Uk, Ul, Un, Up, Uz, V4, V9, Vd, Ve, Vr, PmL, simprocAttr, PmT, h4, h5, h6, retQ, resP, tupA, fg, fgs, condP, condB_f]; try (with_reducible (first | exact co_refl _ | exact co_own _ _ _ | exact co_nilsB | exact co_nilsL _ _)))))
      all_goals exact co_agg (by repeat' (first | (refine cos_cons ?_ ?_) | exact cos_nil | exact co_refl _ | exact co_nilsB | exact co_nilsL _ _ | exact co_nils _))
end PM
end Go.Proofs.YthaekefdadccaaaDoor
namespace Go.Proofs.YthaekefdadccaaaDoor
open Go.RowKit
namespace PM
def tyOf (n : Int) (left : List Nat) : Int := if n = 20 then (if 0 ∈ left then 0 else 1) else if n = 16 then (if 1 ∈ left then 0 else 2) else if n = 25 then (if 2 ∈ left then 0 else 3) else 0
theorem tyOf_nil (n : Int) : tyOf n [] = typN n := by simp [tyOf, typN]
theorem tyOf_all (n : Int) : tyOf n (List.range 3) = 0 := by simp [tyOf]
theorem ty0 (n : Int) (l : List Nat) : tyOf n (l.filter fun k => k != 0) = if n = 20 then 1 else tyOf n l := by
  unfold tyOf
  simp only [List.mem_filter]
  by_cases h : n = 20
  · simp [h]
  · simp [h]
theorem ty1 (n : Int) (l : List Nat) : tyOf n (l.filter fun k => k != 1) = if n = 16 then 2 else tyOf n l := by
  unfold tyOf
  simp only [List.mem_filter]
  by_cases h : n = 16
  · simp [h]
  · by_cases h2 : n = 20 <;> simp [h, h2]
theorem ty2 (n : Int) (l : List Nat) : tyOf n (l.filter fun k => k != 2) = if n = 25 then 3 else tyOf n l := by
  unfold tyOf
  simp only [List.mem_filter]
  by_cases h : n = 25
  · simp [h]
  · by_cases h2 : n = 20
    · simp [h2]
    · by_cases h3 : n = 16 <;> simp [h, h2, h3]
theorem filter_less {l : List Nat} {i : Nat} (h : i ∈ l) : (l.filter fun k => k != i).length < l.length := by
  induction l with
  | nil => cases h
  | cons x l ih =>
    have hle : (l.filter fun k => k != i).length ≤ l.length := List.length_filter_le _ _
    by_cases hx : x = i
    · subst hx
      simp
      omega
    · rcases List.mem_cons.1 h with rfl | h
      · exact absurd rfl hx
      · have := ih h
        rw [List.filter_cons]
        simp [hx]
        omega
set_option maxRecDepth 100000 in
set_option maxHeartbeats 4000000 in
theorem pTold5 (b : List Int) (hz : b.length ≤ 100000000000) : Pure Tryd.prog 49 [.d (.int .i64 5), bs b] (toldS 5 b).v := by
  have e0 : toldS 5 b = { zB with kind := 5, fields := fldsL (pgTake b false 2).2.1 (pgTake b false 2).2.2 } := rfl
  rw [e0]
  have hl0 := (pgTake_len b false 2).2
  have hp := pPgTake b false 2
  obtain ⟨T, hT⟩ : ∃ T, pgTake b false 2 = T := ⟨_, rfl⟩
  rw [hT] at hl0 hp ⊢
  obtain ⟨c0, r0, d0⟩ := T
  simp only at hl0 hp ⊢
  clear hT e0
  refine pure_intro Tryd.func49 rfl rfl rfl 147 rfl (fun hh => ?_)
  have hmx : maxLen = 9223372036854775807 := rfl
  obtain ⟨L0, hL0⟩ : ∃ L, fldsL r0 d0 = L := ⟨_, rfl⟩
  rw [hL0]
  repeat' (first
    | ((with_reducible (first
     | (refine PW.seq fun K1 hK1 => ?_) | (refine PW.region fun K2 hK2 => ?_) | ((refine hK3 _ ?_; clear hK3)) | ((refine opsP_nil ?_; refine hK2 _ ?_; clear hK2)) | (refine PW.block ?_) | (refine PW.skip ?_)
     | (refine PW.exit ?_) | ((refine hX1 ?_; clear hX1 hY1; try simp only [hb])) | ((refine hY1 ?_; clear hX1 hY1; try simp only [hb])) )))
    | (((with_reducible refine cC_recv (cs := ?_) ?_ ?_ ?_ ?_ (hp) (fun _ => ?_)); rotate_left 1; (focus (first | exact rfl | (simp only [Ua, Ub]; rfl))); (focus ((repeat' constructor) <;> (simp only [purAs, purA, Vf, Bool.and_self, zB]; done))); (focus ((repeat' constructor) <;> (simp only [purAs, purA, Vf, Bool.and_self, zB]; done))); (focus (simp only [purAs, purA, Bool.and_self]; done))))
    | ((simp only [thenP, blockP, Nat.reduceEqDiff, ↓reduceIte]; (try ((repeat (fail_if_success (with_reducible refine hK1 _ ?_)); clear hK1); (with_reducible refine hK1 _ ?_); clear hK1))))
    | (((first | (((with_reducible refine opsP_cons fun K3 hK3 => ?_); simp only [wantP, opP, valP, Ur, Us])) | ((with_reducible refine PW.condM fun X1 Y1 hX1 hY1 => ?_)) | (skip)); simp (disch := omega) only [St.eval, St.put, upd_app, iniT_app, avOf, avOf1, nom, cellsA, AV.okv, binP, intsP, intP, nilP, slA, putCells, fillA, buildA, U7, U8, Ua, Ub, Uc, Ud, Uf, Ug, Ut, Uu, Uv, V9, Vt, UU2, UU3, Vr, PmL, simprocAttr, PmT, zB, condP, condB_t, condB_f]; try (with_reducible (first | exact co_refl _ | exact co_own _ _ _ | exact co_nilsB | exact co_nilsL _ _)))))
  refine PW.nil2box 1 6 86 2 rfl rfl (by decide) ?_
  simp only [List.set_cons_succ, List.set_cons_zero, List.length_nil, List.nil_append]
  (with_reducible refine PW.loop (fun n s => ∃ acc r d, s.t 4 = .ptr 0 0 ∧ s.t 5 = .ptr 1 0 ∧ s.t 6 = .ptr 2 0 ∧ s.n = 147 ∧
    s.m = ⟨[some (35, [.d (.int .i64 0), .d (.str []), .d (.str []), .d (.int .i64 0), .d (.int .i64 0), .d (.int .u8 0), .nils, .nils, .d (.str []), .d (.bool false)]),
      some (35, [.d (.int .i64 5), .d (.str []), .d (.str []), .d (.int .i64 0), .d (.int .i64 0), .d (.int .u8 0), .own 0 2 (encL fldC acc), .nils, .d (.str []), .d (.bool false)]),
      some (99, [bs r, .d (.bool d)])], [some ⟨86, 2, acc.length⟩]⟩ ∧
    n = (if d = true then 0 else r.length) ∧ acc ++ fldsL r d = L0 ∧ acc.length + r.length ≤ r0.length + (if d = true then 1 else 0)) (if d0 = true then 0 else r0.length) ?_ ?_)
  · exact ⟨[], r0, d0, rfl, rfl, rfl, rfl, rfl, rfl, hL0, by simp⟩
  rintro n ⟨t, nn, m⟩ ⟨acc, r, d, h4, h5, h6, hn, hm, hnk, hacc, hlen⟩ - -
  simp only at h4 h5 h6 hn hm
  subst hn hm
  by_cases hgo : d = false ∧ r ≠ []
  · obtain ⟨rfl, hr⟩ := hgo
    have hr' : 0 < r.length := List.length_pos_iff.2 hr
    simp only [Bool.false_eq_true, ↓reduceIte, Nat.add_zero] at hlen hnk
    have hal : acc.length ≤ 100000000000 := by omega
    have hlt := eq_true (show (0 : Int) < r.length by omega)
    have hnx := fldsL_next hr
    have hls := readFld_less r
    have hq1 := pPgText r false
    obtain ⟨T1, hT1⟩ : ∃ T, pgText r false = T := ⟨_, rfl⟩
    have hle1 : T1.2.1.length ≤ r.length := by
      rw [← hT1]; unfold pgText; split
      · exact Nat.le_refl _
      · rename_i p hc; have := cut0_len hc; simp only [Bool.false_eq_true, ↓reduceIte]; omega
    have hq2 := pPgTake T1.2.1 T1.2.2 6
    have hle2 := pgTake_le T1.2.1 T1.2.2 6
    obtain ⟨T2, hT2⟩ : ∃ T, pgTake T1.2.1 T1.2.2 6 = T := ⟨_, rfl⟩
    have hq3 := pPgNum T2.2.1 T2.2.2
    have hle3 := pgNum_le T2.2.1 T2.2.2
    obtain ⟨T3, hT3⟩ : ∃ T, pgNum T2.2.1 T2.2.2 = T := ⟨_, rfl⟩
    have hq4 := pPgTake T3.2.1 T3.2.2 8
    have hle4 := pgTake_le T3.2.1 T3.2.2 8
    obtain ⟨T4, hT4⟩ : ∃ T, pgTake T3.2.1 T3.2.2 8 = T := ⟨_, rfl⟩
    have hrf : readFld r false = ((T1.1, typN T3.1), T4.2) := by
      unfold readFld
      rw [hT1, hT2, hT3, hT4]
    rw [hT1] at hq1
    rw [hT2] at hq2 hle2
    rw [hT3] at hq3 hle3
    rw [hT4] at hq4 hle4
    clear hT1 hT2 hT3 hT4
    obtain ⟨nm, r1, d1⟩ := T1
    obtain ⟨c2, r2, d2⟩ := T2
    obtain ⟨num, r3, d3⟩ := T3
    obtain ⟨c4, r4, d4⟩ := T4
    simp only at hq1 hq2 hq3 hq4 hle1 hle2 hle3 hle4 hrf
    repeat' (first
      | (((with_reducible refine PW.range1 (id := 21) (fun K3 hK3 => ?_)); simp only [wantP, opP, Us]; simp (disch := omega) only [St.eval, St.put, Uv, simprocAttr]))
      | ((with_reducible (first
       | (refine PW.seq fun K1 hK1 => ?_) | (refine PW.region fun K2 hK2 => ?_) | ((refine hK3 _ ?_; clear hK3)) | ((refine opsP_nil ?_; refine hK2 _ ?_; clear hK2)) | (refine PW.block ?_) | (refine PW.skip ?_)
       | ((refine hX1 ?_; clear hX1 hY1; try simp only [hb])) )))
      | (((with_reducible refine cC_recv (cs := ?_) ?_ ?_ ?_ ?_ (hq1) (fun _ => ?_)); rotate_left 1; (focus (first | exact rfl | (simp only [Ua, Ub]; rfl))); (focus ((repeat' constructor) <;> (simp only [purAs, purA, Vf, Bool.and_self, h4, h5, h6, hlt, fldC]; done))); (focus ((repeat' constructor) <;> (simp only [purAs, purA, Vf, Bool.and_self, h4, h5, h6, hlt, fldC]; done))); (focus (simp only [purAs, purA, Bool.and_self]; done))))
      | (((with_reducible refine cC_recv (cs := ?_) ?_ ?_ ?_ ?_ (hq2) (fun _ => ?_)); rotate_left 1; (focus (first | exact rfl | (simp only [Ua, Ub]; rfl))); (focus ((repeat' constructor) <;> (simp only [purAs, purA, Vf, Bool.and_self, h4, h5, h6, hlt, fldC]; done))); (focus ((repeat' constructor) <;> (simp only [purAs, purA, Vf, Bool.and_self, h4, h5, h6, hlt, fldC]; done))); (focus (simp only [purAs, purA, Bool.and_self]; done))))
      | (((with_reducible refine cC_recv (cs := ?_) ?_ ?_ ?_ ?_ (hq3) (fun _ => ?_)); rotate_left 1; (focus (first | exact rfl | (simp only [Ua, Ub]; rfl))); (focus ((repeat' constructor) <;> (simp only [purAs, purA, Vf, Bool.and_self, h4, h5, h6, hlt, fldC]; done))); (focus ((repeat' constructor) <;> (simp only [purAs, purA, Vf, Bool.and_self, h4, h5, h6, hlt, fldC]; done))); (focus (simp only [purAs, purA, Bool.and_self]; done))))
      | (((with_reducible refine cC_pure ?_ (pColumns) (fun _ => ?_)); (focus ((repeat' constructor) <;> (simp only [purAs, purA, Vf, Bool.and_self, h4, h5, h6, hlt, fldC]; done)))))
      | ((simp only [thenP]; (try ((repeat (fail_if_success (with_reducible refine hK1 _ ?_)); clear hK1); (with_reducible refine hK1 _ ?_); clear hK1))))
      | (((first | ((with_reducible (first | refine opsP_consMt (d := ?_) (dj := ?_) (b := ?_) (r := ?_) ?_ ?_ (fun hb => ?_) (fun K3 hK3 => ?_) | refine opsP_consMf (d := ?_) (dj := ?_) (b := ?_) (r := ?_) ?_ ?_ (fun hb => ?_) (fun K3 hK3 => ?_))); rotate_left 3; (focus exact rfl); (focus (simp only [upd_app, simprocAttr]; exact rfl))) | ((with_reducible (first | refine opsP_consNt (d := ?_) (dj := ?_) (b := ?_) (r := ?_) (c := ?_) ?_ ?_ (fun hb => ?_) (fun K3 hK3 => ?_) | refine opsP_consNf (d := ?_) (dj := ?_) (b := ?_) (r := ?_) (c := ?_) ?_ ?_ (fun hb => ?_) (fun K3 hK3 => ?_))); rotate_left 4; (focus exact rfl); (focus (simp only [St.put, upd_app, iniT_app, simprocAttr, mrg_t, mrg_f]; exact rfl)))); (focus (simp only [opP, valP, Ur, Us]; (try (simp only at hb)); (try (have hp := hb; simp only [PmH, beq_iff_eq, beq_eq_false_iff_ne, ne_eq] at hp)); simp (disch := omega) only [St.eval, upd_app, avOf, avOf1, loadA, lenP, binP, intsP, intP, nilP, builtinP, isMapA, slA, Ua, Ub, Uk, Va, Ve, PmL, simprocAttr, PmT, h6, hlt]; (repeat' (first | (exact rfl) | ((refine And.intro ?_ ?_); (focus (exact rfl)); (exact rfl)) | (refine And.intro (by first | omega | (simp; done) | assumption) ?_) | ((with_reducible refine cC_pure ?_ (pColumns) (fun _ => ?_)); (focus ((repeat' constructor) <;> (simp only [purAs, purA, Vf, Bool.and_self, h4, h5, h6, hlt, fldC]; done)))))); done)); (try simp only [St.put, Nat.reduceLT, ↓reduceIte, mrg_t])))
      | (((first | (((with_reducible refine opsP_cons fun K3 hK3 => ?_); simp only [wantP, opP, valP, Ur, Us])) | ((with_reducible refine PW.condM fun X1 Y1 hX1 hY1 => ?_)) | (skip)); simp (disch := omega) only [St.eval, St.put, upd_app, avOf, avOf1, cellsA, AV.okv, loadA, unP, putCells, fillA, buildA, Ua, Ub, Uc, Ud, Uf, Ug, Uk, Ul, Ut, Uu, Uv, V9, Ve, Vt, UU2, UU3, Vr, PmL, simprocAttr, PmT, h6, condP, condB_t]; try (with_reducible (first | exact co_refl _ | exact co_own _ _ _ | exact co_nilsB | exact co_nilsL _ _)))))
    refine ⟨false, true, [[.int .i64 1], [.int .i64 2], [.int .i64 3]], [[.int .i64 20, .int .i64 8], [.int .i64 16, .int .i64 1], [.int .i64 25, .int .i64 (-1)]], by kernel_rfl, rfl, rfl, ?_⟩
    refine PWJ.block (PWJ.loop (fun n s j => ∃ left last, j = ⟨4, false, true, [[.int .i64 1], [.int .i64 2], [.int .i64 3]], [[.int .i64 20, .int .i64 8], [.int .i64 16, .int .i64 1], [.int .i64 25, .int .i64 (-1)]], left, last⟩ ∧ n = left.length ∧
      s.t 4 = .ptr 0 0 ∧ s.t 5 = .ptr 1 0 ∧ s.t 6 = .ptr 2 0 ∧ s.t 8 = .ptr 3 0 ∧ s.t 9 = .d (.int .i64 num) ∧ s.t 71 = .ptr 4 0 ∧ s.n = 147 ∧
      s.m = ⟨[some (35, [.d (.int .i64 0), .d (.str []), .d (.str []), .d (.int .i64 0), .d (.int .i64 0), .d (.int .u8 0), .nils, .nils, .d (.str []), .d (.bool false)]),
        some (35, [.d (.int .i64 5), .d (.str []), .d (.str []), .d (.int .i64 0), .d (.int .i64 0), .d (.int .u8 0), .own 0 2 (encL fldC acc), .nils, .d (.str []), .d (.bool false)]),
        some (99, [bs r3, .d (.bool d3)]), some (86, [.d (.str nm), .d (.int .i64 (tyOf num left))]), none], [some ⟨86, 2, acc.length⟩]⟩) 3 ?_ ?_)
    · refine ⟨[0, 1, 2], none, rfl, rfl, ?_, ?_, ?_, rfl, rfl, rfl, rfl, ?_⟩
      all_goals first | exact h4 | exact h5 | exact h6 | (rw [show tyOf num [0, 1, 2] = 0 from tyOf_all num]; rfl)
    rintro n2 ⟨t2, nn, m⟩ j2 ⟨left, last, rfl, hn2, g4, g5, g6, g8, g9, g71, hn, hm⟩ - - -
    simp only at g4 g5 g6 g8 g9 g71 hn hm
    subst hn hm
    refine PWJ.seq (PWJ.next (by simp only [St.eval]; exact g71) (fun hno => ?_) (fun i k v hi hk hv => ?_))
    · have hl0 : left = [] := List.eq_nil_iff_forall_not_mem.2 hno
      subst hl0
      simp only [opsP, wantP, opP, valP, St.eval, St.put, upd_app, Nat.reduceLT, ↓reduceIte, List.getElem?_cons_zero]
      show PWJ _ _ _ _ _
      refine PWJ.seq (PWJ.cond (b := false) rfl (fun h => by cases h) fun _ => PWJ.of (PW.exit ?_))
      simp only [thenJ, blockJ, thenP, ↓reduceIte]
      refine hK1 _ ?_
      clear hK1
      rw [tyOf_nil]
      repeat' (first
        | ((with_reducible (first
         | (refine PW.seq fun K1 hK1 => ?_) | (refine PW.region fun K2 hK2 => ?_) | ((refine hK3 _ ?_; clear hK3)) | ((refine opsP_nil ?_; refine hK2 _ ?_; clear hK2)) | (refine litX_old ?_) | (refine litC_data ?_) 
         )))
        | (((with_reducible refine cC_recv (cs := ?_) ?_ ?_ ?_ ?_ (hq4) (fun _ => ?_)); rotate_left 1; (focus (first | exact rfl | (simp only [Ua, Ub]; rfl))); (focus ((repeat' constructor) <;> (simp only [purAs, purA, Vf, Bool.and_self, g4, g5, g6, g8, g9, fldC]; done))); (focus ((repeat' constructor) <;> (simp only [purAs, purA, Vf, Bool.and_self, g4, g5, g6, g8, g9, fldC]; done))); (focus (simp only [purAs, purA, Bool.and_self]; done))))
        | (((with_reducible refine And.intro ?_ ?_); (focus (first | omega | (simp; done) | assumption))))
        | ((simp only [thenP, blockP]; (try ((repeat (fail_if_success (with_reducible refine hK1 _ ?_)); clear hK1); (with_reducible refine hK1 _ ?_); clear hK1))))
        | (((first | (((with_reducible refine opsP_cons fun K3 hK3 => ?_); simp only [wantP, opP, valP, Ur, Us, List.mapM_cons, List.mapM_nil, Uw, Ux])) | (skip)); simp (disch := omega) only [St.eval, St.put, upd_app, avOf, avOf1, cellsA, AV.okv, loadA, builtinP, appP, srcA, srcTy, isBsl, U3, U4, U5, putCells, elA, dv1, Ua, Ub, Uc, Ud, Uf, Ug, Uk, Ul, Un, Up, Ut, Uu, Uv, List.mapM_cons, List.mapM_nil, Uw, Ux, V0, V1, V2, V4, Option.bind_eq_bind, Option.pure_def, V9, Ve, UU9, Vr, PmL, simprocAttr, PmT, g5, g6, g8]; try (with_reducible (first | exact co_refl _ | exact co_own _ _ _ | exact co_nilsB | exact co_nilsL _ _)))))
      rw [hrf] at hnx hls
      simp only at hnx hls
      have hm1 : (if d4 = true then 0 else r4.length) < r.length := by cases d4 <;> simp at hls ⊢ <;> omega
      have hm2 : (acc.length + 1) + r4.length ≤ r0.length + (if d4 = true then 1 else 0) := by cases d4 <;> simp at hls ⊢ <;> omega
      refine ⟨if d4 = true then 0 else r4.length, ?_, acc ++ [(nm, typN num)], r4, d4, ?_, ?_, ?_, ?_, ?_, rfl, ?_, ?_⟩
      case refine_1 => rw [hnk]; exact hm1
      case refine_7 => rw [List.append_assoc, List.singleton_append, ← hnx, hacc]
      case refine_8 => rw [List.length_append, List.length_singleton]; exact hm2
      all_goals (simp only [St.cut, Mem.cut, fg, fgs, upd_app, Nat.reduceEqDiff, ↓reduceIte, List.take_nil, List.map_nil, List.take_succ_cons, List.take_zero, List.map_cons, Option.map_some, Nat.reduceLT, Nat.zero_lt_one, Nat.reduceAdd, List.length_append, List.length_cons, List.length_nil, g4, g5, g6, encL_snoc, fldC]; try rfl)
    · have hfl := filter_less hi
      have hi3 : i = 0 ∨ i = 1 ∨ i = 2 := by have := (List.getElem?_eq_some_iff.1 hk).1; simp only [List.length_cons, List.length_nil] at this; omega
      rcases hi3 with rfl | rfl | rfl
      all_goals
        simp only [List.getElem?_cons_zero, List.getElem?_cons_succ, Option.some.injEq] at hk hv
        subst hk hv
        simp only [opsP, wantP, opP, valP, cellsV, It.step, St.eval, St.put, upd_app, Nat.reduceLT, Bool.false_eq_true, ↓reduceIte, List.map_cons, List.map_nil, List.getElem?_cons_zero]
        show PWJ _ _ _ _ _
        refine PWJ.seq (PWJ.cond (b := true) rfl (fun _ => PWJ.of (PW.skip ?_)) fun h => by cases h)
        show PWJ _ _ _ _ _
        refine PWJ.block (PWJ.seq (PWJ.entry (by simp only [St.eval, upd_app, Nat.reduceEqDiff, ↓reduceIte]; exact g71) rfl rfl rfl ?_))
        simp (disch := omega) only [opsP, cellsV, wantP, opP, valP, St.eval, St.put, upd_app, cellsA, AV.okv, cellsV, putCells, Ua, Ub, Uc, Ud, Uf, Ug, Ur, Us, Ut, Uu, V9, Vr, PmL, simprocAttr, PmT]
        show PWJ _ _ _ _ _
        refine PWJ.of ?_
        repeat' (first
          | ((with_reducible (first
           | (refine PW.seq fun K1 hK1 => ?_) | (refine PW.region fun K2 hK2 => ?_) | ((refine hK3 _ ?_; clear hK3)) | ((refine opsP_nil ?_; refine hK2 _ ?_; clear hK2)) | (refine PW.skip ?_)
           | ((refine hX1 ?_; clear hX1 hY1; try simp only [hb])) | ((refine hY1 ?_; clear hX1 hY1; try simp only [hb])) )))
          | (((first | (with_reducible refine wantB_intro (fun hb => ?_) (fun hb => ?_)) | (with_reducible refine condB_intro (fun hb => ?_) (fun hb => ?_))) <;> ((try (have hp := hb; simp only [PmH] at hp)); try simp only [hb, Bool.not_true, Bool.not_false])))
          | ((simp only [thenP, blockP]; (try ((repeat (fail_if_success (with_reducible refine hK1 _ ?_)); clear hK1); (with_reducible refine hK1 _ ?_); clear hK1))))
          | (((first | (((with_reducible refine opsP_cons fun K3 hK3 => ?_); simp only [wantP, opP, valP])) | ((with_reducible refine PW.condM fun X1 Y1 hX1 hY1 => ?_)) | (skip)); simp (disch := omega) only [St.eval, St.put, upd_app, cellsA, AV.okv, loadA, binP, intsP, intP, nilP, slA, putCells, Ua, Ub, Uc, Ud, Uf, Ug, Uk, V9, Va, Ve, Vr, PmL, simprocAttr, PmT, g8, g9, blockJ, thenJ, condP]; try (with_reducible (first | exact co_refl _ | exact co_own _ _ _ | exact co_nilsB | exact co_nilsL _ _)))))
      · have hq := of_decide_eq_true hb
        have hty : tyOf num (left.filter fun k => k != 0) = 1 := by rw [ty0, if_pos hq.symm]
        refine ⟨(left.filter fun k => k != 0).length, ?_, _, _, rfl, rfl, ?_, ?_, ?_, ?_, ?_, ?_, ?_, ?_⟩
        case refine_1 => rw [hn2]; exact hfl
        all_goals (simp only [St.cut, Mem.cut, fg, fgs, upd_app, Nat.reduceEqDiff, ↓reduceIte, List.take_nil, List.map_nil, List.take_succ_cons, List.take_zero, List.map_cons, Option.map_some, Option.map_none, Nat.reduceLT, Nat.zero_lt_one, g4, g5, g6, g8, g9, g71, hty]; try rfl)
      · have hq := of_decide_eq_false hb
        have hty : tyOf num (left.filter fun k => k != 0) = tyOf num left := by rw [ty0, if_neg (fun h => hq h.symm)]
        refine ⟨(left.filter fun k => k != 0).length, ?_, _, _, rfl, rfl, ?_, ?_, ?_, ?_, ?_, ?_, ?_, ?_⟩
        case refine_1 => rw [hn2]; exact hfl
        all_goals (simp only [St.cut, Mem.cut, fg, fgs, upd_app, Nat.reduceEqDiff, ↓reduceIte, List.take_nil, List.map_nil, List.take_succ_cons, List.take_zero, List.map_cons, Option.map_some, Option.map_none, Nat.reduceLT, Nat.zero_lt_one, g4, g5, g6, g8, g9, g71, hty]; try rfl)
      · have hq := of_decide_eq_true hb
        have hty : tyOf num (left.filter fun k => k != 1) = 2 := by rw [ty1, if_pos hq.symm]
        refine ⟨(left.filter fun k => k != 1).length, ?_, _, _, rfl, rfl, ?_, ?_, ?_, ?_, ?_, ?_, ?_, ?_⟩
        case refine_1 => rw [hn2]; exact hfl
        all_goals (simp only [St.cut, Mem.cut, fg, fgs, upd_app, Nat.reduceEqDiff, ↓reduceIte, List.take_nil, List.map_nil, List.take_succ_cons, List.take_zero, List.map_cons, Option.map_some, Option.map_none, Nat.reduceLT, Nat.zero_lt_one, g4, g5, g6, g8, g9, g71, hty]; try rfl)
      · have hq := of_decide_eq_false hb
        have hty : tyOf num (left.filter fun k => k != 1) = tyOf num left := by rw [ty1, if_neg (fun h => hq h.symm)]
        refine ⟨(left.filter fun k => k != 1).length, ?_, _, _, rfl, rfl, ?_, ?_, ?_, ?_, ?_, ?_, ?_, ?_⟩
        case refine_1 => rw [hn2]; exact hfl
        all_goals (simp only [St.cut, Mem.cut, fg, fgs, upd_app, Nat.reduceEqDiff, ↓reduceIte, List.take_nil, List.map_nil, List.take_succ_cons, List.take_zero, List.map_cons, Option.map_some, Option.map_none, Nat.reduceLT, Nat.zero_lt_one, g4, g5, g6, g8, g9, g71, hty]; try rfl)
      · have hq := of_decide_eq_true hb
        have hty : tyOf num (left.filter fun k => k != 2) = 3 := by rw [ty2, if_pos hq.symm]
        refine ⟨(left.filter fun k => k != 2).length, ?_, _, _, rfl, rfl, ?_, ?_, ?_, ?_, ?_, ?_, ?_, ?_⟩
        case refine_1 => rw [hn2]; exact hfl
        all_goals (simp only [St.cut, Mem.cut, fg, fgs, upd_app, Nat.reduceEqDiff, ↓reduceIte, List.take_nil, List.map_nil, List.take_succ_cons, List.take_zero, List.map_cons, Option.map_some, Option.map_none, Nat.reduceLT, Nat.zero_lt_one, g4, g5, g6, g8, g9, g71, hty]; try rfl)
      · have hq := of_decide_eq_false hb
        have hty : tyOf num (left.filter fun k => k != 2) = tyOf num left := by rw [ty2, if_neg (fun h => hq h.symm)]
        refine ⟨(left.filter fun k => k != 2).length, ?_, _, _, rfl, rfl, ?_, ?_, ?_, ?_, ?_, ?_, ?_, ?_⟩
        case refine_1 => rw [hn2]; exact hfl
        all_goals (simp only [St.cut, Mem.cut, fg, fgs, upd_app, Nat.reduceEqDiff, ↓reduceIte, List.take_nil, List.map_nil, List.take_succ_cons, List.take_zero, List.map_cons, Option.map_some, Option.map_none, Nat.reduceLT, Nat.zero_lt_one, g4, g5, g6, g8, g9, g71, hty]; try rfl)
  · have hend : d = true ∨ r = [] := by
      cases d
      · right
        rcases Classical.em (r = []) with h | h
        · exact h
        · exact absurd ⟨rfl, h⟩ hgo
      · exact .inl rfl
    have hA : acc = L0 := by rw [← hacc, fldsL_end hend, List.append_nil]
    subst hA
    cases d
    · have hr : r = [] := by rcases hend with h | h; cases h; exact h
      subst hr
      repeat' (first
        | ((with_reducible (first
         | (refine PW.seq fun K1 hK1 => ?_) | (refine PW.region fun K2 hK2 => ?_) | ((refine hK3 _ ?_; clear hK3)) | ((refine opsP_nil ?_; refine hK2 _ ?_; clear hK2)) 
         | (refine PW.exit ?_) | (refine PW.ret ?_) | ((refine hY1 ?_; clear hX1 hY1; try simp only [hb])) )))
        | ((simp only [thenP, blockP, Nat.reduceEqDiff, ↓reduceIte]; (try ((repeat (fail_if_success (with_reducible refine hK1 _ ?_)); clear hK1); (with_reducible refine hK1 _ ?_); clear hK1))))
        | (((first | ((with_reducible (first | refine opsP_consMt (d := ?_) (dj := ?_) (b := ?_) (r := ?_) ?_ ?_ (fun hb => ?_) (fun K3 hK3 => ?_) | refine opsP_consMf (d := ?_) (dj := ?_) (b := ?_) (r := ?_) ?_ ?_ (fun hb => ?_) (fun K3 hK3 => ?_))); rotate_left 3; (focus exact rfl); (focus (simp only [upd_app, simprocAttr]; exact rfl))) | ((with_reducible (first | refine opsP_consNt (d := ?_) (dj := ?_) (b := ?_) (r := ?_) (c := ?_) ?_ ?_ (fun hb => ?_) (fun K3 hK3 => ?_) | refine opsP_consNf (d := ?_) (dj := ?_) (b := ?_) (r := ?_) (c := ?_) ?_ ?_ (fun hb => ?_) (fun K3 hK3 => ?_))); rotate_left 4; (focus exact rfl); (focus (simp only [St.put, upd_app, iniT_app, simprocAttr, mrg_t, mrg_f]; exact rfl)))); (focus (simp only [opP, valP, Ur, Us]; (try (simp only at hb)); (try (have hp := hb; simp only [PmH, beq_iff_eq, beq_eq_false_iff_ne, ne_eq] at hp)); simp (disch := omega) only [St.eval, upd_app, avOf, avOf1, loadA, lenP, binP, intsP, intP, nilP, builtinP, isMapA, slA, Ua, Ub, Ug, Uk, Va, Ve, Int.cast_ofNat_Int, PmL, simprocAttr, PmT, h6, encB_nil]; (repeat' (first | (exact rfl) | ((refine And.intro ?_ ?_); (focus (exact rfl)); (exact rfl)) | (refine And.intro (by first | omega | (simp; done) | assumption) ?_))); done)); (try simp only [St.put, Nat.reduceLT, ↓reduceIte, mrg_t])))
        | (((first | (((with_reducible refine opsP_cons fun K3 hK3 => ?_); simp only [wantP, opP, valP])) | ((with_reducible refine PW.condM fun X1 Y1 hX1 hY1 => ?_)) | (skip)); simp (disch := omega) only [St.eval, St.put, upd_app, cellsA, AV.okv, loadA, unP, putCells, Ua, Ub, Uc, Ud, Uf, Ug, Uk, Ul, Un, Up, V9, Vd, Ve, Vr, PmL, simprocAttr, PmT, h4, h5, h6, retQ, resP, tupA, fg, fgs, condP, condB_f]; try (with_reducible (first | exact co_refl _ | exact co_own _ _ _ | exact co_nilsB | exact co_nilsL _ _)))))
      all_goals exact co_agg (by repeat' (first | (refine cos_cons ?_ ?_) | exact cos_nil | exact co_refl _ | exact co_nilsB | exact co_nilsL _ _ | exact co_nils _))
    · repeat' (first
        | ((with_reducible (first
         | (refine PW.seq fun K1 hK1 => ?_) | (refine PW.region fun K2 hK2 => ?_) | ((refine hK3 _ ?_; clear hK3)) | ((refine opsP_nil ?_; refine hK2 _ ?_; clear hK2)) 
         | (refine PW.exit ?_) | (refine PW.ret ?_) | ((refine hY1 ?_; clear hX1 hY1; try simp only [hb])) )))
        | ((simp only [thenP, blockP, Nat.reduceEqDiff, ↓reduceIte]; (try ((repeat (fail_if_success (with_reducible refine hK1 _ ?_)); clear hK1); (with_reducible refine hK1 _ ?_); clear hK1))))
        | (((first | ((with_reducible (first | refine opsP_consMt (d := ?_) (dj := ?_) (b := ?_) (r := ?_) ?_ ?_ (fun hb => ?_) (fun K3 hK3 => ?_) | refine opsP_consMf (d := ?_) (dj := ?_) (b := ?_) (r := ?_) ?_ ?_ (fun hb => ?_) (fun K3 hK3 => ?_))); rotate_left 3; (focus exact rfl); (focus (simp only [upd_app, simprocAttr]; exact rfl))) | ((with_reducible (first | refine opsP_consNt (d := ?_) (dj := ?_) (b := ?_) (r := ?_) (c := ?_) ?_ ?_ (fun hb => ?_) (fun K3 hK3 => ?_) | refine opsP_consNf (d := ?_) (dj := ?_) (b := ?_) (r := ?_) (c := ?_) ?_ ?_ (fun hb => ?_) (fun K3 hK3 => ?_))); rotate_left 4; (focus exact rfl); (focus (simp only [St.put, upd_app, iniT_app, simprocAttr, mrg_t, mrg_f]; exact rfl)))); (focus (simp only [opP, valP, Ur, Us]; (try (simp only [Bool.and_eq_true, Bool.not_eq_true'] at hb)); (try (have hp := hb; simp only [PmH, beq_iff_eq, beq_eq_false_iff_ne, ne_eq] at hp)); simp (disch := omega) only [St.eval, upd_app, avOf, avOf1, binP, nilP, builtinP, maplenP, isMapA, slA, Ve, PmL, simprocAttr, PmT, h6, hb]; (repeat' (first | (exact rfl) | ((refine And.intro ?_ ?_); (focus (exact rfl)); (exact rfl)) | (refine And.intro (by first | omega | (simp; done) | assumption) ?_))); done)); (try simp only [St.put, Nat.reduceLT, ↓reduceIte, mrg_f])))
        | (((first | (((with_reducible refine opsP_cons fun K3 hK3 => ?_); simp only [wantP, opP, valP, Ur, Us])) | ((with_reducible refine PW.condM fun X1 Y1 hX1 hY1 => ?_)) | (skip)); simp (disch := omega) only [wantB_ft, St.eval, St.put, upd_app, avOf, avOf1, cellsA, AV.okv, loadA, lenP, binP, nilP, unP, builtinP, isMapA, slA, putCells, Ua, Ub, Uc, Ud, Uf, Ug, Uk, Ul, Un, Up, Uz, V4, V9, Vd, Ve, Vr, PmL, simprocAttr, PmT, h4, h5, h6, retQ, resP, tupA, fg, fgs, condP, condB_f]; try (with_reducible (first | exact co_refl _ | exact co_own _ _ _ | exact co_nilsB | exact co_nilsL _ _)))))
      all_goals exact co_agg (by repeat' (first | (refine cos_cons ?_ ?_) | exact cos_nil | exact co_refl _ | exact co_nilsB | exact co_nilsL _ _ | exact co_nils _))
end PM
end Go.Proofs.YthaekefdadccaaaDoor
