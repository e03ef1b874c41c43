/- rowkey's reference in the abstract: what may be handed in. -/
import Derived.Test.YtfkemeamimcnjaaDoorRk9
namespace Go.Proofs.YtfkemeamimcnjaaDoor
open Go.RowKit
set_option maxRecDepth 100000
namespace PM
theorem pRHas0 (s : List Int) : Pure Tryd.prog 84 [.d (.str s)] (.d (.bool (s.contains 0))) := by
  refine pure_intro Tryd.func84 rfl rfl rfl 14 rfl (fun hh => ?_)
  have hml := (has_str (hh (.d (.str s)) (by simp))).2
  have hmx : maxLen = 9223372036854775807 := rfl
  repeat' (first
    | ((with_reducible (first
     | (refine PW.seq fun K1 hK1 => ?_) | (refine PW.region fun K2 hK2 => ?_) | ((refine hK3 _ ?_; clear hK3)) | ((refine opsP_nil ?_; refine hK2 _ ?_; clear hK2)) 
     | (refine PW.block ?_) )))
    | ((simp only [thenP]; (try ((repeat (fail_if_success (with_reducible refine hK1 _ ?_)); clear hK1); (with_reducible refine hK1 _ ?_); clear hK1))))
    | (((first | (((with_reducible refine opsP_cons fun K3 hK3 => ?_); simp only [wantP, opP, valP])) | (skip)); simp (disch := omega) only [St.eval, St.put, avOf, avOf1, nom, PmL, simprocAttr]; try (with_reducible (first | exact co_refl _ | exact co_own _ _ _ | exact co_nilsB | exact co_nilsL _ _)))))
  (with_reducible refine PW.loop (fun n t => ∃ k : Nat, t.t 0 = .d (.str s) ∧ t.t 3 = .d (.int .i64 k) ∧ t.n = 14 ∧ t.m = nom ∧ k ≤ s.length ∧ n = s.length - k ∧ (0 : Int) ∉ s.take k) s.length ?_ ?_)
  · exact ⟨0, rfl, rfl, rfl, rfl, Nat.zero_le _, rfl, by simp⟩
  rintro n ⟨t, nn, m⟩ ⟨k, h0, h3, hn, hm, hk, hnk, hz⟩ - -
  simp only at h0 h3 hn hm
  subst hn hm
  by_cases hlt : (k : Int) < s.length
  · have hlt' := eq_true hlt
    obtain ⟨x, hx⟩ : ∃ x, s[k]? = some x := ⟨_, List.getElem?_eq_getElem (by omega)⟩
    have hw : IntKind.i64.wrap ((k : Int) + 1) = (k : Int) + 1 := IntWalk.i64_in ((k : Int) + 1) (by omega)
    by_cases hx0 : x = 0
    · have hx' := eq_true hx0
      have he : s.contains 0 = true := by rw [List.contains_iff_mem]; exact hx0 ▸ List.mem_of_getElem? hx
      rw [he]
      repeat' (first
        | ((with_reducible (first
         | (refine PW.seq fun K1 hK1 => ?_) | (refine PW.region fun K2 hK2 => ?_) | ((refine hK3 _ ?_; clear hK3)) | ((refine opsP_nil ?_; refine hK2 _ ?_; clear hK2)) 
         | (refine PW.block ?_) | (refine PW.skip ?_) | (refine PW.ret ?_) | ((refine hX1 ?_; clear hX1 hY1; try simp only [hb])) )))
        | (((with_reducible refine And.intro ?_ ?_); (focus (first | omega | (simp; done) | assumption))))
        | ((simp only [thenP, blockP]; (try ((repeat (fail_if_success (with_reducible refine hK1 _ ?_)); clear hK1); (with_reducible refine hK1 _ ?_); clear hK1))))
        | (((first | (((with_reducible refine opsP_cons fun K3 hK3 => ?_); simp only [wantP, opP, valP, Ur, Us])) | ((with_reducible refine PW.condM fun X1 Y1 hX1 hY1 => ?_)) | (skip)); simp (disch := omega) only [St.eval, St.put, upd_app, avOf, avOf1, nom, lenP, binP, intsP, intP, nilP, builtinP, isMapA, slA, V7, Ve, Vs, PmL, simprocAttr, PmT, h0, h3, hlt', hx, hx', retQ, resP, tupA, fg, condP, condB_t]; try (with_reducible (first | exact co_refl _ | exact co_own _ _ _ | exact co_nilsB | exact co_nilsL _ _)))))
    · have hx' := eq_false hx0
      repeat' (first
        | ((with_reducible (first
         | (refine PW.seq fun K1 hK1 => ?_) | (refine PW.region fun K2 hK2 => ?_) | ((refine hK3 _ ?_; clear hK3)) | ((refine opsP_nil ?_; refine hK2 _ ?_; clear hK2)) 
         | (refine PW.block ?_) | (refine PW.skip ?_) | ((refine hX1 ?_; clear hX1 hY1; try simp only [hb])) | ((refine hY1 ?_; clear hX1 hY1; try simp only [hb])) )))
        | (((with_reducible refine And.intro ?_ ?_); (focus (first | omega | (simp; done) | assumption))))
        | ((simp only [thenP, blockP]; (try ((repeat (fail_if_success (with_reducible refine hK1 _ ?_)); clear hK1); (with_reducible refine hK1 _ ?_); clear hK1))))
        | (((first | (((with_reducible refine opsP_cons fun K3 hK3 => ?_); simp only [wantP, opP, valP, Ur, Us])) | ((with_reducible refine PW.condM fun X1 Y1 hX1 hY1 => ?_)) | (skip)); simp (disch := omega) only [St.eval, St.put, upd_app, avOf, avOf1, nom, lenP, binP, intsP, intP, nilP, builtinP, isMapA, slA, Ug, V7, Ve, Vs, PmL, simprocAttr, PmT, h0, h3, hlt', hx, hx', hw, condP, condB_t, condB_f]; try (with_reducible (first | exact co_refl _ | exact co_own _ _ _ | exact co_nilsB | exact co_nilsL _ _)))))
      refine ⟨s.length - (k + 1), by omega, k + 1, ?_, ?_, ?_, ?_, by omega, rfl, ?_⟩
      case refine_5 =>
        rw [List.take_add_one, hx, Option.toList_some, List.mem_append, List.mem_singleton, not_or]
        exact ⟨hz, fun e => hx0 e.symm⟩
      all_goals (simp only [St.cut, Mem.cut, fg, upd_app, Nat.reduceEqDiff, ↓reduceIte, List.take_nil, List.map_nil, Int.natCast_add, Int.cast_ofNat_Int, h0]; try rfl)
  · have hlt' := eq_false hlt
    have he : s.contains 0 = false := by
      rw [List.take_of_length_le (by omega)] at hz
      simpa using hz
    repeat' (first
      | ((with_reducible (first
       | (refine PW.seq fun K1 hK1 => ?_) | (refine PW.region fun K2 hK2 => ?_) | ((refine hK3 _ ?_; clear hK3)) | ((refine opsP_nil ?_; refine hK2 _ ?_; clear hK2)) 
       | (refine PW.exit ?_) | (refine PW.ret ?_) | ((refine hY1 ?_; clear hX1 hY1; try simp only [hb])) )))
      | ((simp only [thenP, blockP, ↓reduceIte]; (try ((repeat (fail_if_success (with_reducible refine hK1 _ ?_)); clear hK1); (with_reducible refine hK1 _ ?_); clear hK1))))
      | (((first | (((with_reducible refine opsP_cons fun K3 hK3 => ?_); simp only [wantP, opP, valP, Ur, Us])) | ((with_reducible refine PW.condM fun X1 Y1 hX1 hY1 => ?_)) | (skip)); simp (disch := omega) only [St.eval, St.put, upd_app, avOf, avOf1, nom, lenP, binP, intsP, intP, nilP, builtinP, isMapA, slA, PmL, simprocAttr, PmT, h0, h3, hlt', retQ, resP, tupA, fg, condP, condB_f]; try (with_reducible (first | exact co_refl _ | exact co_own _ _ _ | exact co_nilsB | exact co_nilsL _ _)))))
    all_goals exact co_bool he.symm
/-- a value that may be one -/
def mayV (v : XV) : Bool := decide (1 ≤ v.ty) && (decide (v.ty ≤ 3) && (if v.null = true then decide (v.n = 0) && decide (v.s = []) else if v.ty = 1 then decide (v.s = []) else if v.ty = 2 then decide (v.s = []) && (decide (v.n = 0) || decide (v.n = 1)) else decide (v.n = 0) && (decide (v.s.length ≤ 65536) && !v.s.contains 0)))
theorem idxI_neg {l : List Int} : decide (idxI l 0 < 0) = !l.contains 0 := by
  rw [← idxI_mem (l := l) (x := 0)]
  by_cases h : idxI l 0 < 0
  · rw [decide_eq_true h, decide_eq_false (by omega)]; rfl
  · rw [decide_eq_false h, decide_eq_true (by omega)]; rfl
theorem fitsV_may (v : XV) {k : Int} (hk : 1 ≤ k ∧ k ≤ 3) : fitsV v k = (mayV v && decide (v.ty = k)) := by
  obtain ⟨ty, nu, n, s⟩ := v
  by_cases ht : ty = k
  · subst ht
    unfold fitsV mayV
    simp only [idxI_neg, decide_true, Bool.true_and, Bool.and_true]
    rw [decide_eq_true hk.1, decide_eq_true hk.2, Bool.true_and, Bool.true_and]
    cases nu
    · rcases (by omega : ty = 1 ∨ ty = 2 ∨ ty = 3) with rfl | rfl | rfl <;> simp
    · by_cases hn : n = 0
      · by_cases hs : s = []
        · subst hn hs
          rcases (by omega : ty = 1 ∨ ty = 2 ∨ ty = 3) with rfl | rfl | rfl <;> simp
        · simp [hs]
      · simp [hn]
  · unfold fitsV
    simp [ht]
set_option maxHeartbeats 2000000 in
theorem pRMay (x : XV) : Pure Tryd.prog 64 [x.v] (.d (.bool (mayV x))) := by
  refine pure_intro Tryd.func64 rfl rfl rfl 58 rfl (fun hh => ?_)
  obtain ⟨ty, nu, n, s⟩ := x
  unfold XV.v XV.c
  by_cases h1 : ty < 1
  · have h1' := eq_true h1
    repeat' (first
      | ((with_reducible (first
       | (refine PW.seq fun K1 hK1 => ?_) | (refine PW.region fun K2 hK2 => ?_) | ((refine hK3 _ ?_; clear hK3)) | ((refine opsP_nil ?_; refine hK2 _ ?_; clear hK2)) 
       | (refine PW.ret ?_) | ((refine hX1 ?_; clear hX1 hY1; try simp only [hb])) )))
      | ((simp only [thenP]; (try ((repeat (fail_if_success (with_reducible refine hK1 _ ?_)); clear hK1); (with_reducible refine hK1 _ ?_); clear hK1))))
      | (((first | (((with_reducible refine opsP_cons fun K3 hK3 => ?_); simp only [wantP, opP, valP])) | ((with_reducible refine PW.condM fun X1 Y1 hX1 hY1 => ?_)) | (skip)); simp (disch := omega) only [wantB_tf, St.eval, St.put, upd_app, iniT_app, avOf, avOf1, nom, cellsA, AV.okv, loadA, binP, intsP, intP, nilP, slA, U7, Ua, Ub, Ug, Uk, Ut, Uz, V4, Va, Ve, PmL, simprocAttr, PmT, h1', retQ, resP, tupA, fg, condP, condB_t]; try (with_reducible (first | exact co_refl _ | exact co_own _ _ _ | exact co_nilsB | exact co_nilsL _ _)))))
    all_goals exact co_bool (by unfold mayV; simp; omega)
  have h1' := eq_false h1
  by_cases h3 : 3 < ty
  · have h3' := eq_true h3
    repeat' (first
      | ((with_reducible (first
       | (refine PW.seq fun K1 hK1 => ?_) | (refine PW.region fun K2 hK2 => ?_) | ((refine hK3 _ ?_; clear hK3)) | ((refine opsP_nil ?_; refine hK2 _ ?_; clear hK2)) 
       | (refine PW.ret ?_) | ((refine hX1 ?_; clear hX1 hY1; try simp only [hb])) )))
      | ((simp only [thenP]; (try ((repeat (fail_if_success (with_reducible refine hK1 _ ?_)); clear hK1); (with_reducible refine hK1 _ ?_); clear hK1))))
      | (((first | (((with_reducible refine opsP_cons fun K3 hK3 => ?_); simp only [wantP, opP, valP])) | ((with_reducible refine PW.condM fun X1 Y1 hX1 hY1 => ?_)) | (skip)); simp (disch := omega) only [wantB_ff, St.eval, St.put, upd_app, iniT_app, avOf, avOf1, nom, cellsA, AV.okv, loadA, binP, intsP, intP, nilP, slA, U7, Ua, Ub, Ug, Uk, Ut, Uz, V4, Va, Ve, PmL, simprocAttr, PmT, h1', h3', retQ, resP, tupA, fg, condP, condB_t]; try (with_reducible (first | exact co_refl _ | exact co_own _ _ _ | exact co_nilsB | exact co_nilsL _ _)))))
    all_goals exact co_bool (by unfold mayV; simp; omega)
  have h3' := eq_false h3
  have e1 : decide (1 ≤ ty) = true := by simp; omega
  have e3 : decide (ty ≤ 3) = true := by simp; omega
  cases nu
  · rcases (by omega : ty = 1 ∨ ty = 2 ∨ ty = 3) with rfl | rfl | rfl
    · repeat' (first
        | ((with_reducible (first
         | (refine PW.seq fun K1 hK1 => ?_) | (refine PW.region fun K2 hK2 => ?_) | ((refine hK3 _ ?_; clear hK3)) | ((refine opsP_nil ?_; refine hK2 _ ?_; clear hK2)) 
         | (refine PW.block ?_) | (refine PW.skip ?_) | (refine PW.ret ?_) | ((refine hX1 ?_; clear hX1 hY1; try simp only [hb])) | ((refine hY1 ?_; clear hX1 hY1; try simp only [hb])) )))
        | ((simp only [thenP, blockP]; (try ((repeat (fail_if_success (with_reducible refine hK1 _ ?_)); clear hK1); (with_reducible refine hK1 _ ?_); clear hK1))))
        | (((first | ((with_reducible (first | refine opsP_consMt (d := ?_) (dj := ?_) (b := ?_) (r := ?_) ?_ ?_ (fun hb => ?_) (fun K3 hK3 => ?_) | refine opsP_consMf (d := ?_) (dj := ?_) (b := ?_) (r := ?_) ?_ ?_ (fun hb => ?_) (fun K3 hK3 => ?_))); rotate_left 3; (focus exact rfl); (focus (simp only [upd_app, simprocAttr]; exact rfl))) | ((with_reducible (first | refine opsP_consNt (d := ?_) (dj := ?_) (b := ?_) (r := ?_) (c := ?_) ?_ ?_ (fun hb => ?_) (fun K3 hK3 => ?_) | refine opsP_consNf (d := ?_) (dj := ?_) (b := ?_) (r := ?_) (c := ?_) ?_ ?_ (fun hb => ?_) (fun K3 hK3 => ?_))); rotate_left 4; (focus exact rfl); (focus (simp only [St.put, upd_app, iniT_app, simprocAttr, mrg_t, mrg_f]; exact rfl)))); (focus (simp only [opP, valP]; (try (simp only [Bool.not_eq_true'] at hb)); (try (have hp := hb; simp only [PmH, beq_iff_eq, beq_eq_false_iff_ne, ne_eq] at hp)); simp (disch := omega) only [St.eval, upd_app, avOf, avOf1, loadA, binP, intsP, intP, nilP, slA, Ua, Uk, Va, Ve, PmL, simprocAttr, PmT]; (repeat' (first | (exact rfl) | ((refine And.intro ?_ ?_); (focus (exact rfl)); (exact rfl)) | (refine And.intro (by first | omega | (simp; done) | assumption) ?_) | ((with_reducible refine cC_pure ?_ (pRHas0 ?_) (fun _ => ?_)); (focus ((repeat' (first | fail)) <;> (simp only [purAs, purA, Vf, Bool.and_self, XV.v, XV.c]; done)))))); done)); (try simp only [St.put, Nat.reduceLT, ↓reduceIte, mrg_t, Bool.not_false])))
        | (((first | (((with_reducible refine opsP_cons fun K3 hK3 => ?_); simp only [wantP, opP, valP])) | ((with_reducible refine PW.condM fun X1 Y1 hX1 hY1 => ?_)) | (skip)); simp (disch := omega) only [St.eval, St.put, upd_app, iniT_app, avOf, avOf1, nom, cellsA, AV.okv, loadA, binP, intsP, intP, strP, nilP, bsz, U1, slA, U7, Ua, Ug, Uk, Ul, Us, Ut, V9, Va, Ve, PmL, simprocAttr, PmT, retQ, resP, tupA, fg, condP, condB_t, condB_f]; try (with_reducible (first | exact co_refl _ | exact co_own _ _ _ | exact co_nilsB | exact co_nilsL _ _)))))
      all_goals exact co_bool (by unfold mayV; simp)
    · repeat' (first
        | ((with_reducible (first
         | (refine PW.seq fun K1 hK1 => ?_) | (refine PW.region fun K2 hK2 => ?_) | ((refine hK3 _ ?_; clear hK3)) | ((refine opsP_nil ?_; refine hK2 _ ?_; clear hK2)) 
         | (refine PW.block ?_) | (refine PW.skip ?_) | (refine PW.ret ?_) | ((refine hX1 ?_; clear hX1 hY1; try simp only [hb])) | ((refine hY1 ?_; clear hX1 hY1; try simp only [hb])) )))
        | ((simp only [thenP, blockP]; (try ((repeat (fail_if_success (with_reducible refine hK1 _ ?_)); clear hK1); (with_reducible refine hK1 _ ?_); clear hK1))))
        | (((first | ((with_reducible (first | refine opsP_consMt (d := ?_) (dj := ?_) (b := ?_) (r := ?_) ?_ ?_ (fun hb => ?_) (fun K3 hK3 => ?_) | refine opsP_consMf (d := ?_) (dj := ?_) (b := ?_) (r := ?_) ?_ ?_ (fun hb => ?_) (fun K3 hK3 => ?_))); rotate_left 3; (focus exact rfl); (focus (simp only [upd_app, simprocAttr]; exact rfl))) | ((with_reducible (first | refine opsP_consNt (d := ?_) (dj := ?_) (b := ?_) (r := ?_) (c := ?_) ?_ ?_ (fun hb => ?_) (fun K3 hK3 => ?_) | refine opsP_consNf (d := ?_) (dj := ?_) (b := ?_) (r := ?_) (c := ?_) ?_ ?_ (fun hb => ?_) (fun K3 hK3 => ?_))); rotate_left 4; (focus exact rfl); (focus (simp only [upd_app, simprocAttr]; exact rfl)))); (focus (simp only [opP, valP]; (try (simp only [Bool.and_eq_true, Bool.not_eq_true'] at hb)); (try (have hp := hb; simp only [PmH] at hp)); simp (disch := omega) only [St.eval, upd_app, avOf, avOf1, loadA, binP, intsP, intP, nilP, slA, Ua, Uk, Ul, V9, Va, Ve, PmL, simprocAttr, PmT, mrg_t, pick_or, hb]; (repeat' (first | (exact rfl) | ((refine And.intro ?_ ?_); (focus (exact rfl)); (exact rfl)) | (refine And.intro (by first | omega | (simp; done) | assumption) ?_) | ((with_reducible refine cC_pure ?_ (pRHas0 ?_) (fun _ => ?_)); (focus ((repeat' (first | fail)) <;> (simp only [purAs, purA, Vf, Bool.and_self, XV.v, XV.c]; done)))))); done)); (try simp only [St.put, Nat.reduceLT, ↓reduceIte, mrg_t, Bool.not_false])))
        | (((first | (((with_reducible refine opsP_cons fun K3 hK3 => ?_); simp only [wantP, opP, valP])) | ((with_reducible refine PW.condM fun X1 Y1 hX1 hY1 => ?_)) | (skip)); simp (disch := omega) only [St.eval, St.put, upd_app, iniT_app, avOf, avOf1, nom, cellsA, AV.okv, loadA, binP, intsP, intP, strP, nilP, bsz, U1, slA, U7, Ua, Ug, Uk, Ul, Us, Ut, V9, Va, Ve, PmL, simprocAttr, PmT, pick_and, retQ, resP, tupA, fg, condP, condB_t, condB_f]; try (with_reducible (first | exact co_refl _ | exact co_own _ _ _ | exact co_nilsB | exact co_nilsL _ _)))))
      all_goals exact co_bool (by unfold mayV; simp)
    · repeat' (first
        | ((with_reducible (first
         | (refine PW.seq fun K1 hK1 => ?_) | (refine PW.region fun K2 hK2 => ?_) | ((refine hK3 _ ?_; clear hK3)) | ((refine opsP_nil ?_; refine hK2 _ ?_; clear hK2)) 
         | (refine PW.block ?_) | (refine PW.skip ?_) | (refine PW.ret ?_) | ((refine hY1 ?_; clear hX1 hY1; try simp only [hb])) )))
        | (((first | (with_reducible refine wantB_intro (fun hb => ?_) (fun hb => ?_)) | (with_reducible refine condB_intro (fun hb => ?_) (fun hb => ?_))) <;> ((try (have hp := hb; simp only [PmH] at hp)); try simp only [hb, Bool.not_true])))
        | (((with_reducible refine cC_pure ?_ (pRHas0 ?_) (fun _ => ?_)); (focus ((repeat' (first | (refine .cons ?_ ?_) | (exact .nil) | (exact .d _) )) <;> (simp only [purAs, purA, Vf, Bool.and_self, XV.v, XV.c]; done)))))
        | ((simp only [thenP, blockP]; (try ((repeat (fail_if_success (with_reducible refine hK1 _ ?_)); clear hK1); (with_reducible refine hK1 _ ?_); clear hK1))))
        | (((first | (((with_reducible refine opsP_cons fun K3 hK3 => ?_); simp only [wantP, opP, valP, Ur, Us])) | ((with_reducible refine PW.condM fun X1 Y1 hX1 hY1 => ?_)) | (skip)); simp (disch := omega) only [wantB_tt, wantB_ff, wantB_ft, St.eval, St.put, upd_app, iniT_app, avOf, avOf1, nom, cellsA, AV.okv, loadA, lenP, binP, intsP, intP, nilP, unP, builtinP, isMapA, slA, U7, Ua, Ub, Ug, Uk, Ul, Ut, Uv, Uz, V4, V9, Va, Ve, PmL, simprocAttr, PmT, retQ, resP, tupA, fg, condP, condB_f]; try (with_reducible (first | exact co_refl _ | exact co_own _ _ _ | exact co_nilsB | exact co_nilsL _ _)))))
      all_goals exact co_bool (by unfold mayV; first | (simp_all; done) | (simp_all; intros; omega))
  · repeat' (first
      | ((with_reducible (first
       | (refine PW.seq fun K1 hK1 => ?_) | (refine PW.region fun K2 hK2 => ?_) | ((refine hK3 _ ?_; clear hK3)) | ((refine opsP_nil ?_; refine hK2 _ ?_; clear hK2)) 
       | (refine PW.skip ?_) | (refine PW.ret ?_) | ((refine hX1 ?_; clear hX1 hY1; try simp only [hb])) | ((refine hY1 ?_; clear hX1 hY1; try simp only [hb])) )))
      | ((simp only [thenP]; (try ((repeat (fail_if_success (with_reducible refine hK1 _ ?_)); clear hK1); (with_reducible refine hK1 _ ?_); clear hK1))))
      | (((first | ((with_reducible (first | refine opsP_consMt (d := ?_) (dj := ?_) (b := ?_) (r := ?_) ?_ ?_ (fun hb => ?_) (fun K3 hK3 => ?_) | refine opsP_consMf (d := ?_) (dj := ?_) (b := ?_) (r := ?_) ?_ ?_ (fun hb => ?_) (fun K3 hK3 => ?_))); rotate_left 3; (focus exact rfl); (focus (simp only [upd_app, simprocAttr]; exact rfl))) | ((with_reducible (first | refine opsP_consNt (d := ?_) (dj := ?_) (b := ?_) (r := ?_) (c := ?_) ?_ ?_ (fun hb => ?_) (fun K3 hK3 => ?_) | refine opsP_consNf (d := ?_) (dj := ?_) (b := ?_) (r := ?_) (c := ?_) ?_ ?_ (fun hb => ?_) (fun K3 hK3 => ?_))); rotate_left 4; (focus exact rfl); (focus (simp only [St.put, upd_app, iniT_app, simprocAttr, mrg_t, mrg_f]; exact rfl)))); (focus (simp only [opP, valP]; (try (simp only [Bool.not_eq_true'] at hb)); (try (have hp := hb; simp only [PmH] at hp)); simp (disch := omega) only [St.eval, upd_app, avOf, avOf1, loadA, binP, intsP, intP, strP, nilP, bsz, U1, slA, Ua, Ug, Uk, Ul, Us, V9, Va, Ve, PmL, simprocAttr, PmT, h3', mrg_t, hb]; (repeat' (first | (exact rfl) | ((refine And.intro ?_ ?_); (focus (exact rfl)); (exact rfl)) | (refine And.intro (by first | omega | (simp; done) | assumption) ?_) | ((with_reducible refine cC_pure ?_ (pRHas0 ?_) (fun _ => ?_)); (focus ((repeat' (first | fail)) <;> (simp only [purAs, purA, Vf, Bool.and_self, XV.v, XV.c, h1', h3']; done)))))); done)); (try simp only [St.put, Nat.reduceLT, ↓reduceIte, mrg_t, Bool.not_false])))
      | (((first | (((with_reducible refine opsP_cons fun K3 hK3 => ?_); simp only [wantP, opP, valP])) | ((with_reducible refine PW.condM fun X1 Y1 hX1 hY1 => ?_)) | (skip)); simp (disch := omega) only [St.eval, St.put, upd_app, iniT_app, avOf, avOf1, nom, cellsA, AV.okv, loadA, binP, intsP, intP, nilP, slA, U7, Ua, Ug, Uk, Ul, Ut, V9, Va, Ve, PmL, simprocAttr, PmT, h1', pick_and, retQ, resP, tupA, fg, condP, condB_t, condB_f]; try (with_reducible (first | exact co_refl _ | exact co_own _ _ _ | exact co_nilsB | exact co_nilsL _ _)))))
    all_goals exact co_bool (by unfold mayV; simp [e1, e3])
set_option maxHeartbeats 4000000 in
theorem pRUnlike (l : List Int) (N : Nat) : Pure Tryd.prog 63 [il l, .d (.int .i64 N)] (.d (.bool (unlike l N))) := by
  refine pure_intro Tryd.func63 rfl rfl rfl 43 rfl (fun hh => ?_)
  have hml : maxLen = 9223372036854775807 := rfl
  have hl := (has_sl (hh (il l) (by simp))).1
  rw [encL_len] at hl
  repeat' (first
    | ((with_reducible (first
     | (refine PW.seq fun K1 hK1 => ?_) | (refine PW.region fun K2 hK2 => ?_) | ((refine hK3 _ ?_; clear hK3)) | ((refine opsP_nil ?_; refine hK2 _ ?_; clear hK2)) | (refine PW.block ?_) 
     )))
    | ((simp only [thenP]; (try ((repeat (fail_if_success (with_reducible refine hK1 _ ?_)); clear hK1); (with_reducible refine hK1 _ ?_); clear hK1))))
    | (((first | (((with_reducible refine opsP_cons fun K3 hK3 => ?_); simp only [wantP, opP, valP])) | (skip)); simp (disch := omega) only [St.eval, St.put, avOf, avOf1, nom, PmL, simprocAttr]; try (with_reducible (first | exact co_refl _ | exact co_own _ _ _ | exact co_nilsB | exact co_nilsL _ _)))))
  (with_reducible refine PW.loop (fun n s => ∃ (k : Nat), s.t 0 = il l ∧ s.t 1 = .d (.int .i64 N) ∧ s.t 5 = .d (.int .i64 k) ∧ s.n = 43 ∧ s.m = nom ∧ k ≤ l.length ∧ (∀ (j : Nat) (x : Int), j < k → l[j]? = some x → ¬ x < 0 ∧ x < N ∧ x ∉ l.take j) ∧ n = l.length - k) l.length ?_ ?_)
  · exact ⟨0, rfl, rfl, rfl, rfl, rfl, Nat.zero_le _, fun j x hj => absurd hj (by omega), rfl⟩
  rintro n ⟨t, nn, m⟩ ⟨k, h0, h1, h5, hn, hm, hk, hall, hnk⟩ - -
  simp only at h0 h1 h5 hn hm
  subst hn hm hnk
  by_cases hlt : (k : Int) < l.length
  · have hlt' := eq_true hlt
    obtain ⟨x, hx⟩ : ∃ x, l[k]? = some x := ⟨_, List.getElem?_eq_getElem (by omega)⟩
    have hw : IntKind.i64.wrap ((k : Int) + 1) = k + 1 := IntWalk.i64_in ((k : Int) + 1) (by omega)
    by_cases hx0 : x < 0
    · have hx0' := eq_true hx0
      have hu := unlike_no (n := N) hx (.inl hx0)
      repeat' (first
        | ((with_reducible (first
         | (refine PW.seq fun K1 hK1 => ?_) | (refine PW.region fun K2 hK2 => ?_) | ((refine hK3 _ ?_; clear hK3)) | ((refine opsP_nil ?_; refine hK2 _ ?_; clear hK2)) | (refine PW.block ?_) | (refine PW.skip ?_)
         | (refine PW.ret ?_) | ((refine hX1 ?_; clear hX1 hY1; try simp only [hb])) )))
        | (((with_reducible refine And.intro ?_ ?_); (focus (first | omega | (simp; done) | assumption))))
        | ((simp only [thenP, blockP]; (try ((repeat (fail_if_success (with_reducible refine hK1 _ ?_)); clear hK1); (with_reducible refine hK1 _ ?_); clear hK1))))
        | (((first | (((with_reducible refine opsP_cons fun K3 hK3 => ?_); simp only [wantP, opP, valP, Ur, Us])) | ((with_reducible refine PW.condM fun X1 Y1 hX1 hY1 => ?_)) | (skip)); simp (disch := omega) only [wantB_tf, St.eval, St.put, upd_app, avOf, avOf1, nom, loadA, lenP, binP, intsP, intP, nilP, builtinP, isMapA, slA, Ua, Ub, Ur, Us, Uz, V2, V4, V7, PmL, simprocAttr, PmT, h0, h1, h5, hlt', hx, hx0', eI, hu, retQ, resP, tupA, fg, condP, condB_t]; try (with_reducible (first | exact co_refl _ | exact co_own _ _ _ | exact co_nilsB | exact co_nilsL _ _)))))
    have hx0' := eq_false hx0
    by_cases hx1 : (N : Int) ≤ x
    · have hx1' := eq_true hx1
      have hu := unlike_no (n := N) hx (.inr (.inl (by omega)))
      repeat' (first
        | ((with_reducible (first
         | (refine PW.seq fun K1 hK1 => ?_) | (refine PW.region fun K2 hK2 => ?_) | ((refine hK3 _ ?_; clear hK3)) | ((refine opsP_nil ?_; refine hK2 _ ?_; clear hK2)) | (refine PW.block ?_) | (refine PW.skip ?_)
         | (refine PW.ret ?_) | ((refine hX1 ?_; clear hX1 hY1; try simp only [hb])) )))
        | (((with_reducible refine And.intro ?_ ?_); (focus (first | omega | (simp; done) | assumption))))
        | ((simp only [thenP, blockP]; (try ((repeat (fail_if_success (with_reducible refine hK1 _ ?_)); clear hK1); (with_reducible refine hK1 _ ?_); clear hK1))))
        | (((first | (((with_reducible refine opsP_cons fun K3 hK3 => ?_); simp only [wantP, opP, valP, Ur, Us])) | ((with_reducible refine PW.condM fun X1 Y1 hX1 hY1 => ?_)) | (skip)); simp (disch := omega) only [wantB_ff, St.eval, St.put, upd_app, avOf, avOf1, nom, loadA, lenP, binP, intsP, intP, nilP, builtinP, isMapA, slA, Ua, Ub, Ur, Us, Uz, V2, V4, V7, PmL, simprocAttr, PmT, h0, h1, h5, hlt', hx, hx0', hx1', eI, hu, retQ, resP, tupA, fg, condP, condB_t]; try (with_reducible (first | exact co_refl _ | exact co_own _ _ _ | exact co_nilsB | exact co_nilsL _ _)))))
    have hx1' := eq_false hx1
    repeat' (first
      | ((with_reducible (first
       | (refine PW.seq fun K1 hK1 => ?_) | (refine PW.region fun K2 hK2 => ?_) | ((refine hK3 _ ?_; clear hK3)) | ((refine opsP_nil ?_; refine hK2 _ ?_; clear hK2)) | (refine PW.block ?_) | (refine PW.skip ?_)
       | ((refine hX1 ?_; clear hX1 hY1; try simp only [hb])) | ((refine hY1 ?_; clear hX1 hY1; try simp only [hb])) )))
      | (((with_reducible refine And.intro ?_ ?_); (focus (first | omega | (simp; done) | assumption))))
      | ((simp only [thenP]; (try ((repeat (fail_if_success (with_reducible refine hK1 _ ?_)); clear hK1); (with_reducible refine hK1 _ ?_); clear hK1))))
      | (((first | (((with_reducible refine opsP_cons fun K3 hK3 => ?_); simp only [wantP, opP, valP, Ur, Us])) | ((with_reducible refine PW.condM fun X1 Y1 hX1 hY1 => ?_)) | (skip)); simp (disch := omega) only [wantB_ff, St.eval, St.put, upd_app, avOf, avOf1, nom, loadA, lenP, binP, intsP, intP, nilP, builtinP, isMapA, slA, Ua, Ub, Ug, Ur, Us, Uz, V2, V4, V7, PmL, simprocAttr, PmT, h0, h1, h5, hlt', hx, hx0', hx1', eI, condP, condB_t, condB_f]; try (with_reducible (first | exact co_refl _ | exact co_own _ _ _ | exact co_nilsB | exact co_nilsL _ _)))))
    (with_reducible refine PW.loop (fun n s => ∃ (j : Nat), s.t 0 = il l ∧ s.t 1 = .d (.int .i64 N) ∧ s.t 5 = .d (.int .i64 k) ∧ s.t 6 = .d (.int .i64 j) ∧ s.n = 43 ∧ s.m = nom ∧ j ≤ k ∧ x ∉ l.take j ∧ n = k - j) k ?_ ?_)
    · exact ⟨0, by simp only [simprocAttr, upd_app, h0], by simp only [simprocAttr, upd_app, h1], by simp only [simprocAttr, upd_app, h5], by simp only [simprocAttr, upd_app], rfl, rfl, Nat.zero_le _, by simp, rfl⟩
    rintro n ⟨t, nn, m⟩ ⟨j, h0, h1, h5, h6, hn, hm, hj, hno, hnj⟩ - -
    simp only at h0 h1 h5 h6 hn hm
    subst hn hm hnj
    by_cases hjk : (j : Int) < k
    · have hjk' := eq_true hjk
      have hwj : IntKind.i64.wrap ((j : Int) + 1) = j + 1 := IntWalk.i64_in ((j : Int) + 1) (by omega)
      obtain ⟨y, hy⟩ : ∃ x, l[j]? = some x := ⟨_, List.getElem?_eq_getElem (by omega)⟩
      by_cases hyx : y = x
      · have hyx' := eq_true hyx
        have hmem : x ∈ l.take k := by
          subst hyx
          exact List.mem_of_getElem? (i := j) (by rw [List.getElem?_take, if_pos (by omega), hy])
        have hu := unlike_no (n := N) hx (.inr (.inr hmem))
        repeat' (first
          | ((with_reducible (first
           | (refine PW.seq fun K1 hK1 => ?_) | (refine PW.region fun K2 hK2 => ?_) | ((refine hK3 _ ?_; clear hK3)) | ((refine opsP_nil ?_; refine hK2 _ ?_; clear hK2)) | (refine PW.block ?_) | (refine PW.skip ?_)
           | (refine PW.ret ?_) | ((refine hX1 ?_; clear hX1 hY1; try simp only [hb])) | ((refine opsO_nil ?_; refine hK2 _ ?_; clear hK2)) )))
          | (((with_reducible refine PW.drawR (id := 9) mixed [] [(0, true), (1, true), (2, true), (3, true), (4, true), (5, true), (6, true), (7, true), (8, true)] (by kernel_rfl) (by decide) fun K2 hK2 => ?_)))
          | (((with_reducible refine And.intro ?_ ?_); (focus (first | omega | (simp; done) | assumption))))
          | ((simp only [thenP, blockP]; (try ((repeat (fail_if_success (with_reducible refine hK1 _ ?_)); clear hK1); (with_reducible refine hK1 _ ?_); clear hK1))))
          | (((first | (((with_reducible refine opsP_cons fun K3 hK3 => ?_); simp only [wantP, opP, valP])) | (((with_reducible refine opsO_first (o := ?_) ?_ fun K3 hK3 => ?_); rotate_left 1; (focus (simp only [Uz, Ub, Ua] <;> rfl)); simp only [wantP, firstP, valP])) | ((with_reducible refine PW.condM fun X1 Y1 hX1 hY1 => ?_)) | (skip)); simp (disch := omega) only [St.eval, St.put, upd_app, avOf, avOf1, nom, loadA, binP, intsP, intP, nilP, slA, Ur, Us, V2, V7, PmL, simprocAttr, PmT, h0, h5, h6, hjk', hx, hy, hyx', eI, hu, retQ, resP, tupA, fg, condP, condB_t, firstOk]; try (with_reducible (first | exact co_refl _ | exact co_own _ _ _ | exact co_nilsB | exact co_nilsL _ _)))))
      have hyx' := eq_false hyx
      repeat' (first
        | ((with_reducible (first
         | (refine PW.seq fun K1 hK1 => ?_) | (refine PW.region fun K2 hK2 => ?_) | ((refine hK3 _ ?_; clear hK3)) | ((refine opsP_nil ?_; refine hK2 _ ?_; clear hK2)) | (refine PW.block ?_) | (refine PW.skip ?_)
         | ((refine hX1 ?_; clear hX1 hY1; try simp only [hb])) | ((refine hY1 ?_; clear hX1 hY1; try simp only [hb])) | ((refine opsO_nil ?_; refine hK2 _ ?_; clear hK2)) )))
        | (((with_reducible refine PW.drawR (id := 9) mixed [] [(0, true), (1, true), (2, true), (3, true), (4, true), (5, true), (6, true), (7, true), (8, true)] (by kernel_rfl) (by decide) fun K2 hK2 => ?_)))
        | (((with_reducible refine And.intro ?_ ?_); (focus (first | omega | (simp; done) | assumption))))
        | ((simp only [thenP, blockP]; (try ((repeat (fail_if_success (with_reducible refine hK1 _ ?_)); clear hK1); (with_reducible refine hK1 _ ?_); clear hK1))))
        | (((first | (((with_reducible refine opsP_cons fun K3 hK3 => ?_); simp only [wantP, opP, valP])) | (((with_reducible refine opsO_first (o := ?_) ?_ fun K3 hK3 => ?_); rotate_left 1; (focus (simp only [Uz, Ub, Ua] <;> rfl)); simp only [wantP, firstP, valP])) | ((with_reducible refine PW.condM fun X1 Y1 hX1 hY1 => ?_)) | (skip)); simp (disch := omega) only [St.eval, St.put, upd_app, avOf, avOf1, nom, loadA, binP, intsP, intP, nilP, slA, Ug, Ur, Us, V2, V7, PmL, simprocAttr, PmT, h0, h5, h6, hjk', hx, hy, hwj, hyx', eI, condP, condB_t, condB_f, firstOk]; try (with_reducible (first | exact co_refl _ | exact co_own _ _ _ | exact co_nilsB | exact co_nilsL _ _)))))
      refine ⟨k - (j + 1), by omega, j + 1, ?_, ?_, ?_, ?_, ?_, ?_, by omega, ?_, rfl⟩
      case refine_7 =>
        rw [List.take_add_one, hy, Option.toList_some, List.mem_append, List.mem_singleton, not_or]
        exact ⟨hno, fun e => hyx e.symm⟩
      all_goals (simp only [St.cut, Mem.cut, fg, upd_app, Nat.reduceEqDiff, ↓reduceIte, List.take_nil, List.map_nil, Int.natCast_add, Int.cast_ofNat_Int, h0, h1, h5]; try rfl)
    have hjk' := eq_false hjk
    have hjeq : j = k := by omega
    subst hjeq
    have hall' : ∀ (i : Nat) (y : Int), i < j + 1 → l[i]? = some y → ¬ y < 0 ∧ y < N ∧ y ∉ l.take i := fun i y hi hy => by
      by_cases e : i = j
      · subst e
        rw [hx] at hy
        cases hy
        exact ⟨hx0, by omega, hno⟩
      · exact hall i y (by omega) hy
    repeat' (first
      | ((with_reducible (first
       | (refine PW.seq fun K1 hK1 => ?_) | (refine PW.region fun K2 hK2 => ?_) | ((refine hK3 _ ?_; clear hK3)) | ((refine opsP_nil ?_; refine hK2 _ ?_; clear hK2)) 
       | (refine PW.exit ?_) | ((refine hY1 ?_; clear hX1 hY1; try simp only [hb])) )))
      | ((simp only [thenP, blockP, ↓reduceIte]; (try ((repeat (fail_if_success (with_reducible refine hK1 _ ?_)); clear hK1); (with_reducible refine hK1 _ ?_); clear hK1))))
      | (((first | (((with_reducible refine opsP_cons fun K3 hK3 => ?_); simp only [wantP, opP, valP])) | ((with_reducible refine PW.condM fun X1 Y1 hX1 hY1 => ?_)) | (skip)); simp (disch := omega) only [St.eval, St.put, upd_app, avOf, avOf1, nom, binP, intsP, intP, nilP, slA, Ug, PmL, simprocAttr, h5, h6, hjk', hw, condP, condB_f]; try (with_reducible (first | exact co_refl _ | exact co_own _ _ _ | exact co_nilsB | exact co_nilsL _ _)))))
    refine ⟨l.length - (j + 1), by omega, j + 1, ?_, ?_, ?_, ?_, ?_, by omega, hall', rfl⟩
    all_goals (simp only [St.cut, Mem.cut, fg, upd_app, Nat.reduceEqDiff, ↓reduceIte, List.take_nil, List.map_nil, Int.natCast_add, Int.cast_ofNat_Int, h0, h1]; try rfl)
  have hkl : k = l.length := by omega
  subst hkl
  have hu := unlike_ok (n := N) (l := l) fun j x hj => hall j x (List.getElem?_eq_some_iff.1 hj).1 hj
  have hlt' := eq_false hlt
  repeat' (first
    | ((with_reducible (first
     | (refine PW.seq fun K1 hK1 => ?_) | (refine PW.region fun K2 hK2 => ?_) | ((refine hK3 _ ?_; clear hK3)) | ((refine opsP_nil ?_; refine hK2 _ ?_; clear hK2)) 
     | (refine PW.exit ?_) | (refine PW.ret ?_) | ((refine hY1 ?_; clear hX1 hY1; try simp only [hb])) )))
    | ((simp only [thenP, blockP, ↓reduceIte]; (try ((repeat (fail_if_success (with_reducible refine hK1 _ ?_)); clear hK1); (with_reducible refine hK1 _ ?_); clear hK1))))
    | (((first | (((with_reducible refine opsP_cons fun K3 hK3 => ?_); simp only [wantP, opP, valP, Ur, Us])) | ((with_reducible refine PW.condM fun X1 Y1 hX1 hY1 => ?_)) | (skip)); simp (disch := omega) only [St.eval, St.put, upd_app, avOf, avOf1, nom, lenP, binP, intsP, intP, nilP, builtinP, isMapA, slA, Ve, PmL, simprocAttr, PmT, h0, h5, hlt', hu, retQ, resP, tupA, fg, condP, condB_f]; try (with_reducible (first | exact co_refl _ | exact co_own _ _ _ | exact co_nilsB | exact co_nilsL _ _)))))
set_option maxHeartbeats 4000000 in
theorem pRIsKey (T : Tb) (i : Int) : Pure Tryd.prog 36 [T.v, .d (.int .i64 i)] (.d (.bool (T.key.contains i))) := by
  refine pure_intro Tryd.func36 rfl rfl rfl 20 rfl (fun hh => ?_)
  have hml : maxLen = 9223372036854775807 := rfl
  have hT := hh T.v (by simp)
  obtain ⟨tid, tnm, tcols, tkey, tix⟩ := T
  have hl : tkey.length ≤ maxLen := by
    have := (has_sl (has_agg hT (.d (.sl 1 (encL eI tkey))) (by simp [Tb.c]))).1
    rwa [encL_len] at this
  repeat' (first
    | ((with_reducible (first
     | (refine PW.seq fun K1 hK1 => ?_) | (refine PW.region fun K2 hK2 => ?_) | ((refine hK3 _ ?_; clear hK3)) | ((refine opsP_nil ?_; refine hK2 _ ?_; clear hK2)) 
     | (refine PW.block ?_) )))
    | ((simp only [thenP]; (try ((repeat (fail_if_success (with_reducible refine hK1 _ ?_)); clear hK1); (with_reducible refine hK1 _ ?_); clear hK1))))
    | (((first | (((with_reducible refine opsP_cons fun K3 hK3 => ?_); simp only [wantP, opP, valP])) | (skip)); simp (disch := omega) only [St.eval, St.put, iniT_app, avOf, avOf1, nom, cellsA, AV.okv, U7, Ug, Ut, PmL, simprocAttr, Tb.v, Tb.c]; try (with_reducible (first | exact co_refl _ | exact co_own _ _ _ | exact co_nilsB | exact co_nilsL _ _)))))
  (with_reducible refine PW.loop (fun n s => ∃ (k : Nat), s.t 1 = .d (.int .i64 i) ∧ s.t 2 = .ptr 0 0 ∧ s.t 5 = .d (.int .i64 k) ∧ s.n = 20 ∧ s.m = ⟨[some (26, Tb.c ⟨tid, tnm, tcols, tkey, tix⟩)], []⟩ ∧ k ≤ tkey.length ∧ i ∉ tkey.take k ∧ n = tkey.length - k) tkey.length ?_ ?_)
  · exact ⟨0, rfl, rfl, rfl, rfl, rfl, Nat.zero_le _, by simp, rfl⟩
  rintro n ⟨t, nn, m⟩ ⟨k, h1, h2, h5, hn, hm, hk, hno, hnk⟩ - -
  simp only at h1 h2 h5 hn hm
  subst hn hm hnk
  by_cases hlt : (k : Int) < tkey.length
  · have hlt' := eq_true hlt
    obtain ⟨x, hx⟩ : ∃ x, tkey[k]? = some x := ⟨_, List.getElem?_eq_getElem (by omega)⟩
    have hw : IntKind.i64.wrap ((k : Int) + 1) = k + 1 := IntWalk.i64_in ((k : Int) + 1) (by omega)
    by_cases hxi : x = i
    · have hxi' := eq_true hxi
      have hc : tkey.contains i = true := by rw [List.contains_iff_mem]; exact hxi ▸ List.mem_of_getElem? hx
      repeat' (first
        | ((with_reducible (first
         | (refine PW.seq fun K1 hK1 => ?_) | (refine PW.region fun K2 hK2 => ?_) | ((refine hK3 _ ?_; clear hK3)) | ((refine opsP_nil ?_; refine hK2 _ ?_; clear hK2)) 
         | (refine PW.block ?_) | (refine PW.skip ?_) | (refine PW.ret ?_) | ((refine hX1 ?_; clear hX1 hY1; try simp only [hb])) )))
        | (((with_reducible refine And.intro ?_ ?_); (focus (first | omega | (simp; done) | assumption))))
        | ((simp only [thenP, blockP]; (try ((repeat (fail_if_success (with_reducible refine hK1 _ ?_)); clear hK1); (with_reducible refine hK1 _ ?_); clear hK1))))
        | (((first | (((with_reducible refine opsP_cons fun K3 hK3 => ?_); simp only [wantP, opP, valP, Ur, Us])) | ((with_reducible refine PW.condM fun X1 Y1 hX1 hY1 => ?_)) | (skip)); simp (disch := omega) only [St.eval, St.put, upd_app, avOf, avOf1, loadA, lenP, binP, intsP, intP, nilP, builtinP, isMapA, slA, Ua, Uk, Ul, Ur, Us, V2, V7, V9, Ve, PmL, simprocAttr, PmT, Tb.c, h1, h2, h5, hlt', hx, hxi', eI, hc, retQ, resP, tupA, fg, condP, condB_t]; try (with_reducible (first | exact co_refl _ | exact co_own _ _ _ | exact co_nilsB | exact co_nilsL _ _)))))
    have hxi' := eq_false hxi
    repeat' (first
      | ((with_reducible (first
       | (refine PW.seq fun K1 hK1 => ?_) | (refine PW.region fun K2 hK2 => ?_) | ((refine hK3 _ ?_; clear hK3)) | ((refine opsP_nil ?_; refine hK2 _ ?_; clear hK2)) 
       | (refine PW.block ?_) | (refine PW.skip ?_) | ((refine hX1 ?_; clear hX1 hY1; try simp only [hb])) | ((refine hY1 ?_; clear hX1 hY1; try simp only [hb])) )))
      | (((with_reducible refine And.intro ?_ ?_); (focus (first | omega | (simp; done) | assumption))))
      | ((simp only [thenP, blockP]; (try ((repeat (fail_if_success (with_reducible refine hK1 _ ?_)); clear hK1); (with_reducible refine hK1 _ ?_); clear hK1))))
      | (((first | (((with_reducible refine opsP_cons fun K3 hK3 => ?_); simp only [wantP, opP, valP, Ur, Us])) | ((with_reducible refine PW.condM fun X1 Y1 hX1 hY1 => ?_)) | (skip)); simp (disch := omega) only [St.eval, St.put, upd_app, avOf, avOf1, loadA, lenP, binP, intsP, intP, nilP, builtinP, isMapA, slA, Ua, Uf, Ug, Uk, Ul, Ur, Us, V2, V7, V9, Ve, PmL, simprocAttr, PmT, Tb.c, h1, h2, h5, hlt', hx, hw, hxi', eI, condP, condB_t, condB_f]; try (with_reducible (first | exact co_refl _ | exact co_own _ _ _ | exact co_nilsB | exact co_nilsL _ _)))))
    refine ⟨tkey.length - (k + 1), by omega, k + 1, ?_, ?_, ?_, ?_, ?_, by omega, ?_, rfl⟩
    case refine_6 =>
      rw [List.take_add_one, hx, Option.toList_some, List.mem_append, List.mem_singleton, not_or]
      exact ⟨hno, fun e => hxi e.symm⟩
    all_goals (simp only [St.cut, Mem.cut, fg, fgs, upd_app, Nat.reduceEqDiff, ↓reduceIte, List.take_nil, List.map_nil, List.take_succ_cons, List.map_cons, Option.map_some, Nat.zero_lt_one, Int.natCast_add, Int.cast_ofNat_Int, h1, h2]; try rfl)
  have hkl : k = tkey.length := by omega
  subst hkl
  have hlt' := eq_false hlt
  have hc : tkey.contains i = false := by
    rw [List.take_length] at hno
    simpa using hno
  repeat' (first
    | ((with_reducible (first
     | (refine PW.seq fun K1 hK1 => ?_) | (refine PW.region fun K2 hK2 => ?_) | ((refine hK3 _ ?_; clear hK3)) | ((refine opsP_nil ?_; refine hK2 _ ?_; clear hK2)) 
     | (refine PW.exit ?_) | (refine PW.ret ?_) | ((refine hY1 ?_; clear hX1 hY1; try simp only [hb])) )))
    | ((simp only [thenP, blockP, ↓reduceIte]; (try ((repeat (fail_if_success (with_reducible refine hK1 _ ?_)); clear hK1); (with_reducible refine hK1 _ ?_); clear hK1))))
    | (((first | (((with_reducible refine opsP_cons fun K3 hK3 => ?_); simp only [wantP, opP, valP, Ur, Us])) | ((with_reducible refine PW.condM fun X1 Y1 hX1 hY1 => ?_)) | (skip)); simp (disch := omega) only [St.eval, St.put, upd_app, avOf, avOf1, loadA, lenP, binP, intsP, intP, nilP, builtinP, isMapA, slA, Ua, Uk, Ul, V9, Ve, PmL, simprocAttr, PmT, Tb.c, h2, h5, hlt', hc, retQ, resP, tupA, fg, condP, condB_f]; try (with_reducible (first | exact co_refl _ | exact co_own _ _ _ | exact co_nilsB | exact co_nilsL _ _)))))
/-- may a table be handed in, with columns (the document's word) -/
def tabMay (T : Tb) (l : List Int) : Bool := colsOk T.cols && (unlike T.key T.cols.length && (decide (l.length = 0) || unlike l T.cols.length))
set_option maxHeartbeats 4000000 in
theorem pRTabled (T : Tb) (l : List Int) : Pure Tryd.prog 32 [T.v, il l] (.d (.bool (tabMay T l))) := by
  refine pure_intro Tryd.func32 rfl rfl rfl 51 rfl (fun hh => ?_)
  have hml : maxLen = 9223372036854775807 := rfl
  have hT := hh T.v (by simp)
  obtain ⟨tid, tnm, tcols, tkey, tix⟩ := T
  have hl : tcols.length ≤ maxLen := by
    have := (has_sl (has_agg hT (.d (.sl 7 (encL Col.c tcols))) (by simp [Tb.c]))).1
    rwa [encL_len] at this
  have hU1 := pRUnlike tkey tcols.length
  have hU2 := pRUnlike l tcols.length
  repeat' (first
    | ((with_reducible (first
     | (refine PW.seq fun K1 hK1 => ?_) | (refine PW.region fun K2 hK2 => ?_) | ((refine hK3 _ ?_; clear hK3)) | ((refine opsP_nil ?_; refine hK2 _ ?_; clear hK2)) 
     | (refine PW.block ?_) )))
    | ((simp only [thenP]; (try ((repeat (fail_if_success (with_reducible refine hK1 _ ?_)); clear hK1); (with_reducible refine hK1 _ ?_); clear hK1))))
    | (((first | (((with_reducible refine opsP_cons fun K3 hK3 => ?_); simp only [wantP, opP, valP])) | (skip)); simp (disch := omega) only [St.eval, St.put, iniT_app, avOf, avOf1, nom, cellsA, AV.okv, U7, Ug, Ut, PmL, simprocAttr, Tb.v, Tb.c]; try (with_reducible (first | exact co_refl _ | exact co_own _ _ _ | exact co_nilsB | exact co_nilsL _ _)))))
  (with_reducible refine PW.loop (fun n s => ∃ (k : Nat), s.t 1 = il l ∧ s.t 2 = .ptr 0 0 ∧ s.t 5 = .d (.int .i64 k) ∧ s.n = 51 ∧ s.m = ⟨[some (26, Tb.c ⟨tid, tnm, tcols, tkey, tix⟩)], []⟩ ∧ k ≤ tcols.length ∧ (∀ (j : Nat) (x : Col), j < k → tcols[j]? = some x → 1 ≤ x.ty ∧ x.ty ≤ 3) ∧ n = tcols.length - k) tcols.length ?_ ?_)
  · exact ⟨0, rfl, rfl, rfl, rfl, rfl, Nat.zero_le _, fun j x hj => absurd hj (by omega), rfl⟩
  rintro n ⟨t, nn, m⟩ ⟨k, h1, h2, h5, hn, hm, hk, hall, hnk⟩ - -
  simp only at h1 h2 h5 hn hm
  subst hn hm hnk
  by_cases hlt : (k : Int) < tcols.length
  · have hlt' := eq_true hlt
    obtain ⟨x, hx⟩ : ∃ x, tcols[k]? = some x := ⟨_, List.getElem?_eq_getElem (by omega)⟩
    have hw : IntKind.i64.wrap ((k : Int) + 1) = k + 1 := IntWalk.i64_in ((k : Int) + 1) (by omega)
    by_cases hx0 : x.ty < 1
    · have hx0' := eq_true hx0
      have hu : tabMay ⟨tid, tnm, tcols, tkey, tix⟩ l = false := by unfold tabMay; rw [colsOk_no hx (.inl hx0)]; rfl
      repeat' (first
        | ((with_reducible (first
         | (refine PW.seq fun K1 hK1 => ?_) | (refine PW.region fun K2 hK2 => ?_) | ((refine hK3 _ ?_; clear hK3)) | ((refine opsP_nil ?_; refine hK2 _ ?_; clear hK2)) 
         | (refine PW.block ?_) | (refine PW.skip ?_) | (refine PW.ret ?_) | ((refine hX1 ?_; clear hX1 hY1; try simp only [hb])) )))
        | (((with_reducible refine And.intro ?_ ?_); (focus (first | omega | (simp; done) | assumption))))
        | ((simp only [thenP, blockP]; (try ((repeat (fail_if_success (with_reducible refine hK1 _ ?_)); clear hK1); (with_reducible refine hK1 _ ?_); clear hK1))))
        | (((first | (((with_reducible refine opsP_cons fun K3 hK3 => ?_); simp only [wantP, opP, valP, Ur, Us])) | ((with_reducible refine PW.condM fun X1 Y1 hX1 hY1 => ?_)) | (skip)); simp (disch := omega) only [wantB_tf, St.eval, St.put, upd_app, avOf, avOf1, loadA, lenP, binP, intsP, intP, nilP, builtinP, isMapA, slA, Ua, Ub, Uk, Ul, Ur, Us, Uz, V2, V4, V7, V9, Ve, PmL, simprocAttr, PmT, Tb.c, h2, h5, hlt', hx, hx0', Col.c, hu, retQ, resP, tupA, fg, condP, condB_t]; try (with_reducible (first | exact co_refl _ | exact co_own _ _ _ | exact co_nilsB | exact co_nilsL _ _)))))
    have hx0' := eq_false hx0
    by_cases hx1 : 3 < x.ty
    · have hx1' := eq_true hx1
      have hu : tabMay ⟨tid, tnm, tcols, tkey, tix⟩ l = false := by unfold tabMay; rw [colsOk_no hx (.inr hx1)]; rfl
      repeat' (first
        | ((with_reducible (first
         | (refine PW.seq fun K1 hK1 => ?_) | (refine PW.region fun K2 hK2 => ?_) | ((refine hK3 _ ?_; clear hK3)) | ((refine opsP_nil ?_; refine hK2 _ ?_; clear hK2)) 
         | (refine PW.block ?_) | (refine PW.skip ?_) | (refine PW.ret ?_) | ((refine hX1 ?_; clear hX1 hY1; try simp only [hb])) )))
        | (((with_reducible refine And.intro ?_ ?_); (focus (first | omega | (simp; done) | assumption))))
        | ((simp only [thenP, blockP]; (try ((repeat (fail_if_success (with_reducible refine hK1 _ ?_)); clear hK1); (with_reducible refine hK1 _ ?_); clear hK1))))
        | (((first | (((with_reducible refine opsP_cons fun K3 hK3 => ?_); simp only [wantP, opP, valP, Ur, Us])) | ((with_reducible refine PW.condM fun X1 Y1 hX1 hY1 => ?_)) | (skip)); simp (disch := omega) only [wantB_ff, St.eval, St.put, upd_app, avOf, avOf1, loadA, lenP, binP, intsP, intP, nilP, builtinP, isMapA, slA, Ua, Ub, Uk, Ul, Ur, Us, Uz, V2, V4, V7, V9, Ve, PmL, simprocAttr, PmT, Tb.c, h2, h5, hlt', hx, hx0', hx1', Col.c, hu, retQ, resP, tupA, fg, condP, condB_t]; try (with_reducible (first | exact co_refl _ | exact co_own _ _ _ | exact co_nilsB | exact co_nilsL _ _)))))
    have hx1' := eq_false hx1
    repeat' (first
      | ((with_reducible (first
       | (refine PW.seq fun K1 hK1 => ?_) | (refine PW.region fun K2 hK2 => ?_) | ((refine hK3 _ ?_; clear hK3)) | ((refine opsP_nil ?_; refine hK2 _ ?_; clear hK2)) 
       | (refine PW.block ?_) | (refine PW.skip ?_) | ((refine hX1 ?_; clear hX1 hY1; try simp only [hb])) | ((refine hY1 ?_; clear hX1 hY1; try simp only [hb])) )))
      | (((with_reducible refine And.intro ?_ ?_); (focus (first | omega | (simp; done) | assumption))))
      | ((simp only [thenP, blockP]; (try ((repeat (fail_if_success (with_reducible refine hK1 _ ?_)); clear hK1); (with_reducible refine hK1 _ ?_); clear hK1))))
      | (((first | (((with_reducible refine opsP_cons fun K3 hK3 => ?_); simp only [wantP, opP, valP, Ur, Us])) | ((with_reducible refine PW.condM fun X1 Y1 hX1 hY1 => ?_)) | (skip)); simp (disch := omega) only [wantB_ff, St.eval, St.put, upd_app, avOf, avOf1, loadA, lenP, binP, intsP, intP, nilP, builtinP, isMapA, slA, Ua, Ub, Uf, Ug, Uk, Ul, Ur, Us, Uz, V2, V4, V7, V9, Ve, PmL, simprocAttr, PmT, Tb.c, h2, h5, hlt', hx, hw, hx0', hx1', Col.c, condP, condB_t, condB_f]; try (with_reducible (first | exact co_refl _ | exact co_own _ _ _ | exact co_nilsB | exact co_nilsL _ _)))))
    have hall' : ∀ (j : Nat) (y : Col), j < k + 1 → tcols[j]? = some y → 1 ≤ y.ty ∧ y.ty ≤ 3 := fun j y hj hy => by
      by_cases e : j = k
      · subst e
        rw [hx] at hy
        cases hy
        omega
      · exact hall j y (by omega) hy
    refine ⟨tcols.length - (k + 1), by omega, k + 1, ?_, ?_, ?_, ?_, ?_, by omega, hall', rfl⟩
    all_goals (simp only [St.cut, Mem.cut, fg, fgs, upd_app, Nat.reduceEqDiff, ↓reduceIte, List.take_nil, List.map_nil, List.take_succ_cons, List.map_cons, Option.map_some, Nat.zero_lt_one, Int.natCast_add, Int.cast_ofNat_Int, h1, h2]; try rfl)
  have hkl : k = tcols.length := by omega
  subst hkl
  have hu : tabMay ⟨tid, tnm, tcols, tkey, tix⟩ l = (unlike tkey tcols.length && (decide (l.length = 0) || unlike l tcols.length)) := by
    unfold tabMay
    rw [colsOk_ok fun j x hj => hall j x (List.getElem?_eq_some_iff.1 hj).1 hj]
    rfl
  have hlt' := eq_false hlt
  obtain ⟨b1, hb1⟩ : ∃ b, unlike tkey tcols.length = b := ⟨_, rfl⟩
  obtain ⟨b2, hb2⟩ : ∃ b, unlike l tcols.length = b := ⟨_, rfl⟩
  rw [hb1] at hU1 hu
  rw [hb2] at hU2 hu
  by_cases hl0 : (l.length : Int) = 0
  · have hl0' := eq_true hl0
    rw [decide_eq_true (by omega : l.length = 0)] at hu
    repeat' (first
      | ((with_reducible (first
       | (refine PW.seq fun K1 hK1 => ?_) | (refine PW.region fun K2 hK2 => ?_) | ((refine hK3 _ ?_; clear hK3)) | ((refine opsP_nil ?_; refine hK2 _ ?_; clear hK2)) 
       | (refine PW.exit ?_) | (refine PW.ret ?_) | ((refine hY1 ?_; clear hX1 hY1; try simp only [hb])) )))
      | (((with_reducible refine cC_pure ?_ (hU1) (fun _ => ?_)); (focus ((repeat' constructor) <;> (simp only [purAs, purA, Vf, Bool.and_self, Tb.c, h1, h2, h5, hlt', hl0']; done)))))
      | ((simp only [thenP, blockP, ↓reduceIte]; (try ((repeat (fail_if_success (with_reducible refine hK1 _ ?_)); clear hK1); (with_reducible refine hK1 _ ?_); clear hK1))))
      | (((first | ((with_reducible (first | refine opsP_consMt (d := ?_) (dj := ?_) (b := ?_) (r := ?_) ?_ ?_ (fun hb => ?_) (fun K3 hK3 => ?_) | refine opsP_consMf (d := ?_) (dj := ?_) (b := ?_) (r := ?_) ?_ ?_ (fun hb => ?_) (fun K3 hK3 => ?_))); rotate_left 3; (focus exact rfl); (focus (simp only [upd_app, simprocAttr]; exact rfl))) | ((with_reducible (first | refine opsP_consNt (d := ?_) (dj := ?_) (b := ?_) (r := ?_) (c := ?_) ?_ ?_ (fun hb => ?_) (fun K3 hK3 => ?_) | refine opsP_consNf (d := ?_) (dj := ?_) (b := ?_) (r := ?_) (c := ?_) ?_ ?_ (fun hb => ?_) (fun K3 hK3 => ?_))); rotate_left 4; (focus exact rfl); (focus (simp only [St.put, upd_app, iniT_app, simprocAttr, mrg_t, mrg_f]; exact rfl)))); (focus (simp only [opP, valP, Ur, Us]; (try (simp only [Bool.not_eq_true'] at hb)); (try (have hp := hb; simp only [PmH, beq_iff_eq, beq_eq_false_iff_ne, ne_eq] at hp)); simp (disch := omega) only [St.eval, upd_app, builtinP, maplenP, isMapA, Uv, V9, Ve, PmL, simprocAttr, PmT, h1, h2, hb]; (repeat' (first | (exact rfl) | ((refine And.intro ?_ ?_); (focus (exact rfl)); (exact rfl)) | (refine And.intro (by first | omega | (simp; done) | assumption) ?_) | ((with_reducible refine cC_pure ?_ (hU1) (fun _ => ?_)); (focus ((repeat' constructor) <;> (simp only [purAs, purA, Vf, Bool.and_self, Tb.c, h1, h2, h5, hlt', hl0']; done)))) | ((with_reducible refine cC_pure ?_ (hU2) (fun _ => ?_)); (focus ((repeat' constructor) <;> (simp only [purAs, purA, Vf, Bool.and_self, Tb.c, h1, h2, h5, hlt', hl0']; done)))))); done)); (try simp only [St.put, Nat.reduceLT, ↓reduceIte, mrg_f, Bool.not_true])))
      | (((first | (((with_reducible refine opsP_cons fun K3 hK3 => ?_); simp only [wantP, opP, valP, Ur, Us])) | ((with_reducible refine PW.condM fun X1 Y1 hX1 hY1 => ?_)) | (skip)); simp (disch := omega) only [wantB_tf, St.eval, St.put, upd_app, avOf, avOf1, loadA, lenP, binP, intsP, intP, nilP, builtinP, isMapA, slA, Ua, Ub, Uk, Ul, Uv, Uz, V4, V9, Ve, PmL, simprocAttr, PmT, Tb.c, h1, h2, h5, hlt', hl0', pick_and, retQ, resP, tupA, fg, condP, condB_f]; try (with_reducible (first | exact co_refl _ | exact co_own _ _ _ | exact co_nilsB | exact co_nilsL _ _)))))
    all_goals exact co_bool (by rw [hu]; simp_all)
  · have hl0' := eq_false hl0
    rw [decide_eq_false (by omega : ¬ l.length = 0)] at hu
    repeat' (first
      | ((with_reducible (first
       | (refine PW.seq fun K1 hK1 => ?_) | (refine PW.region fun K2 hK2 => ?_) | ((refine hK3 _ ?_; clear hK3)) | ((refine opsP_nil ?_; refine hK2 _ ?_; clear hK2)) 
       | (refine PW.exit ?_) | (refine PW.ret ?_) | ((refine hY1 ?_; clear hX1 hY1; try simp only [hb])) )))
      | (((with_reducible refine cC_pure ?_ (hU1) (fun _ => ?_)); (focus ((repeat' constructor) <;> (simp only [purAs, purA, Vf, Bool.and_self, Tb.c, h1, h2, h5, hlt', hl0']; done)))))
      | ((simp only [thenP, blockP, ↓reduceIte]; (try ((repeat (fail_if_success (with_reducible refine hK1 _ ?_)); clear hK1); (with_reducible refine hK1 _ ?_); clear hK1))))
      | (((first | ((with_reducible (first | refine opsP_consMt (d := ?_) (dj := ?_) (b := ?_) (r := ?_) ?_ ?_ (fun hb => ?_) (fun K3 hK3 => ?_) | refine opsP_consMf (d := ?_) (dj := ?_) (b := ?_) (r := ?_) ?_ ?_ (fun hb => ?_) (fun K3 hK3 => ?_))); rotate_left 3; (focus exact rfl); (focus (simp only [upd_app, simprocAttr]; exact rfl))) | ((with_reducible (first | refine opsP_consNt (d := ?_) (dj := ?_) (b := ?_) (r := ?_) (c := ?_) ?_ ?_ (fun hb => ?_) (fun K3 hK3 => ?_) | refine opsP_consNf (d := ?_) (dj := ?_) (b := ?_) (r := ?_) (c := ?_) ?_ ?_ (fun hb => ?_) (fun K3 hK3 => ?_))); rotate_left 4; (focus exact rfl); (focus (simp only [St.put, upd_app, iniT_app, simprocAttr, mrg_t, mrg_f]; exact rfl)))); (focus (simp only [opP, valP, Ur, Us]; (try (simp only [Bool.not_eq_true'] at hb)); (try (have hp := hb; simp only [PmH, beq_iff_eq, beq_eq_false_iff_ne, ne_eq] at hp)); simp (disch := omega) only [St.eval, upd_app, loadA, lenP, builtinP, isMapA, Ua, Uk, Ul, Uv, V9, Ve, PmL, simprocAttr, PmT, h1, h2, hb]; (repeat' (first | (exact rfl) | ((refine And.intro ?_ ?_); (focus (exact rfl)); (exact rfl)) | (refine And.intro (by first | omega | (simp; done) | assumption) ?_) | ((with_reducible refine cC_pure ?_ (hU1) (fun _ => ?_)); (focus ((repeat' constructor) <;> (simp only [purAs, purA, Vf, Bool.and_self, Tb.c, h1, h2, h5, hlt', hl0']; done)))) | ((with_reducible refine cC_pure ?_ (hU2) (fun _ => ?_)); (focus ((repeat' constructor) <;> (simp only [purAs, purA, Vf, Bool.and_self, Tb.c, h1, h2, h5, hlt', hl0']; done)))))); done)); (try simp only [St.put, Nat.reduceLT, ↓reduceIte, mrg_t, Bool.not_false])))
      | (((first | (((with_reducible refine opsP_cons fun K3 hK3 => ?_); simp only [wantP, opP, valP, Ur, Us])) | ((with_reducible refine PW.condM fun X1 Y1 hX1 hY1 => ?_)) | (skip)); simp (disch := omega) only [St.eval, St.put, upd_app, avOf, avOf1, loadA, lenP, binP, intsP, intP, nilP, builtinP, isMapA, slA, Ua, Uk, Ul, Uv, V9, Ve, PmL, simprocAttr, PmT, Tb.c, h1, h2, h5, hlt', hl0', pick_and, retQ, resP, tupA, fg, condP, condB_f]; try (with_reducible (first | exact co_refl _ | exact co_own _ _ _ | exact co_nilsB | exact co_nilsL _ _)))))
    all_goals exact co_bool (by rw [hu]; simp_all)
set_option maxHeartbeats 4000000 in
theorem pRIs (T : Tb) (R : List XV) (hc0 : colsOk T.cols = true) : Pure Tryd.prog 33 [T.v, vl R] (.d (.bool (rowFits R T.cols))) := by
  refine pure_intro Tryd.func33 rfl rfl rfl 55 rfl (fun hh => ?_)
  have hml : maxLen = 9223372036854775807 := rfl
  obtain ⟨tid, tnm, tcols, tkey, tix⟩ := T
  simp only at hc0
  have hRl := (has_sl (hh (vl R) (by simp))).1
  rw [encL_len] at hRl
  by_cases hne : (R.length : Int) = tcols.length
  case neg =>
    have hne' := eq_false hne
    have hu : rowFits R tcols = false := rowFits_len (by omega)
    repeat' (first
      | ((with_reducible (first
       | (refine PW.seq fun K1 hK1 => ?_) | (refine PW.region fun K2 hK2 => ?_) | ((refine hK3 _ ?_; clear hK3)) | ((refine opsP_nil ?_; refine hK2 _ ?_; clear hK2)) 
       | (refine PW.ret ?_) | ((refine hX1 ?_; clear hX1 hY1; try simp only [hb])) )))
      | ((simp only [thenP]; (try ((repeat (fail_if_success (with_reducible refine hK1 _ ?_)); clear hK1); (with_reducible refine hK1 _ ?_); clear hK1))))
      | (((first | (((with_reducible refine opsP_cons fun K3 hK3 => ?_); simp only [wantP, opP, valP, Ur, Us])) | ((with_reducible refine PW.condM fun X1 Y1 hX1 hY1 => ?_)) | (skip)); simp (disch := omega) only [St.eval, St.put, upd_app, iniT_app, avOf, avOf1, nom, cellsA, AV.okv, loadA, lenP, binP, intsP, intP, nilP, builtinP, isMapA, slA, U7, U8, Ua, Ug, Uk, Ul, Ut, V9, Ve, PmL, simprocAttr, PmT, Tb.v, Tb.c, hne', hu, retQ, resP, tupA, fg, condP, condB_t]; try (with_reducible (first | exact co_refl _ | exact co_own _ _ _ | exact co_nilsB | exact co_nilsL _ _)))))
  have hne' := eq_true hne
  have hleq : R.length = tcols.length := by omega
  repeat' (first
    | ((with_reducible (first
     | (refine PW.seq fun K1 hK1 => ?_) | (refine PW.region fun K2 hK2 => ?_) | ((refine hK3 _ ?_; clear hK3)) | ((refine opsP_nil ?_; refine hK2 _ ?_; clear hK2)) | (refine PW.block ?_) | (refine PW.skip ?_)
     | ((refine hY1 ?_; clear hX1 hY1; try simp only [hb])) )))
    | ((simp only [thenP]; (try ((repeat (fail_if_success (with_reducible refine hK1 _ ?_)); clear hK1); (with_reducible refine hK1 _ ?_); clear hK1))))
    | (((first | (((with_reducible refine opsP_cons fun K3 hK3 => ?_); simp only [wantP, opP, valP, Ur, Us])) | ((with_reducible refine PW.condM fun X1 Y1 hX1 hY1 => ?_)) | (skip)); simp (disch := omega) only [St.eval, St.put, upd_app, iniT_app, avOf, avOf1, nom, cellsA, AV.okv, loadA, lenP, binP, intsP, intP, nilP, builtinP, isMapA, slA, U7, U8, Ua, Ug, Uk, Ul, Ut, V9, Ve, PmL, simprocAttr, PmT, Tb.v, Tb.c, hne', condP, condB_f]; try (with_reducible (first | exact co_refl _ | exact co_own _ _ _ | exact co_nilsB | exact co_nilsL _ _)))))
  (with_reducible refine PW.loop (fun n s => ∃ (k : Nat), s.t 1 = vl R ∧ s.t 2 = .ptr 0 0 ∧ s.t 5 = .d (.int .i64 k) ∧ s.n = 55 ∧ s.m = ⟨[some (26, Tb.c ⟨tid, tnm, tcols, tkey, tix⟩)], []⟩ ∧ k ≤ R.length ∧ (∀ (j : Nat) (v : XV) (c : Col), j < k → R[j]? = some v → tcols[j]? = some c → okVC v c = true) ∧ n = R.length - k) R.length ?_ ?_)
  · exact ⟨0, rfl, rfl, rfl, rfl, rfl, Nat.zero_le _, fun j v c hj => absurd hj (by omega), rfl⟩
  rintro n ⟨t, nn, m⟩ ⟨k, h1, h2, h5, hn, hm, hk, hall, hnk⟩ - -
  simp only at h1 h2 h5 hn hm
  subst hn hm hnk
  by_cases hlt : (k : Int) < R.length
  · have hlt' := eq_true hlt
    obtain ⟨v, hv⟩ : ∃ v, R[k]? = some v := ⟨_, List.getElem?_eq_getElem (by omega)⟩
    obtain ⟨c, hc⟩ : ∃ c, tcols[k]? = some c := ⟨_, List.getElem?_eq_getElem (by omega)⟩
    have hw : IntKind.i64.wrap ((k : Int) + 1) = k + 1 := IntWalk.i64_in ((k : Int) + 1) (by omega)
    have hC := pRMay v
    unfold XV.v XV.c at hC
    have hkk : 1 ≤ c.ty ∧ c.ty ≤ 3 := by
      unfold colsOk at hc0
      rw [List.all_eq_true] at hc0
      have := hc0 c (List.mem_of_getElem? hc)
      simpa using this
    have hfm := fitsV_may v hkk
    have hoe : okVC v c = ((mayV v && decide (v.ty = c.ty)) && !(v.null && c.nn)) := by unfold okVC; rw [hfm]
    by_cases hok : okVC v c = true
    · have hall' : ∀ (j : Nat) (v : XV) (c : Col), j < k + 1 → R[j]? = some v → tcols[j]? = some c → okVC v c = true := fun j v' c' hj hv' hc' => by
        by_cases e : j = k
        · subst e
          rw [hv] at hv'; rw [hc] at hc'
          cases hv'; cases hc'
          exact hok
        · exact hall j v' c' (by omega) hv' hc'
      rw [hoe] at hok
      simp only [Bool.and_eq_true, decide_eq_true_eq] at hok
      obtain ⟨⟨hm1, hty⟩, hnn⟩ := hok
      have hty' := eq_true hty
      rw [hm1] at hC
      cases hnu : v.null
      · rw [hnu] at hC
        repeat' (first
          | ((with_reducible (first
           | (refine PW.seq fun K1 hK1 => ?_) | (refine PW.region fun K2 hK2 => ?_) | ((refine hK3 _ ?_; clear hK3)) | ((refine opsP_nil ?_; refine hK2 _ ?_; clear hK2)) | (refine PW.block ?_) | (refine PW.skip ?_)
           | ((refine hX1 ?_; clear hX1 hY1; try simp only [hb])) | ((refine hY1 ?_; clear hX1 hY1; try simp only [hb])) | ((refine opsO_nil ?_; refine hK2 _ ?_; clear hK2)) )))
          | (((with_reducible refine cC_pure ?_ (hC) (fun _ => ?_)); (focus ((repeat' constructor) <;> (simp only [purAs, purA, Vf, Bool.and_self, Tb.c, h1, h2, h5, hlt', hv, hc, hw, Col.c, XV.cd, hnu, hty']; done)))))
          | (((with_reducible refine PW.drawR (id := 7) mixed [] [(0, true), (1, true), (2, true), (3, true), (4, true), (5, true), (6, true), (7, true), (8, true), (9, true), (10, true), (11, true), (12, true), (13, true), (14, true), (15, true), (16, true), (17, true), (18, true), (19, true), (20, true), (21, true), (22, true), (23, true), (24, true), (25, true), (26, true), (27, true), (28, true), (29, true), (30, true)] (by kernel_rfl) (by decide) fun K2 hK2 => ?_)))
          | (((with_reducible refine And.intro ?_ ?_); (focus (first | omega | (simp; done) | assumption))))
          | ((simp only [thenP, blockP]; (try ((repeat (fail_if_success (with_reducible refine hK1 _ ?_)); clear hK1); (with_reducible refine hK1 _ ?_); clear hK1))))
          | (((first | (((with_reducible refine opsP_cons fun K3 hK3 => ?_); simp only [wantP, opP, valP, Ur, Us])) | (((with_reducible refine opsO_first (o := ?_) ?_ fun K3 hK3 => ?_); rotate_left 1; (focus (simp only [Uz, Ub, Ua] <;> rfl)); simp only [wantP, firstP, valP])) | ((with_reducible refine PW.condM fun X1 Y1 hX1 hY1 => ?_)) | (skip)); simp (disch := omega) only [wantB_ff, wantB_ft, St.eval, St.put, upd_app, avOf, avOf1, loadA, lenP, binP, intsP, intP, nilP, unP, builtinP, isMapA, slA, Ua, Ub, Uf, Ug, Uk, Ul, Un, Up, Ur, Us, Ut, Uv, Uz, V0, V1, V2, V4, V7, V9, Ve, Vr, PmL, simprocAttr, PmT, Tb.c, h1, h2, h5, hlt', hv, hc, hw, Col.c, XV.cd, hnu, hty', condP, condB_t, condB_f, firstOk, List.mem_cons]; try (with_reducible (first | exact co_refl _ | exact co_own _ _ _ | exact co_nilsB | exact co_nilsL _ _)))))
        refine ⟨R.length - (k + 1), by omega, k + 1, ?_, ?_, ?_, ?_, ?_, by omega, hall', rfl⟩
        all_goals (simp only [St.cut, Mem.cut, fg, fgs, upd_app, Nat.reduceEqDiff, ↓reduceIte, List.take_nil, List.map_nil, List.take_succ_cons, List.map_cons, Option.map_some, Nat.zero_lt_one, Int.natCast_add, Int.cast_ofNat_Int, h1, h2]; try rfl)
      · rw [hnu] at hC hnn
        have hcn : c.nn = false := by simpa using hnn
        repeat' (first
          | ((with_reducible (first
           | (refine PW.seq fun K1 hK1 => ?_) | (refine PW.region fun K2 hK2 => ?_) | ((refine hK3 _ ?_; clear hK3)) | ((refine opsP_nil ?_; refine hK2 _ ?_; clear hK2)) | (refine PW.block ?_) | (refine PW.skip ?_)
           | ((refine hX1 ?_; clear hX1 hY1; try simp only [hb])) | ((refine hY1 ?_; clear hX1 hY1; try simp only [hb])) | ((refine opsO_nil ?_; refine hK2 _ ?_; clear hK2)) )))
          | (((with_reducible refine cC_pure ?_ (hC) (fun _ => ?_)); (focus ((repeat' constructor) <;> (simp only [purAs, purA, Vf, Bool.and_self, Tb.c, h1, h2, h5, hlt', hv, hc, hw, Col.c, XV.cd, hnu, hty', hcn]; done)))))
          | (((with_reducible refine PW.drawR (id := 7) mixed [] [(0, true), (1, true), (2, true), (3, true), (4, true), (5, true), (6, true), (7, true), (8, true), (9, true), (10, true), (11, true), (12, true), (13, true), (14, true), (15, true), (16, true), (17, true), (18, true), (19, true), (20, true), (21, true), (22, true), (23, true), (24, true), (25, true), (26, true), (27, true), (28, true), (29, true), (30, true)] (by kernel_rfl) (by decide) fun K2 hK2 => ?_)))
          | (((with_reducible refine And.intro ?_ ?_); (focus (first | omega | (simp; done) | assumption))))
          | ((simp only [thenP, blockP]; (try ((repeat (fail_if_success (with_reducible refine hK1 _ ?_)); clear hK1); (with_reducible refine hK1 _ ?_); clear hK1))))
          | (((first | (((with_reducible refine opsP_cons fun K3 hK3 => ?_); simp only [wantP, opP, valP, Ur, Us])) | (((with_reducible refine opsO_first (o := ?_) ?_ fun K3 hK3 => ?_); rotate_left 1; (focus (simp only [Uz, Ub, Ua] <;> rfl)); simp only [wantP, firstP, valP])) | ((with_reducible refine PW.condM fun X1 Y1 hX1 hY1 => ?_)) | (skip)); simp (disch := omega) only [wantB_tt, wantB_ff, St.eval, St.put, upd_app, avOf, avOf1, loadA, lenP, binP, intsP, intP, nilP, unP, builtinP, isMapA, slA, Ua, Ub, Uf, Ug, Uk, Ul, Un, Up, Ur, Us, Ut, Uv, Uz, V0, V1, V2, V4, V7, V9, Ve, Vr, PmL, simprocAttr, PmT, Tb.c, h1, h2, h5, hlt', hv, hc, hw, Col.c, XV.cd, hnu, hty', hcn, condP, condB_t, condB_f, firstOk, List.mem_cons]; try (with_reducible (first | exact co_refl _ | exact co_own _ _ _ | exact co_nilsB | exact co_nilsL _ _)))))
        refine ⟨R.length - (k + 1), by omega, k + 1, ?_, ?_, ?_, ?_, ?_, by omega, hall', rfl⟩
        all_goals (simp only [St.cut, Mem.cut, fg, fgs, upd_app, Nat.reduceEqDiff, ↓reduceIte, List.take_nil, List.map_nil, List.take_succ_cons, List.map_cons, Option.map_some, Nat.zero_lt_one, Int.natCast_add, Int.cast_ofNat_Int, h1, h2]; try rfl)
    · have hok' : okVC v c = false := by simpa using hok
      have hu := rowFits_no hv hc hok'
      rw [hoe] at hok'
      cases hm1 : mayV v
      · rw [hm1] at hC
        repeat' (first
          | ((with_reducible (first
           | (refine PW.seq fun K1 hK1 => ?_) | (refine PW.region fun K2 hK2 => ?_) | ((refine hK3 _ ?_; clear hK3)) | ((refine opsP_nil ?_; refine hK2 _ ?_; clear hK2)) | (refine PW.block ?_) | (refine PW.skip ?_)
           | (refine PW.ret ?_) | ((refine hX1 ?_; clear hX1 hY1; try simp only [hb])) | ((refine opsO_nil ?_; refine hK2 _ ?_; clear hK2)) )))
          | (((with_reducible refine cC_pure ?_ (hC) (fun _ => ?_)); (focus ((repeat' constructor) <;> (simp only [purAs, purA, Vf, Bool.and_self, Tb.c, h1, h2, h5, hlt', hv, hc, hw, Col.c, XV.cd, hu]; done)))))
          | (((with_reducible refine PW.drawR (id := 7) mixed [] [(0, true), (1, true), (2, true), (3, true), (4, true), (5, true), (6, true), (7, true), (8, true), (9, true), (10, true), (11, true), (12, true), (13, true), (14, true), (15, true), (16, true), (17, true), (18, true), (19, true), (20, true), (21, true), (22, true), (23, true), (24, true), (25, true), (26, true), (27, true), (28, true), (29, true), (30, true)] (by kernel_rfl) (by decide) fun K2 hK2 => ?_)))
          | (((with_reducible refine And.intro ?_ ?_); (focus (first | omega | (simp; done) | assumption))))
          | ((simp only [thenP, blockP]; (try ((repeat (fail_if_success (with_reducible refine hK1 _ ?_)); clear hK1); (with_reducible refine hK1 _ ?_); clear hK1))))
          | (((first | (((with_reducible refine opsP_cons fun K3 hK3 => ?_); simp only [wantP, opP, valP, Ur, Us])) | (((with_reducible refine opsO_first (o := ?_) ?_ fun K3 hK3 => ?_); rotate_left 1; (focus (simp only [Uz, Ub, Ua] <;> rfl)); simp only [wantP, firstP, valP])) | ((with_reducible refine PW.condM fun X1 Y1 hX1 hY1 => ?_)) | (skip)); simp (disch := omega) only [wantB_tf, St.eval, St.put, upd_app, avOf, avOf1, loadA, lenP, binP, intsP, intP, eqP, nilP, unP, builtinP, isMapA, slA, Ua, Ub, Uf, Ug, Un, Up, Ur, Us, Uv, Uz, V2, V4, V7, V9, Ve, Vr, PmL, simprocAttr, PmT, Tb.c, h1, h2, h5, hlt', hv, XV.cd, hu, retQ, resP, tupA, fg, condP, condB_t, firstOk]; try (with_reducible (first | exact co_refl _ | exact co_own _ _ _ | exact co_nilsB | exact co_nilsL _ _)))))
      · rw [hm1] at hC hok'
        by_cases hty : v.ty = c.ty
        · have hty' := eq_true hty
          rw [decide_eq_true hty] at hok'
          have hnn : v.null = true ∧ c.nn = true := by simpa using hok'
          obtain ⟨hnu, hcn⟩ := hnn
          rw [hnu] at hC
          repeat' (first
            | ((with_reducible (first
             | (refine PW.seq fun K1 hK1 => ?_) | (refine PW.region fun K2 hK2 => ?_) | ((refine hK3 _ ?_; clear hK3)) | ((refine opsP_nil ?_; refine hK2 _ ?_; clear hK2)) | (refine PW.block ?_) | (refine PW.skip ?_)
             | (refine PW.ret ?_) | ((refine hX1 ?_; clear hX1 hY1; try simp only [hb])) | ((refine opsO_nil ?_; refine hK2 _ ?_; clear hK2)) )))
            | (((with_reducible refine cC_pure ?_ (hC) (fun _ => ?_)); (focus ((repeat' constructor) <;> (simp only [purAs, purA, Vf, Bool.and_self, Tb.c, h1, h2, h5, hlt', hv, hc, hw, Col.c, XV.cd, hnu, hty', hcn, hu]; done)))))
            | (((with_reducible refine PW.drawR (id := 7) mixed [] [(0, true), (1, true), (2, true), (3, true), (4, true), (5, true), (6, true), (7, true), (8, true), (9, true), (10, true), (11, true), (12, true), (13, true), (14, true), (15, true), (16, true), (17, true), (18, true), (19, true), (20, true), (21, true), (22, true), (23, true), (24, true), (25, true), (26, true), (27, true), (28, true), (29, true), (30, true)] (by kernel_rfl) (by decide) fun K2 hK2 => ?_)))
            | (((with_reducible refine And.intro ?_ ?_); (focus (first | omega | (simp; done) | assumption))))
            | ((simp only [thenP, blockP]; (try ((repeat (fail_if_success (with_reducible refine hK1 _ ?_)); clear hK1); (with_reducible refine hK1 _ ?_); clear hK1))))
            | (((first | (((with_reducible refine opsP_cons fun K3 hK3 => ?_); simp only [wantP, opP, valP, Ur, Us])) | (((with_reducible refine opsO_first (o := ?_) ?_ fun K3 hK3 => ?_); rotate_left 1; (focus (simp only [Uz, Ub, Ua] <;> rfl)); simp only [wantP, firstP, valP])) | ((with_reducible refine PW.condM fun X1 Y1 hX1 hY1 => ?_)) | (skip)); simp (disch := omega) only [wantB_tt, wantB_ff, St.eval, St.put, upd_app, avOf, avOf1, loadA, lenP, binP, intsP, intP, nilP, unP, builtinP, isMapA, slA, Ua, Ub, Uf, Ug, Uk, Ul, Un, Up, Ur, Us, Ut, Uv, Uz, V0, V1, V2, V4, V7, V9, Ve, Vr, PmL, simprocAttr, PmT, Tb.c, h1, h2, h5, hlt', hv, hc, Col.c, XV.cd, hnu, hty', hcn, hu, retQ, resP, tupA, fg, condP, condB_t, firstOk, List.mem_cons]; try (with_reducible (first | exact co_refl _ | exact co_own _ _ _ | exact co_nilsB | exact co_nilsL _ _)))))
        · have hty' := eq_false hty
          repeat' (first
            | ((with_reducible (first
             | (refine PW.seq fun K1 hK1 => ?_) | (refine PW.region fun K2 hK2 => ?_) | ((refine hK3 _ ?_; clear hK3)) | ((refine opsP_nil ?_; refine hK2 _ ?_; clear hK2)) | (refine PW.block ?_) | (refine PW.skip ?_)
             | (refine PW.ret ?_) | ((refine hX1 ?_; clear hX1 hY1; try simp only [hb])) | ((refine opsO_nil ?_; refine hK2 _ ?_; clear hK2)) )))
            | (((with_reducible refine cC_pure ?_ (hC) (fun _ => ?_)); (focus ((repeat' constructor) <;> (simp only [purAs, purA, Vf, Bool.and_self, Tb.c, h1, h2, h5, hlt', hv, hc, hw, Col.c, XV.cd, hty', hu]; done)))))
            | (((with_reducible refine PW.drawR (id := 7) mixed [] [(0, true), (1, true), (2, true), (3, true), (4, true), (5, true), (6, true), (7, true), (8, true), (9, true), (10, true), (11, true), (12, true), (13, true), (14, true), (15, true), (16, true), (17, true), (18, true), (19, true), (20, true), (21, true), (22, true), (23, true), (24, true), (25, true), (26, true), (27, true), (28, true), (29, true), (30, true)] (by kernel_rfl) (by decide) fun K2 hK2 => ?_)))
            | (((with_reducible refine And.intro ?_ ?_); (focus (first | omega | (simp; done) | assumption))))
            | ((simp only [thenP, blockP]; (try ((repeat (fail_if_success (with_reducible refine hK1 _ ?_)); clear hK1); (with_reducible refine hK1 _ ?_); clear hK1))))
            | (((first | (((with_reducible refine opsP_cons fun K3 hK3 => ?_); simp only [wantP, opP, valP, Ur, Us])) | (((with_reducible refine opsO_first (o := ?_) ?_ fun K3 hK3 => ?_); rotate_left 1; (focus (simp only [Uz, Ub, Ua] <;> rfl)); simp only [wantP, firstP, valP])) | ((with_reducible refine PW.condM fun X1 Y1 hX1 hY1 => ?_)) | (skip)); simp (disch := omega) only [wantB_ff, wantB_tf, St.eval, St.put, upd_app, avOf, avOf1, loadA, lenP, binP, intsP, intP, nilP, unP, builtinP, isMapA, slA, Ua, Ub, Uf, Ug, Uk, Ul, Un, Up, Ur, Us, Ut, Uv, Uz, V0, V1, V2, V4, V7, V9, Ve, Vr, PmL, simprocAttr, PmT, Tb.c, h1, h2, h5, hlt', hv, hc, Col.c, XV.cd, hty', hu, retQ, resP, tupA, fg, condP, condB_t, firstOk, List.mem_cons]; try (with_reducible (first | exact co_refl _ | exact co_own _ _ _ | exact co_nilsB | exact co_nilsL _ _)))))
  have hkl : k = R.length := by omega
  subst hkl
  have hu : rowFits R tcols = true := rowFits_ok hleq fun j v c hv hc => hall j v c (List.getElem?_eq_some_iff.1 hv).1 hv hc
  have hlt' := eq_false hlt
  repeat' (first
    | ((with_reducible (first
     | (refine PW.seq fun K1 hK1 => ?_) | (refine PW.region fun K2 hK2 => ?_) | ((refine hK3 _ ?_; clear hK3)) | ((refine opsP_nil ?_; refine hK2 _ ?_; clear hK2)) 
     | (refine PW.exit ?_) | (refine PW.ret ?_) | ((refine hY1 ?_; clear hX1 hY1; try simp only [hb])) )))
    | ((simp only [thenP, blockP, ↓reduceIte]; (try ((repeat (fail_if_success (with_reducible refine hK1 _ ?_)); clear hK1); (with_reducible refine hK1 _ ?_); clear hK1))))
    | (((first | (((with_reducible refine opsP_cons fun K3 hK3 => ?_); simp only [wantP, opP, valP, Ur, Us])) | ((with_reducible refine PW.condM fun X1 Y1 hX1 hY1 => ?_)) | (skip)); simp (disch := omega) only [St.eval, St.put, upd_app, avOf, avOf1, lenP, binP, intsP, intP, nilP, builtinP, isMapA, slA, PmL, simprocAttr, PmT, Tb.c, h1, h5, hlt', hu, retQ, resP, tupA, fg, condP, condB_f]; try (with_reducible (first | exact co_refl _ | exact co_own _ _ _ | exact co_nilsB | exact co_nilsL _ _)))))
end PM
end Go.Proofs.YtfkemeamimcnjaaDoor
