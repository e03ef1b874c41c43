/- pgwire's reference in the abstract: a server's message as bytes; PgwireBacks. -/
import Derived.Test.YthaekefdadccaaaDoorPgRT
import Derived.Test.YthaekefdadccaaaDoorPgRS
import Derived.Test.YthaekefdadccaaaDoorPgB1
namespace Go.Proofs.YthaekefdadccaaaDoor
open Go.RowKit
namespace PM
set_option maxRecDepth 100000 in
theorem pRTold (m : Back) (hz : backSmall m) : Pure Tryd.prog 34 [m.v] (toldV m) := by
  obtain ⟨z1, z2, z3, z4, z5⟩ := hz
  by_cases h0 : m.kind < 1 ∨ 9 < m.kind
  · exact pRTold0 m h0
  have hk : m.kind = 1 ∨ m.kind = 2 ∨ m.kind = 3 ∨ m.kind = 4 ∨ m.kind = 5 ∨ m.kind = 6 ∨ m.kind = 7 ∨ m.kind = 8 ∨ m.kind = 9 := by omega
  rcases hk with h | h | h | h | h | h | h | h | h
  · exact pRTold1 m h
  · exact pRTold2 m h ⟨z3, z4⟩
  · exact pRTold3 m h
  · exact pRTold4 m h
  · exact pRTold5 m h z1
  · exact pRTold6 m h z2
  · exact pRTold7 m h z4
  · exact pRTold8 m h
  · exact pRTold9 m h ⟨z5, z4⟩
theorem rBody_len (m : Back) (hz : backSmall m) : (rBody m).length ≤ 300000000100 := by
  obtain ⟨z1, z2, z3, z4, z5⟩ := hz
  have hb : (fldsBody m.fields).length ≤ 100000000002 := by
    unfold fldsBody fldsB
    split
    · rw [List.length_append, show (big2 (m.fields.length : Int)).length = 2 from rfl]; omega
    · simp
  have hc : (rCelsBody m.cells).length ≤ 100000000002 := by
    unfold rCelsBody
    split
    · rename_i h
      simp only [Bool.and_eq_true] at h
      unfold celsMay at h
      simp only [Bool.and_eq_true] at h
      rw [celsB_len _ h.1.1]
      omega
    · simp
  have hc' : (celsBody m.cells).length ≤ 100000000002 := by
    unfold celsBody
    split
    · rename_i h
      simp only [Bool.and_eq_true] at h
      rw [celsB_len _ h.1]
      omega
    · simp
  have he : (errBody m).length = m.state.length + m.text.length + 19 := by
    unfold errBody sevOf
    split <;> (simp; omega)
  unfold rBody backBody
  repeat' split
  all_goals first | omega | (simp only [List.length_append, big4_l, List.length_cons, List.length_nil]; omega)
/-- what the reference makes of it -/
theorem put_ref (m : Back) (hk : m.kind ≠ 10) : putBackS m = if (rMay m && m.only.like m) = false then ([], 230) else if (decide (m.kind = 6) && decide ((rBody m).length = 0) || decide (1073741824 < (rBody m).length + 4)) = true then ([], 231) else (rTag m :: (big4 ((rBody m).length + 4) ++ rBody m), 0) := by
  have e1 : rMay m = backMay m := if_neg hk
  rw [e1]
  unfold putBackS
  rw [if_neg hk]
  unfold putEnd
  cases hm : (backMay m && m.only.like m)
  · rfl
  · have e9 : ∀ x y : List Int × Int, (if true = false then x else y) = y := fun _ _ => rfl
    rw [e9, e9]
    have hr : 1 ≤ m.kind ∧ m.kind ≤ 9 := by
      rw [Bool.and_eq_true] at hm
      have h1 := hm.1
      unfold backMay at h1
      by_cases hq : 1 ≤ m.kind ∧ m.kind ≤ 9
      · exact hq
      · repeat rw [if_neg (by omega)] at h1
        cases h1
    have et : rTag m = tagOf m.kind := if_pos hr
    rw [et]
    by_cases h6 : m.kind = 6
    · have eb : rBody m = rCelsBody m.cells := if_pos h6
      have eb2 : backBody m = celsBody m.cells := by simp only [backBody, h6, Int.reduceEq, ↓reduceIte]
      have el : backLong m = celsLong m.cells := if_pos h6
      rw [Bool.and_eq_true] at hm
      have hmy : celsMay m.cells = true := by
        have := hm.1
        simpa only [backMay, h6, Int.reduceEq, ↓reduceIte] using this
      have hmy2 := hmy
      unfold celsMay at hmy2
      rw [Bool.and_eq_true, decide_eq_true_eq] at hmy2
      have hN : celsN m.cells = 2 + (4 * m.cells.length + celsT m.cells) := rfl
      have hB := celsB_len m.cells hmy2.1
      have hL : celsLong m.cells = (celsN m.cells : Int) := if_pos hmy2.1
      rw [eb, eb2, el, hL]
      by_cases hF : celsN m.cells + 4 ≤ 1073741824
      · have h1 : celsBody m.cells = celsB m.cells := if_pos (by unfold celsFew; rw [hmy2.1]; simp [hF, hmy2.2])
        have h2 : rCelsBody m.cells = celsB m.cells := if_pos (by rw [hmy]; simp; omega)
        rw [h1, h2, hB, if_pos (Int.le_refl _), if_neg (by omega), if_neg (by simp only [h6, decide_true, Bool.true_and, Bool.or_eq_true, decide_eq_true_eq]; omega)]
      · have h3 : (decide (m.kind = 6) && decide ((rCelsBody m.cells).length = 0) || decide (1073741824 < (rCelsBody m.cells).length + 4)) = true := by
          simp only [h6, decide_true, Bool.true_and, Bool.or_eq_true, decide_eq_true_eq]
          by_cases hT : (celsMay m.cells && decide (celsT m.cells ≤ 1073741824)) = true
          · have h2 : rCelsBody m.cells = celsB m.cells := if_pos hT
            rw [h2, hB]
            omega
          · have h2 : rCelsBody m.cells = [] := if_neg hT
            rw [h2]
            exact .inl rfl
        rw [if_pos h3, if_pos]
        generalize (celsBody m.cells).length = q
        split <;> omega
    · have eb : rBody m = backBody m := if_neg h6
      have el : backLong m = 0 := if_neg h6
      rw [eb, el]
      simp only [h6, decide_false, Bool.false_and, Bool.false_or, decide_eq_true_eq]
      have : ((if (0 : Int) ≤ ((backBody m).length : Int) then ((backBody m).length : Int) else 0) = (backBody m).length) := by rw [if_pos (by omega)]
      rw [this]
      by_cases hq : 1073741824 < (backBody m).length + 4
      · rw [if_pos (by omega), if_pos hq]
      · rw [if_neg (by omega), if_neg hq]
set_option maxRecDepth 100000 in
set_option maxHeartbeats 4000000 in
theorem pRPut10 (m : Back) (hk : m.kind = 10) : Pure Tryd.prog 15 [m.v] (putV (putBackS m)) := by
  have hS := pSameBack m ⟨10, [], [], 0, 0, 0, [], [], [], false⟩
  have e1 : m.same ⟨10, [], [], 0, 0, 0, [], [], [], false⟩ = m.only.like m := by
    rw [← bonly_same]
    have : m.only = ⟨10, [], [], 0, 0, 0, [], [], [], false⟩ := by
      unfold Back.only
      simp only [hk, Int.reduceEq, ↓reduceIte, zB]
    rw [this]
    unfold Back.same
    congr 1
    · rw [decide_eq_decide]; exact eq_comm
    congr 1
    · rw [decide_eq_decide]; exact eq_comm
    congr 1
    · rw [decide_eq_decide]; exact eq_comm
    congr 1
    · rw [decide_eq_decide]; exact eq_comm
    congr 1
    · rw [decide_eq_decide]; exact eq_comm
    congr 1
    · rw [decide_eq_decide]; exact eq_comm
    congr 1
    · rw [decide_eq_decide]; exact eq_comm
    congr 1
    · rw [decide_eq_decide]; exact eq_comm
    congr 1
    · rw [decide_eq_decide]; exact eq_comm
    · rw [decide_eq_decide]; exact eq_comm
  rw [e1] at hS
  have e0 : putBackS m = if m.only.like m = true then ([78], 0) else ([], 230) := if_pos hk
  rw [e0]
  obtain ⟨L, hL⟩ : ∃ L, m.only.like m = L := ⟨_, rfl⟩
  rw [hL] at hS ⊢
  clear hL e1 e0
  refine pure_intro Tryd.func15 rfl rfl rfl 60 rfl (fun hh => ?_)
  obtain ⟨xk, xn, xt, xp, xs, xu, xf, xc, xa, xg⟩ := m
  simp only at hk
  subst hk
  simp only [Back.v, Back.c, List.map_cons, List.map_nil] at hS
  cases L
  all_goals
    repeat' (first
      | ((with_reducible (first
       | (refine PW.seq fun K1 hK1 => ?_) | (refine PW.region fun K2 hK2 => ?_) | ((refine hK3 _ ?_; clear hK3)) | ((refine opsP_nil ?_; refine hK2 _ ?_; clear hK2)) | (refine litX_old ?_) | (refine litC_data ?_) 
       | (refine PW.skip ?_) | (refine PW.ret ?_) | ((refine hX1 ?_; clear hX1 hY1; try simp only [hb])) | ((refine hY1 ?_; clear hX1 hY1; try simp only [hb])) )))
      | (((with_reducible refine cC_pure ?_ (hS) (fun _ => ?_)); (focus ((repeat' constructor) <;> (simp only [purAs, purA, Vf, Bool.and_self, Back.v, Back.c, zB]; done)))))
      | ((simp only [thenP, ↓reduceIte]; (try ((repeat (fail_if_success (with_reducible refine hK1 _ ?_)); clear hK1); (with_reducible refine hK1 _ ?_); clear hK1))))
      | (((first | (((with_reducible refine opsP_cons fun K3 hK3 => ?_); simp only [wantP, opP, valP, Ur, Us, List.mapM_cons, List.mapM_nil, Uw, Ux])) | ((with_reducible refine PW.condM fun X1 Y1 hX1 hY1 => ?_)) | (skip)); simp (disch := omega) only [St.eval, St.put, upd_app, iniT_app, avOf, avOf1, nom, cellsA, AV.okv, loadA, binP, intsP, intP, nilP, unP, U3, U4, U5, slA, putCells, fillA, buildA, elA, dv1, U7, Ua, Uc, Uf, Ug, Uk, Un, Up, Ur, Us, Ut, Uu, Uv, List.mapM_cons, List.mapM_nil, Uw, Ux, V0, V1, V4, Option.bind_eq_bind, Option.pure_def, V9, Va, Ve, Vt, UU2, UU3, UU9, Vr, PmL, simprocAttr, PmT, Back.v, Back.c, retQ, resP, tupA, fg, fgs, condP, condB_t, condB_f]; try (with_reducible (first | exact co_refl _ | exact co_own _ _ _ | exact co_nilsB | exact co_nilsL _ _)))))
  · exact co_tup (cos_cons co_nilsB (cos_cons (co_refl _) cos_nil))
  · exact co_refl _
set_option maxRecDepth 100000 in
set_option maxHeartbeats 4000000 in
theorem pRPut (m : Back) (hz : backSmall m) : Pure Tryd.prog 15 [m.v] (putV (putBackS m)) := by
  by_cases hk : m.kind = 10
  · exact pRPut10 m hk
  have hA := pRTold m hz
  have hS := pSameBack m.only m
  rw [bonly_same] at hS
  have hbl := rBody_len m hz
  rw [put_ref m hk]
  unfold toldV at hA
  obtain ⟨o, ho⟩ : ∃ o, m.only = o := ⟨_, rfl⟩
  obtain ⟨L, hL⟩ : ∃ L, m.only.like m = L := ⟨_, rfl⟩
  rw [hL] at hS ⊢
  rw [ho] at hA hS
  obtain ⟨b, hb9⟩ : ∃ b, rBody m = b := ⟨_, rfl⟩
  obtain ⟨tg, htg⟩ : ∃ b, rTag m = b := ⟨_, rfl⟩
  obtain ⟨my, hmy⟩ : ∃ b, rMay m = b := ⟨_, rfl⟩
  rw [hb9, htg, hmy] at hA
  rw [hb9] at hbl
  simp only [hb9, htg, hmy]
  clear ho hL hb9 htg hmy hz
  refine pure_intro Tryd.func15 rfl rfl rfl 60 rfl (fun hh => ?_)
  have hmx : maxLen = 9223372036854775807 := rfl
  have e4 : (4 : Int) + b.length = b.length + 4 := by omega
  obtain ⟨xk, xn, xt, xp, xs, xu, xf, xc, xa, xg⟩ := m
  obtain ⟨yk, yn, yt, yp, ys, yu, yf, yc, ya, yg⟩ := o
  simp only at hk
  have k10 := eq_false hk
  have e5 : decide ((b.length : Int) = 0) = decide (b.length = 0) := by rw [decide_eq_decide]; omega
  have e6 : decide ((1073741824 : Int) < b.length + 4) = decide (1073741824 < b.length + 4) := by rw [decide_eq_decide]; omega
  simp only [Back.v, Back.c, List.map_cons, List.map_nil] at hA hS
  cases my
  all_goals cases L
  all_goals
    repeat' (first
      | ((with_reducible (first
       | (refine PW.seq fun K1 hK1 => ?_) | (refine PW.region fun K2 hK2 => ?_) | ((refine hK3 _ ?_; clear hK3)) | ((refine opsP_nil ?_; refine hK2 _ ?_; clear hK2)) 
       | (refine PW.skip ?_) | (refine PW.ret ?_) | ((refine hX1 ?_; clear hX1 hY1; try simp only [hb])) | ((refine hY1 ?_; clear hX1 hY1; try simp only [hb])) )))
      | (((first | (with_reducible refine wantB_intro (fun hb => ?_) (fun hb => ?_)) | (with_reducible refine condB_intro (fun hb => ?_) (fun hb => ?_))) <;> ((try (have hp := hb; simp only [PmH] at hp)); try simp only [hb, Bool.not_true, Bool.not_false])))
      | (((with_reducible refine cC_new ?_ (pRBig4 ?_) ?_); (focus ((repeat' (first | (refine .cons ?_ ?_) | (exact .nil) | (exact .d _) )) <;> (simp only [purAs, purA, Vf, Bool.and_self, Back.v, Back.c, k10, big4_l, e4]; done)))))
      | (((with_reducible refine cC_pure ?_ (hA) (fun _ => ?_)); (focus ((repeat' constructor) <;> (simp only [purAs, purA, Vf, Bool.and_self, Back.v, Back.c, k10, big4_l, e4]; done)))))
      | (((with_reducible refine cC_pure ?_ (hS) (fun _ => ?_)); (focus ((repeat' constructor) <;> (simp only [purAs, purA, Vf, Bool.and_self, Back.v, Back.c, k10, big4_l, e4]; done)))))
      | (((with_reducible refine And.intro ?_ ?_); (focus (first | omega | (simp; done) | assumption))))
      | ((simp only [thenP]; (try ((repeat (fail_if_success (with_reducible refine hK1 _ ?_)); clear hK1); (with_reducible refine hK1 _ ?_); clear hK1))))
      | (((with_reducible refine opsP_consD (d := 51) fun K3 hK3 => ?_); simp only [wantP, opP, Ur, Us, List.mapM_cons, List.mapM_nil, Uw, Ux]; simp (disch := omega) only [St.eval, St.put, upd_app, cellsA, AV.okv, U3, U4, U5, elA, dv1, Uf, Ug, Ut, Uu, Uv, List.mapM_cons, List.mapM_nil, Uw, Ux, V0, V1, V4, Option.bind_eq_bind, Option.pure_def, V9, Ve, UU9, PmL, simprocAttr, PmT]; (with_reducible refine litX_old ?_); (with_reducible refine litC_own ?_)))
      | (((first | ((with_reducible (first | refine opsP_consMt (d := ?_) (dj := ?_) (b := ?_) (r := ?_) ?_ ?_ (fun hb => ?_) (fun K3 hK3 => ?_) | refine opsP_consMf (d := ?_) (dj := ?_) (b := ?_) (r := ?_) ?_ ?_ (fun hb => ?_) (fun K3 hK3 => ?_))); rotate_left 3; (focus exact rfl); (focus (simp only [upd_app, simprocAttr]; exact rfl))) | ((with_reducible (first | refine opsP_consNt (d := ?_) (dj := ?_) (b := ?_) (r := ?_) (c := ?_) ?_ ?_ (fun hb => ?_) (fun K3 hK3 => ?_) | refine opsP_consNf (d := ?_) (dj := ?_) (b := ?_) (r := ?_) (c := ?_) ?_ ?_ (fun hb => ?_) (fun K3 hK3 => ?_))); rotate_left 4; (focus exact rfl); (focus (simp only [St.put, upd_app, iniT_app, simprocAttr, mrg_t, mrg_f]; exact rfl)))); (focus (simp only [opP, valP, Ur, Us]; (try (simp only [Bool.not_eq_true'] at hb)); (try (have hp := hb; simp only [PmH] at hp)); simp (disch := omega) only [St.eval, upd_app, avOf, avOf1, lenP, binP, intsP, intP, nilP, unP, builtinP, isMapA, slA, PmL, simprocAttr, PmT, mrg_t, hb]; (repeat' (first | (exact rfl) | ((refine And.intro ?_ ?_); (focus (exact rfl)); (exact rfl)) | (refine And.intro (by first | omega | (simp; done) | assumption) ?_) | ((with_reducible refine cC_pure ?_ (hA) (fun _ => ?_)); (focus ((repeat' constructor) <;> (simp only [purAs, purA, Vf, Bool.and_self, Back.v, Back.c, k10, big4_l, e4]; done)))) | ((with_reducible refine cC_pure ?_ (hS) (fun _ => ?_)); (focus ((repeat' constructor) <;> (simp only [purAs, purA, Vf, Bool.and_self, Back.v, Back.c, k10, big4_l, e4]; done)))))); done)); (try simp only [St.put, Nat.reduceLT, ↓reduceIte, mrg_t, mrg_f, Bool.not_true, Bool.not_false])))
      | (((first | (((with_reducible refine opsP_cons fun K3 hK3 => ?_); simp only [wantP, opP, valP, Ur, Us])) | ((with_reducible refine PW.condM fun X1 Y1 hX1 hY1 => ?_)) | (skip)); simp (disch := omega) only [wantB_tf, St.eval, St.put, upd_app, iniT_app, avOf, avOf1, nom, cellsA, AV.okv, loadA, lenP, binP, intsP, intP, nilP, unP, builtinP, appP, srcA, srcTy, isMapA, isBsl, slA, putCells, U7, Ua, Ub, Uc, Ud, Uf, Ug, Uk, Un, Up, Ur, Us, Ut, Uu, Uv, Uz, V2, V4, V9, Va, Vd, Ve, Vr, PmL, simprocAttr, PmT, Back.v, Back.c, k10, big4_l, e4, pick_or, pick_and, retQ, resP, tupA, fg, fgs, condP, condB_t, condB_f]; try (with_reducible (first | exact co_refl _ | exact co_own _ _ _ | exact co_nilsB | exact co_nilsL _ _)))))
  · exact co_tup (cos_cons co_nilsB (cos_cons (co_refl _) cos_nil))
  · exact co_tup (cos_cons co_nilsB (cos_cons (co_refl _) cos_nil))
  · exact co_tup (cos_cons co_nilsB (cos_cons (co_refl _) cos_nil))
  · rw [e5, e6] at hb
    rw [hb]
    exact co_tup (cos_cons co_nilsB (cos_cons (co_refl _) cos_nil))
  · rw [e5, e6] at hb
    rw [hb]
    exact co_refl _
end PM
end Go.Proofs.YthaekefdadccaaaDoor
