/- pgwire's reference in the abstract: two messages of a server's. -/
import Derived.Test.YthaekefdadccaaaDoorPgBk
import Derived.Test.YthaekefdadccaaaDoorPmD
namespace Go.Proofs.YthaekefdadccaaaDoor
open Go.RowKit
namespace PM
def Back.same (a b : Back) : Bool := decide (a.kind = b.kind) && (decide (a.name = b.name) && (decide (a.text = b.text) && (decide (a.pid = b.pid) && (decide (a.secret = b.secret) && (decide (a.status = b.status) && (decide (a.state = b.state) && (decide (a.fatal = b.fatal) && (decide (a.fields = b.fields) && decide (a.cells = b.cells)))))))))
theorem back_same_self (m : Back) : m.same m = true := by simp [Back.same]
theorem fldC_ne (p q : List Int × Int) : (decide (p.1 = q.1) && decide (p.2 = q.2)) = decide (p = q) := by
  obtain ⟨a, b⟩ := p
  obtain ⟨c, d⟩ := q
  simp [Prod.mk.injEq]
theorem celC_ne (p q : Bool × List Int) : ((p.1 == q.1) && decide (p.2 = q.2)) = decide (p = q) := by
  obtain ⟨a, b⟩ := p
  obtain ⟨c, d⟩ := q
  cases a <;> cases c <;> simp [Prod.mk.injEq]
theorem bonly_same (m : Back) : m.only.same m = m.only.like m := by
  have hf : m.only.fields = m.fields ∨ m.only.fields = [] := by unfold Back.only; (repeat' split) <;> simp [zB]
  have hc : m.only.cells = m.cells ∨ m.only.cells = [] := by unfold Back.only; (repeat' split) <;> simp [zB]
  have ef : decide (m.only.fields = m.fields) = decide (m.only.fields.length = m.fields.length) := by
    rcases hf with h | h
    · rw [h]; simp
    · rw [h, Bool.eq_iff_iff, decide_eq_true_eq, decide_eq_true_eq]
      exact ⟨fun h' => by rw [← h'], fun h' => (List.eq_nil_of_length_eq_zero h'.symm).symm⟩
  have ec : decide (m.only.cells = m.cells) = decide (m.only.cells.length = m.cells.length) := by
    rcases hc with h | h
    · rw [h]; simp
    · rw [h, Bool.eq_iff_iff, decide_eq_true_eq, decide_eq_true_eq]
      exact ⟨fun h' => by rw [← h'], fun h' => (List.eq_nil_of_length_eq_zero h'.symm).symm⟩
  unfold Back.same Back.like
  rw [ef, ec]
set_option maxRecDepth 100000 in
set_option maxHeartbeats 4000000 in
theorem pSameBack (f g : Back) : Pure Tryd.prog 21 [f.v, g.v] (.d (.bool (f.same g))) := by
  refine pure_intro Tryd.func21 rfl rfl rfl 115 rfl (fun hh => ?_)
  obtain ⟨xk, xn, xt, xp, xs, xu, xf, xc, xa, xg⟩ := f
  obtain ⟨yk, yn, yt, yp, ys, yu, yf, yc, ya, yg⟩ := g
  repeat' (first
    | ((with_reducible (first | (refine PW.seq fun K1 hK1 => ?_) | ((refine PW.region fun K2 hK2 => ?_; try simp only [List.append_eq, List.cons_append, List.nil_append])) | ((refine hK3 _ ?_; clear hK3)) | ((refine opsP_nil ?_; refine hK2 _ ?_; clear hK2)) | (refine PW.block ?_) | (refine PW.skip ?_) | (refine PW.ret ?_) | ((refine hX1 ?_; clear hX1 hY1; try simp only [hb])) | ((refine hY1 ?_; clear hX1 hY1; try simp only [hb])) )))
    | (((first | (with_reducible refine wantB_intro (fun hb => ?_) (fun hb => ?_)) | (with_reducible refine condB_intro (fun hb => ?_) (fun hb => ?_))) <;> ((try (have hp := hb; simp only [PmH, beq_iff_eq, beq_eq_false_iff_ne, ne_eq] at hp)); try simp only [hb, Bool.not_true, Bool.not_false])))
    | ((simp only [thenP]; (try ((repeat (fail_if_success (with_reducible refine hK1 _ ?_)); clear hK1); (with_reducible refine hK1 _ ?_); clear hK1))))
    | (((first | ((with_reducible (first | refine opsP_consMt (d := ?_) (dj := ?_) (b := ?_) (r := ?_) ?_ ?_ (fun hb => ?_) (fun K3 hK3 => ?_) | refine opsP_consMf (d := ?_) (dj := ?_) (b := ?_) (r := ?_) ?_ ?_ (fun hb => ?_) (fun K3 hK3 => ?_))); rotate_left 3; (focus exact rfl); (focus (simp only [upd_app, simprocAttr]; exact rfl))) | ((with_reducible (first | refine opsP_consNt (d := ?_) (dj := ?_) (b := ?_) (r := ?_) (c := ?_) ?_ ?_ (fun hb => ?_) (fun K3 hK3 => ?_) | refine opsP_consNf (d := ?_) (dj := ?_) (b := ?_) (r := ?_) (c := ?_) ?_ ?_ (fun hb => ?_) (fun K3 hK3 => ?_))); rotate_left 4; (focus exact rfl); (focus (simp only [St.put, upd_app, iniT_app, simprocAttr, mrg_t, mrg_f]; exact rfl)))); (focus (simp only [opP, valP, Ur, Us]; (try (simp only [Bool.not_eq_true'] at hb)); (try (have hp := hb; simp only [PmH, beq_iff_eq] at hp)); simp (disch := omega) only [St.eval, upd_app, loadA, lenP, binP, intsP, intP, strP, eqP, nilP, builtinP, isMapA, slA, Ua, Ub, Uk, Ul, V9, Ve, PmL, simprocAttr, PmT, mrg_t, hb]; (repeat' (first | (exact rfl) | ((refine And.intro ?_ ?_); (focus (exact rfl)); (exact rfl)) | (refine And.intro (by first | omega | (simp; done) | assumption) ?_))); done)); (try simp only [St.put, Nat.reduceLT, ↓reduceIte])))
    | (((first | (((with_reducible refine opsP_cons fun K3 hK3 => ?_); simp only [wantP, opP, valP])) | ((with_reducible refine PW.condM fun X1 Y1 hX1 hY1 => ?_)) | (skip)); simp (disch := omega) only [St.eval, St.put, upd_app, iniT_app, avOf, avOf1, nom, cellsA, AV.okv, loadA, binP, intsP, intP, nilP, slA, U7, U8, Ua, Ub, Uf, Ug, Uk, Ur, Us, Ut, Uu, V9, Va, Ve, PmL, simprocAttr, PmT, Back.v, Back.c, pick_or, retQ, resP, tupA, fg, condP]; try (with_reducible (first | exact co_refl _ | exact co_own _ _ _ | exact co_nilsB | exact co_nilsL _ _)))))
  · refine co_eq (congrArg (fun b => AV.d (.bool b)) ?_)
    symm
    rw [Bool.eq_false_iff]
    intro he
    simp only [Back.same, Bool.and_eq_true, decide_eq_true_eq] at he
    obtain ⟨rfl, rfl, rfl, rfl, rfl, rfl, rfl, rfl, rfl, rfl⟩ := he
    simp at hb
  · have hl1 : xf.length = yf.length := by simp at hb; omega
    have hl2 : xc.length = yc.length := by simp at hb; omega
    have q : xk = yk ∧ xn = yn ∧ xt = yt ∧ xp = yp ∧ xs = ys ∧ xu = yu ∧ xa = ya ∧ xg = yg := by simp at hb; simp [hb]
    obtain ⟨rfl, rfl, rfl, rfl, rfl, rfl, rfl, rfl⟩ := q
    have hmx : maxLen = 9223372036854775807 := rfl
    have hfl : xf.length ≤ 9223372036854775807 := by
      have := (has_sl (has_agg (hh (Back.v ⟨xk, xn, xt, xp, xs, xu, xf, xc, xa, xg⟩) (by simp)) (.d (.sl 2 (encL fldC xf))) (by simp [Back.c]))).1
      rw [encL_len] at this
      omega
    have hcl : xc.length ≤ 9223372036854775807 := by
      have := (has_sl (has_agg (hh (Back.v ⟨xk, xn, xt, xp, xs, xu, xf, xc, xa, xg⟩) (by simp)) (.d (.sl 2 (encL celC xc))) (by simp [Back.c]))).1
      rw [encL_len] at this
      omega
    clear hb
    (with_reducible refine PW.loop (fun n s => ∃ k : Nat, s.t 2 = .ptr 0 0 ∧ s.t 3 = .ptr 1 0 ∧ s.t 5 = .d (.int .i64 k) ∧ s.n = 115 ∧
      s.m = ⟨[some (35, (Back.c ⟨xk, xn, xt, xp, xs, xu, xf, xc, xa, xg⟩).map AV.d), some (35, (Back.c ⟨xk, xn, xt, xp, xs, xu, yf, yc, xa, xg⟩).map AV.d)], []⟩ ∧ k ≤ xf.length ∧ n = xf.length - k ∧ xf.take k = yf.take k) xf.length ?_ ?_)
    · exact ⟨0, rfl, rfl, rfl, rfl, rfl, Nat.zero_le _, rfl, rfl⟩
    rintro n ⟨t, nn, m⟩ ⟨k, h2, h3, h5, hn, hm, hk, hnk, hs⟩ - -
    simp only [Back.c, List.map_cons, List.map_nil] at h2 h3 h5 hn hm
    subst hn hm
    by_cases hlt : (k : Int) < xf.length
    · have hlt' := eq_true hlt
      obtain ⟨x, hx⟩ : ∃ x, xf[k]? = some x := ⟨_, List.getElem?_eq_getElem (by omega)⟩
      obtain ⟨y, hy⟩ : ∃ x, yf[k]? = some x := ⟨_, List.getElem?_eq_getElem (by omega)⟩
      repeat' (first
        | ((with_reducible (first
         | (refine PW.seq fun K1 hK1 => ?_) | ((refine PW.region fun K2 hK2 => ?_; try simp only [List.append_eq, List.cons_append, List.nil_append])) | ((refine hK3 _ ?_; clear hK3)) | ((refine opsP_nil ?_; refine hK2 _ ?_; clear hK2)) | (refine PW.block ?_) | (refine PW.skip ?_) | (refine PW.ret ?_) | ((refine hX1 ?_; clear hX1 hY1; try simp only [hb])) | ((refine hY1 ?_; clear hX1 hY1; try simp only [hb])) | ((refine opsO_nil ?_; refine hK2 _ ?_; clear hK2)) )))
        | (((first | (with_reducible refine wantB_intro (fun hb => ?_) (fun hb => ?_)) | (with_reducible refine condB_intro (fun hb => ?_) (fun hb => ?_))) <;> ((try (have hp := hb; simp only [PmH] at hp)); try simp only [hb, Bool.not_true, Bool.not_false])))
        | (((with_reducible refine PW.drawR (id := 6) mixed [] [(0, true), (1, true), (2, true), (3, true), (4, true), (5, true), (6, true), (7, true), (8, true), (9, true), (10, true)] (by kernel_rfl) (by decide) fun K2 hK2 => ?_)))
        | (((with_reducible refine And.intro ?_ ?_); (focus (first | omega | (simp; done) | assumption))))
        | ((simp only [thenP, blockP]; (try ((repeat (fail_if_success (with_reducible refine hK1 _ ?_)); clear hK1); (with_reducible refine hK1 _ ?_); clear hK1))))
        | (((first | (((with_reducible refine opsP_cons fun K3 hK3 => ?_); simp only [wantP, opP, valP, Ur, Us])) | (((with_reducible refine opsO_first (o := ?_) ?_ fun K3 hK3 => ?_); rotate_left 1; (focus (simp only [Uz, Ub, Ua] <;> rfl)); simp only [wantP, firstP, valP])) | ((with_reducible refine PW.condM fun X1 Y1 hX1 hY1 => ?_)) | (skip)); simp (disch := omega) only [St.eval, St.put, upd_app, avOf, avOf1, loadA, lenP, binP, intsP, intP, eqP, nilP, builtinP, dvEqC, eqAll, isMapA, slA, Ua, Ub, Uf, Ug, Uk, Ul, Un, Up, Ur, Us, Ut, Uu, V0, V1, V2, V7, V9, Ve, Vr, PmL, simprocAttr, PmT, h2, h3, h5, hlt', hx, hy, fldC, retQ, resP, tupA, fg, condP, condB_t, firstOk, List.mem_cons]; try (with_reducible (first | exact co_refl _ | exact co_own _ _ _ | exact co_nilsB | exact co_nilsL _ _)))))
      · refine co_eq (congrArg (fun b => AV.d (.bool b)) ?_)
        rw [fldC_ne] at hb
        have hne : x ≠ y := by simpa using hb
        have : xf ≠ yf := by rintro rfl; rw [hx] at hy; exact hne (Option.some.inj hy)
        simp [Back.same, this]
      · rw [fldC_ne] at hb
        have hxy : x = y := by simpa using hb
        refine ⟨xf.length - (k + 1), by omega, k + 1, ?_, ?_, ?_, ?_, ?_, by omega, rfl, ?_⟩
        case refine_6 => rw [List.take_add_one, List.take_add_one, hs, hx, hy, hxy]
        all_goals (simp only [St.cut, Mem.cut, fg, fgs, upd_app, Nat.reduceEqDiff, ↓reduceIte, List.take_nil, List.map_nil, List.take_succ_cons, List.map_cons, Option.map_some, Nat.reduceLT, Int.natCast_add, Int.cast_ofNat_Int, h2, h3, Back.c]; try rfl)
    · have hlt' := eq_false hlt
      obtain rfl : xf = yf := by rw [← List.take_of_length_le (l := xf) (i := k) (by omega), ← List.take_of_length_le (l := yf) (i := k) (by omega), hs]
      clear hs
      repeat' (first
        | ((with_reducible (first
         | (refine PW.seq fun K1 hK1 => ?_) | ((refine PW.region fun K2 hK2 => ?_; try simp only [List.append_eq, List.cons_append, List.nil_append])) | ((refine hK3 _ ?_; clear hK3)) | ((refine opsP_nil ?_; refine hK2 _ ?_; clear hK2)) | (refine PW.block ?_)
         | (refine PW.exit ?_) | ((refine hY1 ?_; clear hX1 hY1; try simp only [hb])) )))
        | ((simp only [thenP, blockP, ↓reduceIte]; (try ((repeat (fail_if_success (with_reducible refine hK1 _ ?_)); clear hK1); (with_reducible refine hK1 _ ?_); clear hK1))))
        | (((first | (((with_reducible refine opsP_cons fun K3 hK3 => ?_); simp only [wantP, opP, valP, Ur, Us])) | ((with_reducible refine PW.condM fun X1 Y1 hX1 hY1 => ?_)) | (skip)); simp (disch := omega) only [St.eval, St.put, upd_app, avOf, avOf1, loadA, lenP, binP, intsP, intP, nilP, builtinP, isMapA, slA, Ua, Uk, Ul, V9, Ve, PmL, simprocAttr, PmT, h2, h5, hlt', condP, condB_f]; try (with_reducible (first | exact co_refl _ | exact co_own _ _ _ | exact co_nilsB | exact co_nilsL _ _)))))
      (with_reducible refine PW.loop (fun n s => ∃ k : Nat, s.t 2 = .ptr 0 0 ∧ s.t 3 = .ptr 1 0 ∧ s.t 6 = .d (.int .i64 k) ∧ s.n = 115 ∧
        s.m = ⟨[some (35, (Back.c ⟨xk, xn, xt, xp, xs, xu, xf, xc, xa, xg⟩).map AV.d), some (35, (Back.c ⟨xk, xn, xt, xp, xs, xu, xf, yc, xa, xg⟩).map AV.d)], []⟩ ∧ k ≤ xc.length ∧ n = xc.length - k ∧ xc.take k = yc.take k) xc.length ?_ ?_)
      · exact ⟨0, h2, h3, rfl, rfl, rfl, Nat.zero_le _, rfl, rfl⟩
      rintro n ⟨t, nn, m⟩ ⟨k, h2, h3, h6, hn, hm, hk, hnk, hs⟩ - -
      simp only [Back.c, List.map_cons, List.map_nil] at h2 h3 h6 hn hm
      subst hn hm
      by_cases hlt : (k : Int) < xc.length
      · have hlt' := eq_true hlt
        obtain ⟨x, hx⟩ : ∃ x, xc[k]? = some x := ⟨_, List.getElem?_eq_getElem (by omega)⟩
        obtain ⟨y, hy⟩ : ∃ x, yc[k]? = some x := ⟨_, List.getElem?_eq_getElem (by omega)⟩
        repeat' (first
          | ((with_reducible (first
           | (refine PW.seq fun K1 hK1 => ?_) | ((refine PW.region fun K2 hK2 => ?_; try simp only [List.append_eq, List.cons_append, List.nil_append])) | ((refine hK3 _ ?_; clear hK3)) | ((refine opsP_nil ?_; refine hK2 _ ?_; clear hK2)) | (refine PW.block ?_) | (refine PW.skip ?_) | (refine PW.ret ?_) | ((refine hX1 ?_; clear hX1 hY1; try simp only [hb])) | ((refine hY1 ?_; clear hX1 hY1; try simp only [hb])) | ((refine opsO_nil ?_; refine hK2 _ ?_; clear hK2)) )))
          | (((first | (with_reducible refine wantB_intro (fun hb => ?_) (fun hb => ?_)) | (with_reducible refine condB_intro (fun hb => ?_) (fun hb => ?_))) <;> ((try (have hp := hb; simp only [PmH, beq_iff_eq, beq_eq_false_iff_ne, ne_eq] at hp)); try simp only [hb, Bool.not_true, Bool.not_false])))
          | (((with_reducible refine PW.drawR (id := 11) mixed [] [(0, true), (1, true), (2, true), (3, true), (4, true), (5, true), (6, true), (7, true), (8, true), (9, true), (10, true)] (by kernel_rfl) (by decide) fun K2 hK2 => ?_)))
          | (((with_reducible refine And.intro ?_ ?_); (focus (first | omega | (simp; done) | assumption))))
          | ((simp only [thenP, blockP]; (try ((repeat (fail_if_success (with_reducible refine hK1 _ ?_)); clear hK1); (with_reducible refine hK1 _ ?_); clear hK1))))
          | (((first | (((with_reducible refine opsP_cons fun K3 hK3 => ?_); simp only [wantP, opP, valP, Ur, Us])) | (((with_reducible refine opsO_first (o := ?_) ?_ fun K3 hK3 => ?_); rotate_left 1; (focus (simp only [Uz, Ub, Ua] <;> rfl)); simp only [wantP, firstP, valP])) | ((with_reducible refine PW.condM fun X1 Y1 hX1 hY1 => ?_)) | (skip)); simp (disch := omega) only [St.eval, St.put, upd_app, avOf, avOf1, loadA, lenP, binP, intsP, intP, eqP, nilP, builtinP, dvEqC, eqAll, isMapA, slA, Ua, Ub, Uf, Ug, Uk, Ul, Un, Up, Ur, Us, Ut, Uu, V0, V1, V2, V7, V9, Ve, Vr, PmL, simprocAttr, PmT, h2, h3, h6, hlt', hx, hy, celC, retQ, resP, tupA, fg, condP, condB_t, firstOk, List.mem_cons]; try (with_reducible (first | exact co_refl _ | exact co_own _ _ _ | exact co_nilsB | exact co_nilsL _ _)))))
        · refine co_eq (congrArg (fun b => AV.d (.bool b)) ?_)
          rw [celC_ne] at hb
          have hne : x ≠ y := by simpa using hb
          have : xc ≠ yc := by rintro rfl; rw [hx] at hy; exact hne (Option.some.inj hy)
          simp [Back.same, this]
        · rw [celC_ne] at hb
          have hxy : x = y := by simpa using hb
          refine ⟨xc.length - (k + 1), by omega, k + 1, ?_, ?_, ?_, ?_, ?_, by omega, rfl, ?_⟩
          case refine_6 => rw [List.take_add_one, List.take_add_one, hs, hx, hy, hxy]
          all_goals (simp only [St.cut, Mem.cut, fg, fgs, upd_app, Nat.reduceEqDiff, ↓reduceIte, List.take_nil, List.map_nil, List.take_succ_cons, List.map_cons, Option.map_some, Nat.reduceLT, Int.natCast_add, Int.cast_ofNat_Int, h2, h3, Back.c]; try rfl)
      · have hlt' := eq_false hlt
        obtain rfl : xc = yc := by rw [← List.take_of_length_le (l := xc) (i := k) (by omega), ← List.take_of_length_le (l := yc) (i := k) (by omega), hs]
        repeat' (first
          | ((with_reducible (first
           | (refine PW.seq fun K1 hK1 => ?_) | ((refine PW.region fun K2 hK2 => ?_; try simp only [List.append_eq, List.cons_append, List.nil_append])) | ((refine hK3 _ ?_; clear hK3)) | ((refine opsP_nil ?_; refine hK2 _ ?_; clear hK2))
           | (refine PW.exit ?_) | (refine PW.ret ?_) | ((refine hY1 ?_; clear hX1 hY1; try simp only [hb])) )))
          | ((simp only [thenP, blockP, ↓reduceIte]; (try ((repeat (fail_if_success (with_reducible refine hK1 _ ?_)); clear hK1); (with_reducible refine hK1 _ ?_); clear hK1))))
          | (((first | (((with_reducible refine opsP_cons fun K3 hK3 => ?_); simp only [wantP, opP, valP, Ur, Us])) | ((with_reducible refine PW.condM fun X1 Y1 hX1 hY1 => ?_)) | (skip)); simp (disch := omega) only [St.eval, St.put, upd_app, avOf, avOf1, loadA, lenP, binP, intsP, intP, nilP, builtinP, isMapA, slA, Ua, Uk, Ul, V9, Ve, PmL, simprocAttr, PmT, h2, h6, hlt', retQ, resP, tupA, fg, condP, condB_f]; try (with_reducible (first | exact co_refl _ | exact co_own _ _ _ | exact co_nilsB | exact co_nilsL _ _)))))
        exact co_eq (by rw [back_same_self])
end PM
end Go.Proofs.YthaekefdadccaaaDoor
