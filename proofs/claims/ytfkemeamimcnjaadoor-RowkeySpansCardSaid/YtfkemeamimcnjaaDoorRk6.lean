/- rowkey in the abstract: rows that may be handed in. rowkey in the abstract: is a number in a list. -/
import Derived.Test.YtfkemeamimcnjaaDoorRk4
namespace Go.Proofs.YtfkemeamimcnjaaDoor
open Go.RowKit
set_option maxRecDepth 100000
namespace PM
def okVC (v : XV) (c : Col) : Bool := fitsV v c.ty && !(v.null && c.nn)
theorem rowFits_no : ∀ {R : List XV} {C : List Col} {k : Nat} {v : XV} {c : Col}, R[k]? = some v → C[k]? = some c → okVC v c = false → rowFits R C = false
  | [], C, k, v, c, h, _, _ => by simp at h
  | _ :: _, [], k, v, c, _, h, _ => by simp at h
  | a :: R, b :: C, 0, v, c, h, g, e => by
    simp only [List.getElem?_cons_zero, Option.some.injEq] at h g
    subst h g
    unfold rowFits
    unfold okVC at e
    rw [← Bool.and_assoc, e]
    rfl
  | a :: R, b :: C, k + 1, v, c, h, g, e => by
    rw [List.getElem?_cons_succ] at h g
    unfold rowFits
    rw [rowFits_no h g e]
    simp
theorem rowFits_len : ∀ {R : List XV} {C : List Col}, R.length ≠ C.length → rowFits R C = false
  | [], [], h => by simp at h
  | [], _ :: _, _ => rfl
  | _ :: _, [], _ => rfl
  | a :: R, b :: C, h => by
    unfold rowFits
    rw [rowFits_len (R := R) (C := C) (by simpa using h)]
    simp
theorem rowFits_ok : ∀ {R : List XV} {C : List Col}, R.length = C.length → (∀ (k : Nat) (v : XV) (c : Col), R[k]? = some v → C[k]? = some c → okVC v c = true) → rowFits R C = true
  | [], [], _, _ => rfl
  | [], _ :: _, h, _ => by simp at h
  | _ :: _, [], h, _ => by simp at h
  | a :: R, b :: C, h, g => by
    have h0 := g 0 a b rfl rfl
    unfold okVC at h0
    unfold rowFits
    rw [rowFits_ok (by simpa using h) fun k v c hv hc => g (k + 1) v c (by rw [List.getElem?_cons_succ]; exact hv) (by rw [List.getElem?_cons_succ]; exact hc)]
    rw [Bool.and_true]
    exact h0
set_option maxHeartbeats 4000000 in
theorem pRowed (T : Tb) (R : List XV) : Pure Tryd.prog 39 [T.v, vl R] (.d (.bool (rowFits R T.cols))) := by
  refine pure_intro Tryd.func39 rfl rfl rfl 42 rfl (fun hh => ?_)
  have hml : maxLen = 9223372036854775807 := rfl
  have hT := hh T.v (by simp)
  obtain ⟨tid, tnm, tcols, tkey, tix⟩ := T
  have hl : tcols.length ≤ maxLen := by
    have := (has_sl (has_agg hT (.d (.sl 7 (encL Col.c tcols))) (by simp [Tb.c]))).1
    rwa [encL_len] at this
  have hRl := (has_sl (hh (vl R) (by simp))).1
  rw [encL_len] at hRl
  by_cases hne : (R.length : Int) = tcols.length
  case neg =>
    have hne' := eq_false hne
    have hu : rowFits R tcols = false := rowFits_len (by omega)
    repeat' (first
      | ((with_reducible (first
       | (refine PW.seq fun K1 hK1 => ?_) | (refine PW.region fun K2 hK2 => ?_) | ((refine hK3 _ ?_; clear hK3)) | ((refine opsP_nil ?_; refine hK2 _ ?_; clear hK2)) 
       | (refine PW.ret ?_) | ((refine hX1 ?_; clear hX1 hY1; try simp only [hb])) )))
      | ((simp only [thenP]; (try ((repeat (fail_if_success (with_reducible refine hK1 _ ?_)); clear hK1); (with_reducible refine hK1 _ ?_); clear hK1))))
      | (((first | (((with_reducible refine opsP_cons fun K3 hK3 => ?_); simp only [wantP, opP, valP, Ur, Us])) | ((with_reducible refine PW.condM fun X1 Y1 hX1 hY1 => ?_)) | (skip)); simp (disch := omega) only [St.eval, St.put, upd_app, iniT_app, avOf, avOf1, nom, cellsA, AV.okv, loadA, lenP, binP, intsP, intP, nilP, builtinP, isMapA, slA, U7, U8, Ua, Ug, Uk, Ul, Ut, V9, Ve, PmL, simprocAttr, PmT, Tb.v, Tb.c, hne', hu, retQ, resP, tupA, fg, condP, condB_t]; try (with_reducible (first | exact co_refl _ | exact co_own _ _ _ | exact co_nilsB | exact co_nilsL _ _)))))
  have hne' := eq_true hne
  have hleq : R.length = tcols.length := by omega
  repeat' (first
    | ((with_reducible (first
     | (refine PW.seq fun K1 hK1 => ?_) | (refine PW.region fun K2 hK2 => ?_) | ((refine hK3 _ ?_; clear hK3)) | ((refine opsP_nil ?_; refine hK2 _ ?_; clear hK2)) | (refine PW.block ?_) | (refine PW.skip ?_)
     | ((refine hY1 ?_; clear hX1 hY1; try simp only [hb])) )))
    | ((simp only [thenP]; (try ((repeat (fail_if_success (with_reducible refine hK1 _ ?_)); clear hK1); (with_reducible refine hK1 _ ?_); clear hK1))))
    | (((first | (((with_reducible refine opsP_cons fun K3 hK3 => ?_); simp only [wantP, opP, valP, Ur, Us])) | ((with_reducible refine PW.condM fun X1 Y1 hX1 hY1 => ?_)) | (skip)); simp (disch := omega) only [St.eval, St.put, upd_app, iniT_app, avOf, avOf1, nom, cellsA, AV.okv, loadA, lenP, binP, intsP, intP, nilP, builtinP, isMapA, slA, U7, U8, Ua, Ug, Uk, Ul, Ut, V9, Ve, PmL, simprocAttr, PmT, Tb.v, Tb.c, hne', condP, condB_f]; try (with_reducible (first | exact co_refl _ | exact co_own _ _ _ | exact co_nilsB | exact co_nilsL _ _)))))
  (with_reducible refine PW.loop (fun n s => ∃ (k : Nat), s.t 2 = .ptr 0 0 ∧ s.t 13 = vl R ∧ s.t 14 = .d (.int .i64 R.length) ∧ s.t 15 = .d (.int .i64 k) ∧ s.n = 42 ∧ s.m = ⟨[some (26, Tb.c ⟨tid, tnm, tcols, tkey, tix⟩)], []⟩ ∧ k ≤ R.length ∧ (∀ (j : Nat) (v : XV) (c : Col), j < k → R[j]? = some v → tcols[j]? = some c → okVC v c = true) ∧ n = R.length - k) R.length ?_ ?_)
  · exact ⟨0, rfl, rfl, rfl, rfl, rfl, rfl, Nat.zero_le _, fun j v c hj => absurd hj (by omega), rfl⟩
  rintro n ⟨t, nn, m⟩ ⟨k, h2, h13, h14, h15, hn, hm, hk, hall, hnk⟩ - -
  simp only at h2 h13 h14 h15 hn hm
  subst hn hm hnk
  by_cases hlt : (k : Int) < R.length
  · have hlt' := eq_true hlt
    obtain ⟨v, hv⟩ : ∃ v, R[k]? = some v := ⟨_, List.getElem?_eq_getElem (by omega)⟩
    obtain ⟨c, hc⟩ : ∃ c, tcols[k]? = some c := ⟨_, List.getElem?_eq_getElem (by omega)⟩
    have hw : IntKind.i64.wrap ((k : Int) + 1) = k + 1 := IntWalk.i64_in ((k : Int) + 1) (by omega)
    have hC := pFits v c.ty
    unfold XV.v XV.c at hC
    by_cases hok : okVC v c = true
    · have hfit : fitsV v c.ty = true := by unfold okVC at hok; simp only [Bool.and_eq_true] at hok; exact hok.1
      have hall' : ∀ (j : Nat) (v : XV) (c : Col), j < k + 1 → R[j]? = some v → tcols[j]? = some c → okVC v c = true := fun j v' c' hj hv' hc' => by
        by_cases e : j = k
        · subst e
          rw [hv] at hv'; rw [hc] at hc'
          cases hv'; cases hc'
          exact hok
        · exact hall j v' c' (by omega) hv' hc'
      rw [hfit] at hC
      by_cases hnu : v.null = true
      · have hnn : c.nn = false := by unfold okVC at hok; rw [hfit, hnu] at hok; simpa using hok
        rw [hnu] at hC
        repeat' (first
          | ((with_reducible (first
           | (refine PW.seq fun K1 hK1 => ?_) | (refine PW.region fun K2 hK2 => ?_) | ((refine hK3 _ ?_; clear hK3)) | ((refine opsP_nil ?_; refine hK2 _ ?_; clear hK2)) | (refine PW.block ?_) | (refine PW.skip ?_)
           | ((refine hX1 ?_; clear hX1 hY1; try simp only [hb])) | ((refine hY1 ?_; clear hX1 hY1; try simp only [hb])) | ((refine opsO_nil ?_; refine hK2 _ ?_; clear hK2)) | ((refine keepA_intro ?_ ?_; focus (first | exact keep_same _ _ | exact keep_box _ _ _ _ | exact keep_hd _ _ _ _ _ | exact keep_02 _ _ _ _ _ _ _ | exact keep_1 _ _ _ _ _ _ _))))))
          | (((with_reducible refine cC_pure ?_ (hC) (fun _ => ?_)); (focus ((repeat' constructor) <;> (simp only [purAs, purA, Vf, Bool.and_self, Tb.c, h2, h13, h14, h15, hlt', hv, hc, hw, Col.c, XV.cd, hnu, hnn]; done)))))
          | (((with_reducible refine PW.drawR (id := 6) mixed [] [(0, true), (1, true), (2, true), (3, true), (4, true), (5, true), (6, true), (7, false), (8, true), (9, true), (10, true), (11, true), (12, true), (13, true), (14, true), (15, true), (16, true), (17, true), (18, true), (19, true), (20, true)] (by kernel_rfl) (by decide) fun K2 hK2 => ?_)))
          | (((with_reducible refine And.intro ?_ ?_); (focus (first | omega | (simp; done) | assumption))))
          | ((simp only [thenP, blockP]; (try ((repeat (fail_if_success (with_reducible refine hK1 _ ?_)); clear hK1); (with_reducible refine hK1 _ ?_); clear hK1))))
          | (((first | (((with_reducible refine opsP_cons fun K3 hK3 => ?_); simp only [wantP, opP, valP])) | (((with_reducible refine opsO_first (o := ?_) ?_ fun K3 hK3 => ?_); rotate_left 1; (focus (simp only [Uz, Ub, Ua] <;> rfl)); simp only [wantP, firstP, valP])) | (((with_reducible refine opsO_only (o := ?_) ?_ fun K3 hK3 => ?_); rotate_left 1; (focus (simp only [Uz, Ub, Ua] <;> rfl)); simp only [wantP, opP, Ur, Us, Uw, Ux])) | ((with_reducible refine PW.condM fun X1 Y1 hX1 hY1 => ?_)) | (skip)); simp (disch := omega) only [wantB_tt, wantB_ff, St.eval, St.put, upd_app, avOf, avOf1, cellsA, AV.okv, loadA, binP, intsP, intP, nilP, unP, slA, putCells, Ua, Ub, Uc, Ud, Uf, Ug, Uk, Ul, Un, Up, Ur, Us, Ut, Uu, Uv, Uz, V0, V1, V2, V4, V7, V9, Ve, Vr, PmL, simprocAttr, PmT, Tb.c, h2, h13, h14, h15, hlt', hv, hc, hw, Col.c, XV.cd, hnu, hnn, condP, condB_t, condB_f, firstOk, List.mem_cons]; try (with_reducible (first | exact co_refl _ | exact co_own _ _ _ | exact co_nilsB | exact co_nilsL _ _)))))
        refine ⟨R.length - (k + 1), by omega, k + 1, ?_, ?_, ?_, ?_, ?_, ?_, by omega, hall', rfl⟩
        all_goals (simp only [St.cut, Mem.cut, fg, fgs, upd_app, Nat.reduceEqDiff, ↓reduceIte, List.take_nil, List.map_nil, List.take_succ_cons, List.take_zero, List.map_cons, Option.map_some, Nat.zero_lt_one, Int.natCast_add, Int.cast_ofNat_Int, h2, h13, h14]; try rfl)
      · have hnu' : v.null = false := by simpa using hnu
        rw [hnu'] at hC
        repeat' (first
          | ((with_reducible (first
           | (refine PW.seq fun K1 hK1 => ?_) | (refine PW.region fun K2 hK2 => ?_) | ((refine hK3 _ ?_; clear hK3)) | ((refine opsP_nil ?_; refine hK2 _ ?_; clear hK2)) | (refine PW.block ?_) | (refine PW.skip ?_)
           | ((refine hX1 ?_; clear hX1 hY1; try simp only [hb])) | ((refine hY1 ?_; clear hX1 hY1; try simp only [hb])) | ((refine opsO_nil ?_; refine hK2 _ ?_; clear hK2)) | ((refine keepA_intro ?_ ?_; focus (first | exact keep_same _ _ | exact keep_box _ _ _ _ | exact keep_hd _ _ _ _ _ | exact keep_02 _ _ _ _ _ _ _ | exact keep_1 _ _ _ _ _ _ _))))))
          | (((with_reducible refine cC_pure ?_ (hC) (fun _ => ?_)); (focus ((repeat' constructor) <;> (simp only [purAs, purA, Vf, Bool.and_self, Tb.c, h2, h13, h14, h15, hlt', hv, hc, hw, Col.c, XV.cd, hnu']; done)))))
          | (((with_reducible refine PW.drawR (id := 6) mixed [] [(0, true), (1, true), (2, true), (3, true), (4, true), (5, true), (6, true), (7, false), (8, true), (9, true), (10, true), (11, true), (12, true), (13, true), (14, true), (15, true), (16, true), (17, true), (18, true), (19, true), (20, true)] (by kernel_rfl) (by decide) fun K2 hK2 => ?_)))
          | (((with_reducible refine And.intro ?_ ?_); (focus (first | omega | (simp; done) | assumption))))
          | ((simp only [thenP, blockP]; (try ((repeat (fail_if_success (with_reducible refine hK1 _ ?_)); clear hK1); (with_reducible refine hK1 _ ?_); clear hK1))))
          | (((first | (((with_reducible refine opsP_cons fun K3 hK3 => ?_); simp only [wantP, opP, valP])) | (((with_reducible refine opsO_first (o := ?_) ?_ fun K3 hK3 => ?_); rotate_left 1; (focus (simp only [Uz, Ub, Ua] <;> rfl)); simp only [wantP, firstP, valP])) | (((with_reducible refine opsO_only (o := ?_) ?_ fun K3 hK3 => ?_); rotate_left 1; (focus (simp only [Uz, Ub, Ua] <;> rfl)); simp only [wantP, opP, Ur, Us, Uw, Ux])) | ((with_reducible refine PW.condM fun X1 Y1 hX1 hY1 => ?_)) | (skip)); simp (disch := omega) only [wantB_ff, wantB_ft, St.eval, St.put, upd_app, avOf, avOf1, cellsA, AV.okv, loadA, binP, intsP, intP, nilP, unP, slA, putCells, Ua, Ub, Uc, Ud, Uf, Ug, Uk, Ul, Un, Up, Ur, Us, Ut, Uu, Uv, Uz, V0, V1, V2, V4, V7, V9, Ve, Vr, PmL, simprocAttr, PmT, Tb.c, h2, h13, h14, h15, hlt', hv, hc, hw, Col.c, XV.cd, hnu', condP, condB_t, condB_f, firstOk, List.mem_cons]; try (with_reducible (first | exact co_refl _ | exact co_own _ _ _ | exact co_nilsB | exact co_nilsL _ _)))))
        refine ⟨R.length - (k + 1), by omega, k + 1, ?_, ?_, ?_, ?_, ?_, ?_, by omega, hall', rfl⟩
        all_goals (simp only [St.cut, Mem.cut, fg, fgs, upd_app, Nat.reduceEqDiff, ↓reduceIte, List.take_nil, List.map_nil, List.take_succ_cons, List.take_zero, List.map_cons, Option.map_some, Nat.zero_lt_one, Int.natCast_add, Int.cast_ofNat_Int, h2, h13, h14]; try rfl)
    · have hok' : okVC v c = false := by simpa using hok
      have hu := rowFits_no hv hc hok'
      by_cases hfit : fitsV v c.ty = true
      · have hnn : v.null = true ∧ c.nn = true := by unfold okVC at hok'; rw [hfit] at hok'; simpa using hok'
        rw [hfit] at hC
        obtain ⟨hnu, hnn⟩ := hnn
        rw [hnu] at hC
        repeat' (first
          | ((with_reducible (first
           | (refine PW.seq fun K1 hK1 => ?_) | (refine PW.region fun K2 hK2 => ?_) | ((refine hK3 _ ?_; clear hK3)) | ((refine opsP_nil ?_; refine hK2 _ ?_; clear hK2)) | (refine PW.block ?_) | (refine PW.skip ?_)
           | (refine PW.ret ?_) | ((refine hX1 ?_; clear hX1 hY1; try simp only [hb])) | ((refine opsO_nil ?_; refine hK2 _ ?_; clear hK2)) | ((refine keepA_intro ?_ ?_; focus (first | exact keep_same _ _ | exact keep_box _ _ _ _ | exact keep_hd _ _ _ _ _ | exact keep_02 _ _ _ _ _ _ _ | exact keep_1 _ _ _ _ _ _ _))))))
          | (((with_reducible refine cC_pure ?_ (hC) (fun _ => ?_)); (focus ((repeat' constructor) <;> (simp only [purAs, purA, Vf, Bool.and_self, Tb.c, h2, h13, h14, h15, hlt', hv, hc, hw, Col.c, XV.cd, hnu, hnn, hu]; done)))))
          | (((with_reducible refine PW.drawR (id := 6) mixed [] [(0, true), (1, true), (2, true), (3, true), (4, true), (5, true), (6, true), (7, false), (8, true), (9, true), (10, true), (11, true), (12, true), (13, true), (14, true), (15, true), (16, true), (17, true), (18, true), (19, true), (20, true)] (by kernel_rfl) (by decide) fun K2 hK2 => ?_)))
          | (((with_reducible refine And.intro ?_ ?_); (focus (first | omega | (simp; done) | assumption))))
          | ((simp only [thenP, blockP]; (try ((repeat (fail_if_success (with_reducible refine hK1 _ ?_)); clear hK1); (with_reducible refine hK1 _ ?_); clear hK1))))
          | (((first | (((with_reducible refine opsP_cons fun K3 hK3 => ?_); simp only [wantP, opP, valP])) | (((with_reducible refine opsO_first (o := ?_) ?_ fun K3 hK3 => ?_); rotate_left 1; (focus (simp only [Uz, Ub, Ua] <;> rfl)); simp only [wantP, firstP, valP])) | (((with_reducible refine opsO_only (o := ?_) ?_ fun K3 hK3 => ?_); rotate_left 1; (focus (simp only [Uz, Ub, Ua] <;> rfl)); simp only [wantP, opP, Ur, Us, Uw, Ux])) | ((with_reducible refine PW.condM fun X1 Y1 hX1 hY1 => ?_)) | (skip)); simp (disch := omega) only [wantB_tt, wantB_ff, St.eval, St.put, upd_app, avOf, avOf1, cellsA, AV.okv, loadA, binP, intsP, intP, nilP, unP, slA, putCells, Ua, Ub, Uc, Ud, Uf, Ug, Uk, Ul, Un, Up, Ur, Us, Ut, Uu, Uv, Uz, V0, V1, V2, V4, V7, V9, Ve, Vr, PmL, simprocAttr, PmT, Tb.c, h2, h13, h14, h15, hlt', hv, hc, Col.c, XV.cd, hnu, hnn, hu, retQ, resP, tupA, fg, condP, condB_t, firstOk, List.mem_cons]; try (with_reducible (first | exact co_refl _ | exact co_own _ _ _ | exact co_nilsB | exact co_nilsL _ _)))))
      · have hfit' : fitsV v c.ty = false := by simpa using hfit
        rw [hfit'] at hC
        repeat' (first
          | ((with_reducible (first
           | (refine PW.seq fun K1 hK1 => ?_) | (refine PW.region fun K2 hK2 => ?_) | ((refine hK3 _ ?_; clear hK3)) | ((refine opsP_nil ?_; refine hK2 _ ?_; clear hK2)) | (refine PW.block ?_) | (refine PW.skip ?_)
           | (refine PW.ret ?_) | ((refine hX1 ?_; clear hX1 hY1; try simp only [hb])) | ((refine opsO_nil ?_; refine hK2 _ ?_; clear hK2)) | ((refine keepA_intro ?_ ?_; focus (first | exact keep_same _ _ | exact keep_box _ _ _ _ | exact keep_hd _ _ _ _ _ | exact keep_02 _ _ _ _ _ _ _ | exact keep_1 _ _ _ _ _ _ _))))))
          | (((with_reducible refine cC_pure ?_ (hC) (fun _ => ?_)); (focus ((repeat' constructor) <;> (simp only [purAs, purA, Vf, Bool.and_self, Tb.c, h2, h13, h14, h15, hlt', hv, hc, hw, Col.c, XV.cd, hu]; done)))))
          | (((with_reducible refine PW.drawR (id := 6) mixed [] [(0, true), (1, true), (2, true), (3, true), (4, true), (5, true), (6, true), (7, false), (8, true), (9, true), (10, true), (11, true), (12, true), (13, true), (14, true), (15, true), (16, true), (17, true), (18, true), (19, true), (20, true)] (by kernel_rfl) (by decide) fun K2 hK2 => ?_)))
          | (((with_reducible refine And.intro ?_ ?_); (focus (first | omega | (simp; done) | assumption))))
          | ((simp only [thenP, blockP]; (try ((repeat (fail_if_success (with_reducible refine hK1 _ ?_)); clear hK1); (with_reducible refine hK1 _ ?_); clear hK1))))
          | (((first | (((with_reducible refine opsP_cons fun K3 hK3 => ?_); simp only [wantP, opP, valP])) | (((with_reducible refine opsO_first (o := ?_) ?_ fun K3 hK3 => ?_); rotate_left 1; (focus (simp only [Uz, Ub, Ua] <;> rfl)); simp only [wantP, firstP, valP])) | (((with_reducible refine opsO_only (o := ?_) ?_ fun K3 hK3 => ?_); rotate_left 1; (focus (simp only [Uz, Ub, Ua] <;> rfl)); simp only [wantP, opP, Ur, Us, Uw, Ux])) | ((with_reducible refine PW.condM fun X1 Y1 hX1 hY1 => ?_)) | (skip)); simp (disch := omega) only [wantB_tf, St.eval, St.put, upd_app, avOf, avOf1, cellsA, AV.okv, loadA, binP, intsP, intP, nilP, unP, slA, putCells, Ua, Ub, Uc, Ud, Uf, Ug, Uk, Ul, Un, Up, Ur, Us, Ut, Uu, Uv, Uz, V0, V1, V2, V4, V7, V9, Ve, Vr, PmL, simprocAttr, PmT, Tb.c, h2, h13, h14, h15, hlt', hv, hc, Col.c, XV.cd, hu, retQ, resP, tupA, fg, condP, condB_t, firstOk, List.mem_cons]; try (with_reducible (first | exact co_refl _ | exact co_own _ _ _ | exact co_nilsB | exact co_nilsL _ _)))))
  have hkl : k = R.length := by omega
  subst hkl
  have hu : rowFits R tcols = true := rowFits_ok hleq fun j v c hv hc => hall j v c (List.getElem?_eq_some_iff.1 hv).1 hv hc
  have hlt' := eq_false hlt
  repeat' (first
    | ((with_reducible (first
     | (refine PW.seq fun K1 hK1 => ?_) | (refine PW.region fun K2 hK2 => ?_) | ((refine hK3 _ ?_; clear hK3)) | ((refine opsP_nil ?_; refine hK2 _ ?_; clear hK2)) 
     | (refine PW.exit ?_) | (refine PW.ret ?_) | ((refine hY1 ?_; clear hX1 hY1; try simp only [hb])) )))
    | ((simp only [thenP, blockP, ↓reduceIte]; (try ((repeat (fail_if_success (with_reducible refine hK1 _ ?_)); clear hK1); (with_reducible refine hK1 _ ?_); clear hK1))))
    | (((first | (((with_reducible refine opsP_cons fun K3 hK3 => ?_); simp only [wantP, opP, valP])) | ((with_reducible refine PW.condM fun X1 Y1 hX1 hY1 => ?_)) | (skip)); simp (disch := omega) only [St.eval, St.put, upd_app, avOf, avOf1, binP, intsP, intP, nilP, slA, PmL, simprocAttr, Tb.c, h14, h15, hlt', hu, retQ, resP, tupA, fg, condP, condB_f]; try (with_reducible (first | exact co_refl _ | exact co_own _ _ _ | exact co_nilsB | exact co_nilsL _ _)))))
end PM
end Go.Proofs.YtfkemeamimcnjaaDoor
namespace Go.Proofs.YtfkemeamimcnjaaDoor
open Go.RowKit
set_option maxRecDepth 100000
namespace PM
theorem idxI_at : ∀ {l : List Int} {k : Nat} {x : Int}, l[k]? = some x → x ∉ l.take k → idxI l x = k
  | [], k, x, h, _ => by simp at h
  | y :: l, 0, x, h, _ => by
    simp only [List.getElem?_cons_zero, Option.some.injEq] at h
    subst h
    unfold idxI
    simp
  | y :: l, k + 1, x, h, hm => by
    rw [List.getElem?_cons_succ] at h
    rw [List.take_succ_cons, List.mem_cons, not_or] at hm
    unfold idxI
    rw [if_neg (fun e => hm.1 e.symm), idxI_at h hm.2, if_neg (by omega)]
    omega
theorem idxI_none : ∀ {l : List Int} {x : Int}, x ∉ l → idxI l x = -1
  | [], x, _ => rfl
  | y :: l, x, h => by
    rw [List.mem_cons, not_or] at h
    unfold idxI
    rw [if_neg (fun e => h.1 e.symm), idxI_none h.2, if_pos rfl]
theorem idxI_mem {l : List Int} {x : Int} : decide (0 ≤ idxI l x) = l.contains x := by
  by_cases h : x ∈ l
  · have h1 : x ∉ l.take (l.idxOf x) := fun hm => by
      obtain ⟨j, hj⟩ := List.getElem?_of_mem hm
      rw [List.getElem?_take] at hj
      split at hj
      · rename_i hlt
        obtain ⟨hj1, hj2⟩ := List.getElem?_eq_some_iff.1 hj
        have h9 := List.not_of_lt_findIdx (p := (· == x)) (xs := l) hlt
        rw [hj2] at h9
        simp at h9
      · cases hj
    have h2 : l[l.idxOf x]? = some x := by rw [List.getElem?_eq_getElem (List.idxOf_lt_length_of_mem h), List.getElem_idxOf]
    rw [idxI_at h2 h1]
    simp [h]
  · rw [idxI_none h]
    simp [h]
set_option maxHeartbeats 2000000 in
theorem pIndexInt (l : List Int) (x : Int) : Pure Tryd.prog 72 [il l, .d (.int .i64 x)] (.d (.int .i64 (idxI l x))) := by
  refine pure_intro Tryd.func72 rfl rfl rfl 19 rfl (fun hh => ?_)
  have hml : maxLen = 9223372036854775807 := rfl
  have hl := (has_sl (hh (il l) (by simp))).1
  rw [encL_len] at hl
  repeat' (first
    | ((with_reducible (first
     | (refine PW.seq fun K1 hK1 => ?_) | (refine PW.region fun K2 hK2 => ?_) | ((refine hK3 _ ?_; clear hK3)) | ((refine opsP_nil ?_; refine hK2 _ ?_; clear hK2)) 
     | (refine PW.block ?_) )))
    | ((simp only [thenP]; (try ((repeat (fail_if_success (with_reducible refine hK1 _ ?_)); clear hK1); (with_reducible refine hK1 _ ?_); clear hK1))))
    | (((first | (((with_reducible refine opsP_cons fun K3 hK3 => ?_); simp only [wantP, opP, valP, Ur, Us])) | (skip)); simp (disch := omega) only [St.eval, St.put, upd_app, iniT_app, avOf, avOf1, nom, lenP, builtinP, isMapA, U7, PmL, simprocAttr, PmT]; try (with_reducible (first | exact co_refl _ | exact co_own _ _ _ | exact co_nilsB | exact co_nilsL _ _)))))
  (with_reducible refine PW.loop (fun n s => ∃ (k : Nat), s.t 0 = il l ∧ s.t 1 = .d (.int .i64 x) ∧ s.t 6 = il l ∧ s.t 7 = .d (.int .i64 l.length) ∧ s.t 8 = .d (.int .i64 k) ∧ s.n = 19 ∧ s.m = nom ∧ k ≤ l.length ∧ x ∉ l.take k ∧ n = l.length - k) l.length ?_ ?_)
  · exact ⟨0, rfl, rfl, rfl, rfl, rfl, rfl, rfl, Nat.zero_le _, by simp, rfl⟩
  rintro n ⟨t, nn, m⟩ ⟨k, h0, h1, h6, h7, h8, hn, hm, hk, hno, hnk⟩ - -
  simp only at h0 h1 h6 h7 h8 hn hm
  subst hn hm hnk
  by_cases hlt : (k : Int) < l.length
  · have hlt' := eq_true hlt
    obtain ⟨y, hy⟩ : ∃ y, l[k]? = some y := ⟨_, List.getElem?_eq_getElem (by omega)⟩
    have hw : IntKind.i64.wrap ((k : Int) + 1) = k + 1 := IntWalk.i64_in ((k : Int) + 1) (by omega)
    by_cases hxy : x = y
    · subst hxy
      have hu := idxI_at hy hno
      rw [hu]
      repeat' (first
        | ((with_reducible (first
         | (refine PW.seq fun K1 hK1 => ?_) | (refine PW.region fun K2 hK2 => ?_) | ((refine hK3 _ ?_; clear hK3)) | ((refine opsP_nil ?_; refine hK2 _ ?_; clear hK2)) 
         | (refine PW.block ?_) | (refine PW.skip ?_) | (refine PW.ret ?_) | ((refine hX1 ?_; clear hX1 hY1; try simp only [hb])) )))
        | (((with_reducible refine And.intro ?_ ?_); (focus (first | omega | (simp; done) | assumption))))
        | ((simp only [thenP, blockP]; (try ((repeat (fail_if_success (with_reducible refine hK1 _ ?_)); clear hK1); (with_reducible refine hK1 _ ?_); clear hK1))))
        | (((first | (((with_reducible refine opsP_cons fun K3 hK3 => ?_); simp only [wantP, opP, valP])) | ((with_reducible refine PW.condM fun X1 Y1 hX1 hY1 => ?_)) | (skip)); simp (disch := omega) only [St.eval, St.put, upd_app, nom, loadA, binP, intsP, intP, nilP, slA, Ur, Us, V2, V7, PmL, simprocAttr, PmT, h0, h1, h7, h8, hlt', hy, eI, retQ, resP, tupA, fg, condP, condB_t]; try (with_reducible (first | exact co_refl _ | exact co_own _ _ _ | exact co_nilsB | exact co_nilsL _ _)))))
    have hxy' := eq_false hxy
    repeat' (first
      | ((with_reducible (first
       | (refine PW.seq fun K1 hK1 => ?_) | (refine PW.region fun K2 hK2 => ?_) | ((refine hK3 _ ?_; clear hK3)) | ((refine opsP_nil ?_; refine hK2 _ ?_; clear hK2)) 
       | (refine PW.block ?_) | (refine PW.skip ?_) | ((refine hX1 ?_; clear hX1 hY1; try simp only [hb])) | ((refine hY1 ?_; clear hX1 hY1; try simp only [hb])) )))
      | (((with_reducible refine And.intro ?_ ?_); (focus (first | omega | (simp; done) | assumption))))
      | ((simp only [thenP, blockP]; (try ((repeat (fail_if_success (with_reducible refine hK1 _ ?_)); clear hK1); (with_reducible refine hK1 _ ?_); clear hK1))))
      | (((first | (((with_reducible refine opsP_cons fun K3 hK3 => ?_); simp only [wantP, opP, valP])) | ((with_reducible refine PW.condM fun X1 Y1 hX1 hY1 => ?_)) | (skip)); simp (disch := omega) only [St.eval, St.put, upd_app, avOf, avOf1, nom, loadA, binP, intsP, intP, nilP, slA, Ug, Ur, Us, V2, V7, Ve, PmL, simprocAttr, PmT, h0, h1, h7, h8, hlt', hy, hw, eI, hxy', condP, condB_t, condB_f]; try (with_reducible (first | exact co_refl _ | exact co_own _ _ _ | exact co_nilsB | exact co_nilsL _ _)))))
    have hno' : x ∉ l.take (k + 1) := by
      rw [List.take_add_one, hy]
      simp [hno, hxy]
    refine ⟨l.length - (k + 1), by omega, k + 1, ?_, ?_, ?_, ?_, ?_, ?_, ?_, by omega, hno', rfl⟩
    all_goals (simp only [St.cut, Mem.cut, fg, upd_app, Nat.reduceEqDiff, ↓reduceIte, List.take_nil, List.map_nil, Int.natCast_add, Int.cast_ofNat_Int, h0, h1, h6, h7]; try rfl)
  have hkl : k = l.length := by omega
  subst hkl
  rw [List.take_length] at hno
  have hu := idxI_none hno
  have hlt' := eq_false hlt
  repeat' (first
    | ((with_reducible (first
     | (refine PW.seq fun K1 hK1 => ?_) | (refine PW.region fun K2 hK2 => ?_) | ((refine hK3 _ ?_; clear hK3)) | ((refine opsP_nil ?_; refine hK2 _ ?_; clear hK2)) 
     | (refine PW.exit ?_) | (refine PW.ret ?_) | ((refine hY1 ?_; clear hX1 hY1; try simp only [hb])) )))
    | ((simp only [thenP, blockP, ↓reduceIte]; (try ((repeat (fail_if_success (with_reducible refine hK1 _ ?_)); clear hK1); (with_reducible refine hK1 _ ?_); clear hK1))))
    | (((first | (((with_reducible refine opsP_cons fun K3 hK3 => ?_); simp only [wantP, opP, valP])) | ((with_reducible refine PW.condM fun X1 Y1 hX1 hY1 => ?_)) | (skip)); simp (disch := omega) only [St.eval, St.put, upd_app, avOf, avOf1, nom, binP, intsP, intP, nilP, slA, PmL, simprocAttr, h7, h8, hlt', hu, retQ, resP, tupA, fg, condP, condB_f]; try (with_reducible (first | exact co_refl _ | exact co_own _ _ _ | exact co_nilsB | exact co_nilsL _ _)))))
set_option maxHeartbeats 2000000 in
theorem pContains (l : List Int) (x : Int) : Pure Tryd.prog 43 [il l, .d (.int .i64 x)] (.d (.bool (l.contains x))) := by
  refine pure_intro Tryd.func43 rfl rfl rfl 9 rfl (fun hh => ?_)
  have hu := idxI_mem (l := l) (x := x)
  repeat' (first
    | ((with_reducible (first
     | (refine PW.seq fun K1 hK1 => ?_) | (refine PW.region fun K2 hK2 => ?_) | ((refine hK3 _ ?_; clear hK3)) | ((refine opsP_nil ?_; refine hK2 _ ?_; clear hK2)) 
     | (refine PW.ret ?_) )))
    | (((with_reducible refine cC_pure ?_ (pIndexInt ?_ ?_) (fun _ => ?_)); (focus ((repeat' (first | (refine .cons ?_ ?_) | (exact .nil) | (exact .d _) )) <;> (simp only [purAs, purA, Vf, Bool.and_self, hu]; done)))))
    | ((simp only [thenP]; (try ((repeat (fail_if_success (with_reducible refine hK1 _ ?_)); clear hK1); (with_reducible refine hK1 _ ?_); clear hK1))))
    | (((first | (((with_reducible refine opsP_cons fun K3 hK3 => ?_); simp only [wantP, opP, valP, Ur, Us])) | (skip)); simp (disch := omega) only [St.eval, St.put, upd_app, iniT_app, avOf, avOf1, nom, binP, intsP, intP, nilP, slA, U7, U8, Uv, Ve, PmL, simprocAttr, hu, retQ, resP, tupA, fg]; try (with_reducible (first | exact co_refl _ | exact co_own _ _ _ | exact co_nilsB | exact co_nilsL _ _)))))
end PM
end Go.Proofs.YtfkemeamimcnjaaDoor
