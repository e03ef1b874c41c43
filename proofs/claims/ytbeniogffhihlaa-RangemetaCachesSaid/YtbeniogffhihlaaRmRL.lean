/- rangemeta's reference in the abstract: Forget, Learn. -/
import Derived.Test.YtbeniogffhihlaaRmP9
set_option linter.unusedVariables false
set_option linter.unusedSimpArgs false
namespace Go.Proofs.Ytbeniogffhihlaa
open Go.RowKit
set_option maxRecDepth 100000
namespace PM
def forgR (id : Int) : List Rg → List Rg
  | [] => []
  | x :: l => if x.id = id then forgR id l else x :: forgR id l
theorem forgR_len (id : Int) : ∀ l : List Rg, (forgR id l).length ≤ l.length
  | [] => Nat.le_refl _
  | x :: l => by
    have := forgR_len id l
    simp only [forgR]
    split <;> simp <;> omega
set_option maxHeartbeats 4000000 in
theorem pRForget (l : List Rg) (id : Int) (hl : l.length ≤ 100000) : Pure Try.prog 38 [rl l, .d (.int .i64 id)] (.tup [rl (forgR id l), .d (.bool (decide ((forgR id l).length < l.length)))]) := by
  refine pure_intro Try.func38 rfl rfl rfl 34 rfl (fun hh => ?_)
  repeat' (first
    | ((with_reducible (first
     | (refine PW.seq fun K1 hK1 => ?_) | (refine PW.region fun K2 hK2 => ?_) | ((refine hK3 _ ?_; clear hK3)) | ((refine opsP_nil ?_; refine hK2 _ ?_; clear hK2)) 
     | (refine PW.block ?_) )))
    | ((simp only [thenP]; (try ((repeat (fail_if_success (with_reducible refine hK1 _ ?_)); clear hK1); (with_reducible refine hK1 _ ?_); clear hK1))))
    | (((first | (((with_reducible refine opsP_cons fun K3 hK3 => ?_); simp only [wantP, opP, valP])) | (skip)); simp (disch := omega) only [St.eval, St.put, avOf, avOf1, nom, PmL, simprocAttr]; try (with_reducible (first | exact co_refl _ | exact co_own _ _ _ | exact co_nilsB | exact co_nilsL _ _)))))
  (with_reducible refine PW.nil2ownL (bx := ?_) Rg.c 6 39 4 (by decide) ?_ ?_ ?_; rotate_left 1; (focus (simp only [upd_app, Nat.reduceEqDiff, ↓reduceIte])); (focus (exact rfl)))
  (with_reducible refine PW.loop (fun n s => ∃ (k : Nat) (out : List Rg), s.t 0 = rl l ∧ s.t 1 = .d (.int .i64 id) ∧ s.t 6 = .own 0 4 (encL Rg.c out) ∧ s.t 7 = .d (.int .i64 k) ∧ s.n = 34 ∧ s.m = ⟨[], [some ⟨39, 4, out.length⟩]⟩ ∧ k ≤ l.length ∧ n = l.length - k ∧ out.length ≤ k ∧ out ++ forgR id (l.drop k) = forgR id l) l.length ?_ ?_)
  · exact ⟨0, [], rfl, rfl, rfl, rfl, rfl, rfl, Nat.zero_le _, rfl, Nat.le_refl _, rfl⟩
  rintro n ⟨t, nn, m⟩ ⟨k, out, h0, h1, h6, h7, hn, hm, hk, hnk, hol, ho⟩ - -
  simp only at h0 h1 h6 h7 hn hm
  subst hn hm
  by_cases hlt : (k : Int) < l.length
  · have hlt' := eq_true hlt
    have hw : IntKind.i64.wrap ((k : Int) + 1) = k + 1 := IntWalk.i64_in ((k : Int) + 1) (by omega)
    obtain ⟨x, hx⟩ : ∃ x, l[k]? = some x := ⟨_, List.getElem?_eq_getElem (by omega)⟩
    rw [drop_cons hx, forgR] at ho
    rcases Classical.propComplete (x.id = id) with hid | hid
    · rw [if_pos (of_eq_true hid)] at ho
      repeat' (first
        | ((with_reducible (first
         | (refine PW.seq fun K1 hK1 => ?_) | (refine PW.region fun K2 hK2 => ?_) | ((refine hK3 _ ?_; clear hK3)) | ((refine opsP_nil ?_; refine hK2 _ ?_; clear hK2)) 
         | (refine PW.block ?_) | (refine PW.skip ?_) | ((refine hX1 ?_; clear hX1 hY1; try simp only [hb])) | ((refine hY1 ?_; clear hX1 hY1; try simp only [hb])) )))
        | (((with_reducible refine And.intro ?_ ?_); (focus (first | omega | (simp; done) | assumption))))
        | ((simp only [thenP, blockP]; (try ((repeat (fail_if_success (with_reducible refine hK1 _ ?_)); clear hK1); (with_reducible refine hK1 _ ?_); clear hK1))))
        | (((first | (((with_reducible refine opsP_cons fun K3 hK3 => ?_); simp only [wantP, opP, valP, Ur, Us])) | ((with_reducible refine PW.condM fun X1 Y1 hX1 hY1 => ?_)) | (skip)); simp (disch := omega) only [St.eval, St.put, upd_app, avOf, avOf1, loadA, lenP, binP, intsP, intP, nilP, builtinP, isMapA, slA, Uf, Ug, Uk, Ur, Us, V2, V7, V9, Ve, PmL, simprocAttr, PmT, h0, h1, h7, hlt', hx, hw, hid, Rg.c, condP, condB_t, condB_f]; try (with_reducible (first | exact co_refl _ | exact co_own _ _ _ | exact co_nilsB | exact co_nilsL _ _)))))
      refine ⟨l.length - (k + 1), by omega, k + 1, out, ?_, ?_, ?_, ?_, ?_, ?_, by omega, rfl, by omega, ho⟩
      all_goals (simp only [St.cut, Mem.cut, fg, upd_app, Nat.reduceEqDiff, ↓reduceIte, List.take_nil, List.map_nil, List.take_succ_cons, Nat.zero_lt_one, Int.natCast_add, Int.cast_ofNat_Int, h0, h1, h6]; try rfl)
    · rw [if_neg (of_eq_false hid)] at ho
      repeat' (first
        | ((with_reducible (first
         | (refine PW.seq fun K1 hK1 => ?_) | (refine PW.region fun K2 hK2 => ?_) | ((refine hK3 _ ?_; clear hK3)) | ((refine opsP_nil ?_; refine hK2 _ ?_; clear hK2)) | (refine litX_old ?_) | (refine litC_data ?_) 
         | (refine PW.block ?_) | (refine PW.skip ?_) | ((refine hX1 ?_; clear hX1 hY1; try simp only [hb])) )))
        | (((with_reducible refine And.intro ?_ ?_); (focus (first | omega | (simp; done) | assumption))))
        | ((simp only [thenP, blockP]; (try ((repeat (fail_if_success (with_reducible refine hK1 _ ?_)); clear hK1); (with_reducible refine hK1 _ ?_); clear hK1))))
        | (((first | (((with_reducible refine opsP_cons fun K3 hK3 => ?_); simp only [wantP, opP, valP, Ur, Us, List.mapM_cons, List.mapM_nil, Uw, Ux])) | ((with_reducible refine PW.condM fun X1 Y1 hX1 hY1 => ?_)) | (skip)); simp (disch := omega) only [St.eval, St.put, upd_app, avOf, avOf1, cellsA, AV.okv, loadA, lenP, binP, intsP, intP, nilP, builtinP, appP, srcA, srcTy, isMapA, isBsl, U3, U4, U5, slA, elA, dv1, Ua, Uc, Uf, Ug, Uk, Un, Up, Ur, Us, Ut, Uu, Uv, List.mapM_cons, List.mapM_nil, Uw, Ux, V0, V1, V2, V4, Option.bind_eq_bind, Option.pure_def, V7, V9, Ve, UU9, Vr, PmL, simprocAttr, PmT, h0, h1, h6, h7, hlt', hx, hw, hid, Rg.c, condP, condB_t]; try (with_reducible (first | exact co_refl _ | exact co_own _ _ _ | exact co_nilsB | exact co_nilsL _ _)))))
      refine ⟨l.length - (k + 1), by omega, k + 1, out ++ [x], ?_, ?_, ?_, ?_, ?_, ?_, by omega, rfl, by simp; omega, by rw [List.append_assoc]; exact ho⟩
      all_goals (simp only [St.cut, Mem.cut, fg, upd_app, Nat.reduceEqDiff, ↓reduceIte, List.take_nil, List.map_nil, List.take_succ_cons, Nat.zero_lt_one, Nat.reduceAdd, List.length_append, List.length_cons, List.length_nil, Int.natCast_add, Int.cast_ofNat_Int, h0, h1, encL_snoc, Rg.c]; try rfl)
  · have hlt' := eq_false hlt
    obtain rfl : k = l.length := by omega
    rw [List.drop_length, forgR, List.append_nil] at ho
    subst ho
    repeat' (first
      | ((with_reducible (first
       | (refine PW.seq fun K1 hK1 => ?_) | (refine PW.region fun K2 hK2 => ?_) | ((refine hK3 _ ?_; clear hK3)) | ((refine opsP_nil ?_; refine hK2 _ ?_; clear hK2)) 
       | (refine PW.exit ?_) | (refine PW.ret ?_) | ((refine hY1 ?_; clear hX1 hY1; try simp only [hb])) )))
      | ((simp only [thenP, blockP, ↓reduceIte]; (try ((repeat (fail_if_success (with_reducible refine hK1 _ ?_)); clear hK1); (with_reducible refine hK1 _ ?_); clear hK1))))
      | (((first | (((with_reducible refine opsP_cons fun K3 hK3 => ?_); simp only [wantP, opP, valP, Ur, Us])) | ((with_reducible refine PW.condM fun X1 Y1 hX1 hY1 => ?_)) | (skip)); simp (disch := omega) only [St.eval, St.put, upd_app, lenP, binP, intsP, intP, nilP, builtinP, isMapA, slA, Vd, Ve, PmL, simprocAttr, PmT, h0, h6, h7, hlt', retQ, resP, tupA, fg, fgs, condP, condB_f]; try (with_reducible (first | exact co_refl _ | exact co_own _ _ _ | exact co_nilsB | exact co_nilsL _ _)))))
    have e : decide (((forgR id l).length : Int) < l.length) = decide ((forgR id l).length < l.length) := decide_eq_decide.2 (by omega)
    rw [e]
    exact co_refl _
def outR (r x : Rg) : Bool := spM x.f x.t r.f r.t || decide (x.id = r.id)
def stopR (r x : Rg) : Bool := outR r x && (decide (r.gen < x.gen) || (decide (x.gen = r.gen) && !x.same r))
def insR (r : Rg) : List Rg → Bool → List Rg
  | [], d => if d = true then [] else [r]
  | x :: l, d => if outR r x = true then insR r l d else if d = false ∧ 0 < cmpB x.f r.f then r :: x :: insR r l true else x :: insR r l d
theorem insR_len (r : Rg) : ∀ (l : List Rg) (d : Bool), (insR r l d).length ≤ l.length + 1
  | [], d => by unfold insR; split <;> simp
  | x :: l, d => by
    have h1 := insR_len r l d
    unfold insR
    split
    · simp; omega
    · split
      · have h2 : ∀ l : List Rg, (insR r l true).length ≤ l.length := fun l => by
          induction l with
          | nil => simp [insR]
          | cons y l ih =>
            unfold insR
            split
            · simp; omega
            · rw [if_neg (by simp)]; simp; omega
        have := h2 l
        simp
        omega
      · simp; omega
def learnR (r : Rg) (l : List Rg) : List Rg × Bool := if r.right = true ∧ l.any (stopR r) = false then (insR r l false, true) else (l, false)
set_option maxHeartbeats 16000000 in
theorem pRLearn (l : List Rg) (r : Rg) (hl : l.length ≤ 100000) : Pure Try.prog 36 [rl l, r.v] (.tup [rl (learnR r l).1, .d (.bool (learnR r l).2)]) := by
  refine pure_intro Try.func36 rfl rfl rfl 105 rfl (fun hh => ?_)
  cases hr : r.right with
  | false =>
    have e : learnR r l = (l, false) := if_neg (by rw [hr]; simp)
    repeat' (first
      | ((with_reducible (first
       | (refine PW.seq fun K1 hK1 => ?_) | (refine PW.region fun K2 hK2 => ?_) | ((refine hK3 _ ?_; clear hK3)) | ((refine opsP_nil ?_; refine hK2 _ ?_; clear hK2)) 
       | (refine PW.ret ?_) | ((refine hX1 ?_; clear hX1 hY1; try simp only [hb])) )))
      | (((with_reducible refine cC_pure ?_ (pRRight r) (fun _ => ?_)); (focus ((repeat' constructor) <;> (simp only [purAs, purA, Vf, Bool.and_self, hr]; done)))))
      | ((simp only [thenP]; (try ((repeat (fail_if_success (with_reducible refine hK1 _ ?_)); clear hK1); (with_reducible refine hK1 _ ?_); clear hK1))))
      | (((first | (((with_reducible refine opsP_cons fun K3 hK3 => ?_); simp only [wantP, opP, valP, Ur, Us])) | ((with_reducible refine PW.condM fun X1 Y1 hX1 hY1 => ?_)) | (skip)); simp (disch := omega) only [St.eval, St.put, upd_app, iniT_app, avOf, avOf1, nom, cellsA, AV.okv, loadA, unP, U7, U8, Ua, Uf, Ug, Uk, Un, Up, Ut, Uv, V9, Vr, PmL, simprocAttr, PmT, hr, retQ, resP, tupA, fg, fgs, condP, condB_t]; try (with_reducible (first | exact co_refl _ | exact co_own _ _ _ | exact co_nilsB | exact co_nilsL _ _)))))
    exact co_eq (by rw [e])
  | true =>
  repeat' (first
    | ((with_reducible (first
     | (refine PW.seq fun K1 hK1 => ?_) | (refine PW.region fun K2 hK2 => ?_) | ((refine hK3 _ ?_; clear hK3)) | ((refine opsP_nil ?_; refine hK2 _ ?_; clear hK2)) | (refine PW.block ?_) | (refine PW.skip ?_)
     | ((refine hY1 ?_; clear hX1 hY1; try simp only [hb])) )))
    | (((with_reducible refine cC_pure ?_ (pRRight r) (fun _ => ?_)); (focus ((repeat' constructor) <;> (simp only [purAs, purA, Vf, Bool.and_self, hr]; done)))))
    | ((simp only [thenP]; (try ((repeat (fail_if_success (with_reducible refine hK1 _ ?_)); clear hK1); (with_reducible refine hK1 _ ?_); clear hK1))))
    | (((first | (((with_reducible refine opsP_cons fun K3 hK3 => ?_); simp only [wantP, opP, valP, Ur, Us])) | ((with_reducible refine PW.condM fun X1 Y1 hX1 hY1 => ?_)) | (skip)); simp (disch := omega) only [St.eval, St.put, upd_app, iniT_app, avOf, avOf1, nom, cellsA, AV.okv, loadA, unP, U7, U8, Ua, Uf, Ug, Uk, Un, Up, Ut, Uv, V9, Vr, PmL, simprocAttr, PmT, hr, condP, condB_f]; try (with_reducible (first | exact co_refl _ | exact co_own _ _ _ | exact co_nilsB | exact co_nilsL _ _)))))
  (with_reducible refine PW.nil2ownL (bx := ?_) Rg.c 7 39 4 (by decide) ?_ ?_ ?_; rotate_left 1; (focus (simp only [upd_app, Nat.reduceEqDiff, ↓reduceIte])); (focus (exact rfl)))
  (with_reducible refine PW.loop (fun n s => ∃ (k : Nat) (out : List Rg) (d : Bool), s.t 0 = rl l ∧ s.t 3 = .ptr 0 0 ∧ s.t 7 = .own 0 4 (encL Rg.c out) ∧ s.t 8 = .d (.bool d) ∧ s.t 9 = .d (.int .i64 k) ∧ s.n = 105 ∧ s.m = ⟨[some (39, [.d (.int .i64 r.id), bs r.f, bs r.t, .d (.int .i64 r.gen)])], [some ⟨39, 4, out.length⟩]⟩ ∧ k ≤ l.length ∧ n = l.length - k ∧ out.length ≤ 2 * k ∧ out ++ insR r (l.drop k) d = insR r l false ∧ (l.take k).any (stopR r) = false) l.length ?_ ?_)
  · exact ⟨0, [], false, rfl, rfl, rfl, rfl, rfl, rfl, rfl, Nat.zero_le _, rfl, Nat.le_refl _, rfl, rfl⟩
  rintro n ⟨t, nn, m⟩ ⟨k, out, d, h0, h3, h7, h8, h9, hn, hm, hk, hnk, hol, ho, hno⟩ - -
  simp only at h0 h3 h7 h8 h9 hn hm
  subst hn hm
  by_cases hlt : (k : Int) < l.length
  · have hlt' := eq_true hlt
    have hw : IntKind.i64.wrap ((k : Int) + 1) = k + 1 := IntWalk.i64_in ((k : Int) + 1) (by omega)
    obtain ⟨x, hx⟩ : ∃ x, l[k]? = some x := ⟨_, List.getElem?_eq_getElem (by omega)⟩
    have ht : l.take (k + 1) = l.take k ++ [x] := by rw [List.take_add_one, hx]; rfl
    rw [drop_cons hx, insR] at ho
    have hM := pRMeet x.f x.t r.f r.t
    have hSm := pSame x r
    cases hoq : outR r x with
    | true =>
      rw [if_pos hoq] at ho
      have hcase : (spM x.f x.t r.f r.t = true) ∨ (spM x.f x.t r.f r.t = false ∧ x.id = r.id) := by
        unfold outR at hoq
        cases h : spM x.f x.t r.f r.t with
        | true => exact .inl rfl
        | false => rw [h] at hoq; exact .inr ⟨rfl, by simpa using hoq⟩
      have hstop : stopR r x = true → learnR r l = (l, false) := fun hs => if_neg (fun h => by
        have : l.any (stopR r) = true := List.any_eq_true.2 ⟨x, List.mem_of_getElem? hx, hs⟩
        rw [this] at h
        exact absurd h.2 (by simp))
      have hno1 : stopR r x = false → (l.take (k + 1)).any (stopR r) = false := fun hs => by rw [ht, List.any_append, hno]; simp [hs]
      rcases hcase with hm1 | ⟨hm1, hid⟩
      · rw [hm1] at hM
        rcases Int.lt_trichotomy r.gen x.gen with hg | hg | hg
        · have hg' := eq_true hg
          have hs : stopR r x = true := by unfold stopR; rw [hoq, decide_eq_true hg]; rfl
          have e := hstop hs
          repeat' (first
            | ((with_reducible (first
             | (refine PW.seq fun K1 hK1 => ?_) | (refine PW.region fun K2 hK2 => ?_) | ((refine hK3 _ ?_; clear hK3)) | ((refine opsP_nil ?_; refine hK2 _ ?_; clear hK2)) | (refine PW.block ?_) | (refine PW.skip ?_)
             | (refine PW.ret ?_) | ((refine hX1 ?_; clear hX1 hY1; try simp only [hb])) | ((refine opsO_nil ?_; refine hK2 _ ?_; clear hK2)) | ((refine keepA_intro ?_ ?_; focus (first | exact keep_same _ _ | exact keep_box _ _ _ _ | exact keep_hd _ _ _ _ _ | exact keep_02 _ _ _ _ _ _ _ | exact keep_1 _ _ _ _ _ _ _))))))
            | (((with_reducible refine cC_pure ?_ (hM) (fun _ => ?_)); (focus ((repeat' constructor) <;> (simp only [purAs, purA, Vf, Bool.and_self, h0, h3, h7, h8, h9, hlt', hx, hg', Rg.c]; done)))))
            | (((with_reducible refine cC_pure ?_ (hSm) (fun _ => ?_)); (focus ((repeat' constructor) <;> (simp only [purAs, purA, Vf, Bool.and_self, h0, h3, h7, h8, h9, hlt', hx, hg', Rg.c]; done)))))
            | (((with_reducible refine PW.drawR (id := 9) mixed [] [(0, true), (1, true), (2, true), (3, true), (4, true), (5, true), (6, true), (7, false), (8, true)] (by kernel_rfl) (by decide) fun K2 hK2 => ?_)))
            | (((with_reducible refine PW.drawR (id := 10) mixed [] [(0, true), (1, true), (2, true), (3, true), (4, true), (5, false), (6, true)] (by kernel_rfl) (by decide) fun K2 hK2 => ?_)))
            | (((with_reducible refine PW.drawR (id := 11) mixed [] [(0, true), (1, true), (2, true), (3, true), (4, true), (5, true), (6, true), (7, true), (8, true), (9, true), (10, true)] (by kernel_rfl) (by decide) fun K2 hK2 => ?_)))
            | (((with_reducible refine PW.drawR (id := 12) mixed [] [(0, true), (1, true), (2, true), (3, true), (4, true), (5, true), (6, true), (7, true), (8, true), (9, true), (10, true), (11, true), (12, true), (13, true), (14, true), (15, true), (16, true), (17, true), (18, true), (19, true), (20, true), (21, true)] (by kernel_rfl) (by decide) fun K2 hK2 => ?_)))
            | (((with_reducible refine And.intro ?_ ?_); (focus (first | omega | (simp; done) | assumption))))
            | ((simp only [thenP, blockP]; (try ((repeat (fail_if_success (with_reducible refine hK1 _ ?_)); clear hK1); (with_reducible refine hK1 _ ?_); clear hK1))))
            | (((first | (((with_reducible refine opsP_cons fun K3 hK3 => ?_); simp only [wantP, opP, valP, Ur, Us])) | (((with_reducible refine opsO_first (o := ?_) ?_ fun K3 hK3 => ?_); rotate_left 1; (focus (simp only [Uz, Ub, Ua] <;> rfl)); simp only [wantP, firstP, valP])) | (((with_reducible refine opsO_only (o := ?_) ?_ fun K3 hK3 => ?_); rotate_left 1; (focus (simp only [Uz, Ub, Ua] <;> rfl)); simp only [wantP, opP, Ur, Us, Uw, Ux])) | ((with_reducible refine PW.condM fun X1 Y1 hX1 hY1 => ?_)) | (skip)); simp (disch := omega) only [wantB_tf, St.eval, St.put, upd_app, avOf, avOf1, loadA, lenP, binP, intsP, intP, eqP, nilP, builtinP, isMapA, slA, Ua, Ub, Uf, Ug, Uk, Ul, Un, Uo, Up, Ur, Us, Ut, Uv, Uz, V0, V1, V2, V4, V7, V9, Va, Ve, Vr, PmL, simprocAttr, PmT, h0, h3, h9, hlt', hx, hg', Rg.c, retQ, resP, tupA, fg, fgs, condP, condB_t, firstOk, List.mem_cons]; try (with_reducible (first | exact co_refl _ | exact co_own _ _ _ | exact co_nilsB | exact co_nilsL _ _)))))
          all_goals exact co_eq (by rw [e])
        · have hg' := eq_false (show ¬ r.gen < x.gen by omega)
          have hq' := eq_true hg.symm
          cases hsm : x.same r with
          | true =>
            rw [hsm] at hSm
            have hs : stopR r x = false := by unfold stopR; rw [hoq, decide_eq_false (show ¬ r.gen < x.gen by omega), hsm]; simp
            repeat' (first
              | ((with_reducible (first
               | (refine PW.seq fun K1 hK1 => ?_) | (refine PW.region fun K2 hK2 => ?_) | ((refine hK3 _ ?_; clear hK3)) | ((refine opsP_nil ?_; refine hK2 _ ?_; clear hK2)) | (refine PW.block ?_) | (refine PW.skip ?_)
               | (refine PW.exit ?_) | ((refine hX1 ?_; clear hX1 hY1; try simp only [hb])) | ((refine hY1 ?_; clear hX1 hY1; try simp only [hb])) | ((refine opsO_nil ?_; refine hK2 _ ?_; clear hK2)) | ((refine keepA_intro ?_ ?_; focus (first | exact keep_same _ _ | exact keep_box _ _ _ _ | exact keep_hd _ _ _ _ _ | exact keep_02 _ _ _ _ _ _ _ | exact keep_1 _ _ _ _ _ _ _))))))
              | (((with_reducible refine cC_pure ?_ (hM) (fun _ => ?_)); (focus ((repeat' constructor) <;> (simp only [purAs, purA, Vf, Bool.and_self, h0, h3, h7, h8, h9, hlt', hx, hw, hg', hq', Rg.c]; done)))))
              | (((with_reducible refine cC_pure ?_ (hSm) (fun _ => ?_)); (focus ((repeat' constructor) <;> (simp only [purAs, purA, Vf, Bool.and_self, h0, h3, h7, h8, h9, hlt', hx, hw, hg', hq', Rg.c]; done)))))
              | (((with_reducible refine PW.drawR (id := 9) mixed [] [(0, true), (1, true), (2, true), (3, true), (4, true), (5, true), (6, true), (7, false), (8, true)] (by kernel_rfl) (by decide) fun K2 hK2 => ?_)))
              | (((with_reducible refine PW.drawR (id := 10) mixed [] [(0, true), (1, true), (2, true), (3, true), (4, true), (5, false), (6, true)] (by kernel_rfl) (by decide) fun K2 hK2 => ?_)))
              | (((with_reducible refine PW.drawR (id := 11) mixed [] [(0, true), (1, true), (2, true), (3, true), (4, true), (5, true), (6, true), (7, true), (8, true), (9, true), (10, true)] (by kernel_rfl) (by decide) fun K2 hK2 => ?_)))
              | (((with_reducible refine PW.drawR (id := 12) mixed [] [(0, true), (1, true), (2, true), (3, true), (4, true), (5, true), (6, true), (7, true), (8, true), (9, true), (10, true), (11, true), (12, true), (13, true), (14, true), (15, true), (16, true), (17, true), (18, true), (19, true), (20, true), (21, true)] (by kernel_rfl) (by decide) fun K2 hK2 => ?_)))
              | (((with_reducible refine And.intro ?_ ?_); (focus (first | omega | (simp; done) | assumption))))
              | ((simp only [thenP, blockP, ↓reduceIte]; (try ((repeat (fail_if_success (with_reducible refine hK1 _ ?_)); clear hK1); (with_reducible refine hK1 _ ?_); clear hK1))))
              | (((first | (((with_reducible refine opsP_cons fun K3 hK3 => ?_); simp only [wantP, opP, valP, Ur, Us])) | (((with_reducible refine opsO_first (o := ?_) ?_ fun K3 hK3 => ?_); rotate_left 1; (focus (simp only [Uz, Ub, Ua] <;> rfl)); simp only [wantP, firstP, valP])) | (((with_reducible refine opsO_only (o := ?_) ?_ fun K3 hK3 => ?_); rotate_left 1; (focus (simp only [Uz, Ub, Ua] <;> rfl)); simp only [wantP, opP, Ur, Us, Uw, Ux])) | ((with_reducible refine PW.condM fun X1 Y1 hX1 hY1 => ?_)) | (skip)); simp (disch := omega) only [wantB_tt, wantB_ff, wantB_tf, St.eval, St.put, upd_app, avOf, avOf1, loadA, lenP, binP, intsP, intP, eqP, nilP, unP, builtinP, isMapA, slA, Ua, Ub, Uf, Ug, Uk, Ul, Un, Uo, Up, Ur, Us, Ut, Uv, Uz, V0, V1, V2, V4, V7, V9, Va, Ve, Vr, PmL, simprocAttr, PmT, h0, h3, h9, hlt', hx, hw, hg', hq', Rg.c, condP, condB_t, condB_f, firstOk, List.mem_cons]; try (with_reducible (first | exact co_refl _ | exact co_own _ _ _ | exact co_nilsB | exact co_nilsL _ _)))))
            refine ⟨l.length - (k + 1), by omega, k + 1, out, d, ?_, ?_, ?_, ?_, ?_, ?_, ?_, by omega, rfl, by omega, ho, hno1 hs⟩
            all_goals (simp only [St.cut, Mem.cut, fg, fgs, upd_app, Nat.reduceEqDiff, ↓reduceIte, List.take_nil, List.map_nil, List.take_succ_cons, List.map_cons, Option.map_some, Nat.zero_lt_one, Int.natCast_add, Int.cast_ofNat_Int, h0, h3, h7, h8]; try rfl)
          | false =>
            rw [hsm] at hSm
            have hs : stopR r x = true := by unfold stopR; rw [hoq, decide_eq_true hg.symm, hsm]; simp
            have e := hstop hs
            repeat' (first
              | ((with_reducible (first
               | (refine PW.seq fun K1 hK1 => ?_) | (refine PW.region fun K2 hK2 => ?_) | ((refine hK3 _ ?_; clear hK3)) | ((refine opsP_nil ?_; refine hK2 _ ?_; clear hK2)) | (refine PW.block ?_) | (refine PW.skip ?_)
               | (refine PW.ret ?_) | ((refine hX1 ?_; clear hX1 hY1; try simp only [hb])) | ((refine opsO_nil ?_; refine hK2 _ ?_; clear hK2)) | ((refine keepA_intro ?_ ?_; focus (first | exact keep_same _ _ | exact keep_box _ _ _ _ | exact keep_hd _ _ _ _ _ | exact keep_02 _ _ _ _ _ _ _ | exact keep_1 _ _ _ _ _ _ _))))))
              | (((with_reducible refine cC_pure ?_ (hM) (fun _ => ?_)); (focus ((repeat' constructor) <;> (simp only [purAs, purA, Vf, Bool.and_self, h0, h3, h7, h8, h9, hlt', hx, hg', hq', Rg.c]; done)))))
              | (((with_reducible refine cC_pure ?_ (hSm) (fun _ => ?_)); (focus ((repeat' constructor) <;> (simp only [purAs, purA, Vf, Bool.and_self, h0, h3, h7, h8, h9, hlt', hx, hg', hq', Rg.c]; done)))))
              | (((with_reducible refine PW.drawR (id := 9) mixed [] [(0, true), (1, true), (2, true), (3, true), (4, true), (5, true), (6, true), (7, false), (8, true)] (by kernel_rfl) (by decide) fun K2 hK2 => ?_)))
              | (((with_reducible refine PW.drawR (id := 10) mixed [] [(0, true), (1, true), (2, true), (3, true), (4, true), (5, false), (6, true)] (by kernel_rfl) (by decide) fun K2 hK2 => ?_)))
              | (((with_reducible refine PW.drawR (id := 11) mixed [] [(0, true), (1, true), (2, true), (3, true), (4, true), (5, true), (6, true), (7, true), (8, true), (9, true), (10, true)] (by kernel_rfl) (by decide) fun K2 hK2 => ?_)))
              | (((with_reducible refine PW.drawR (id := 12) mixed [] [(0, true), (1, true), (2, true), (3, true), (4, true), (5, true), (6, true), (7, true), (8, true), (9, true), (10, true), (11, true), (12, true), (13, true), (14, true), (15, true), (16, true), (17, true), (18, true), (19, true), (20, true), (21, true)] (by kernel_rfl) (by decide) fun K2 hK2 => ?_)))
              | (((with_reducible refine And.intro ?_ ?_); (focus (first | omega | (simp; done) | assumption))))
              | ((simp only [thenP, blockP]; (try ((repeat (fail_if_success (with_reducible refine hK1 _ ?_)); clear hK1); (with_reducible refine hK1 _ ?_); clear hK1))))
              | (((first | (((with_reducible refine opsP_cons fun K3 hK3 => ?_); simp only [wantP, opP, valP, Ur, Us])) | (((with_reducible refine opsO_first (o := ?_) ?_ fun K3 hK3 => ?_); rotate_left 1; (focus (simp only [Uz, Ub, Ua] <;> rfl)); simp only [wantP, firstP, valP])) | (((with_reducible refine opsO_only (o := ?_) ?_ fun K3 hK3 => ?_); rotate_left 1; (focus (simp only [Uz, Ub, Ua] <;> rfl)); simp only [wantP, opP, Ur, Us, Uw, Ux])) | ((with_reducible refine PW.condM fun X1 Y1 hX1 hY1 => ?_)) | (skip)); simp (disch := omega) only [wantB_tt, wantB_ff, wantB_tf, St.eval, St.put, upd_app, avOf, avOf1, loadA, lenP, binP, intsP, intP, eqP, nilP, unP, builtinP, isMapA, slA, Ua, Ub, Uf, Ug, Uk, Ul, Un, Uo, Up, Ur, Us, Ut, Uv, Uz, V0, V1, V2, V4, V7, V9, Va, Ve, Vr, PmL, simprocAttr, PmT, h0, h3, h9, hlt', hx, hg', hq', Rg.c, retQ, resP, tupA, fg, fgs, condP, condB_t, firstOk, List.mem_cons]; try (with_reducible (first | exact co_refl _ | exact co_own _ _ _ | exact co_nilsB | exact co_nilsL _ _)))))
            all_goals exact co_eq (by rw [e])
        · have hg' := eq_false (show ¬ r.gen < x.gen by omega)
          have hq' := eq_false (show ¬ x.gen = r.gen by omega)
          have hs : stopR r x = false := by unfold stopR; rw [decide_eq_false (show ¬ r.gen < x.gen by omega), decide_eq_false (show ¬ x.gen = r.gen by omega)]; simp
          repeat' (first
            | ((with_reducible (first
             | (refine PW.seq fun K1 hK1 => ?_) | (refine PW.region fun K2 hK2 => ?_) | ((refine hK3 _ ?_; clear hK3)) | ((refine opsP_nil ?_; refine hK2 _ ?_; clear hK2)) | (refine PW.block ?_) | (refine PW.skip ?_)
             | (refine PW.exit ?_) | ((refine hX1 ?_; clear hX1 hY1; try simp only [hb])) | ((refine hY1 ?_; clear hX1 hY1; try simp only [hb])) | ((refine opsO_nil ?_; refine hK2 _ ?_; clear hK2)) | ((refine keepA_intro ?_ ?_; focus (first | exact keep_same _ _ | exact keep_box _ _ _ _ | exact keep_hd _ _ _ _ _ | exact keep_02 _ _ _ _ _ _ _ | exact keep_1 _ _ _ _ _ _ _))))))
            | (((with_reducible refine cC_pure ?_ (hM) (fun _ => ?_)); (focus ((repeat' constructor) <;> (simp only [purAs, purA, Vf, Bool.and_self, h0, h3, h7, h8, h9, hlt', hx, hw, hg', hq', Rg.c]; done)))))
            | (((with_reducible refine cC_pure ?_ (hSm) (fun _ => ?_)); (focus ((repeat' constructor) <;> (simp only [purAs, purA, Vf, Bool.and_self, h0, h3, h7, h8, h9, hlt', hx, hw, hg', hq', Rg.c]; done)))))
            | (((with_reducible refine PW.drawR (id := 9) mixed [] [(0, true), (1, true), (2, true), (3, true), (4, true), (5, true), (6, true), (7, false), (8, true)] (by kernel_rfl) (by decide) fun K2 hK2 => ?_)))
            | (((with_reducible refine PW.drawR (id := 10) mixed [] [(0, true), (1, true), (2, true), (3, true), (4, true), (5, false), (6, true)] (by kernel_rfl) (by decide) fun K2 hK2 => ?_)))
            | (((with_reducible refine PW.drawR (id := 11) mixed [] [(0, true), (1, true), (2, true), (3, true), (4, true), (5, true), (6, true), (7, true), (8, true), (9, true), (10, true)] (by kernel_rfl) (by decide) fun K2 hK2 => ?_)))
            | (((with_reducible refine PW.drawR (id := 12) mixed [] [(0, true), (1, true), (2, true), (3, true), (4, true), (5, true), (6, true), (7, true), (8, true), (9, true), (10, true), (11, true), (12, true), (13, true), (14, true), (15, true), (16, true), (17, true), (18, true), (19, true), (20, true), (21, true)] (by kernel_rfl) (by decide) fun K2 hK2 => ?_)))
            | (((with_reducible refine And.intro ?_ ?_); (focus (first | omega | (simp; done) | assumption))))
            | ((simp only [thenP, blockP, ↓reduceIte]; (try ((repeat (fail_if_success (with_reducible refine hK1 _ ?_)); clear hK1); (with_reducible refine hK1 _ ?_); clear hK1))))
            | (((first | (((with_reducible refine opsP_cons fun K3 hK3 => ?_); simp only [wantP, opP, valP, Ur, Us])) | (((with_reducible refine opsO_first (o := ?_) ?_ fun K3 hK3 => ?_); rotate_left 1; (focus (simp only [Uz, Ub, Ua] <;> rfl)); simp only [wantP, firstP, valP])) | (((with_reducible refine opsO_only (o := ?_) ?_ fun K3 hK3 => ?_); rotate_left 1; (focus (simp only [Uz, Ub, Ua] <;> rfl)); simp only [wantP, opP, Ur, Us, Uw, Ux])) | ((with_reducible refine PW.condM fun X1 Y1 hX1 hY1 => ?_)) | (skip)); simp (disch := omega) only [wantB_ff, wantB_tf, wantB_ft, St.eval, St.put, upd_app, avOf, avOf1, loadA, lenP, binP, intsP, intP, eqP, nilP, unP, builtinP, isMapA, slA, Ua, Ub, Uf, Ug, Uk, Ul, Un, Uo, Up, Ur, Us, Ut, Uv, Uz, V0, V1, V2, V4, V7, V9, Va, Ve, Vr, PmL, simprocAttr, PmT, h0, h3, h9, hlt', hx, hw, hg', hq', Rg.c, condP, condB_t, condB_f, firstOk, List.mem_cons]; try (with_reducible (first | exact co_refl _ | exact co_own _ _ _ | exact co_nilsB | exact co_nilsL _ _)))))
          refine ⟨l.length - (k + 1), by omega, k + 1, out, d, ?_, ?_, ?_, ?_, ?_, ?_, ?_, by omega, rfl, by omega, ho, hno1 hs⟩
          all_goals (simp only [St.cut, Mem.cut, fg, fgs, upd_app, Nat.reduceEqDiff, ↓reduceIte, List.take_nil, List.map_nil, List.take_succ_cons, List.map_cons, Option.map_some, Nat.zero_lt_one, Int.natCast_add, Int.cast_ofNat_Int, h0, h3, h7, h8]; try rfl)
      · rw [hm1] at hM
        have hid' := eq_true hid
        rcases Int.lt_trichotomy r.gen x.gen with hg | hg | hg
        · have hg' := eq_true hg
          have hs : stopR r x = true := by unfold stopR; rw [hoq, decide_eq_true hg]; rfl
          have e := hstop hs
          repeat' (first
            | ((with_reducible (first
             | (refine PW.seq fun K1 hK1 => ?_) | (refine PW.region fun K2 hK2 => ?_) | ((refine hK3 _ ?_; clear hK3)) | ((refine opsP_nil ?_; refine hK2 _ ?_; clear hK2)) | (refine PW.block ?_) | (refine PW.skip ?_)
             | (refine PW.ret ?_) | ((refine hX1 ?_; clear hX1 hY1; try simp only [hb])) | ((refine opsO_nil ?_; refine hK2 _ ?_; clear hK2)) | ((refine keepA_intro ?_ ?_; focus (first | exact keep_same _ _ | exact keep_box _ _ _ _ | exact keep_hd _ _ _ _ _ | exact keep_02 _ _ _ _ _ _ _ | exact keep_1 _ _ _ _ _ _ _))))))
            | (((with_reducible refine cC_pure ?_ (hM) (fun _ => ?_)); (focus ((repeat' constructor) <;> (simp only [purAs, purA, Vf, Bool.and_self, h0, h3, h7, h8, h9, hlt', hx, hid', hg', Rg.c]; done)))))
            | (((with_reducible refine cC_pure ?_ (hSm) (fun _ => ?_)); (focus ((repeat' constructor) <;> (simp only [purAs, purA, Vf, Bool.and_self, h0, h3, h7, h8, h9, hlt', hx, hid', hg', Rg.c]; done)))))
            | (((with_reducible refine PW.drawR (id := 9) mixed [] [(0, true), (1, true), (2, true), (3, true), (4, true), (5, true), (6, true), (7, false), (8, true)] (by kernel_rfl) (by decide) fun K2 hK2 => ?_)))
            | (((with_reducible refine PW.drawR (id := 10) mixed [] [(0, true), (1, true), (2, true), (3, true), (4, true), (5, false), (6, true)] (by kernel_rfl) (by decide) fun K2 hK2 => ?_)))
            | (((with_reducible refine PW.drawR (id := 11) mixed [] [(0, true), (1, true), (2, true), (3, true), (4, true), (5, true), (6, true), (7, true), (8, true), (9, true), (10, true)] (by kernel_rfl) (by decide) fun K2 hK2 => ?_)))
            | (((with_reducible refine PW.drawR (id := 12) mixed [] [(0, true), (1, true), (2, true), (3, true), (4, true), (5, true), (6, true), (7, true), (8, true), (9, true), (10, true), (11, true), (12, true), (13, true), (14, true), (15, true), (16, true), (17, true), (18, true), (19, true), (20, true), (21, true)] (by kernel_rfl) (by decide) fun K2 hK2 => ?_)))
            | (((with_reducible refine And.intro ?_ ?_); (focus (first | omega | (simp; done) | assumption))))
            | ((simp only [thenP, blockP]; (try ((repeat (fail_if_success (with_reducible refine hK1 _ ?_)); clear hK1); (with_reducible refine hK1 _ ?_); clear hK1))))
            | (((first | (((with_reducible refine opsP_cons fun K3 hK3 => ?_); simp only [wantP, opP, valP, Ur, Us])) | (((with_reducible refine opsO_first (o := ?_) ?_ fun K3 hK3 => ?_); rotate_left 1; (focus (simp only [Uz, Ub, Ua] <;> rfl)); simp only [wantP, firstP, valP])) | (((with_reducible refine opsO_only (o := ?_) ?_ fun K3 hK3 => ?_); rotate_left 1; (focus (simp only [Uz, Ub, Ua] <;> rfl)); simp only [wantP, opP, Ur, Us, Uw, Ux])) | ((with_reducible refine PW.condM fun X1 Y1 hX1 hY1 => ?_)) | (skip)); simp (disch := omega) only [wantB_ff, wantB_tf, St.eval, St.put, upd_app, avOf, avOf1, loadA, lenP, binP, intsP, intP, eqP, nilP, builtinP, isMapA, slA, Ua, Ub, Uf, Ug, Uk, Ul, Un, Uo, Up, Ur, Us, Ut, Uv, Uz, V0, V1, V2, V4, V7, V9, Va, Ve, Vr, PmL, simprocAttr, PmT, h0, h3, h9, hlt', hx, hid', hg', Rg.c, retQ, resP, tupA, fg, fgs, condP, condB_t, firstOk, List.mem_cons]; try (with_reducible (first | exact co_refl _ | exact co_own _ _ _ | exact co_nilsB | exact co_nilsL _ _)))))
          all_goals exact co_eq (by rw [e])
        · have hg' := eq_false (show ¬ r.gen < x.gen by omega)
          have hq' := eq_true hg.symm
          cases hsm : x.same r with
          | true =>
            rw [hsm] at hSm
            have hs : stopR r x = false := by unfold stopR; rw [hoq, decide_eq_false (show ¬ r.gen < x.gen by omega), hsm]; simp
            repeat' (first
              | ((with_reducible (first
               | (refine PW.seq fun K1 hK1 => ?_) | (refine PW.region fun K2 hK2 => ?_) | ((refine hK3 _ ?_; clear hK3)) | ((refine opsP_nil ?_; refine hK2 _ ?_; clear hK2)) | (refine PW.block ?_) | (refine PW.skip ?_)
               | (refine PW.exit ?_) | ((refine hX1 ?_; clear hX1 hY1; try simp only [hb])) | ((refine hY1 ?_; clear hX1 hY1; try simp only [hb])) | ((refine opsO_nil ?_; refine hK2 _ ?_; clear hK2)) | ((refine keepA_intro ?_ ?_; focus (first | exact keep_same _ _ | exact keep_box _ _ _ _ | exact keep_hd _ _ _ _ _ | exact keep_02 _ _ _ _ _ _ _ | exact keep_1 _ _ _ _ _ _ _))))))
              | (((with_reducible refine cC_pure ?_ (hM) (fun _ => ?_)); (focus ((repeat' constructor) <;> (simp only [purAs, purA, Vf, Bool.and_self, h0, h3, h7, h8, h9, hlt', hx, hw, hid', hg', hq', Rg.c]; done)))))
              | (((with_reducible refine cC_pure ?_ (hSm) (fun _ => ?_)); (focus ((repeat' constructor) <;> (simp only [purAs, purA, Vf, Bool.and_self, h0, h3, h7, h8, h9, hlt', hx, hw, hid', hg', hq', Rg.c]; done)))))
              | (((with_reducible refine PW.drawR (id := 9) mixed [] [(0, true), (1, true), (2, true), (3, true), (4, true), (5, true), (6, true), (7, false), (8, true)] (by kernel_rfl) (by decide) fun K2 hK2 => ?_)))
              | (((with_reducible refine PW.drawR (id := 10) mixed [] [(0, true), (1, true), (2, true), (3, true), (4, true), (5, false), (6, true)] (by kernel_rfl) (by decide) fun K2 hK2 => ?_)))
              | (((with_reducible refine PW.drawR (id := 11) mixed [] [(0, true), (1, true), (2, true), (3, true), (4, true), (5, true), (6, true), (7, true), (8, true), (9, true), (10, true)] (by kernel_rfl) (by decide) fun K2 hK2 => ?_)))
              | (((with_reducible refine PW.drawR (id := 12) mixed [] [(0, true), (1, true), (2, true), (3, true), (4, true), (5, true), (6, true), (7, true), (8, true), (9, true), (10, true), (11, true), (12, true), (13, true), (14, true), (15, true), (16, true), (17, true), (18, true), (19, true), (20, true), (21, true)] (by kernel_rfl) (by decide) fun K2 hK2 => ?_)))
              | (((with_reducible refine And.intro ?_ ?_); (focus (first | omega | (simp; done) | assumption))))
              | ((simp only [thenP, blockP, ↓reduceIte]; (try ((repeat (fail_if_success (with_reducible refine hK1 _ ?_)); clear hK1); (with_reducible refine hK1 _ ?_); clear hK1))))
              | (((first | (((with_reducible refine opsP_cons fun K3 hK3 => ?_); simp only [wantP, opP, valP, Ur, Us])) | (((with_reducible refine opsO_first (o := ?_) ?_ fun K3 hK3 => ?_); rotate_left 1; (focus (simp only [Uz, Ub, Ua] <;> rfl)); simp only [wantP, firstP, valP])) | (((with_reducible refine opsO_only (o := ?_) ?_ fun K3 hK3 => ?_); rotate_left 1; (focus (simp only [Uz, Ub, Ua] <;> rfl)); simp only [wantP, opP, Ur, Us, Uw, Ux])) | ((with_reducible refine PW.condM fun X1 Y1 hX1 hY1 => ?_)) | (skip)); simp (disch := omega) only [wantB_tt, wantB_ff, St.eval, St.put, upd_app, avOf, avOf1, loadA, lenP, binP, intsP, intP, nilP, unP, builtinP, isMapA, slA, Ua, Ub, Uf, Ug, Uk, Ul, Un, Uo, Up, Ur, Us, Ut, Uv, Uz, V0, V1, V2, V4, V7, V9, Va, Ve, Vr, PmL, simprocAttr, PmT, h0, h3, h9, hlt', hx, hw, hid', hg', hq', Rg.c, condP, condB_t, condB_f, firstOk, List.mem_cons]; try (with_reducible (first | exact co_refl _ | exact co_own _ _ _ | exact co_nilsB | exact co_nilsL _ _)))))
            refine ⟨l.length - (k + 1), by omega, k + 1, out, d, ?_, ?_, ?_, ?_, ?_, ?_, ?_, by omega, rfl, by omega, ho, hno1 hs⟩
            all_goals (simp only [St.cut, Mem.cut, fg, fgs, upd_app, Nat.reduceEqDiff, ↓reduceIte, List.take_nil, List.map_nil, List.take_succ_cons, List.map_cons, Option.map_some, Nat.zero_lt_one, Int.natCast_add, Int.cast_ofNat_Int, h0, h3, h7, h8]; try rfl)
          | false =>
            rw [hsm] at hSm
            have hs : stopR r x = true := by unfold stopR; rw [hoq, decide_eq_true hg.symm, hsm]; simp
            have e := hstop hs
            repeat' (first
              | ((with_reducible (first
               | (refine PW.seq fun K1 hK1 => ?_) | (refine PW.region fun K2 hK2 => ?_) | ((refine hK3 _ ?_; clear hK3)) | ((refine opsP_nil ?_; refine hK2 _ ?_; clear hK2)) | (refine PW.block ?_) | (refine PW.skip ?_)
               | (refine PW.ret ?_) | ((refine hX1 ?_; clear hX1 hY1; try simp only [hb])) | ((refine opsO_nil ?_; refine hK2 _ ?_; clear hK2)) | ((refine keepA_intro ?_ ?_; focus (first | exact keep_same _ _ | exact keep_box _ _ _ _ | exact keep_hd _ _ _ _ _ | exact keep_02 _ _ _ _ _ _ _ | exact keep_1 _ _ _ _ _ _ _))))))
              | (((with_reducible refine cC_pure ?_ (hM) (fun _ => ?_)); (focus ((repeat' constructor) <;> (simp only [purAs, purA, Vf, Bool.and_self, h0, h3, h7, h8, h9, hlt', hx, hid', hg', hq', Rg.c]; done)))))
              | (((with_reducible refine cC_pure ?_ (hSm) (fun _ => ?_)); (focus ((repeat' constructor) <;> (simp only [purAs, purA, Vf, Bool.and_self, h0, h3, h7, h8, h9, hlt', hx, hid', hg', hq', Rg.c]; done)))))
              | (((with_reducible refine PW.drawR (id := 9) mixed [] [(0, true), (1, true), (2, true), (3, true), (4, true), (5, true), (6, true), (7, false), (8, true)] (by kernel_rfl) (by decide) fun K2 hK2 => ?_)))
              | (((with_reducible refine PW.drawR (id := 10) mixed [] [(0, true), (1, true), (2, true), (3, true), (4, true), (5, false), (6, true)] (by kernel_rfl) (by decide) fun K2 hK2 => ?_)))
              | (((with_reducible refine PW.drawR (id := 11) mixed [] [(0, true), (1, true), (2, true), (3, true), (4, true), (5, true), (6, true), (7, true), (8, true), (9, true), (10, true)] (by kernel_rfl) (by decide) fun K2 hK2 => ?_)))
              | (((with_reducible refine PW.drawR (id := 12) mixed [] [(0, true), (1, true), (2, true), (3, true), (4, true), (5, true), (6, true), (7, true), (8, true), (9, true), (10, true), (11, true), (12, true), (13, true), (14, true), (15, true), (16, true), (17, true), (18, true), (19, true), (20, true), (21, true)] (by kernel_rfl) (by decide) fun K2 hK2 => ?_)))
              | (((with_reducible refine And.intro ?_ ?_); (focus (first | omega | (simp; done) | assumption))))
              | ((simp only [thenP, blockP]; (try ((repeat (fail_if_success (with_reducible refine hK1 _ ?_)); clear hK1); (with_reducible refine hK1 _ ?_); clear hK1))))
              | (((first | (((with_reducible refine opsP_cons fun K3 hK3 => ?_); simp only [wantP, opP, valP, Ur, Us])) | (((with_reducible refine opsO_first (o := ?_) ?_ fun K3 hK3 => ?_); rotate_left 1; (focus (simp only [Uz, Ub, Ua] <;> rfl)); simp only [wantP, firstP, valP])) | (((with_reducible refine opsO_only (o := ?_) ?_ fun K3 hK3 => ?_); rotate_left 1; (focus (simp only [Uz, Ub, Ua] <;> rfl)); simp only [wantP, opP, Ur, Us, Uw, Ux])) | ((with_reducible refine PW.condM fun X1 Y1 hX1 hY1 => ?_)) | (skip)); simp (disch := omega) only [wantB_tt, wantB_ff, St.eval, St.put, upd_app, avOf, avOf1, loadA, lenP, binP, intsP, intP, nilP, unP, builtinP, isMapA, slA, Ua, Ub, Uf, Ug, Uk, Ul, Un, Uo, Up, Ur, Us, Ut, Uv, Uz, V0, V1, V2, V4, V7, V9, Va, Ve, Vr, PmL, simprocAttr, PmT, h0, h3, h9, hlt', hx, hid', hg', hq', Rg.c, retQ, resP, tupA, fg, fgs, condP, condB_t, firstOk, List.mem_cons]; try (with_reducible (first | exact co_refl _ | exact co_own _ _ _ | exact co_nilsB | exact co_nilsL _ _)))))
            all_goals exact co_eq (by rw [e])
        · have hg' := eq_false (show ¬ r.gen < x.gen by omega)
          have hq' := eq_false (show ¬ x.gen = r.gen by omega)
          have hs : stopR r x = false := by unfold stopR; rw [decide_eq_false (show ¬ r.gen < x.gen by omega), decide_eq_false (show ¬ x.gen = r.gen by omega)]; simp
          repeat' (first
            | ((with_reducible (first
             | (refine PW.seq fun K1 hK1 => ?_) | (refine PW.region fun K2 hK2 => ?_) | ((refine hK3 _ ?_; clear hK3)) | ((refine opsP_nil ?_; refine hK2 _ ?_; clear hK2)) | (refine PW.block ?_) | (refine PW.skip ?_)
             | (refine PW.exit ?_) | ((refine hX1 ?_; clear hX1 hY1; try simp only [hb])) | ((refine hY1 ?_; clear hX1 hY1; try simp only [hb])) | ((refine opsO_nil ?_; refine hK2 _ ?_; clear hK2)) | ((refine keepA_intro ?_ ?_; focus (first | exact keep_same _ _ | exact keep_box _ _ _ _ | exact keep_hd _ _ _ _ _ | exact keep_02 _ _ _ _ _ _ _ | exact keep_1 _ _ _ _ _ _ _))))))
            | (((with_reducible refine cC_pure ?_ (hM) (fun _ => ?_)); (focus ((repeat' constructor) <;> (simp only [purAs, purA, Vf, Bool.and_self, h0, h3, h7, h8, h9, hlt', hx, hw, hid', hg', hq', Rg.c]; done)))))
            | (((with_reducible refine cC_pure ?_ (hSm) (fun _ => ?_)); (focus ((repeat' constructor) <;> (simp only [purAs, purA, Vf, Bool.and_self, h0, h3, h7, h8, h9, hlt', hx, hw, hid', hg', hq', Rg.c]; done)))))
            | (((with_reducible refine PW.drawR (id := 9) mixed [] [(0, true), (1, true), (2, true), (3, true), (4, true), (5, true), (6, true), (7, false), (8, true)] (by kernel_rfl) (by decide) fun K2 hK2 => ?_)))
            | (((with_reducible refine PW.drawR (id := 10) mixed [] [(0, true), (1, true), (2, true), (3, true), (4, true), (5, false), (6, true)] (by kernel_rfl) (by decide) fun K2 hK2 => ?_)))
            | (((with_reducible refine PW.drawR (id := 11) mixed [] [(0, true), (1, true), (2, true), (3, true), (4, true), (5, true), (6, true), (7, true), (8, true), (9, true), (10, true)] (by kernel_rfl) (by decide) fun K2 hK2 => ?_)))
            | (((with_reducible refine PW.drawR (id := 12) mixed [] [(0, true), (1, true), (2, true), (3, true), (4, true), (5, true), (6, true), (7, true), (8, true), (9, true), (10, true), (11, true), (12, true), (13, true), (14, true), (15, true), (16, true), (17, true), (18, true), (19, true), (20, true), (21, true)] (by kernel_rfl) (by decide) fun K2 hK2 => ?_)))
            | (((with_reducible refine And.intro ?_ ?_); (focus (first | omega | (simp; done) | assumption))))
            | ((simp only [thenP, blockP, ↓reduceIte]; (try ((repeat (fail_if_success (with_reducible refine hK1 _ ?_)); clear hK1); (with_reducible refine hK1 _ ?_); clear hK1))))
            | (((first | (((with_reducible refine opsP_cons fun K3 hK3 => ?_); simp only [wantP, opP, valP, Ur, Us])) | (((with_reducible refine opsO_first (o := ?_) ?_ fun K3 hK3 => ?_); rotate_left 1; (focus (simp only [Uz, Ub, Ua] <;> rfl)); simp only [wantP, firstP, valP])) | (((with_reducible refine opsO_only (o := ?_) ?_ fun K3 hK3 => ?_); rotate_left 1; (focus (simp only [Uz, Ub, Ua] <;> rfl)); simp only [wantP, opP, Ur, Us, Uw, Ux])) | ((with_reducible refine PW.condM fun X1 Y1 hX1 hY1 => ?_)) | (skip)); simp (disch := omega) only [wantB_ff, wantB_ft, St.eval, St.put, upd_app, avOf, avOf1, loadA, lenP, binP, intsP, intP, nilP, unP, builtinP, isMapA, slA, Ua, Ub, Uf, Ug, Uk, Ul, Un, Uo, Up, Ur, Us, Ut, Uv, Uz, V0, V1, V2, V4, V7, V9, Va, Ve, Vr, PmL, simprocAttr, PmT, h0, h3, h9, hlt', hx, hw, hid', hg', hq', Rg.c, condP, condB_t, condB_f, firstOk, List.mem_cons]; try (with_reducible (first | exact co_refl _ | exact co_own _ _ _ | exact co_nilsB | exact co_nilsL _ _)))))
          refine ⟨l.length - (k + 1), by omega, k + 1, out, d, ?_, ?_, ?_, ?_, ?_, ?_, ?_, by omega, rfl, by omega, ho, hno1 hs⟩
          all_goals (simp only [St.cut, Mem.cut, fg, fgs, upd_app, Nat.reduceEqDiff, ↓reduceIte, List.take_nil, List.map_nil, List.take_succ_cons, List.map_cons, Option.map_some, Nat.zero_lt_one, Int.natCast_add, Int.cast_ofNat_Int, h0, h3, h7, h8]; try rfl)
    | false =>
      rw [if_neg (by rw [hoq]; simp)] at ho
      have hsx : stopR r x = false := by unfold stopR; rw [hoq]; rfl
      have hno' : (l.take (k + 1)).any (stopR r) = false := by rw [ht, List.any_append, hno]; simp [hsx]
      unfold outR at hoq
      simp only [Bool.or_eq_false_iff, decide_eq_false_iff_not] at hoq
      obtain ⟨hm1, hid⟩ := hoq
      have hid' := eq_false hid
      rw [hm1] at hM
      cases d with
      | true =>
        rw [if_neg (by simp)] at ho
        repeat' (first
          | ((with_reducible (first
           | (refine PW.seq fun K1 hK1 => ?_) | (refine PW.region fun K2 hK2 => ?_) | ((refine hK3 _ ?_; clear hK3)) | ((refine opsP_nil ?_; refine hK2 _ ?_; clear hK2)) | (refine litX_old ?_) | (refine litC_data ?_) | (refine PW.block ?_) | (refine PW.skip ?_)
           | ((refine hX1 ?_; clear hX1 hY1; try simp only [hb])) | ((refine hY1 ?_; clear hX1 hY1; try simp only [hb])) | ((refine opsO_nil ?_; refine hK2 _ ?_; clear hK2)) | ((refine keepA_intro ?_ ?_; focus (first | exact keep_same _ _ | exact keep_box _ _ _ _ | exact keep_hd _ _ _ _ _ | exact keep_02 _ _ _ _ _ _ _ | exact keep_1 _ _ _ _ _ _ _))))))
          | (((with_reducible refine cC_pure ?_ (hM) (fun _ => ?_)); (focus ((repeat' constructor) <;> (simp only [purAs, purA, Vf, Bool.and_self, h0, h3, h7, h8, h9, hlt', hx, hw, hid', Rg.c]; done)))))
          | (((with_reducible refine cC_pure ?_ (hSm) (fun _ => ?_)); (focus ((repeat' constructor) <;> (simp only [purAs, purA, Vf, Bool.and_self, h0, h3, h7, h8, h9, hlt', hx, hw, hid', Rg.c]; done)))))
          | (((with_reducible refine PW.drawR (id := 9) mixed [] [(0, true), (1, true), (2, true), (3, true), (4, true), (5, true), (6, true), (7, false), (8, true)] (by kernel_rfl) (by decide) fun K2 hK2 => ?_)))
          | (((with_reducible refine PW.drawR (id := 10) mixed [] [(0, true), (1, true), (2, true), (3, true), (4, true), (5, false), (6, true)] (by kernel_rfl) (by decide) fun K2 hK2 => ?_)))
          | (((with_reducible refine PW.drawR (id := 11) mixed [] [(0, true), (1, true), (2, true), (3, true), (4, true), (5, true), (6, true), (7, true), (8, true), (9, true), (10, true)] (by kernel_rfl) (by decide) fun K2 hK2 => ?_)))
          | (((with_reducible refine PW.drawR (id := 14) mixed [] [(0, true), (1, true), (2, true), (3, true), (4, true), (5, true), (6, true), (7, true), (8, true), (9, true), (10, true), (11, true), (12, true), (13, true), (14, true), (15, true)] (by kernel_rfl) (by decide) fun K2 hK2 => ?_)))
          | (((with_reducible refine And.intro ?_ ?_); (focus (first | omega | (simp; done) | assumption))))
          | ((simp only [thenP, blockP]; (try ((repeat (fail_if_success (with_reducible refine hK1 _ ?_)); clear hK1); (with_reducible refine hK1 _ ?_); clear hK1))))
          | (((first | (((with_reducible refine opsP_cons fun K3 hK3 => ?_); simp only [wantP, opP, valP, Ur, Us, List.mapM_cons, List.mapM_nil, Uw, Ux])) | (((with_reducible refine opsO_first (o := ?_) ?_ fun K3 hK3 => ?_); rotate_left 1; (focus (simp only [Uz, Ub, Ua] <;> rfl)); simp only [wantP, firstP, valP])) | (((with_reducible refine opsO_only (o := ?_) ?_ fun K3 hK3 => ?_); rotate_left 1; (focus (simp only [Uz, Ub, Ua] <;> rfl)); simp only [wantP, opP, Ur, Us, Uw, Ux])) | ((with_reducible refine PW.condM fun X1 Y1 hX1 hY1 => ?_)) | (skip)); simp (disch := omega) only [wantB_ff, wantB_ft, St.eval, St.put, upd_app, avOf, avOf1, cellsA, AV.okv, loadA, lenP, binP, intsP, intP, nilP, convP, unP, builtinP, appP, srcA, srcTy, isMapA, isBsl, U3, U4, U5, slA, elA, dv1, Ua, Ub, Uc, Uf, Ug, Uk, Ul, Un, Uo, Up, Ur, Us, Ut, Uu, Uv, List.mapM_cons, List.mapM_nil, Uw, Ux, Uz, V0, V1, V2, V4, Option.bind_eq_bind, Option.pure_def, V7, V9, Va, Ve, UU9, Vr, PmL, simprocAttr, PmT, h0, h3, h7, h8, h9, hlt', hx, hw, hid', Rg.c, condP, condB_t, condB_f, firstOk, List.mem_cons]; try (with_reducible (first | exact co_refl _ | exact co_own _ _ _ | exact co_nilsB | exact co_nilsL _ _)))))
        refine ⟨l.length - (k + 1), by omega, k + 1, out ++ [x], true, ?_, ?_, ?_, ?_, ?_, ?_, ?_, by omega, rfl, by simp; omega, by rw [List.append_assoc]; exact ho, hno'⟩
        all_goals (simp only [St.cut, Mem.cut, fg, fgs, upd_app, Nat.reduceEqDiff, ↓reduceIte, List.take_nil, List.map_nil, List.take_succ_cons, List.map_cons, Option.map_some, Nat.zero_lt_one, Nat.reduceAdd, List.length_append, List.length_cons, List.length_nil, Int.natCast_add, Int.cast_ofNat_Int, h0, h3, h8, encL_snoc, Rg.c]; try rfl)
      | false =>
        rcases Classical.propComplete (0 < cmpB x.f r.f) with hc | hc
        · rw [if_pos ⟨rfl, of_eq_true hc⟩] at ho
          repeat' (first
            | ((with_reducible (first
             | (refine PW.seq fun K1 hK1 => ?_) | (refine PW.region fun K2 hK2 => ?_) | ((refine hK3 _ ?_; clear hK3)) | ((refine opsP_nil ?_; refine hK2 _ ?_; clear hK2)) | (refine litX_old ?_) | (refine litC_data ?_) | (refine PW.block ?_) | (refine PW.skip ?_)
             | ((refine hX1 ?_; clear hX1 hY1; try simp only [hb])) | ((refine hY1 ?_; clear hX1 hY1; try simp only [hb])) | ((refine opsO_nil ?_; refine hK2 _ ?_; clear hK2)) | ((refine keepA_intro ?_ ?_; focus (first | exact keep_same _ _ | exact keep_box _ _ _ _ | exact keep_hd _ _ _ _ _ | exact keep_02 _ _ _ _ _ _ _ | exact keep_1 _ _ _ _ _ _ _))))))
            | (((with_reducible refine cC_pure ?_ (hM) (fun _ => ?_)); (focus ((repeat' constructor) <;> (simp only [purAs, purA, Vf, Bool.and_self, h0, h3, h7, h8, h9, hlt', hx, hw, hid', hc, lex_gt, Rg.c]; done)))))
            | (((with_reducible refine cC_pure ?_ (hSm) (fun _ => ?_)); (focus ((repeat' constructor) <;> (simp only [purAs, purA, Vf, Bool.and_self, h0, h3, h7, h8, h9, hlt', hx, hw, hid', hc, lex_gt, Rg.c]; done)))))
            | (((with_reducible refine PW.drawR (id := 9) mixed [] [(0, true), (1, true), (2, true), (3, true), (4, true), (5, true), (6, true), (7, false), (8, true)] (by kernel_rfl) (by decide) fun K2 hK2 => ?_)))
            | (((with_reducible refine PW.drawR (id := 10) mixed [] [(0, true), (1, true), (2, true), (3, true), (4, true), (5, false), (6, true)] (by kernel_rfl) (by decide) fun K2 hK2 => ?_)))
            | (((with_reducible refine PW.drawR (id := 11) mixed [] [(0, true), (1, true), (2, true), (3, true), (4, true), (5, true), (6, true), (7, true), (8, true), (9, true), (10, true)] (by kernel_rfl) (by decide) fun K2 hK2 => ?_)))
            | (((with_reducible refine PW.drawR (id := 14) mixed [] [(0, true), (1, true), (2, true), (3, true), (4, true), (5, true), (6, true), (7, true), (8, true), (9, true), (10, true), (11, true), (12, true), (13, true), (14, true), (15, true)] (by kernel_rfl) (by decide) fun K2 hK2 => ?_)))
            | (((with_reducible refine And.intro ?_ ?_); (focus (first | omega | (simp; done) | assumption))))
            | ((simp only [thenP, blockP]; (try ((repeat (fail_if_success (with_reducible refine hK1 _ ?_)); clear hK1); (with_reducible refine hK1 _ ?_); clear hK1))))
            | (((first | (((with_reducible refine opsP_cons fun K3 hK3 => ?_); simp only [wantP, opP, valP, Ur, Us, List.mapM_cons, List.mapM_nil, Uw, Ux])) | (((with_reducible refine opsO_first (o := ?_) ?_ fun K3 hK3 => ?_); rotate_left 1; (focus (simp only [Uz, Ub, Ua] <;> rfl)); simp only [wantP, firstP, valP])) | (((with_reducible refine opsO_only (o := ?_) ?_ fun K3 hK3 => ?_); rotate_left 1; (focus (simp only [Uz, Ub, Ua] <;> rfl)); simp only [wantP, opP, Ur, Us, Uw, Ux])) | ((with_reducible refine PW.condM fun X1 Y1 hX1 hY1 => ?_)) | (skip)); simp (disch := omega) only [wantB_tt, wantB_ff, St.eval, St.put, upd_app, avOf, avOf1, cellsA, AV.okv, loadA, lenP, binP, intsP, intP, strP, nilP, convP, unP, builtinP, appP, srcA, srcTy, isMapA, isBsl, U3, U4, U5, slA, elA, dv1, Ua, Ub, Uc, Uf, Ug, Ui, Uk, Ul, Un, Uo, Up, Ur, Us, Ut, Uu, Uv, List.mapM_cons, List.mapM_nil, Uw, Ux, Uz, V0, V1, V2, V4, Option.bind_eq_bind, Option.pure_def, V7, V9, Va, Ve, UU9, Vr, PmL, simprocAttr, PmT, h0, h3, h7, h8, h9, hlt', hx, hw, hid', hc, lex_gt, Rg.c, condP, condB_t, condB_f, firstOk, List.mem_cons]; try (with_reducible (first | exact co_refl _ | exact co_own _ _ _ | exact co_nilsB | exact co_nilsL _ _)))))
          refine ⟨l.length - (k + 1), by omega, k + 1, out ++ [r] ++ [x], true, ?_, ?_, ?_, ?_, ?_, ?_, ?_, by omega, rfl, by simp; omega, by rw [List.append_assoc, List.append_assoc]; exact ho, hno'⟩
          all_goals (simp only [St.cut, Mem.cut, fg, fgs, upd_app, Nat.reduceEqDiff, ↓reduceIte, List.take_nil, List.map_nil, List.take_succ_cons, List.map_cons, Option.map_some, Nat.zero_lt_one, Nat.reduceAdd, List.length_append, List.length_cons, List.length_nil, List.append_assoc, Nat.add_assoc, Int.natCast_add, Int.cast_ofNat_Int, h0, h3]; try rfl)
          all_goals simp [encL, Rg.c]
        · rw [if_neg (fun h => of_eq_false hc h.2)] at ho
          repeat' (first
            | ((with_reducible (first
             | (refine PW.seq fun K1 hK1 => ?_) | (refine PW.region fun K2 hK2 => ?_) | ((refine hK3 _ ?_; clear hK3)) | ((refine opsP_nil ?_; refine hK2 _ ?_; clear hK2)) | (refine litX_old ?_) | (refine litC_data ?_) | (refine PW.block ?_) | (refine PW.skip ?_)
             | ((refine hX1 ?_; clear hX1 hY1; try simp only [hb])) | ((refine hY1 ?_; clear hX1 hY1; try simp only [hb])) | ((refine opsO_nil ?_; refine hK2 _ ?_; clear hK2)) | ((refine keepA_intro ?_ ?_; focus (first | exact keep_same _ _ | exact keep_box _ _ _ _ | exact keep_hd _ _ _ _ _ | exact keep_02 _ _ _ _ _ _ _ | exact keep_1 _ _ _ _ _ _ _))))))
            | (((with_reducible refine cC_pure ?_ (hM) (fun _ => ?_)); (focus ((repeat' constructor) <;> (simp only [purAs, purA, Vf, Bool.and_self, h0, h3, h7, h8, h9, hlt', hx, hw, hid', hc, lex_gt, Rg.c]; done)))))
            | (((with_reducible refine cC_pure ?_ (hSm) (fun _ => ?_)); (focus ((repeat' constructor) <;> (simp only [purAs, purA, Vf, Bool.and_self, h0, h3, h7, h8, h9, hlt', hx, hw, hid', hc, lex_gt, Rg.c]; done)))))
            | (((with_reducible refine PW.drawR (id := 9) mixed [] [(0, true), (1, true), (2, true), (3, true), (4, true), (5, true), (6, true), (7, false), (8, true)] (by kernel_rfl) (by decide) fun K2 hK2 => ?_)))
            | (((with_reducible refine PW.drawR (id := 10) mixed [] [(0, true), (1, true), (2, true), (3, true), (4, true), (5, false), (6, true)] (by kernel_rfl) (by decide) fun K2 hK2 => ?_)))
            | (((with_reducible refine PW.drawR (id := 11) mixed [] [(0, true), (1, true), (2, true), (3, true), (4, true), (5, true), (6, true), (7, true), (8, true), (9, true), (10, true)] (by kernel_rfl) (by decide) fun K2 hK2 => ?_)))
            | (((with_reducible refine PW.drawR (id := 14) mixed [] [(0, true), (1, true), (2, true), (3, true), (4, true), (5, true), (6, true), (7, true), (8, true), (9, true), (10, true), (11, true), (12, true), (13, true), (14, true), (15, true)] (by kernel_rfl) (by decide) fun K2 hK2 => ?_)))
            | (((with_reducible refine And.intro ?_ ?_); (focus (first | omega | (simp; done) | assumption))))
            | ((simp only [thenP, blockP]; (try ((repeat (fail_if_success (with_reducible refine hK1 _ ?_)); clear hK1); (with_reducible refine hK1 _ ?_); clear hK1))))
            | (((first | (((with_reducible refine opsP_cons fun K3 hK3 => ?_); simp only [wantP, opP, valP, Ur, Us, List.mapM_cons, List.mapM_nil, Uw, Ux])) | (((with_reducible refine opsO_first (o := ?_) ?_ fun K3 hK3 => ?_); rotate_left 1; (focus (simp only [Uz, Ub, Ua] <;> rfl)); simp only [wantP, firstP, valP])) | (((with_reducible refine opsO_only (o := ?_) ?_ fun K3 hK3 => ?_); rotate_left 1; (focus (simp only [Uz, Ub, Ua] <;> rfl)); simp only [wantP, opP, Ur, Us, Uw, Ux])) | ((with_reducible refine PW.condM fun X1 Y1 hX1 hY1 => ?_)) | (skip)); simp (disch := omega) only [wantB_tt, wantB_ff, St.eval, St.put, upd_app, avOf, avOf1, cellsA, AV.okv, loadA, lenP, binP, intsP, intP, strP, nilP, convP, unP, builtinP, appP, srcA, srcTy, isMapA, isBsl, U3, U4, U5, slA, elA, dv1, Ua, Ub, Uc, Uf, Ug, Uk, Ul, Un, Uo, Up, Ur, Us, Ut, Uu, Uv, List.mapM_cons, List.mapM_nil, Uw, Ux, Uz, V0, V1, V2, V4, Option.bind_eq_bind, Option.pure_def, V7, V9, Va, Ve, UU9, Vr, PmL, simprocAttr, PmT, h0, h3, h7, h8, h9, hlt', hx, hw, hid', hc, lex_gt, Rg.c, condP, condB_t, condB_f, firstOk, List.mem_cons]; try (with_reducible (first | exact co_refl _ | exact co_own _ _ _ | exact co_nilsB | exact co_nilsL _ _)))))
          refine ⟨l.length - (k + 1), by omega, k + 1, out ++ [x], false, ?_, ?_, ?_, ?_, ?_, ?_, ?_, by omega, rfl, by simp; omega, by rw [List.append_assoc]; exact ho, hno'⟩
          all_goals (simp only [St.cut, Mem.cut, fg, fgs, upd_app, Nat.reduceEqDiff, ↓reduceIte, List.take_nil, List.map_nil, List.take_succ_cons, List.map_cons, Option.map_some, Nat.zero_lt_one, Nat.reduceAdd, List.length_append, List.length_cons, List.length_nil, Int.natCast_add, Int.cast_ofNat_Int, h0, h3, h8, encL_snoc, Rg.c]; try rfl)
  · have hlt' := eq_false hlt
    obtain rfl : k = l.length := by omega
    rw [List.take_length] at hno
    rw [List.drop_length, insR] at ho
    have e : learnR r l = (insR r l false, true) := if_pos ⟨hr, hno⟩
    cases d with
    | true =>
      rw [if_pos rfl, List.append_nil] at ho
      repeat' (first
        | ((with_reducible (first
         | (refine PW.seq fun K1 hK1 => ?_) | (refine PW.region fun K2 hK2 => ?_) | ((refine hK3 _ ?_; clear hK3)) | ((refine opsP_nil ?_; refine hK2 _ ?_; clear hK2)) | (refine PW.skip ?_)
         | (refine PW.exit ?_) | (refine PW.ret ?_) | ((refine hY1 ?_; clear hX1 hY1; try simp only [hb])) )))
        | ((simp only [thenP, blockP, ↓reduceIte]; (try ((repeat (fail_if_success (with_reducible refine hK1 _ ?_)); clear hK1); (with_reducible refine hK1 _ ?_); clear hK1))))
        | (((first | (((with_reducible refine opsP_cons fun K3 hK3 => ?_); simp only [wantP, opP, valP, Ur, Us])) | ((with_reducible refine PW.condM fun X1 Y1 hX1 hY1 => ?_)) | (skip)); simp (disch := omega) only [St.eval, St.put, upd_app, avOf, avOf1, lenP, binP, intsP, intP, nilP, unP, builtinP, isMapA, slA, Vd, Ve, PmL, simprocAttr, PmT, h0, h7, h8, h9, hlt', retQ, resP, tupA, fg, fgs, condP, condB_f]; try (with_reducible (first | exact co_refl _ | exact co_own _ _ _ | exact co_nilsB | exact co_nilsL _ _)))))
      all_goals exact co_eq (by rw [e, ← ho])
    | false =>
      rw [if_neg (by simp)] at ho
      repeat' (first
        | ((with_reducible (first
         | (refine PW.seq fun K1 hK1 => ?_) | (refine PW.region fun K2 hK2 => ?_) | ((refine hK3 _ ?_; clear hK3)) | ((refine opsP_nil ?_; refine hK2 _ ?_; clear hK2)) | (refine litX_old ?_) | (refine litC_data ?_) 
         | (refine PW.exit ?_) | (refine PW.ret ?_) | ((refine hX1 ?_; clear hX1 hY1; try simp only [hb])) | ((refine hY1 ?_; clear hX1 hY1; try simp only [hb])) )))
        | (((with_reducible refine And.intro ?_ ?_); (focus (first | omega | (simp; done) | assumption))))
        | ((simp only [thenP, blockP, ↓reduceIte]; (try ((repeat (fail_if_success (with_reducible refine hK1 _ ?_)); clear hK1); (with_reducible refine hK1 _ ?_); clear hK1))))
        | (((first | (((with_reducible refine opsP_cons fun K3 hK3 => ?_); simp only [wantP, opP, valP, Ur, Us, List.mapM_cons, List.mapM_nil, Uw, Ux])) | ((with_reducible refine PW.condM fun X1 Y1 hX1 hY1 => ?_)) | (skip)); simp (disch := omega) only [St.eval, St.put, upd_app, avOf, avOf1, cellsA, AV.okv, loadA, lenP, binP, intsP, intP, nilP, unP, builtinP, appP, srcA, srcTy, isMapA, isBsl, U3, U4, U5, slA, elA, dv1, Ua, Uc, Uf, Ug, Uk, Un, Up, Ut, Uu, Uv, List.mapM_cons, List.mapM_nil, Uw, Ux, V0, V1, V2, V4, Option.bind_eq_bind, Option.pure_def, V9, Vd, Ve, UU9, Vr, PmL, simprocAttr, PmT, h0, h3, h7, h8, h9, hlt', retQ, resP, tupA, fg, fgs, condP, condB_t, condB_f]; try (with_reducible (first | exact co_refl _ | exact co_own _ _ _ | exact co_nilsB | exact co_nilsL _ _)))))
      exact co_eq (by rw [e, ← ho]; simp [encL, Rg.c])
end PM
end Go.Proofs.Ytbeniogffhihlaa
