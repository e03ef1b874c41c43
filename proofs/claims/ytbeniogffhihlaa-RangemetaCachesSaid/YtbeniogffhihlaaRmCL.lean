/- rangemeta in the abstract: what is left of a span: the document's Left, Cache.Cut. -/
import Derived.Test.YtbeniogffhihlaaRmP10
set_option linter.unusedVariables false
set_option linter.unusedSimpArgs false
namespace Go.Proofs.Ytbeniogffhihlaa
open Go.RowKit
set_option maxRecDepth 100000
namespace PM
abbrev Spn : Type := List Int × List Int
def spC (p : Spn) : List DV := [.sl 1 (encB p.1), .sl 1 (encB p.2)]
abbrev spl (l : List Spn) : AV := .d (.sl 2 (encL spC l))
/-- the document's way -/
def lrS (t : List Int) : List Int → List Rg → List Spn
  | f, [] => if spE f t = true then [] else [(f, t)]
  | f, x :: l => if spM x.f x.t f t = true then (if 0 < cmpB x.f f then [(f, x.f)] else []) ++ (if x.t.length = 0 then [] else lrS t x.t l) else lrS t f l
theorem lrS_len (t : List Int) : ∀ (l : List Rg) (f : List Int), (lrS t f l).length ≤ l.length + 1
  | [], f => by unfold lrS; split <;> simp
  | x :: l, f => by
    have h1 := lrS_len t l x.t
    have h2 := lrS_len t l f
    unfold lrS
    split
    · rw [List.length_append]
      split <;> split <;> simp <;> omega
    · simp; omega
set_option maxHeartbeats 16000000 in
theorem pRLeft (l : List Rg) (f t : List Int) (hl : l.length ≤ 100000) : Pure Try.prog 40 [rl l, .agg [bs f, bs t]] (spl (if spE f t = true then [] else lrS t f l)) := by
  refine pure_intro Try.func40 rfl rfl rfl 83 rfl (fun hh => ?_)
  have hE := pREmpty f t
  cases hs : spE f t with
  | true =>
    rw [hs] at hE
    repeat' (first
      | ((with_reducible (first
       | (refine PW.seq fun K1 hK1 => ?_) | (refine PW.region fun K2 hK2 => ?_) | ((refine hK3 _ ?_; clear hK3)) | ((refine opsP_nil ?_; refine hK2 _ ?_; clear hK2)) 
       | (refine PW.ret ?_) | ((refine hX1 ?_; clear hX1 hY1; try simp only [hb])) )))
      | (((with_reducible refine cC_pure ?_ (hE) (fun _ => ?_)); (focus ((repeat' constructor); done))))
      | ((simp only [thenP, ↓reduceIte]; (try ((repeat (fail_if_success (with_reducible refine hK1 _ ?_)); clear hK1); (with_reducible refine hK1 _ ?_); clear hK1))))
      | (((first | (((with_reducible refine opsP_cons fun K3 hK3 => ?_); simp only [wantP, opP, valP, Ur, Us])) | ((with_reducible refine PW.condM fun X1 Y1 hX1 hY1 => ?_)) | (skip)); simp (disch := omega) only [St.eval, St.put, upd_app, iniT_app, avOf, avOf1, nom, cellsA, AV.okv, loadA, U7, U8, Ua, Uf, Ug, Uk, Un, Up, Ut, Uv, V9, Va, Ve, Vr, PmL, simprocAttr, PmT, retQ, resP, tupA, fg, condP, condB_t]; try (with_reducible (first | exact co_refl _ | exact co_own _ _ _ | exact co_nilsB | exact co_nilsL _ _)))))
    all_goals exact co_nilsL _ _
  | false =>
  rw [hs] at hE
  repeat' (first
    | ((with_reducible (first
     | (refine PW.seq fun K1 hK1 => ?_) | (refine PW.region fun K2 hK2 => ?_) | ((refine hK3 _ ?_; clear hK3)) | ((refine opsP_nil ?_; refine hK2 _ ?_; clear hK2)) | (refine PW.block ?_) | (refine PW.skip ?_)
     | ((refine hY1 ?_; clear hX1 hY1; try simp only [hb])) )))
    | (((with_reducible refine cC_pure ?_ (hE) (fun _ => ?_)); (focus ((repeat' constructor); done))))
    | ((simp only [thenP]; (try ((repeat (fail_if_success (with_reducible refine hK1 _ ?_)); clear hK1); (with_reducible refine hK1 _ ?_); clear hK1))))
    | (((first | (((with_reducible refine opsP_cons fun K3 hK3 => ?_); simp only [wantP, opP, valP, Ur, Us])) | ((with_reducible refine PW.condM fun X1 Y1 hX1 hY1 => ?_)) | (skip)); simp (disch := omega) only [St.eval, St.put, upd_app, iniT_app, avOf, avOf1, nom, cellsA, AV.okv, loadA, U7, U8, Ua, Uf, Ug, Uk, Un, Up, Ut, Uv, V9, Va, Ve, Vr, PmL, simprocAttr, PmT, condP, condB_f]; try (with_reducible (first | exact co_refl _ | exact co_own _ _ _ | exact co_nilsB | exact co_nilsL _ _)))))
  (with_reducible refine PW.nil2ownL (bx := ?_) spC 5 25 2 (by decide) ?_ ?_ ?_; rotate_left 1; (focus (simp only [upd_app, Nat.reduceEqDiff, ↓reduceIte])); (focus (exact rfl)))
  (with_reducible refine PW.loop (fun n s => ∃ (k : Nat) (out : List Spn) (g : List Int), s.t 0 = rl l ∧ s.t 3 = .ptr 0 0 ∧ s.t 5 = .own 0 2 (encL spC out) ∧ s.t 6 = bs g ∧ s.t 8 = .d (.int .i64 k) ∧ s.n = 83 ∧ s.m = ⟨[some (25, [bs f, bs t])], [some ⟨25, 2, out.length⟩]⟩ ∧ k ≤ l.length ∧ n = l.length - k ∧ out.length ≤ k ∧ out ++ lrS t g (l.drop k) = lrS t f l) l.length ?_ ?_)
  · exact ⟨0, [], f, rfl, rfl, rfl, rfl, rfl, rfl, rfl, Nat.zero_le _, rfl, Nat.le_refl _, rfl⟩
  rintro n ⟨s, nn, m⟩ ⟨k, out, g, h0, h3, h5, h6, h8, hn, hm, hk, hnk, hol, ho⟩ - -
  simp only at h0 h3 h5 h6 h8 hn hm
  subst hn hm
  by_cases hlt : (k : Int) < l.length
  · have hlt' := eq_true hlt
    have hw : IntKind.i64.wrap ((k : Int) + 1) = k + 1 := IntWalk.i64_in ((k : Int) + 1) (by omega)
    obtain ⟨x, hx⟩ : ∃ x, l[k]? = some x := ⟨_, List.getElem?_eq_getElem (by omega)⟩
    have hM := pRMeet x.f x.t g t
    rw [drop_cons hx, lrS] at ho
    cases hm1 : spM x.f x.t g t with
    | false =>
      rw [hm1] at hM
      rw [if_neg (by rw [hm1]; simp)] at ho
      repeat' (first
        | ((with_reducible (first
         | (refine PW.seq fun K1 hK1 => ?_) | (refine PW.region fun K2 hK2 => ?_) | ((refine hK3 _ ?_; clear hK3)) | ((refine opsP_nil ?_; refine hK2 _ ?_; clear hK2)) | (refine PW.block ?_) | (refine PW.skip ?_)
         | (refine PW.exit ?_) | ((refine hX1 ?_; clear hX1 hY1; try simp only [hb])) | ((refine opsO_nil ?_; refine hK2 _ ?_; clear hK2)) | ((refine keepA_intro ?_ ?_; focus (first | exact keep_same _ _ | exact keep_box _ _ _ _ | exact keep_hd _ _ _ _ _ | exact keep_02 _ _ _ _ _ _ _ | exact keep_1 _ _ _ _ _ _ _))))))
        | (((with_reducible refine cC_pure ?_ (hM) (fun _ => ?_)); (focus ((repeat' constructor) <;> (simp only [purAs, purA, Vf, Bool.and_self, h0, h3, h5, h6, h8, hlt', hx, hw, Rg.c]; done)))))
        | (((with_reducible refine PW.drawR (id := 9) mixed [] [(0, true), (1, true), (2, true), (3, true), (4, true), (5, true), (6, true), (7, true), (8, true), (9, false), (10, true)] (by kernel_rfl) (by decide) fun K2 hK2 => ?_)))
        | (((with_reducible refine And.intro ?_ ?_); (focus (first | omega | (simp; done) | assumption))))
        | ((simp only [thenP, blockP, ↓reduceIte]; (try ((repeat (fail_if_success (with_reducible refine hK1 _ ?_)); clear hK1); (with_reducible refine hK1 _ ?_); clear hK1))))
        | (((first | (((with_reducible refine opsP_cons fun K3 hK3 => ?_); simp only [wantP, opP, valP, Ur, Us])) | (((with_reducible refine opsO_first (o := ?_) ?_ fun K3 hK3 => ?_); rotate_left 1; (focus (simp only [Uz, Ub, Ua] <;> rfl)); simp only [wantP, firstP, valP, Ur, Us])) | (((with_reducible refine opsO_only (o := ?_) ?_ fun K3 hK3 => ?_); rotate_left 1; (focus (simp only [Uz, Ub, Ua] <;> rfl)); simp only [wantP, opP, Ur, Us, Uw, Ux])) | ((with_reducible refine PW.condM fun X1 Y1 hX1 hY1 => ?_)) | (skip)); simp (disch := omega) only [St.eval, St.put, upd_app, avOf, avOf1, cellsA, AV.okv, loadA, lenP, binP, intsP, intP, nilP, unP, builtinP, isMapA, slA, putCells, fillA, buildA, Ua, Ub, Uc, Ud, Uf, Ug, Uk, Ul, Un, Uo, Ur, Us, Ut, Uv, V0, V1, V2, V7, V9, Vd, Ve, Vt, UU2, UU3, PmL, simprocAttr, PmT, h0, h3, h6, h8, hlt', hx, hw, Rg.c, condP, condB_t, firstOk, List.mem_cons]; try (with_reducible (first | exact co_refl _ | exact co_own _ _ _ | exact co_nilsB | exact co_nilsL _ _)))))
      refine ⟨l.length - (k + 1), by omega, k + 1, out, g, ?_, ?_, ?_, ?_, ?_, ?_, ?_, by omega, rfl, by omega, ho⟩
      all_goals (simp only [St.cut, Mem.cut, fg, fgs, upd_app, Nat.reduceEqDiff, ↓reduceIte, List.take_nil, List.map_nil, List.take_succ_cons, List.map_cons, Option.map_some, Nat.zero_lt_one, Int.natCast_add, Int.cast_ofNat_Int, h0, h3, h5, h6]; try rfl)
    | true =>
      rw [hm1] at hM
      rw [if_pos hm1] at ho
      rcases Classical.propComplete (0 < cmpB x.f g) with hc | hc <;> rcases Classical.propComplete ((x.t.length : Int) = 0) with hz | hz
      · rw [if_pos (of_eq_true hc), if_pos (by have := of_eq_true hz; omega), List.append_nil] at ho
        repeat' (first
          | ((with_reducible (first
           | (refine PW.seq fun K1 hK1 => ?_) | (refine PW.region fun K2 hK2 => ?_) | ((refine hK3 _ ?_; clear hK3)) | ((refine opsP_nil ?_; refine hK2 _ ?_; clear hK2)) | (refine litX_old ?_) | (refine litC_data ?_) | (refine PW.block ?_) | (refine PW.skip ?_)
           | (refine PW.ret ?_) | ((refine hX1 ?_; clear hX1 hY1; try simp only [hb])) | ((refine hY1 ?_; clear hX1 hY1; try simp only [hb])) | ((refine opsO_nil ?_; refine hK2 _ ?_; clear hK2)) | ((refine keepA_intro ?_ ?_; focus (first | exact keep_same _ _ | exact keep_box _ _ _ _ | exact keep_hd _ _ _ _ _ | exact keep_02 _ _ _ _ _ _ _ | exact keep_1 _ _ _ _ _ _ _))))))
          | (((with_reducible refine cC_pure ?_ (hM) (fun _ => ?_)); (focus ((repeat' constructor) <;> (simp only [purAs, purA, Vf, Bool.and_self, h0, h3, h5, h6, h8, hlt', hx, hc, hz, lex_gt, Rg.c]; done)))))
          | (((with_reducible refine PW.drawR (id := 9) mixed [] [(0, true), (1, true), (2, true), (3, true), (4, true), (5, true), (6, true), (7, true), (8, true), (9, false), (10, true)] (by kernel_rfl) (by decide) fun K2 hK2 => ?_)))
          | (((with_reducible refine PW.drawR (id := 11) mixed [] [(0, true), (1, true), (2, true), (3, true), (4, true), (5, true), (6, true), (7, true), (8, true), (9, true)] (by kernel_rfl) (by decide) fun K2 hK2 => ?_)))
          | (((with_reducible refine And.intro ?_ ?_); (focus (first | omega | (simp; done) | assumption))))
          | ((simp only [thenP, blockP]; (try ((repeat (fail_if_success (with_reducible refine hK1 _ ?_)); clear hK1); (with_reducible refine hK1 _ ?_); clear hK1))))
          | (((first | (((with_reducible refine opsP_cons fun K3 hK3 => ?_); simp only [wantP, opP, valP, Ur, Us, List.mapM_cons, List.mapM_nil, Uw, Ux])) | (((with_reducible refine opsO_first (o := ?_) ?_ fun K3 hK3 => ?_); rotate_left 1; (focus (simp only [Uz, Ub, Ua] <;> rfl)); simp only [wantP, firstP, valP, Ur, Us])) | (((with_reducible refine opsO_only (o := ?_) ?_ fun K3 hK3 => ?_); rotate_left 1; (focus (simp only [Uz, Ub, Ua] <;> rfl)); simp only [wantP, opP, Ur, Us, Uw, Ux])) | ((with_reducible refine PW.condM fun X1 Y1 hX1 hY1 => ?_)) | (skip)); simp (disch := omega) only [St.eval, St.put, upd_app, avOf, avOf1, cellsA, AV.okv, loadA, lenP, binP, intsP, intP, strP, nilP, convP, unP, builtinP, appP, srcA, srcTy, isMapA, isBsl, U3, U4, U5, slA, putCells, fillA, buildA, elA, dv1, Ua, Ub, Uc, Ud, Uf, Ug, Uk, Ul, Un, Uo, Ur, Us, Ut, Uu, Uv, List.mapM_cons, List.mapM_nil, Uw, Ux, V0, V1, V2, V4, Option.bind_eq_bind, Option.pure_def, V7, V9, Vd, Ve, Vt, UU2, UU3, UU9, PmL, simprocAttr, PmT, h0, h3, h5, h6, h8, hlt', hx, hc, hz, lex_gt, Rg.c, retQ, resP, tupA, fg, condP, condB_t, condB_f, firstOk, List.mem_cons]; try (with_reducible (first | exact co_refl _ | exact co_own _ _ _ | exact co_nilsB | exact co_nilsL _ _)))))
        all_goals exact co_eq (by rw [← ho]; simp [encL, spC])
      · rw [if_pos (of_eq_true hc), if_neg (by have := of_eq_false hz; omega)] at ho
        repeat' (first
          | ((with_reducible (first
           | (refine PW.seq fun K1 hK1 => ?_) | (refine PW.region fun K2 hK2 => ?_) | ((refine hK3 _ ?_; clear hK3)) | ((refine opsP_nil ?_; refine hK2 _ ?_; clear hK2)) | (refine litX_old ?_) | (refine litC_data ?_) | (refine PW.block ?_) | (refine PW.skip ?_)
           | ((refine hX1 ?_; clear hX1 hY1; try simp only [hb])) | ((refine hY1 ?_; clear hX1 hY1; try simp only [hb])) | ((refine opsO_nil ?_; refine hK2 _ ?_; clear hK2)) | ((refine keepA_intro ?_ ?_; focus (first | exact keep_same _ _ | exact keep_box _ _ _ _ | exact keep_hd _ _ _ _ _ | exact keep_02 _ _ _ _ _ _ _ | exact keep_1 _ _ _ _ _ _ _))))))
          | (((with_reducible refine cC_pure ?_ (hM) (fun _ => ?_)); (focus ((repeat' constructor) <;> (simp only [purAs, purA, Vf, Bool.and_self, h0, h3, h5, h6, h8, hlt', hx, hw, hc, hz, lex_gt, Rg.c]; done)))))
          | (((with_reducible refine PW.drawR (id := 9) mixed [] [(0, true), (1, true), (2, true), (3, true), (4, true), (5, true), (6, true), (7, true), (8, true), (9, false), (10, true)] (by kernel_rfl) (by decide) fun K2 hK2 => ?_)))
          | (((with_reducible refine PW.drawR (id := 11) mixed [] [(0, true), (1, true), (2, true), (3, true), (4, true), (5, true), (6, true), (7, true), (8, true), (9, true)] (by kernel_rfl) (by decide) fun K2 hK2 => ?_)))
          | (((with_reducible refine And.intro ?_ ?_); (focus (first | omega | (simp; done) | assumption))))
          | ((simp only [thenP, blockP]; (try ((repeat (fail_if_success (with_reducible refine hK1 _ ?_)); clear hK1); (with_reducible refine hK1 _ ?_); clear hK1))))
          | (((first | (((with_reducible refine opsP_cons fun K3 hK3 => ?_); simp only [wantP, opP, valP, Ur, Us, List.mapM_cons, List.mapM_nil, Uw, Ux])) | (((with_reducible refine opsO_first (o := ?_) ?_ fun K3 hK3 => ?_); rotate_left 1; (focus (simp only [Uz, Ub, Ua] <;> rfl)); simp only [wantP, firstP, valP, Ur, Us])) | (((with_reducible refine opsO_only (o := ?_) ?_ fun K3 hK3 => ?_); rotate_left 1; (focus (simp only [Uz, Ub, Ua] <;> rfl)); simp only [wantP, opP, Ur, Us, Uw, Ux])) | ((with_reducible refine PW.condM fun X1 Y1 hX1 hY1 => ?_)) | (skip)); simp (disch := omega) only [St.eval, St.put, upd_app, avOf, avOf1, cellsA, AV.okv, loadA, lenP, binP, intsP, intP, strP, nilP, convP, unP, builtinP, appP, srcA, srcTy, isMapA, isBsl, U3, U4, U5, slA, putCells, fillA, buildA, elA, dv1, Ua, Ub, Uc, Ud, Uf, Ug, Uk, Ul, Un, Uo, Ur, Us, Ut, Uu, Uv, List.mapM_cons, List.mapM_nil, Uw, Ux, V0, V1, V2, V4, Option.bind_eq_bind, Option.pure_def, V7, V9, Vd, Ve, Vt, UU2, UU3, UU9, PmL, simprocAttr, PmT, h0, h3, h5, h6, h8, hlt', hx, hw, hc, hz, lex_gt, Rg.c, condP, condB_t, condB_f, firstOk, List.mem_cons]; try (with_reducible (first | exact co_refl _ | exact co_own _ _ _ | exact co_nilsB | exact co_nilsL _ _)))))
        refine ⟨l.length - (k + 1), by omega, k + 1, out ++ [(g, x.f)], x.t, ?_, ?_, ?_, ?_, ?_, ?_, ?_, by omega, rfl, by simp; omega, by rw [List.append_assoc]; exact ho⟩
        all_goals (simp only [St.cut, Mem.cut, fg, fgs, upd_app, Nat.reduceEqDiff, ↓reduceIte, List.take_nil, List.map_nil, List.take_succ_cons, List.map_cons, Option.map_some, Nat.zero_lt_one, Nat.reduceAdd, List.length_append, List.length_cons, List.length_nil, Int.natCast_add, Int.cast_ofNat_Int, h0, h3, encL_snoc, spC]; try rfl)
      · rw [if_neg (of_eq_false hc), if_pos (by have := of_eq_true hz; omega), List.append_nil, List.append_nil] at ho
        repeat' (first
          | ((with_reducible (first
           | (refine PW.seq fun K1 hK1 => ?_) | (refine PW.region fun K2 hK2 => ?_) | ((refine hK3 _ ?_; clear hK3)) | ((refine opsP_nil ?_; refine hK2 _ ?_; clear hK2)) | (refine PW.block ?_) | (refine PW.skip ?_)
           | (refine PW.ret ?_) | ((refine hX1 ?_; clear hX1 hY1; try simp only [hb])) | ((refine hY1 ?_; clear hX1 hY1; try simp only [hb])) | ((refine opsO_nil ?_; refine hK2 _ ?_; clear hK2)) | ((refine keepA_intro ?_ ?_; focus (first | exact keep_same _ _ | exact keep_box _ _ _ _ | exact keep_hd _ _ _ _ _ | exact keep_02 _ _ _ _ _ _ _ | exact keep_1 _ _ _ _ _ _ _))))))
          | (((with_reducible refine cC_pure ?_ (hM) (fun _ => ?_)); (focus ((repeat' constructor) <;> (simp only [purAs, purA, Vf, Bool.and_self, h0, h3, h5, h6, h8, hlt', hx, hc, hz, lex_gt, Rg.c]; done)))))
          | (((with_reducible refine PW.drawR (id := 9) mixed [] [(0, true), (1, true), (2, true), (3, true), (4, true), (5, true), (6, true), (7, true), (8, true), (9, false), (10, true)] (by kernel_rfl) (by decide) fun K2 hK2 => ?_)))
          | (((with_reducible refine PW.drawR (id := 11) mixed [] [(0, true), (1, true), (2, true), (3, true), (4, true), (5, true), (6, true), (7, true), (8, true), (9, true)] (by kernel_rfl) (by decide) fun K2 hK2 => ?_)))
          | (((with_reducible refine And.intro ?_ ?_); (focus (first | omega | (simp; done) | assumption))))
          | ((simp only [thenP, blockP]; (try ((repeat (fail_if_success (with_reducible refine hK1 _ ?_)); clear hK1); (with_reducible refine hK1 _ ?_); clear hK1))))
          | (((first | (((with_reducible refine opsP_cons fun K3 hK3 => ?_); simp only [wantP, opP, valP, Ur, Us])) | (((with_reducible refine opsO_first (o := ?_) ?_ fun K3 hK3 => ?_); rotate_left 1; (focus (simp only [Uz, Ub, Ua] <;> rfl)); simp only [wantP, firstP, valP, Ur, Us])) | (((with_reducible refine opsO_only (o := ?_) ?_ fun K3 hK3 => ?_); rotate_left 1; (focus (simp only [Uz, Ub, Ua] <;> rfl)); simp only [wantP, opP, Ur, Us, Uw, Ux])) | ((with_reducible refine PW.condM fun X1 Y1 hX1 hY1 => ?_)) | (skip)); simp (disch := omega) only [St.eval, St.put, upd_app, avOf, avOf1, cellsA, AV.okv, loadA, lenP, binP, intsP, intP, strP, nilP, convP, unP, builtinP, isMapA, isBsl, slA, putCells, fillA, buildA, Ua, Ub, Uc, Ud, Uf, Ug, Uk, Ul, Un, Uo, Ur, Us, Ut, Uv, V0, V1, V2, V7, V9, Vd, Ve, Vt, UU2, UU3, PmL, simprocAttr, PmT, h0, h3, h5, h6, h8, hlt', hx, hc, hz, lex_gt, Rg.c, retQ, resP, tupA, fg, condP, condB_t, condB_f, firstOk, List.mem_cons]; try (with_reducible (first | exact co_refl _ | exact co_own _ _ _ | exact co_nilsB | exact co_nilsL _ _)))))
        all_goals exact co_eq (by rw [← ho])
      · rw [if_neg (of_eq_false hc), if_neg (by have := of_eq_false hz; omega), List.nil_append] at ho
        repeat' (first
          | ((with_reducible (first
           | (refine PW.seq fun K1 hK1 => ?_) | (refine PW.region fun K2 hK2 => ?_) | ((refine hK3 _ ?_; clear hK3)) | ((refine opsP_nil ?_; refine hK2 _ ?_; clear hK2)) | (refine PW.block ?_) | (refine PW.skip ?_)
           | ((refine hX1 ?_; clear hX1 hY1; try simp only [hb])) | ((refine hY1 ?_; clear hX1 hY1; try simp only [hb])) | ((refine opsO_nil ?_; refine hK2 _ ?_; clear hK2)) | ((refine keepA_intro ?_ ?_; focus (first | exact keep_same _ _ | exact keep_box _ _ _ _ | exact keep_hd _ _ _ _ _ | exact keep_02 _ _ _ _ _ _ _ | exact keep_1 _ _ _ _ _ _ _))))))
          | (((with_reducible refine cC_pure ?_ (hM) (fun _ => ?_)); (focus ((repeat' constructor) <;> (simp only [purAs, purA, Vf, Bool.and_self, h0, h3, h5, h6, h8, hlt', hx, hw, hc, hz, lex_gt, Rg.c]; done)))))
          | (((with_reducible refine PW.drawR (id := 9) mixed [] [(0, true), (1, true), (2, true), (3, true), (4, true), (5, true), (6, true), (7, true), (8, true), (9, false), (10, true)] (by kernel_rfl) (by decide) fun K2 hK2 => ?_)))
          | (((with_reducible refine PW.drawR (id := 11) mixed [] [(0, true), (1, true), (2, true), (3, true), (4, true), (5, true), (6, true), (7, true), (8, true), (9, true)] (by kernel_rfl) (by decide) fun K2 hK2 => ?_)))
          | (((with_reducible refine And.intro ?_ ?_); (focus (first | omega | (simp; done) | assumption))))
          | ((simp only [thenP, blockP]; (try ((repeat (fail_if_success (with_reducible refine hK1 _ ?_)); clear hK1); (with_reducible refine hK1 _ ?_); clear hK1))))
          | (((first | (((with_reducible refine opsP_cons fun K3 hK3 => ?_); simp only [wantP, opP, valP, Ur, Us])) | (((with_reducible refine opsO_first (o := ?_) ?_ fun K3 hK3 => ?_); rotate_left 1; (focus (simp only [Uz, Ub, Ua] <;> rfl)); simp only [wantP, firstP, valP, Ur, Us])) | (((with_reducible refine opsO_only (o := ?_) ?_ fun K3 hK3 => ?_); rotate_left 1; (focus (simp only [Uz, Ub, Ua] <;> rfl)); simp only [wantP, opP, Ur, Us, Uw, Ux])) | ((with_reducible refine PW.condM fun X1 Y1 hX1 hY1 => ?_)) | (skip)); simp (disch := omega) only [St.eval, St.put, upd_app, avOf, avOf1, cellsA, AV.okv, loadA, lenP, binP, intsP, intP, strP, nilP, convP, unP, builtinP, isMapA, isBsl, slA, putCells, fillA, buildA, Ua, Ub, Uc, Ud, Uf, Ug, Uk, Ul, Un, Uo, Ur, Us, Ut, Uv, V0, V1, V2, V7, V9, Vd, Ve, Vt, UU2, UU3, PmL, simprocAttr, PmT, h0, h3, h6, h8, hlt', hx, hw, hc, hz, lex_gt, Rg.c, condP, condB_t, condB_f, firstOk, List.mem_cons]; try (with_reducible (first | exact co_refl _ | exact co_own _ _ _ | exact co_nilsB | exact co_nilsL _ _)))))
        refine ⟨l.length - (k + 1), by omega, k + 1, out, x.t, ?_, ?_, ?_, ?_, ?_, ?_, ?_, by omega, rfl, by omega, ho⟩
        all_goals (simp only [St.cut, Mem.cut, fg, fgs, upd_app, Nat.reduceEqDiff, ↓reduceIte, List.take_nil, List.map_nil, List.take_succ_cons, List.map_cons, Option.map_some, Nat.zero_lt_one, Int.natCast_add, Int.cast_ofNat_Int, h0, h3, h5]; try rfl)
  · have hlt' := eq_false hlt
    obtain rfl : k = l.length := by omega
    rw [List.drop_length, lrS] at ho
    have hE2 := pREmpty g t
    cases hs2 : spE g t with
    | true =>
      rw [hs2] at hE2
      rw [if_pos hs2, List.append_nil] at ho
      repeat' (first
        | ((with_reducible (first
         | (refine PW.seq fun K1 hK1 => ?_) | (refine PW.region fun K2 hK2 => ?_) | ((refine hK3 _ ?_; clear hK3)) | ((refine opsP_nil ?_; refine hK2 _ ?_; clear hK2)) | (refine PW.skip ?_)
         | (refine PW.exit ?_) | (refine PW.ret ?_) | ((refine hY1 ?_; clear hX1 hY1; try simp only [hb])) )))
        | (((with_reducible refine cC_pure ?_ (hE2) (fun _ => ?_)); (focus ((repeat' constructor) <;> (simp only [purAs, purA, Vf, Bool.and_self, h0, h3, h5, h6, h8, hlt']; done)))))
        | ((simp only [thenP, blockP, ↓reduceIte]; (try ((repeat (fail_if_success (with_reducible refine hK1 _ ?_)); clear hK1); (with_reducible refine hK1 _ ?_); clear hK1))))
        | (((first | (((with_reducible refine opsP_cons fun K3 hK3 => ?_); simp only [wantP, opP, valP, Ur, Us])) | ((with_reducible refine PW.condM fun X1 Y1 hX1 hY1 => ?_)) | (skip)); simp (disch := omega) only [St.eval, St.put, upd_app, cellsA, AV.okv, loadA, lenP, binP, intsP, intP, nilP, unP, builtinP, isMapA, slA, putCells, fillA, buildA, Ua, Ub, Uc, Ud, Uf, Ug, Uk, Ul, Un, Up, Ut, Uu, Uv, V9, Vd, Ve, Vt, UU2, UU3, Vr, PmL, simprocAttr, PmT, h0, h3, h5, h6, h8, hlt', retQ, resP, tupA, fg, condP, condB_f]; try (with_reducible (first | exact co_refl _ | exact co_own _ _ _ | exact co_nilsB | exact co_nilsL _ _)))))
      all_goals exact co_eq (by rw [← ho])
    | false =>
      rw [hs2] at hE2
      rw [if_neg (by rw [hs2]; simp)] at ho
      repeat' (first
        | ((with_reducible (first
         | (refine PW.seq fun K1 hK1 => ?_) | (refine PW.region fun K2 hK2 => ?_) | ((refine hK3 _ ?_; clear hK3)) | ((refine opsP_nil ?_; refine hK2 _ ?_; clear hK2)) | (refine litX_old ?_) | (refine litC_data ?_) 
         | (refine PW.exit ?_) | (refine PW.ret ?_) | ((refine hX1 ?_; clear hX1 hY1; try simp only [hb])) | ((refine hY1 ?_; clear hX1 hY1; try simp only [hb])) )))
        | (((with_reducible refine cC_pure ?_ (hE2) (fun _ => ?_)); (focus ((repeat' constructor) <;> (simp only [purAs, purA, Vf, Bool.and_self, h0, h3, h5, h6, h8, hlt']; done)))))
        | (((with_reducible refine And.intro ?_ ?_); (focus (first | omega | (simp; done) | assumption))))
        | ((simp only [thenP, blockP, ↓reduceIte]; (try ((repeat (fail_if_success (with_reducible refine hK1 _ ?_)); clear hK1); (with_reducible refine hK1 _ ?_); clear hK1))))
        | (((first | (((with_reducible refine opsP_cons fun K3 hK3 => ?_); simp only [wantP, opP, valP, Ur, Us, List.mapM_cons, List.mapM_nil, Uw, Ux])) | ((with_reducible refine PW.condM fun X1 Y1 hX1 hY1 => ?_)) | (skip)); simp (disch := omega) only [St.eval, St.put, upd_app, cellsA, AV.okv, loadA, lenP, binP, intsP, intP, nilP, unP, builtinP, appP, srcA, srcTy, isMapA, isBsl, U3, U4, U5, slA, putCells, fillA, buildA, elA, dv1, Ua, Ub, Uc, Ud, Uf, Ug, Uk, Ul, Un, Up, Ut, Uu, Uv, List.mapM_cons, List.mapM_nil, Uw, Ux, V0, V1, V2, V4, Option.bind_eq_bind, Option.pure_def, V9, Vd, Ve, Vt, UU2, UU3, UU9, Vr, PmL, simprocAttr, PmT, h0, h3, h5, h6, h8, hlt', retQ, resP, tupA, fg, condP, condB_t, condB_f]; try (with_reducible (first | exact co_refl _ | exact co_own _ _ _ | exact co_nilsB | exact co_nilsL _ _)))))
      all_goals exact co_eq (by rw [← ho]; simp [encL, spC])
/-- the program's way: of the parts -/
def lfS (t : List Int) : List Int → List Pt → List Spn
  | f, [] => if spE f t = true then [] else [(f, t)]
  | f, x :: l => (if cmpB f x.f < 0 then [(f, x.f)] else []) ++ (if x.t.length = 0 then [] else lfS t x.t l)
theorem cutS_mem {g u : List Int} {x : Pt} : ∀ {l : List Rg}, x ∈ cutS g u l → ∃ y ∈ l, x = ⟨y, shF y.f g, shT y.t u⟩
  | [], h => by simp [cutS] at h
  | y :: l, h => by
    unfold cutS at h
    split at h
    · rcases List.mem_cons.1 h with h | h
      · exact ⟨y, by simp, h⟩
      · obtain ⟨z, h1, h2⟩ := cutS_mem h
        exact ⟨z, by simp [h1], h2⟩
    · obtain ⟨z, h1, h2⟩ := cutS_mem h
      exact ⟨z, by simp [h1], h2⟩
theorem cutS_small {g u : List Int} {l : List Rg} (hs : ∀ x ∈ l, x.f.length ≤ 140737488355328 ∧ x.t.length ≤ 140737488355328) (hg : g.length ≤ 140737488355328) (hu : u.length ≤ 140737488355328) : ∀ x ∈ cutS g u l, x.f.length ≤ 140737488355328 ∧ x.t.length ≤ 140737488355328 := fun x hx => by
  obtain ⟨y, h1, rfl⟩ := cutS_mem hx
  obtain ⟨a, b⟩ := hs y h1
  simp only [shF, shT]
  constructor <;> split <;> assumption
set_option maxHeartbeats 16000000 in
theorem pCacheCut (l : List Rg) (f t : List Int) (hl : l.length ≤ 100000) (hs : ∀ x ∈ l, x.f.length ≤ 140737488355328 ∧ x.t.length ≤ 140737488355328) (hf : f.length ≤ 140737488355328) (ht : t.length ≤ 140737488355328) :
    Pure Try.prog 39 [.cp [.sl 4 (encL Rg.c l)], .agg [bs f, bs t]] (.tup [pl (cutS f t l), spl (lfS t f (cutS f t l))]) := by
  refine pure_intro Try.func39 rfl rfl rfl 66 rfl (fun hh => ?_)
  have hC := pCut l f t (by omega) hs hf ht
  have hsm := cutS_small hs hf ht
  have hPl := cutS_len f t l
  obtain ⟨P, hP⟩ : ∃ P, cutS f t l = P := ⟨_, rfl⟩
  rw [hP] at hC hsm hPl ⊢
  clear hP
  repeat' (first
    | ((with_reducible (first
     | (refine PW.seq fun K1 hK1 => ?_) | (refine PW.region fun K2 hK2 => ?_) | ((refine hK3 _ ?_; clear hK3)) | ((refine opsP_nil ?_; refine hK2 _ ?_; clear hK2)) | (refine PW.block ?_) 
     | ((refine opsO_nil ?_; refine hK2 _ ?_; clear hK2)) | ((refine keepA_intro ?_ ?_; focus (first | exact keep_same _ _ | exact keep_box _ _ _ _ | exact keep_hd _ _ _ _ _ | exact keep_02 _ _ _ _ _ _ _ | exact keep_1 _ _ _ _ _ _ _))))))
    | (((with_reducible refine cC_pure ?_ (hC) (fun _ => ?_)); (focus ((repeat' constructor); done))))
    | (((with_reducible refine cC_pure ?_ (pcopied ?_ ?_ ?_ ?_) (fun _ => ?_)); (focus ((repeat' (first | (refine .cons ?_ ?_) | (exact .nil) | (exact .d _) | (refine .agg ?_) )); done))))
    | (((with_reducible refine PW.drawR (id := 1) mixed [] [(0, true), (1, true), (2, true), (3, true), (4, true), (5, false), (6, true)] (by kernel_rfl) (by decide) fun K2 hK2 => ?_)))
    | ((simp only [thenP]; (try ((repeat (fail_if_success (with_reducible refine hK1 _ ?_)); clear hK1); (with_reducible refine hK1 _ ?_); clear hK1))))
    | ((with_reducible omega))
    | (((first | (((with_reducible refine opsP_cons fun K3 hK3 => ?_); simp only [wantP, opP, valP, Ur, Us])) | (((with_reducible refine opsO_first (o := ?_) ?_ fun K3 hK3 => ?_); rotate_left 1; (focus (simp only [Uz, Ub, Ua] <;> rfl)); simp only [wantP, firstP, valP])) | (((with_reducible refine opsO_only (o := ?_) ?_ fun K3 hK3 => ?_); rotate_left 1; (focus (simp only [Uz, Ub, Ua] <;> rfl)); simp only [wantP, opP, Ur, Us, Uw, Ux])) | (skip)); simp (disch := omega) only [St.eval, St.put, upd_app, iniT_app, avOf, avOf1, nom, cellsA, AV.okv, loadA, lenP, builtinP, isMapA, putCells, U7, U8, Ua, Ub, Uc, Ud, Uf, Ug, Uk, Un, Up, Ur, Us, Ut, Uu, Uv, V0, V1, V9, Ve, Vr, PmL, simprocAttr, PmT, firstOk, List.mem_cons]; try (with_reducible (first | exact co_refl _ | exact co_own _ _ _ | exact co_nilsB | exact co_nilsL _ _)))))
  (with_reducible refine PW.nil2ownL (bx := ?_) spC 7 25 2 (by decide) ?_ ?_ ?_; rotate_left 1; (focus (simp only [upd_app, Nat.reduceEqDiff, ↓reduceIte])); (focus (exact rfl)))
  (with_reducible refine PW.loop (fun n s => ∃ (k : Nat) (out : List Spn) (g : List Int), s.t 3 = .ptr 0 0 ∧ s.t 6 = pl P ∧ s.t 7 = .own 0 2 (encL spC out) ∧ s.t 8 = .ptr 1 0 ∧ s.t 20 = pl P ∧ s.t 21 = .d (.int .i64 P.length) ∧ s.t 22 = .d (.int .i64 k) ∧ s.n = 66 ∧ s.m = ⟨[some (25, [bs f, bs t]), some (25, [bs g, bs t])], [some ⟨25, 2, out.length⟩]⟩ ∧ k ≤ P.length ∧ n = P.length - k ∧ out.length ≤ k ∧ g.length ≤ 140737488355328 ∧ out ++ lfS t g (P.drop k) = lfS t f P) P.length ?_ ?_)
  · exact ⟨0, [], f, rfl, rfl, rfl, rfl, rfl, rfl, rfl, rfl, rfl, Nat.zero_le _, rfl, Nat.le_refl _, hf, rfl⟩
  rintro n ⟨s, nn, m⟩ ⟨k, out, g, h3, h6, h7, h8, h20, h21, h22, hn, hm, hk, hnk, hol, hgl, ho⟩ - -
  simp only at h3 h6 h7 h8 h20 h21 h22 hn hm
  subst hn hm
  by_cases hlt : (k : Int) < P.length
  · have hlt' := eq_true hlt
    have hw : IntKind.i64.wrap ((k : Int) + 1) = k + 1 := IntWalk.i64_in ((k : Int) + 1) (by omega)
    obtain ⟨x, hx⟩ : ∃ x, P[k]? = some x := ⟨_, List.getElem?_eq_getElem (by omega)⟩
    obtain ⟨hxf, hxt⟩ := hsm x (List.mem_of_getElem? hx)
    rw [drop_cons hx, lfS] at ho
    rcases Classical.propComplete (cmpB g x.f < 0) with hc | hc <;> rcases Classical.propComplete ((x.t.length : Int) = 0) with hz | hz
    · rw [if_pos (of_eq_true hc), if_pos (by have := of_eq_true hz; omega), List.append_nil] at ho
      repeat' (first
        | ((with_reducible (first
         | (refine PW.seq fun K1 hK1 => ?_) | (refine PW.region fun K2 hK2 => ?_) | ((refine hK3 _ ?_; clear hK3)) | ((refine opsP_nil ?_; refine hK2 _ ?_; clear hK2)) | (refine litX_old ?_) | (refine litC_data ?_) | (refine PW.block ?_) | (refine PW.skip ?_)
         | (refine PW.ret ?_) | ((refine hX1 ?_; clear hX1 hY1; try simp only [hb])) )))
        | (((with_reducible refine cC_pure ?_ (pbaCompare ?_ ?_) (fun _ => ?_)); (focus ((repeat' (first | (refine .cons ?_ ?_) | (exact .nil) | (exact .d _) )) <;> (simp only [purAs, purA, Vf, Bool.and_self, h3, h6, h7, h8, h20, h21, h22, hlt', hx, hc, hz, Pt.c]; done)))))
        | (((with_reducible refine cC_pure ?_ (pcopied ?_ ?_ ?_ ?_) (fun _ => ?_)); (focus ((repeat' (first | (refine .cons ?_ ?_) | (exact .nil) | (exact .d _) | (refine .agg ?_) )) <;> (simp only [purAs, purA, Vf, Bool.and_self, h3, h6, h7, h8, h20, h21, h22, hlt', hx, hc, hz, Pt.c]; done)))))
        | (((with_reducible refine cC_pure ?_ (pClone ?_ ?_) (fun _ => ?_)); (focus ((repeat' (first | (refine .cons ?_ ?_) | (exact .nil) | (exact .d _) )) <;> (simp only [purAs, purA, Vf, Bool.and_self, h3, h6, h7, h8, h20, h21, h22, hlt', hx, hc, hz, Pt.c]; done)))))
        | (((with_reducible refine And.intro ?_ ?_); (focus (first | omega | (simp; done) | assumption))))
        | ((simp only [thenP, blockP]; (try ((repeat (fail_if_success (with_reducible refine hK1 _ ?_)); clear hK1); (with_reducible refine hK1 _ ?_); clear hK1))))
        | ((with_reducible omega))
        | (((first | (((with_reducible refine opsP_cons fun K3 hK3 => ?_); simp only [wantP, opP, valP, Ur, Us, List.mapM_cons, List.mapM_nil, Uw, Ux])) | ((with_reducible refine PW.condM fun X1 Y1 hX1 hY1 => ?_)) | (skip)); simp (disch := omega) only [St.eval, St.put, upd_app, avOf, avOf1, cellsA, AV.okv, loadA, lenP, binP, intsP, intP, nilP, builtinP, appP, srcA, srcTy, isMapA, isBsl, U3, U4, U5, slA, putCells, fillA, buildA, elA, dv1, Ua, Ub, Uc, Ud, Uf, Ug, Uk, Ul, Un, Up, Ur, Us, Ut, Uu, Uv, List.mapM_cons, List.mapM_nil, Uw, Ux, V0, V1, V2, V4, Option.bind_eq_bind, Option.pure_def, V7, V9, Va, Vd, Ve, Vt, UU2, UU3, UU9, Vr, PmL, simprocAttr, PmT, h6, h7, h8, h20, h21, h22, hlt', hx, hc, hz, Pt.c, retQ, resP, tupA, fg, fgs, condP, condB_t]; try (with_reducible (first | exact co_refl _ | exact co_own _ _ _ | exact co_nilsB | exact co_nilsL _ _)))))
      all_goals exact co_eq (by rw [← ho]; simp [encL, spC])
    · rw [if_pos (of_eq_true hc), if_neg (by have := of_eq_false hz; omega)] at ho
      repeat' (first
        | ((with_reducible (first
         | (refine PW.seq fun K1 hK1 => ?_) | (refine PW.region fun K2 hK2 => ?_) | ((refine hK3 _ ?_; clear hK3)) | ((refine opsP_nil ?_; refine hK2 _ ?_; clear hK2)) | (refine litX_old ?_) | (refine litC_data ?_) | (refine PW.block ?_) | (refine PW.skip ?_)
         | ((refine hX1 ?_; clear hX1 hY1; try simp only [hb])) | ((refine hY1 ?_; clear hX1 hY1; try simp only [hb])) )))
        | (((with_reducible refine cC_pure ?_ (pbaCompare ?_ ?_) (fun _ => ?_)); (focus ((repeat' (first | (refine .cons ?_ ?_) | (exact .nil) | (exact .d _) )) <;> (simp only [purAs, purA, Vf, Bool.and_self, h3, h6, h7, h8, h20, h21, h22, hlt', hx, hw, hc, hz, Pt.c]; done)))))
        | (((with_reducible refine cC_pure ?_ (pcopied ?_ ?_ ?_ ?_) (fun _ => ?_)); (focus ((repeat' (first | (refine .cons ?_ ?_) | (exact .nil) | (exact .d _) | (refine .agg ?_) )) <;> (simp only [purAs, purA, Vf, Bool.and_self, h3, h6, h7, h8, h20, h21, h22, hlt', hx, hw, hc, hz, Pt.c]; done)))))
        | (((with_reducible refine cC_pure ?_ (pClone ?_ ?_) (fun _ => ?_)); (focus ((repeat' (first | (refine .cons ?_ ?_) | (exact .nil) | (exact .d _) )) <;> (simp only [purAs, purA, Vf, Bool.and_self, h3, h6, h7, h8, h20, h21, h22, hlt', hx, hw, hc, hz, Pt.c]; done)))))
        | (((with_reducible refine And.intro ?_ ?_); (focus (first | omega | (simp; done) | assumption))))
        | ((simp only [thenP, blockP]; (try ((repeat (fail_if_success (with_reducible refine hK1 _ ?_)); clear hK1); (with_reducible refine hK1 _ ?_); clear hK1))))
        | ((with_reducible omega))
        | (((first | (((with_reducible refine opsP_cons fun K3 hK3 => ?_); simp only [wantP, opP, valP, Ur, Us, List.mapM_cons, List.mapM_nil, Uw, Ux])) | ((with_reducible refine PW.condM fun X1 Y1 hX1 hY1 => ?_)) | (skip)); simp (disch := omega) only [St.eval, St.put, upd_app, avOf, avOf1, cellsA, AV.okv, loadA, lenP, binP, intsP, intP, nilP, builtinP, appP, srcA, srcTy, isMapA, isBsl, U3, U4, U5, slA, putCells, fillA, buildA, elA, dv1, Ua, Ub, Uc, Ud, Uf, Ug, Uk, Ul, Un, Up, Ur, Us, Ut, Uu, Uv, List.mapM_cons, List.mapM_nil, Uw, Ux, V0, V1, V2, V4, Option.bind_eq_bind, Option.pure_def, V7, V9, Va, Vd, Ve, Vt, UU2, UU3, UU9, Vr, PmL, simprocAttr, PmT, h7, h8, h20, h21, h22, hlt', hx, hw, hc, hz, Pt.c, condP, condB_t, condB_f]; try (with_reducible (first | exact co_refl _ | exact co_own _ _ _ | exact co_nilsB | exact co_nilsL _ _)))))
      refine ⟨P.length - (k + 1), by omega, k + 1, out ++ [(g, x.f)], x.t, ?_, ?_, ?_, ?_, ?_, ?_, ?_, ?_, ?_, by omega, rfl, by simp; omega, hxt, by rw [List.append_assoc]; exact ho⟩
      all_goals (simp only [St.cut, Mem.cut, fg, fgs, upd_app, Nat.reduceEqDiff, ↓reduceIte, List.take_nil, List.map_nil, List.take_succ_cons, List.take_zero, List.map_cons, Option.map_some, Nat.reduceLT, Nat.zero_lt_one, Nat.reduceAdd, List.length_append, List.length_cons, List.length_nil, Int.natCast_add, Int.cast_ofNat_Int, h3, h6, h8, h20, h21, encL_snoc, spC]; try rfl)
    · rw [if_neg (of_eq_false hc), if_pos (by have := of_eq_true hz; omega), List.append_nil, List.append_nil] at ho
      repeat' (first
        | ((with_reducible (first
         | (refine PW.seq fun K1 hK1 => ?_) | (refine PW.region fun K2 hK2 => ?_) | ((refine hK3 _ ?_; clear hK3)) | ((refine opsP_nil ?_; refine hK2 _ ?_; clear hK2)) | (refine PW.block ?_) | (refine PW.skip ?_)
         | (refine PW.ret ?_) | ((refine hX1 ?_; clear hX1 hY1; try simp only [hb])) | ((refine hY1 ?_; clear hX1 hY1; try simp only [hb])) )))
        | (((with_reducible refine cC_pure ?_ (pbaCompare ?_ ?_) (fun _ => ?_)); (focus ((repeat' (first | (refine .cons ?_ ?_) | (exact .nil) | (exact .d _) )) <;> (simp only [purAs, purA, Vf, Bool.and_self, h3, h6, h7, h8, h20, h21, h22, hlt', hx, hc, hz, Pt.c]; done)))))
        | (((with_reducible refine cC_pure ?_ (pClone ?_ ?_) (fun _ => ?_)); (focus ((repeat' (first | (refine .cons ?_ ?_) | (exact .nil) | (exact .d _) )) <;> (simp only [purAs, purA, Vf, Bool.and_self, h3, h6, h7, h8, h20, h21, h22, hlt', hx, hc, hz, Pt.c]; done)))))
        | (((with_reducible refine And.intro ?_ ?_); (focus (first | omega | (simp; done) | assumption))))
        | ((simp only [thenP, blockP]; (try ((repeat (fail_if_success (with_reducible refine hK1 _ ?_)); clear hK1); (with_reducible refine hK1 _ ?_); clear hK1))))
        | ((with_reducible omega))
        | (((first | (((with_reducible refine opsP_cons fun K3 hK3 => ?_); simp only [wantP, opP, valP, Ur, Us])) | ((with_reducible refine PW.condM fun X1 Y1 hX1 hY1 => ?_)) | (skip)); simp (disch := omega) only [St.eval, St.put, upd_app, avOf, avOf1, cellsA, AV.okv, loadA, lenP, binP, intsP, intP, nilP, builtinP, isMapA, slA, putCells, fillA, buildA, Ua, Ub, Uc, Ud, Uf, Ug, Uk, Ul, Un, Up, Ur, Us, Ut, Uu, Uv, V2, V7, V9, Va, Vd, Ve, Vt, UU2, UU3, Vr, PmL, simprocAttr, PmT, h6, h7, h8, h20, h21, h22, hlt', hx, hc, hz, Pt.c, retQ, resP, tupA, fg, fgs, condP, condB_t, condB_f]; try (with_reducible (first | exact co_refl _ | exact co_own _ _ _ | exact co_nilsB | exact co_nilsL _ _)))))
      all_goals exact co_eq (by rw [← ho])
    · rw [if_neg (of_eq_false hc), if_neg (by have := of_eq_false hz; omega), List.nil_append] at ho
      repeat' (first
        | ((with_reducible (first
         | (refine PW.seq fun K1 hK1 => ?_) | (refine PW.region fun K2 hK2 => ?_) | ((refine hK3 _ ?_; clear hK3)) | ((refine opsP_nil ?_; refine hK2 _ ?_; clear hK2)) | (refine PW.block ?_) | (refine PW.skip ?_)
         | ((refine hX1 ?_; clear hX1 hY1; try simp only [hb])) | ((refine hY1 ?_; clear hX1 hY1; try simp only [hb])) )))
        | (((with_reducible refine cC_pure ?_ (pbaCompare ?_ ?_) (fun _ => ?_)); (focus ((repeat' (first | (refine .cons ?_ ?_) | (exact .nil) | (exact .d _) )) <;> (simp only [purAs, purA, Vf, Bool.and_self, h3, h6, h7, h8, h20, h21, h22, hlt', hx, hw, hc, hz, Pt.c]; done)))))
        | (((with_reducible refine cC_pure ?_ (pClone ?_ ?_) (fun _ => ?_)); (focus ((repeat' (first | (refine .cons ?_ ?_) | (exact .nil) | (exact .d _) )) <;> (simp only [purAs, purA, Vf, Bool.and_self, h3, h6, h7, h8, h20, h21, h22, hlt', hx, hw, hc, hz, Pt.c]; done)))))
        | (((with_reducible refine And.intro ?_ ?_); (focus (first | omega | (simp; done) | assumption))))
        | ((simp only [thenP, blockP]; (try ((repeat (fail_if_success (with_reducible refine hK1 _ ?_)); clear hK1); (with_reducible refine hK1 _ ?_); clear hK1))))
        | ((with_reducible omega))
        | (((first | (((with_reducible refine opsP_cons fun K3 hK3 => ?_); simp only [wantP, opP, valP, Ur, Us])) | ((with_reducible refine PW.condM fun X1 Y1 hX1 hY1 => ?_)) | (skip)); simp (disch := omega) only [St.eval, St.put, upd_app, avOf, avOf1, cellsA, AV.okv, loadA, lenP, binP, intsP, intP, nilP, builtinP, isMapA, slA, putCells, fillA, buildA, Ua, Ub, Uc, Ud, Uf, Ug, Uk, Ul, Un, Up, Ur, Us, Ut, Uu, Uv, V2, V7, V9, Va, Vd, Ve, Vt, UU2, UU3, Vr, PmL, simprocAttr, PmT, h8, h20, h21, h22, hlt', hx, hw, hc, hz, Pt.c, condP, condB_t, condB_f]; try (with_reducible (first | exact co_refl _ | exact co_own _ _ _ | exact co_nilsB | exact co_nilsL _ _)))))
      refine ⟨P.length - (k + 1), by omega, k + 1, out, x.t, ?_, ?_, ?_, ?_, ?_, ?_, ?_, ?_, ?_, by omega, rfl, by omega, hxt, ho⟩
      all_goals (simp only [St.cut, Mem.cut, fg, fgs, upd_app, Nat.reduceEqDiff, ↓reduceIte, List.take_nil, List.map_nil, List.take_succ_cons, List.take_zero, List.map_cons, Option.map_some, Nat.reduceLT, Nat.zero_lt_one, Int.natCast_add, Int.cast_ofNat_Int, h3, h6, h7, h8, h20, h21]; try rfl)
  · have hlt' := eq_false hlt
    obtain rfl : k = P.length := by omega
    rw [List.drop_length, lfS] at ho
    have hE2 := pempty g t
    cases hs2 : spE g t with
    | true =>
      rw [hs2] at hE2
      rw [if_pos hs2, List.append_nil] at ho
      repeat' (first
        | ((with_reducible (first
         | (refine PW.seq fun K1 hK1 => ?_) | (refine PW.region fun K2 hK2 => ?_) | ((refine hK3 _ ?_; clear hK3)) | ((refine opsP_nil ?_; refine hK2 _ ?_; clear hK2)) | (refine PW.skip ?_)
         | (refine PW.exit ?_) | (refine PW.ret ?_) | ((refine hY1 ?_; clear hX1 hY1; try simp only [hb])) )))
        | (((with_reducible refine cC_pure ?_ (hE2) (fun _ => ?_)); (focus ((repeat' constructor) <;> (simp only [purAs, purA, Vf, Bool.and_self, h3, h6, h7, h8, h20, h21, h22, hlt']; done)))))
        | ((simp only [thenP, blockP, ↓reduceIte]; (try ((repeat (fail_if_success (with_reducible refine hK1 _ ?_)); clear hK1); (with_reducible refine hK1 _ ?_); clear hK1))))
        | (((first | (((with_reducible refine opsP_cons fun K3 hK3 => ?_); simp only [wantP, opP, valP, Ur, Us])) | ((with_reducible refine PW.condM fun X1 Y1 hX1 hY1 => ?_)) | (skip)); simp (disch := omega) only [St.eval, St.put, upd_app, loadA, binP, intsP, intP, nilP, unP, slA, Ua, Ub, Uf, Ug, Uk, Un, Up, Uv, V9, Vd, Ve, Vr, PmL, simprocAttr, PmT, h6, h7, h8, h21, h22, hlt', retQ, resP, tupA, fg, fgs, condP, condB_f]; try (with_reducible (first | exact co_refl _ | exact co_own _ _ _ | exact co_nilsB | exact co_nilsL _ _)))))
      all_goals exact co_eq (by rw [← ho])
    | false =>
      rw [hs2] at hE2
      rw [if_neg (by rw [hs2]; simp)] at ho
      repeat' (first
        | ((with_reducible (first
         | (refine PW.seq fun K1 hK1 => ?_) | (refine PW.region fun K2 hK2 => ?_) | ((refine hK3 _ ?_; clear hK3)) | ((refine opsP_nil ?_; refine hK2 _ ?_; clear hK2)) | (refine litX_old ?_) | (refine litC_data ?_) 
         | (refine PW.exit ?_) | (refine PW.ret ?_) | ((refine hX1 ?_; clear hX1 hY1; try simp only [hb])) | ((refine hY1 ?_; clear hX1 hY1; try simp only [hb])) )))
        | (((with_reducible refine cC_pure ?_ (hE2) (fun _ => ?_)); (focus ((repeat' constructor) <;> (simp only [purAs, purA, Vf, Bool.and_self, h3, h6, h7, h8, h20, h21, h22, hlt']; done)))))
        | (((with_reducible refine And.intro ?_ ?_); (focus (first | omega | (simp; done) | assumption))))
        | ((simp only [thenP, blockP, ↓reduceIte]; (try ((repeat (fail_if_success (with_reducible refine hK1 _ ?_)); clear hK1); (with_reducible refine hK1 _ ?_); clear hK1))))
        | (((first | (((with_reducible refine opsP_cons fun K3 hK3 => ?_); simp only [wantP, opP, valP, Ur, Us, List.mapM_cons, List.mapM_nil, Uw, Ux])) | ((with_reducible refine PW.condM fun X1 Y1 hX1 hY1 => ?_)) | (skip)); simp (disch := omega) only [St.eval, St.put, upd_app, cellsA, AV.okv, loadA, binP, intsP, intP, nilP, unP, builtinP, appP, srcA, srcTy, isBsl, U3, U4, U5, slA, elA, dv1, Ua, Ub, Uc, Uf, Ug, Uk, Un, Up, Ut, Uu, Uv, List.mapM_cons, List.mapM_nil, Uw, Ux, V0, V1, V2, V4, Option.bind_eq_bind, Option.pure_def, V9, Vd, Ve, UU9, Vr, PmL, simprocAttr, PmT, h6, h7, h8, h21, h22, hlt', retQ, resP, tupA, fg, fgs, condP, condB_t, condB_f]; try (with_reducible (first | exact co_refl _ | exact co_own _ _ _ | exact co_nilsB | exact co_nilsL _ _)))))
      all_goals exact co_eq (by rw [← ho]; simp [encL, spC])
end PM
end Go.Proofs.Ytbeniogffhihlaa
