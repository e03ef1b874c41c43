/- pgwire's reference in the abstract: a client's message as bytes. -/
import Derived.Test.YthaekefdadccaaaDoorPgR3
import Derived.Test.YthaekefdadccaaaDoorPg6
namespace Go.Proofs.YthaekefdadccaaaDoor
open Go.RowKit
namespace PM
theorem only_params (f : Front) : f.only.params = f.params ∨ f.only.params = [] := by
  unfold Front.only
  repeat' split
  all_goals simp [zF]
theorem only_same (f : Front) : f.only.same f = f.only.like f := by
  have hk : f.only.kind = f.kind := by unfold Front.only; (repeat' split) <;> rfl
  have hp : decide (f.only.params = f.params) = decide (f.only.params.length = f.params.length) := by
    rcases only_params f with h | h
    · rw [h]; simp
    · rw [h]
      rw [Bool.eq_iff_iff, decide_eq_true_eq, decide_eq_true_eq]
      constructor
      · intro h'; rw [← h']
      · intro h'; exact (List.eq_nil_of_length_eq_zero h'.symm).symm
  unfold Front.same Front.like
  rw [hp, hk]
  generalize decide (f.only.params.length = f.params.length) = P
  simp only [decide_true, Bool.true_and]
  cases P <;> simp
set_option maxRecDepth 100000 in
set_option maxHeartbeats 4000000 in
theorem pRPutFront (f : Front) (hA : Pure Tryd.prog 46 [f.v] (aloneV f)) (hz : (frontBody f).length ≤ 100000000100) : Pure Tryd.prog 17 [f.v] (.tup [bs (putFrontS f).1, .d (.int .i64 (putFrontS f).2)]) := by
  refine pure_intro Tryd.func17 rfl rfl rfl 63 rfl (fun hh => ?_)
  have hmx : maxLen = 9223372036854775807 := rfl
  have hS := pSameFront f.only f
  rw [only_same] at hS
  have hbb : frontMay f = true → aloneBody f = frontBody f := fun h => by
    unfold aloneBody
    by_cases hk : f.kind = 1
    · have h' := h
      unfold frontMay at h'
      rw [if_pos hk] at h'
      rw [if_pos hk, if_pos h']
    · rw [if_neg hk]
  have hbl : (aloneBody f).length ≤ 100000000100 := by
    unfold aloneBody
    split
    · split
      · exact hz
      · simp
    · exact hz
  have hbad := fun h => fput_bad (f := f) h
  have hlong := fun h1 h2 => fput_long (f := f) h1 h2
  have hok := fun h1 h2 => fput_ok (f := f) h1 h2
  unfold aloneV at hA
  obtain ⟨R, hR⟩ : ∃ R, putFrontS f = R := ⟨_, rfl⟩
  obtain ⟨o, ho⟩ : ∃ o, f.only = o := ⟨_, rfl⟩
  obtain ⟨b, hb'⟩ : ∃ b, aloneBody f = b := ⟨_, rfl⟩
  obtain ⟨fb, hfb⟩ : ∃ b, frontBody f = b := ⟨_, rfl⟩
  obtain ⟨tg, htg⟩ : ∃ b, frontTag f = b := ⟨_, rfl⟩
  obtain ⟨my, hmy⟩ : ∃ b, frontMay f = b := ⟨_, rfl⟩
  obtain ⟨L, hL⟩ : ∃ b, f.only.like f = b := ⟨_, rfl⟩
  rw [hL] at hS hbad hlong hok
  rw [ho] at hA hS
  rw [hb'] at hA hbb hbl
  rw [hR] at hbad hlong hok ⊢
  simp only [hmy, htg, hfb] at hA hbb hbad hlong hok
  clear hL ho hb' hfb htg hmy hR hz
  obtain ⟨xk, xp, xt, xi, xs, xg⟩ := f
  obtain ⟨yk, yp, yt, yi, ys, yg⟩ := o
  simp only at hlong hok
  simp only [Front.v, Front.c, List.map_cons, List.map_nil] at hA hS
  cases my with
  | false =>
    have hbad' := hbad (by rfl)
    repeat' (first
      | ((with_reducible refine PW.nil2ownB (bx := ?_) 10 5 ?_ ?_ ?_); rotate_left 1; (focus (simp only [upd_app, Nat.reduceEqDiff, ↓reduceIte])); (focus (exact rfl)))
      | (with_reducible (first
        | refine PW.seq fun K1 hK1 => ?_
        | refine PW.region fun K2 hK2 => ?_
        | (refine hK3 _ ?_; clear hK3)
        | (refine opsP_nil ?_; refine hK2 _ ?_; clear hK2)
        | refine litX_old ?_
        | refine litC_data ?_
        | (refine Exists.intro _ (Exists.intro _ (And.intro rfl (And.intro rfl (And.intro ?_ ?_)))); focus omega)
        | (refine hK1 _ ?_; clear hK1)
        | refine nilC_intro (fun hz => ?_) ?_
        | refine PW.block ?_
        | refine PW.skip ?_
        | refine PW.exit ?_
        | refine PW.ret ?_
        | (refine hX1 ?_; clear hX1 hY1; try simp only [hb])
        | (refine hY1 ?_; clear hX1 hY1; try simp only [hb])
        | exact co_refl _
        | exact co_own _ _ _
        | exact co_nilsB
        | exact co_nilsL _ _))
      | ((first | (with_reducible refine wantB_intro (fun hb => ?_) (fun hb => ?_)) | (with_reducible refine condB_intro (fun hb => ?_) (fun hb => ?_))) <;> ((try (have hp := hb; simp only [Bool.and_eq_true, Bool.or_eq_true, Bool.not_eq_true', Bool.not_eq_false', Bool.and_eq_false_iff, Bool.or_eq_false_iff, Bool.not_eq_eq_eq_not, Bool.not_true, Bool.not_false, decide_eq_true_eq, decide_eq_false_iff_not, Int.not_lt, Int.not_le, beq_iff_eq, beq_eq_false_iff_ne, ne_eq] at hp)); try simp only [hb, Bool.not_true, Bool.not_false]))
      | ((with_reducible refine callP_new ?_ ?_ (pRBig4 ?_) ?_); (focus (repeat' (first | exact cos_refl _ | (refine cos_cons ?_ ?_) | exact co_refl _ | exact co_own _ _ _ | exact co_nilsB | exact co_nilsL _ _ | exact co_nils _ | (refine co_agg ?_) | (refine co_fn ?_)))); (focus (simp only [purAs, purA, Bool.and_self, Bool.and_true, Front.v, Front.c])))
      | ((with_reducible refine callP_pure ?_ ?_ (hA) (fun _ => ?_)); (focus (repeat' (first | exact cos_refl _ | (refine cos_cons ?_ ?_) | exact co_refl _ | exact co_own _ _ _ | exact co_nilsB | exact co_nilsL _ _ | exact co_nils _ | (refine co_agg ?_) | (refine co_fn ?_)))); (focus (simp only [purAs, purA, Bool.and_self])))
      | ((with_reducible refine callP_pure ?_ ?_ (hS) (fun _ => ?_)); (focus (repeat' (first | exact cos_refl _ | (refine cos_cons ?_ ?_) | exact co_refl _ | exact co_own _ _ _ | exact co_nilsB | exact co_nilsL _ _ | exact co_nils _ | (refine co_agg ?_) | (refine co_fn ?_)))); (focus (simp only [purAs, purA, Bool.and_self])))
      | ((with_reducible refine And.intro ?_ ?_); (focus (first | omega | (simp; done) | assumption)))
      | (simp only [thenP]; (try ((repeat (fail_if_success (with_reducible refine hK1 _ ?_)); clear hK1); (with_reducible refine hK1 _ ?_); clear hK1)))
      | (with_reducible omega)
      | (assumption)
      | ((first | ((with_reducible refine opsP_consMt (d := ?_) (dj := ?_) (b := ?_) (r := ?_) ?_ ?_ (fun hb => ?_) (fun K3 hK3 => ?_)); rotate_left 3; (focus exact rfl); (focus (simp only [St.put, upd_app, iniT_app, Nat.reduceEqDiff, ↓reduceIte, mrg_t, mrg_f]; exact rfl))) | ((with_reducible refine opsP_consMf (d := ?_) (dj := ?_) (b := ?_) (r := ?_) ?_ ?_ (fun hb => ?_) (fun K3 hK3 => ?_)); rotate_left 3; (focus exact rfl); (focus (simp only [upd_app, Nat.reduceEqDiff, ↓reduceIte]; exact rfl))) | ((with_reducible refine opsP_consNt (d := ?_) (dj := ?_) (b := ?_) (r := ?_) (c := ?_) ?_ ?_ (fun hb => ?_) (fun K3 hK3 => ?_)); rotate_left 4; (focus exact rfl); (focus (simp only [St.put, upd_app, iniT_app, Nat.reduceEqDiff, ↓reduceIte, mrg_t, mrg_f]; exact rfl))) | ((with_reducible refine opsP_consNf (d := ?_) (dj := ?_) (b := ?_) (r := ?_) (c := ?_) ?_ ?_ (fun hb => ?_) (fun K3 hK3 => ?_)); rotate_left 4; (focus exact rfl); (focus (simp only [St.put, upd_app, iniT_app, Nat.reduceEqDiff, ↓reduceIte, mrg_t, mrg_f]; exact rfl)))); (focus (simp only [opP, valP]; (try (simp only [Bool.not_eq_true'] at hb)); (try (have hp := hb; simp only [Bool.and_eq_true, Bool.or_eq_true, Bool.not_eq_true', Bool.not_eq_false', Bool.and_eq_false_iff, Bool.or_eq_false_iff, Bool.not_eq_eq_eq_not, Bool.not_true, Bool.not_false, decide_eq_true_eq, decide_eq_false_iff_not, Int.not_lt, Int.not_le, beq_iff_eq, beq_eq_false_iff_ne, ne_eq] at hp)); simp (disch := omega) only [St.eval, upd_app, unP, Nat.reduceEqDiff, ↓reduceIte, Vx, hb]; (repeat' (first | (exact rfl) | ((refine And.intro ?_ ?_); (focus (exact rfl)); (exact rfl)) | (refine And.intro (by first | omega | (simp; done) | assumption) ?_) | ((with_reducible refine callP_pure ?_ ?_ (hA) (fun _ => ?_)); (focus (repeat' (first | exact cos_refl _ | (refine cos_cons ?_ ?_) | exact co_refl _ | exact co_own _ _ _ | exact co_nilsB | exact co_nilsL _ _ | exact co_nils _ | (refine co_agg ?_) | (refine co_fn ?_)))); (focus (simp only [purAs, purA, Bool.and_self, Bool.and_true, Front.v, Front.c]))) | ((with_reducible refine callP_pure ?_ ?_ (hS) (fun _ => ?_)); (focus (repeat' (first | exact cos_refl _ | (refine cos_cons ?_ ?_) | exact co_refl _ | exact co_own _ _ _ | exact co_nilsB | exact co_nilsL _ _ | exact co_nils _ | (refine co_agg ?_) | (refine co_fn ?_)))); (focus (simp only [purAs, purA, Bool.and_self, Bool.and_true, Front.v, Front.c]))))); done)); (try simp only [St.put, Nat.reduceLT, ↓reduceIte, mrg_f, Bool.not_true]))
      | ((first | ((with_reducible refine opsP_cons fun K3 hK3 => ?_); simp only [wantP, opP, valP, List.map_cons, List.map_nil]) | (with_reducible refine PW.condM fun X1 Y1 hX1 hY1 => ?_) | skip); simp (disch := omega) only [wantB_tf, St.eval, St.put, upd_app, iniT_app, avOf, avOf1, wf_i64, nom, cellsA, AV.okv, loadA, unP, putCells, U7, Ua, Ub, Uc, Ud, Uf, Ug, Uk, Un, Up, Ur, Us, Ut, Uu, Uv, Uz, V4, Nat.reduceLT, Nat.reduceAdd, Nat.reduceEqDiff, V9, Int.reduceLE, Int.reduceNeg, Vu, Vf, Vo, ↓reduceIte, Vw, Vr, sz26, ze26, Front.v, Front.c, condP, condB_t]; try (with_reducible (first | exact co_refl _ | exact co_own _ _ _ | exact co_nilsB | exact co_nilsL _ _))))
    all_goals exact hbad'
  | true =>
    obtain rfl := hbb rfl
    cases L with
    | false =>
      have hbad' := hbad (by rfl)
      repeat' (first
        | ((with_reducible refine PW.nil2ownB (bx := ?_) 10 5 ?_ ?_ ?_); rotate_left 1; (focus (simp only [upd_app, Nat.reduceEqDiff, ↓reduceIte])); (focus (exact rfl)))
        | (with_reducible (first
          | refine PW.seq fun K1 hK1 => ?_
          | refine PW.region fun K2 hK2 => ?_
          | (refine hK3 _ ?_; clear hK3)
          | (refine opsP_nil ?_; refine hK2 _ ?_; clear hK2)
          | refine litX_old ?_
          | refine litC_data ?_
          | (refine Exists.intro _ (Exists.intro _ (And.intro rfl (And.intro rfl (And.intro ?_ ?_)))); focus omega)
          | (refine hK1 _ ?_; clear hK1)
          | refine nilC_intro (fun hz => ?_) ?_
          | refine PW.block ?_
          | refine PW.skip ?_
          | refine PW.exit ?_
          | refine PW.ret ?_
          | (refine hX1 ?_; clear hX1 hY1; try simp only [hb])
          | (refine hY1 ?_; clear hX1 hY1; try simp only [hb])
          | exact co_refl _
          | exact co_own _ _ _
          | exact co_nilsB
          | exact co_nilsL _ _))
        | ((first | (with_reducible refine wantB_intro (fun hb => ?_) (fun hb => ?_)) | (with_reducible refine condB_intro (fun hb => ?_) (fun hb => ?_))) <;> ((try (have hp := hb; simp only [Bool.and_eq_true, Bool.or_eq_true, Bool.not_eq_true', Bool.not_eq_false', Bool.and_eq_false_iff, Bool.or_eq_false_iff, Bool.not_eq_eq_eq_not, Bool.not_true, Bool.not_false, decide_eq_true_eq, decide_eq_false_iff_not, Int.not_lt, Int.not_le, beq_iff_eq, beq_eq_false_iff_ne, ne_eq] at hp)); try simp only [hb, Bool.not_true, Bool.not_false]))
        | ((with_reducible refine callP_new ?_ ?_ (pRBig4 ?_) ?_); (focus (repeat' (first | exact cos_refl _ | (refine cos_cons ?_ ?_) | exact co_refl _ | exact co_own _ _ _ | exact co_nilsB | exact co_nilsL _ _ | exact co_nils _ | (refine co_agg ?_) | (refine co_fn ?_)))); (focus (simp only [purAs, purA, Bool.and_self, Bool.and_true, Front.v, Front.c])))
        | ((with_reducible refine callP_pure ?_ ?_ (hA) (fun _ => ?_)); (focus (repeat' (first | exact cos_refl _ | (refine cos_cons ?_ ?_) | exact co_refl _ | exact co_own _ _ _ | exact co_nilsB | exact co_nilsL _ _ | exact co_nils _ | (refine co_agg ?_) | (refine co_fn ?_)))); (focus (simp only [purAs, purA, Bool.and_self])))
        | ((with_reducible refine callP_pure ?_ ?_ (hS) (fun _ => ?_)); (focus (repeat' (first | exact cos_refl _ | (refine cos_cons ?_ ?_) | exact co_refl _ | exact co_own _ _ _ | exact co_nilsB | exact co_nilsL _ _ | exact co_nils _ | (refine co_agg ?_) | (refine co_fn ?_)))); (focus (simp only [purAs, purA, Bool.and_self])))
        | ((with_reducible refine And.intro ?_ ?_); (focus (first | omega | (simp; done) | assumption)))
        | (simp only [thenP]; (try ((repeat (fail_if_success (with_reducible refine hK1 _ ?_)); clear hK1); (with_reducible refine hK1 _ ?_); clear hK1)))
        | (with_reducible omega)
        | (assumption)
        | ((first | ((with_reducible refine opsP_consMt (d := ?_) (dj := ?_) (b := ?_) (r := ?_) ?_ ?_ (fun hb => ?_) (fun K3 hK3 => ?_)); rotate_left 3; (focus exact rfl); (focus (simp only [St.put, upd_app, iniT_app, Nat.reduceEqDiff, ↓reduceIte, mrg_t, mrg_f]; exact rfl))) | ((with_reducible refine opsP_consMf (d := ?_) (dj := ?_) (b := ?_) (r := ?_) ?_ ?_ (fun hb => ?_) (fun K3 hK3 => ?_)); rotate_left 3; (focus exact rfl); (focus (simp only [upd_app, Nat.reduceEqDiff, ↓reduceIte]; exact rfl))) | ((with_reducible refine opsP_consNt (d := ?_) (dj := ?_) (b := ?_) (r := ?_) (c := ?_) ?_ ?_ (fun hb => ?_) (fun K3 hK3 => ?_)); rotate_left 4; (focus exact rfl); (focus (simp only [St.put, upd_app, iniT_app, Nat.reduceEqDiff, ↓reduceIte, mrg_t, mrg_f]; exact rfl))) | ((with_reducible refine opsP_consNf (d := ?_) (dj := ?_) (b := ?_) (r := ?_) (c := ?_) ?_ ?_ (fun hb => ?_) (fun K3 hK3 => ?_)); rotate_left 4; (focus exact rfl); (focus (simp only [St.put, upd_app, iniT_app, Nat.reduceEqDiff, ↓reduceIte, mrg_t, mrg_f]; exact rfl)))); (focus (simp only [opP, valP]; (try (simp only [Bool.not_eq_true'] at hb)); (try (have hp := hb; simp only [Bool.and_eq_true, Bool.or_eq_true, Bool.not_eq_true', Bool.not_eq_false', Bool.and_eq_false_iff, Bool.or_eq_false_iff, Bool.not_eq_eq_eq_not, Bool.not_true, Bool.not_false, decide_eq_true_eq, decide_eq_false_iff_not, Int.not_lt, Int.not_le, beq_iff_eq, beq_eq_false_iff_ne, ne_eq] at hp)); simp (disch := omega) only [St.eval, upd_app, unP, Nat.reduceEqDiff, Vo, ↓reduceIte, Vx]; (repeat' (first | (exact rfl) | ((refine And.intro ?_ ?_); (focus (exact rfl)); (exact rfl)) | (refine And.intro (by first | omega | (simp; done) | assumption) ?_) | ((with_reducible refine callP_pure ?_ ?_ (hA) (fun _ => ?_)); (focus (repeat' (first | exact cos_refl _ | (refine cos_cons ?_ ?_) | exact co_refl _ | exact co_own _ _ _ | exact co_nilsB | exact co_nilsL _ _ | exact co_nils _ | (refine co_agg ?_) | (refine co_fn ?_)))); (focus (simp only [purAs, purA, Bool.and_self, Bool.and_true, Front.v, Front.c]))) | ((with_reducible refine callP_pure ?_ ?_ (hS) (fun _ => ?_)); (focus (repeat' (first | exact cos_refl _ | (refine cos_cons ?_ ?_) | exact co_refl _ | exact co_own _ _ _ | exact co_nilsB | exact co_nilsL _ _ | exact co_nils _ | (refine co_agg ?_) | (refine co_fn ?_)))); (focus (simp only [purAs, purA, Bool.and_self, Bool.and_true, Front.v, Front.c]))))); done)); (try simp only [St.put, Nat.reduceLT, ↓reduceIte, mrg_t, Bool.not_false]))
        | ((first | ((with_reducible refine opsP_cons fun K3 hK3 => ?_); simp only [wantP, opP, valP, List.map_cons, List.map_nil]) | (with_reducible refine PW.condM fun X1 Y1 hX1 hY1 => ?_) | skip); simp (disch := omega) only [St.eval, St.put, upd_app, iniT_app, avOf, avOf1, wf_i64, nom, cellsA, AV.okv, loadA, unP, putCells, U7, Ua, Ub, Uc, Ud, Uf, Ug, Uk, Un, Up, Ur, Us, Ut, Uu, Uv, Nat.reduceLT, Nat.reduceAdd, Nat.reduceEqDiff, V9, Int.reduceLE, Int.reduceNeg, Vu, Vf, Vn, ↓reduceIte, Vp, Vw, Vr, sz26, ze26, Front.v, Front.c, condP, condB_t]; try (with_reducible (first | exact co_refl _ | exact co_own _ _ _ | exact co_nilsB | exact co_nilsL _ _))))
      all_goals exact hbad'
    | true =>
      have hlong' := hlong rfl
      have hok' := hok rfl
      clear hbad hlong hok hbb
      have e4 : (4 : Int) + b.length = b.length + 4 := by omega
      by_cases ht : tg = 0
      · subst ht
        repeat' (first
          | ((with_reducible refine PW.nil2ownB (bx := ?_) 10 5 ?_ ?_ ?_); rotate_left 1; (focus (simp only [upd_app, Nat.reduceEqDiff, ↓reduceIte])); (focus (exact rfl)))
          | (with_reducible (first
            | refine PW.seq fun K1 hK1 => ?_
            | refine PW.region fun K2 hK2 => ?_
            | (refine hK3 _ ?_; clear hK3)
            | (refine opsP_nil ?_; refine hK2 _ ?_; clear hK2)
            | refine litX_old ?_
            | refine litC_data ?_
            | (refine Exists.intro _ (Exists.intro _ (And.intro rfl (And.intro rfl (And.intro ?_ ?_)))); focus omega)
            | (refine hK1 _ ?_; clear hK1)
            | refine nilC_intro (fun hz => ?_) ?_
            | refine PW.block ?_
            | refine PW.skip ?_
            | refine PW.exit ?_
            | refine PW.ret ?_
            | (refine hX1 ?_; clear hX1 hY1; try simp only [hb])
            | (refine hY1 ?_; clear hX1 hY1; try simp only [hb])
            | exact co_refl _
            | exact co_own _ _ _
            | exact co_nilsB
            | exact co_nilsL _ _))
          | ((first | (with_reducible refine wantB_intro (fun hb => ?_) (fun hb => ?_)) | (with_reducible refine condB_intro (fun hb => ?_) (fun hb => ?_))) <;> ((try (have hp := hb; simp only [Bool.or_eq_true, Bool.or_eq_false_iff, decide_eq_true_eq, decide_eq_false_iff_not, Int.not_lt] at hp)); try simp only [hb, Bool.not_true, Bool.not_false]))
          | ((with_reducible refine callP_new ?_ ?_ (pRBig4 ?_) ?_); (focus (repeat' (first | exact cos_refl _ | (refine cos_cons ?_ ?_) | exact co_refl _ | exact co_own _ _ _ | exact co_nilsB | exact co_nilsL _ _ | exact co_nils _ | (refine co_agg ?_) | (refine co_fn ?_)))); (focus (simp only [purAs, purA, Bool.and_self])))
          | ((with_reducible refine callP_pure ?_ ?_ (hA) (fun _ => ?_)); (focus (repeat' (first | exact cos_refl _ | (refine cos_cons ?_ ?_) | exact co_refl _ | exact co_own _ _ _ | exact co_nilsB | exact co_nilsL _ _ | exact co_nils _ | (refine co_agg ?_) | (refine co_fn ?_)))); (focus (simp only [purAs, purA, Bool.and_self])))
          | ((with_reducible refine callP_pure ?_ ?_ (hS) (fun _ => ?_)); (focus (repeat' (first | exact cos_refl _ | (refine cos_cons ?_ ?_) | exact co_refl _ | exact co_own _ _ _ | exact co_nilsB | exact co_nilsL _ _ | exact co_nils _ | (refine co_agg ?_) | (refine co_fn ?_)))); (focus (simp only [purAs, purA, Bool.and_self])))
          | ((with_reducible refine And.intro ?_ ?_); (focus (first | omega | (simp; done) | assumption)))
          | (simp only [thenP]; (try ((repeat (fail_if_success (with_reducible refine hK1 _ ?_)); clear hK1); (with_reducible refine hK1 _ ?_); clear hK1)))
          | (with_reducible omega)
          | (assumption)
          | ((first | ((with_reducible refine opsP_consMt (d := ?_) (dj := ?_) (b := ?_) (r := ?_) ?_ ?_ (fun hb => ?_) (fun K3 hK3 => ?_)); rotate_left 3; (focus exact rfl); (focus (simp only [upd_app, Nat.reduceEqDiff, ↓reduceIte]; exact rfl))) | ((with_reducible refine opsP_consMf (d := ?_) (dj := ?_) (b := ?_) (r := ?_) ?_ ?_ (fun hb => ?_) (fun K3 hK3 => ?_)); rotate_left 3; (focus exact rfl); (focus (simp only [upd_app, Nat.reduceEqDiff, ↓reduceIte]; exact rfl))) | ((with_reducible refine opsP_consNt (d := ?_) (dj := ?_) (b := ?_) (r := ?_) (c := ?_) ?_ ?_ (fun hb => ?_) (fun K3 hK3 => ?_)); rotate_left 4; (focus exact rfl); (focus (simp only [St.put, upd_app, iniT_app, Nat.reduceEqDiff, ↓reduceIte, mrg_t, mrg_f]; exact rfl))) | ((with_reducible refine opsP_consNf (d := ?_) (dj := ?_) (b := ?_) (r := ?_) (c := ?_) ?_ ?_ (fun hb => ?_) (fun K3 hK3 => ?_)); rotate_left 4; (focus exact rfl); (focus (simp only [St.put, upd_app, iniT_app, Nat.reduceEqDiff, ↓reduceIte, mrg_t, mrg_f]; exact rfl)))); (focus (simp only [opP, valP, List.map_cons, List.map_nil]; (try (simp only [Bool.not_eq_true'] at hb)); (try (have hp := hb; simp only [decide_eq_false_iff_not, Int.not_lt] at hp)); simp (disch := omega) only [St.eval, upd_app, avOf, avOf1, wf_i64, wf_u8, loadA, lenP, binP, intsP, intP, nilP, unP, builtinP, isMapA, slA, encL_len, Ua, Uk, Ul, Nat.reduceLT, Nat.reduceEqDiff, V9, Ve, Int.reduceLE, Int.reduceNeg, Vu, Vf, Vn, Vo, ↓reduceIte, Vp, Vw, Vx, Vz, UU0, Vs, sz24, Tryd.underlying24, fi26_1, mrg_t, hb]; (repeat' (first | (exact rfl) | ((refine And.intro ?_ ?_); (focus (exact rfl)); (exact rfl)) | (refine And.intro (by first | omega | (simp; done) | assumption) ?_) | ((with_reducible refine callP_pure ?_ ?_ (hA) (fun _ => ?_)); (focus (repeat' (first | exact cos_refl _ | (refine cos_cons ?_ ?_) | exact co_refl _ | exact co_own _ _ _ | exact co_nilsB | exact co_nilsL _ _ | exact co_nils _ | (refine co_agg ?_) | (refine co_fn ?_)))); (focus (simp only [purAs, purA, Bool.and_self, Bool.and_true, Front.v, Front.c, big4_l, e4]))) | ((with_reducible refine callP_pure ?_ ?_ (hS) (fun _ => ?_)); (focus (repeat' (first | exact cos_refl _ | (refine cos_cons ?_ ?_) | exact co_refl _ | exact co_own _ _ _ | exact co_nilsB | exact co_nilsL _ _ | exact co_nils _ | (refine co_agg ?_) | (refine co_fn ?_)))); (focus (simp only [purAs, purA, Bool.and_self, Bool.and_true, Front.v, Front.c, big4_l, e4]))))); done)); (try simp only [St.put, Nat.reduceLT, ↓reduceIte, mrg_t, mrg_f, Bool.not_false]))
          | ((first | ((with_reducible refine opsP_cons fun K3 hK3 => ?_); simp only [wantP, opP, valP, List.map_cons, List.map_nil]) | (with_reducible refine PW.condM fun X1 Y1 hX1 hY1 => ?_) | skip); simp (disch := omega) only [wantB_ft, St.eval, St.put, upd_app, iniT_app, avOf, avOf1, wf_i64, wf_u8, nom, cellsA, AV.okv, loadA, lenP, binP, intsP, intP, nilP, unP, builtinP, appP, srcA, srcTy, wi_i64, isMapA, isBsl, slA, putCells, encB_len, encB_append, U7, Ua, Ub, Uc, Ud, Uf, Ug, Uk, Un, Up, Ur, Us, Ut, Uu, Uv, Uz, V2, V4, Nat.reduceLT, Nat.reduceLeDiff, Nat.reduceAdd, Nat.reduceMul, Nat.reduceEqDiff, V9, Vd, Ve, Int.reduceLE, Int.reduceNeg, Vu, Vf, Vn, ↓reduceIte, Vp, Vw, Vz, UU0, UU6, Vr, Vs, ze5, by5, el22, Tryd.underlying22, sz26, ze26, Front.v, Front.c, big4_l, e4, pick_or, retQ, resP, tupA, fg, fgs, condP, condB_f]; try (with_reducible (first | exact co_refl _ | exact co_own _ _ _ | exact co_nilsB | exact co_nilsL _ _))))
        · exact hlong' (by simp only [frontMost, ↓reduceIte]; simp only [Bool.or_eq_true, decide_eq_true_eq] at hb; omega)
        · rw [hok' (by simp only [frontMost, ↓reduceIte]; simp only [Bool.or_eq_false_iff, decide_eq_false_iff_not] at hb; omega)]
          refine co_eq ?_
          simp []
      · have ht' := eq_false ht
        repeat' (first
          | ((with_reducible refine PW.nil2ownB (bx := ?_) 10 5 ?_ ?_ ?_); rotate_left 1; (focus (simp only [upd_app, Nat.reduceEqDiff, ↓reduceIte])); (focus (exact rfl)))
          | (with_reducible (first
            | refine PW.seq fun K1 hK1 => ?_
            | refine PW.region fun K2 hK2 => ?_
            | (refine hK3 _ ?_; clear hK3)
            | (refine opsP_nil ?_; refine hK2 _ ?_; clear hK2)
            | refine litX_old ?_
            | refine litC_data ?_
            | (refine Exists.intro _ (Exists.intro _ (And.intro rfl (And.intro rfl (And.intro ?_ ?_)))); focus omega)
            | (refine hK1 _ ?_; clear hK1)
            | refine nilC_intro (fun hz => ?_) ?_
            | refine PW.block ?_
            | refine PW.skip ?_
            | refine PW.exit ?_
            | refine PW.ret ?_
            | (refine hX1 ?_; clear hX1 hY1; try simp only [hb])
            | (refine hY1 ?_; clear hX1 hY1; try simp only [hb])
            | exact co_refl _
            | exact co_own _ _ _
            | exact co_nilsB
            | exact co_nilsL _ _))
          | ((first | (with_reducible refine wantB_intro (fun hb => ?_) (fun hb => ?_)) | (with_reducible refine condB_intro (fun hb => ?_) (fun hb => ?_))) <;> ((try (have hp := hb; simp only [Bool.or_eq_true, Bool.or_eq_false_iff, decide_eq_true_eq, decide_eq_false_iff_not, Int.not_lt] at hp)); try simp only [hb, Bool.not_true, Bool.not_false]))
          | ((with_reducible refine callP_new ?_ ?_ (pRBig4 ?_) ?_); (focus (repeat' (first | exact cos_refl _ | (refine cos_cons ?_ ?_) | exact co_refl _ | exact co_own _ _ _ | exact co_nilsB | exact co_nilsL _ _ | exact co_nils _ | (refine co_agg ?_) | (refine co_fn ?_)))); (focus (simp only [purAs, purA, Bool.and_self])))
          | ((with_reducible refine callP_pure ?_ ?_ (hA) (fun _ => ?_)); (focus (repeat' (first | exact cos_refl _ | (refine cos_cons ?_ ?_) | exact co_refl _ | exact co_own _ _ _ | exact co_nilsB | exact co_nilsL _ _ | exact co_nils _ | (refine co_agg ?_) | (refine co_fn ?_)))); (focus (simp only [purAs, purA, Bool.and_self])))
          | ((with_reducible refine callP_pure ?_ ?_ (hS) (fun _ => ?_)); (focus (repeat' (first | exact cos_refl _ | (refine cos_cons ?_ ?_) | exact co_refl _ | exact co_own _ _ _ | exact co_nilsB | exact co_nilsL _ _ | exact co_nils _ | (refine co_agg ?_) | (refine co_fn ?_)))); (focus (simp only [purAs, purA, Bool.and_self])))
          | ((with_reducible refine And.intro ?_ ?_); (focus (first | omega | (simp; done) | assumption)))
          | (simp only [thenP]; (try ((repeat (fail_if_success (with_reducible refine hK1 _ ?_)); clear hK1); (with_reducible refine hK1 _ ?_); clear hK1)))
          | (with_reducible omega)
          | (assumption)
          | ((first | ((with_reducible refine opsP_consMt (d := ?_) (dj := ?_) (b := ?_) (r := ?_) ?_ ?_ (fun hb => ?_) (fun K3 hK3 => ?_)); rotate_left 3; (focus exact rfl); (focus (simp only [upd_app, Nat.reduceEqDiff, ↓reduceIte]; exact rfl))) | ((with_reducible refine opsP_consMf (d := ?_) (dj := ?_) (b := ?_) (r := ?_) ?_ ?_ (fun hb => ?_) (fun K3 hK3 => ?_)); rotate_left 3; (focus exact rfl); (focus (simp only [upd_app, Nat.reduceEqDiff, ↓reduceIte]; exact rfl))) | ((with_reducible refine opsP_consNt (d := ?_) (dj := ?_) (b := ?_) (r := ?_) (c := ?_) ?_ ?_ (fun hb => ?_) (fun K3 hK3 => ?_)); rotate_left 4; (focus exact rfl); (focus (simp only [upd_app, Nat.reduceEqDiff, ↓reduceIte]; exact rfl))) | ((with_reducible refine opsP_consNf (d := ?_) (dj := ?_) (b := ?_) (r := ?_) (c := ?_) ?_ ?_ (fun hb => ?_) (fun K3 hK3 => ?_)); rotate_left 4; (focus exact rfl); (focus (simp only [St.put, upd_app, iniT_app, Nat.reduceEqDiff, ↓reduceIte, mrg_t, mrg_f]; exact rfl)))); (focus (simp only [opP, valP, List.map_cons, List.map_nil]; (try (simp only [Bool.and_eq_true, Bool.not_eq_true'] at hb)); (try (have hp := hb; simp only [decide_eq_false_iff_not, Int.not_lt] at hp)); simp (disch := omega) only [St.eval, upd_app, avOf, avOf1, wf_i64, wf_u8, loadA, lenP, binP, intsP, intP, nilP, unP, builtinP, isMapA, slA, encL_len, Ua, Uk, Ul, Nat.reduceLT, Nat.reduceEqDiff, V9, Ve, Int.reduceLE, Int.reduceNeg, Vu, Vv, Vf, Vg, Vn, Vo, ↓reduceIte, Vp, Vw, Vx, Vz, UU0, Vs, sz24, Tryd.underlying24, fi26_1, ht', mrg_t, mrg_f, hb]; (repeat' (first | (exact rfl) | ((refine And.intro ?_ ?_); (focus (exact rfl)); (exact rfl)) | (refine And.intro (by first | omega | (simp; done) | assumption) ?_) | ((with_reducible refine callP_pure ?_ ?_ (hA) (fun _ => ?_)); (focus (repeat' (first | exact cos_refl _ | (refine cos_cons ?_ ?_) | exact co_refl _ | exact co_own _ _ _ | exact co_nilsB | exact co_nilsL _ _ | exact co_nils _ | (refine co_agg ?_) | (refine co_fn ?_)))); (focus (simp only [purAs, purA, Bool.and_self, Bool.and_true, Front.v, Front.c, big4_l, e4, ht']))) | ((with_reducible refine callP_pure ?_ ?_ (hS) (fun _ => ?_)); (focus (repeat' (first | exact cos_refl _ | (refine cos_cons ?_ ?_) | exact co_refl _ | exact co_own _ _ _ | exact co_nilsB | exact co_nilsL _ _ | exact co_nils _ | (refine co_agg ?_) | (refine co_fn ?_)))); (focus (simp only [purAs, purA, Bool.and_self, Bool.and_true, Front.v, Front.c, big4_l, e4, ht']))))); done)); (try simp only [St.put, Nat.reduceLT, ↓reduceIte, mrg_t, Bool.not_false]))
          | ((first | ((with_reducible refine opsP_cons fun K3 hK3 => ?_); simp only [wantP, opP, valP, List.map_cons, List.map_nil, List.mapM_cons, List.mapM_nil, List.all_cons, List.all_nil]) | (with_reducible refine PW.condM fun X1 Y1 hX1 hY1 => ?_) | skip); simp (disch := omega) only [St.eval, St.put, upd_app, iniT_app, avOf, avOf1, wf_i64, wf_u8, nom, cellsA, AV.okv, loadA, lenP, binP, intsP, intP, nilP, unP, builtinP, appP, srcA, srcTy, wi_i64, isMapA, isBsl, U3, U4, U5, slA, putCells, elA, dv1, encB_len, encB_append, encB_snoc, U7, Ua, Ub, Uc, Ud, Uf, Ug, Uk, Un, Up, Ur, Us, Ut, Uu, Uv, List.mapM_cons, List.mapM_nil, Uw, Ux, V0, V1, V2, V4, Option.bind_eq_bind, Option.pure_def, Nat.reduceLT, Nat.reduceLeDiff, Nat.reduceAdd, Nat.reduceMul, Nat.reduceEqDiff, V9, Vd, Ve, Int.reduceLE, Int.reduceNeg, Vu, Vv, Vf, Vg, Vk, Vn, Vo, ↓reduceIte, Vp, reduceCtorEq, Vw, Vz, UU0, UU6, UU9, Vr, Vs, ze5, by5, el22, Tryd.underlying22, sz26, ze26, Front.v, Front.c, big4_l, e4, ht', mrg_f, pick_or, retQ, resP, tupA, fg, fgs, condP, condB_t, condB_f]; try (with_reducible (first | exact co_refl _ | exact co_own _ _ _ | exact co_nilsB | exact co_nilsL _ _))))
        · exact hlong' (by simp only [frontMost, ht', ↓reduceIte]; simp only [Bool.or_eq_true, decide_eq_true_eq] at hb; omega)
        · rw [hok' (by simp only [frontMost, ht', ↓reduceIte]; simp only [Bool.or_eq_false_iff, decide_eq_false_iff_not] at hb; omega)]
          refine co_eq ?_
          simp [ht']
end PM
end Go.Proofs.YthaekefdadccaaaDoor
