/- rowkey's reference in the abstract: keys and values as bytes. -/
import Derived.Test.YtfkemeamimcnjaaDoorRkr1
namespace Go.Proofs.YtfkemeamimcnjaaDoor
open Go.RowKit
set_option maxRecDepth 100000
namespace PM
theorem pRText (l : List Int) (hl : l.length ≤ 2097152) : Pure Tryd.prog 86 [bs l] (.tup [bs (textB l), .d (.int .i64 0)]) :=
  pure_of_calls Tryd.func86 rfl rfl fun G w vs hm ha => by
    unfold RelAs at ha
    obtain ⟨v1, vs, rfl, h1, ha⟩ := ha
    unfold RelAs at ha
    subst ha
    refine (Codec.rText_ok v1 l w h1.dat.isB.1 hl).mono fun e w' ⟨v, k1, k2, k3⟩ => ⟨_, k1, k3, ?_⟩
    unfold RelA
    exact ⟨_, rfl, .cons (ownS_new hm (OwnS.of_own k2 ((Codec.numN_rng _).append h1.dat.isB.1.rng))) (.cons (relA_int (by decide)) .nil)⟩
abbrev orow (b : List Int) : AV := .own 0 1 (encB b)
abbrev rowm (b : List Int) : Mem := ⟨[], [some ⟨5, 1, b.length⟩]⟩
/-- a call that hands back its second row -/
theorem PFun.row1 {P : Program} {f : Nat} {args : List AV} {k n : Nat} {e : TypeId} {x : Option RowI} {ys : List (List DV)} (h : PFun P f args nom (.own 1 k ys) ⟨[], [x, some ⟨e, k, n⟩]⟩) : PFun P f args nom (.own 0 k ys) ⟨[], [some ⟨e, k, n⟩]⟩ := fun G w vs hm ha =>
  (h G w vs hm ha).mono fun v w' ⟨G', k1, k2, k3⟩ => by
    have hmut : ∀ b o, Mut { G' with ri := fun r => G'.ri (r + 1), rc := fun r => G'.rc (r + 1) } ⟨[], [some ⟨e, k, n⟩]⟩ b o → Mut G' ⟨[], [x, some ⟨e, k, n⟩]⟩ b o := by
      rintro b o (⟨id, e', cs, hb, -⟩ | ⟨r, i, hr, hg, hn⟩)
      · simp at hb
      · exact .inr ⟨r + 1, i, by rw [List.getElem?_cons_succ]; exact hr, hg, hn⟩
    refine ⟨{ G' with ri := fun r => G'.ri (r + 1), rc := fun r => G'.rc (r + 1) }, ⟨k1.avlt, fun id e' cs hb => by simp at hb, fun r i hr => k1.row (r + 1) i (by rw [List.getElem?_cons_succ]; exact hr), fun i j x y hi => by simp at hi, fun i j x y g hi hj h1 h2 => ?_, fun i j x y hi => by simp at hi⟩,
      ⟨k2.av, k2.fr, fun b o hk => k2.mt b o (hmut b o hk), fun id hid => by simp [nom] at hid, Nat.zero_le _, Nat.zero_le _, fun r i' hr => by simp [nom] at hr⟩, ?_⟩
    · have := k1.rr (i + 1) (j + 1) x y g (by rw [List.getElem?_cons_succ]; exact hi) (by rw [List.getElem?_cons_succ]; exact hj) h1 h2
      omega
    · unfold RelA at k3 ⊢
      obtain ⟨q1, q2, q3⟩ := k3
      refine ⟨by simp, RelD.mono (Pre.same fun b o hk => ?_) _ _ q2, fun i hi => q3 i (by rw [List.getElem?_cons_succ]; exact hi)⟩
      rcases hk with hk | hk
      · exact .inl hk
      · exact .inr (hmut b o hk)
theorem encB_cons2 {a : Int} {l : List Int} : encB ([a] ++ l) = [DV.int .u8 a] :: encB l := rfl
theorem end_row1 {bx : List (Option (TypeId × List AV))} {r : List (Option RowI)} {L : List Int} {n : Nat} {x : Option RowI} (h : n = L.length) : Co (.own 1 1 (encB L)) (.own 1 1 (encB L)) ∧ SubM ⟨bx, x :: some ⟨5, 1, n⟩ :: r⟩ ⟨[], [x, some ⟨5, 1, L.length⟩]⟩ := by
  subst h
  refine ⟨co_refl _, by simp, by simp, fun j e cs hj => by simp at hj, fun j i hj => ?_⟩
  match j with
  | 0 => exact hj
  | 1 => exact hj
  | j + 2 => simp at hj
theorem end_row {bx : List (Option (TypeId × List AV))} {r : List (Option RowI)} {L : List Int} {n : Nat} (h : n = L.length) : Co (.own 0 1 (encB L)) (orow L) ∧ SubM ⟨bx, some ⟨5, 1, n⟩ :: r⟩ (rowm L) := by
  subst h
  exact ⟨co_refl _, subM_row1⟩
theorem pRTxt (b s : List Int) (hs : s.length ≤ 65536) (hb : b.length ≤ 130000000000000) : PFun Tryd.prog 67 [orow b, .d (.str s)] (rowm b) (orow (b ++ textB s)) (rowm (b ++ textB s)) := by
  refine fun_intro Tryd.func67 rfl rfl rfl 16 rfl ⟨Nat.le_refl _, Nat.le_refl _⟩ (fun hh => ?_)
  have hT := pRText s (by omega)
  have htl := textB_len s hs
  obtain ⟨T, hTe⟩ : ∃ T, textB s = T := ⟨_, rfl⟩
  rw [hTe] at hT htl ⊢
  repeat' (first
    | ((with_reducible (first
     | (refine PW.seq fun K1 hK1 => ?_) | (refine PW.region fun K2 hK2 => ?_) | ((refine hK3 _ ?_; clear hK3)) | ((refine opsP_nil ?_; refine hK2 _ ?_; clear hK2)) 
     | (refine PW.ret ?_) )))
    | (((with_reducible refine cC_pure ?_ (hT) (fun _ => ?_)); (focus ((repeat' constructor); done))))
    | (((with_reducible refine And.intro ?_ ?_); (focus (first | omega | (simp; done) | assumption))))
    | ((simp only [thenP]; (try ((repeat (fail_if_success (with_reducible refine hK1 _ ?_)); clear hK1); (with_reducible refine hK1 _ ?_); clear hK1))))
    | (((first | (((with_reducible refine opsP_cons fun K3 hK3 => ?_); simp only [wantP, opP, valP, Ur, Us])) | (skip)); simp (disch := omega) only [St.eval, St.put, upd_app, iniT_app, avOf, avOf1, convP, builtinP, appP, srcA, srcTy, isBsl, U7, U8, Ua, Ub, Uc, Uf, Ug, Ui, Uv, V2, V9, Ve, PmL, simprocAttr, PmT, retQ, resP, tupA, fg]; try (with_reducible (first | exact co_refl _ | exact co_own _ _ _ | exact co_nilsB | exact co_nilsL _ _)))))
  all_goals exact end_row (by first | rfl | (simp; done) | (simp; omega))
set_option maxHeartbeats 2000000 in
theorem pRColumn (b : List Int) (x : XV) (hs : x.s.length ≤ 65536) (hk : (Codec.keyT x.s).length ≤ 1000000) (hb : b.length ≤ 100000000000000) :
    PFun Tryd.prog 65 [orow b, x.v] (rowm b) (orow (b ++ colKey x)) (rowm (b ++ colKey x)) := by
  refine fun_intro Tryd.func65 rfl rfl rfl 40 rfl ⟨Nat.zero_le _, Nat.le_refl _⟩ (fun hh => ?_)
  obtain ⟨ty, nu, n, s⟩ := x
  simp only at hs hk
  have hkl : (Codec.keyL n).length = 8 := rfl
  have hT := pRKeyText s (by omega)
  have hI := pRKeyInt n
  unfold XV.v XV.c
  cases nu
  · by_cases h1 : ty = 1
    · subst h1
      have e : b ++ colKey ⟨1, false, n, s⟩ = b ++ [1] ++ Codec.keyL n := by simp [colKey]
      rw [e]
      obtain ⟨K, hK⟩ : ∃ K, Codec.keyL n = K := ⟨_, rfl⟩
      rw [hK] at hI hkl ⊢
      repeat' (first
        | ((with_reducible (first
         | (refine PW.seq fun K1 hK1 => ?_) | (refine PW.region fun K2 hK2 => ?_) | ((refine hK3 _ ?_; clear hK3)) | ((refine opsP_nil ?_; refine hK2 _ ?_; clear hK2)) | (refine litX_old ?_) | (refine litC_data ?_) 
         | (refine PW.block ?_) | (refine PW.skip ?_) | (refine PW.ret ?_) | ((refine hX1 ?_; clear hX1 hY1; try simp only [hb])) | ((refine hY1 ?_; clear hX1 hY1; try simp only [hb])) )))
        | (((with_reducible refine cC_new ?_ (hI) ?_); (focus ((repeat' constructor); done))))
        | (((with_reducible refine And.intro ?_ ?_); (focus (first | omega | (simp; done) | assumption))))
        | ((simp only [thenP, blockP]; (try ((repeat (fail_if_success (with_reducible refine hK1 _ ?_)); clear hK1); (with_reducible refine hK1 _ ?_); clear hK1))))
        | (((first | (((with_reducible refine opsP_cons fun K3 hK3 => ?_); simp only [wantP, opP, valP, Ur, Us, List.mapM_cons, List.mapM_nil, Uw, Ux])) | ((with_reducible refine PW.condM fun X1 Y1 hX1 hY1 => ?_)) | (skip)); simp (disch := omega) only [St.eval, St.put, upd_app, iniT_app, avOf, avOf1, cellsA, AV.okv, loadA, binP, intsP, intP, nilP, builtinP, appP, srcA, srcTy, isBsl, U3, U4, U5, slA, elA, dv1, U7, U8, Ua, Uc, Uf, Ug, Ui, Uk, Ul, Ut, Uu, Uv, List.mapM_cons, List.mapM_nil, Uw, Ux, V0, V1, V2, V4, Option.bind_eq_bind, Option.pure_def, V9, Va, Ve, UU9, PmL, simprocAttr, PmT, retQ, resP, tupA, fg, condP, condB_t, condB_f]; try (with_reducible (first | exact co_refl _ | exact co_own _ _ _ | exact co_nilsB | exact co_nilsL _ _)))))
      all_goals exact end_row (by first | rfl | (simp; done) | (simp; omega))
    have h1' := eq_false h1
    by_cases h2 : ty = 2
    · subst h2
      have e : b ++ colKey ⟨2, false, n, s⟩ = b ++ [1] ++ [n % 256] := by simp [colKey]
      rw [e]
      repeat' (first
        | ((with_reducible (first
         | (refine PW.seq fun K1 hK1 => ?_) | (refine PW.region fun K2 hK2 => ?_) | ((refine hK3 _ ?_; clear hK3)) | ((refine opsP_nil ?_; refine hK2 _ ?_; clear hK2)) | (refine litX_old ?_) | (refine litC_data ?_) 
         | (refine PW.block ?_) | (refine PW.skip ?_) | (refine PW.ret ?_) | ((refine hX1 ?_; clear hX1 hY1; try simp only [hb])) | ((refine hY1 ?_; clear hX1 hY1; try simp only [hb])) )))
        | (((with_reducible refine And.intro ?_ ?_); (focus (first | omega | (simp; done) | assumption))))
        | ((simp only [thenP, blockP]; (try ((repeat (fail_if_success (with_reducible refine hK1 _ ?_)); clear hK1); (with_reducible refine hK1 _ ?_); clear hK1))))
        | (((first | (((with_reducible refine opsP_cons fun K3 hK3 => ?_); simp only [wantP, opP, valP, Ur, Us, List.mapM_cons, List.mapM_nil, Uw, Ux])) | ((with_reducible refine PW.condM fun X1 Y1 hX1 hY1 => ?_)) | (skip)); simp (disch := omega) only [St.eval, St.put, upd_app, iniT_app, avOf, avOf1, cellsA, AV.okv, loadA, binP, intsP, intP, nilP, convP, builtinP, appP, srcA, srcTy, isBsl, U3, U4, U5, slA, elA, dv1, U7, U8, Ua, Uc, Uf, Ug, Ui, Uk, Ul, Ut, Uu, Uv, List.mapM_cons, List.mapM_nil, Uw, Ux, V0, V1, V2, V4, Option.bind_eq_bind, Option.pure_def, V9, Va, Ve, UU9, PmL, simprocAttr, PmT, wrap_u8, retQ, resP, tupA, fg, condP, condB_t, condB_f]; try (with_reducible (first | exact co_refl _ | exact co_own _ _ _ | exact co_nilsB | exact co_nilsL _ _)))))
      all_goals exact end_row (by first | rfl | (simp; done) | (simp; omega))
    have h2' := eq_false h2
    have e : b ++ colKey ⟨ty, false, n, s⟩ = b ++ [1] ++ Codec.keyT s := by simp [colKey, h1, h2]
    rw [e]
    obtain ⟨K, hK⟩ : ∃ K, Codec.keyT s = K := ⟨_, rfl⟩
    rw [hK] at hT hk ⊢
    repeat' (first
      | ((with_reducible (first
       | (refine PW.seq fun K1 hK1 => ?_) | (refine PW.region fun K2 hK2 => ?_) | ((refine hK3 _ ?_; clear hK3)) | ((refine opsP_nil ?_; refine hK2 _ ?_; clear hK2)) | (refine litX_old ?_) | (refine litC_data ?_) 
       | (refine PW.block ?_) | (refine PW.skip ?_) | (refine PW.ret ?_) | ((refine hY1 ?_; clear hX1 hY1; try simp only [hb])) )))
      | (((with_reducible refine cC_new ?_ (hT) ?_); (focus ((repeat' constructor) <;> (simp only [purAs, purA, Vf, Bool.and_self, h1', h2']; done)))))
      | (((with_reducible refine And.intro ?_ ?_); (focus (first | omega | (simp; done) | assumption))))
      | ((simp only [thenP, blockP]; (try ((repeat (fail_if_success (with_reducible refine hK1 _ ?_)); clear hK1); (with_reducible refine hK1 _ ?_); clear hK1))))
      | (((first | (((with_reducible refine opsP_cons fun K3 hK3 => ?_); simp only [wantP, opP, valP, Ur, Us, List.mapM_cons, List.mapM_nil, Uw, Ux])) | ((with_reducible refine PW.condM fun X1 Y1 hX1 hY1 => ?_)) | (skip)); simp (disch := omega) only [St.eval, St.put, upd_app, iniT_app, avOf, avOf1, cellsA, AV.okv, loadA, binP, intsP, intP, nilP, convP, builtinP, appP, srcA, srcTy, isBsl, U3, U4, U5, slA, elA, dv1, U7, U8, Ua, Uc, Uf, Ug, Ui, Uk, Ul, Ut, Uu, Uv, List.mapM_cons, List.mapM_nil, Uw, Ux, V0, V1, V2, V4, Option.bind_eq_bind, Option.pure_def, V9, Va, Ve, UU9, PmL, simprocAttr, PmT, h1', h2', retQ, resP, tupA, fg, condP, condB_f]; try (with_reducible (first | exact co_refl _ | exact co_own _ _ _ | exact co_nilsB | exact co_nilsL _ _)))))
    all_goals exact end_row (by first | rfl | (simp; done) | (simp; omega))
  · have e : b ++ colKey ⟨ty, true, n, s⟩ = b ++ [2] := by simp [colKey]
    rw [e]
    repeat' (first
      | ((with_reducible (first
       | (refine PW.seq fun K1 hK1 => ?_) | (refine PW.region fun K2 hK2 => ?_) | ((refine hK3 _ ?_; clear hK3)) | ((refine opsP_nil ?_; refine hK2 _ ?_; clear hK2)) | (refine litX_old ?_) | (refine litC_data ?_) 
       | (refine PW.ret ?_) | ((refine hX1 ?_; clear hX1 hY1; try simp only [hb])) )))
      | (((with_reducible refine And.intro ?_ ?_); (focus (first | omega | (simp; done) | assumption))))
      | ((simp only [thenP]; (try ((repeat (fail_if_success (with_reducible refine hK1 _ ?_)); clear hK1); (with_reducible refine hK1 _ ?_); clear hK1))))
      | (((first | (((with_reducible refine opsP_cons fun K3 hK3 => ?_); simp only [wantP, opP, valP, Ur, Us, List.mapM_cons, List.mapM_nil, Uw, Ux])) | ((with_reducible refine PW.condM fun X1 Y1 hX1 hY1 => ?_)) | (skip)); simp (disch := omega) only [St.eval, St.put, upd_app, iniT_app, avOf, avOf1, cellsA, AV.okv, loadA, builtinP, appP, srcA, srcTy, isBsl, U3, U4, U5, elA, dv1, U7, U8, Ua, Uc, Uf, Ug, Ui, Uk, Ul, Ut, Uu, Uv, List.mapM_cons, List.mapM_nil, Uw, Ux, V0, V1, V2, V4, Option.bind_eq_bind, Option.pure_def, V9, Ve, UU9, PmL, simprocAttr, PmT, retQ, resP, tupA, fg, condP, condB_t]; try (with_reducible (first | exact co_refl _ | exact co_own _ _ _ | exact co_nilsB | exact co_nilsL _ _)))))
    all_goals exact end_row (by first | rfl | (simp; done) | (simp; omega))
/-- the document's bytes of a value are the program's -/
theorem rplain {x : XV} : plainB x = (if x.null = true then [0] else if x.ty = 1 then [1] ++ Codec.keyL x.n else if x.ty = 2 then [1] ++ [x.n % 256] else if x.ty = 3 then [1] ++ textB x.s else plainB x) := by
  unfold plainB colKey
  cases x.null
  · by_cases h1 : x.ty = 1
    · simp [h1]
    · by_cases h2 : x.ty = 2
      · simp [h2]
      · by_cases h3 : x.ty = 3
        · simp [h3]
        · simp [h1, h2, h3]
  · simp
set_option maxHeartbeats 2000000 in
theorem pRValue (b : List Int) (x : XV) (hty : 1 ≤ x.ty ∧ x.ty ≤ 3) (hs : x.s.length ≤ 65536) (hb : b.length ≤ 100000000000000) :
    PFun Tryd.prog 37 [orow b, x.v] (rowm b) (orow (b ++ plainB x)) (rowm (b ++ plainB x)) := by
  refine fun_intro Tryd.func37 rfl rfl rfl 36 rfl ⟨Nat.zero_le _, Nat.le_refl _⟩ (fun hh => ?_)
  obtain ⟨ty, nu, n, s⟩ := x
  simp only at hs hty
  have hkl : (Codec.keyL n).length = 8 := rfl
  have hT := pRTxt (b ++ [1]) s hs (by simp; omega)
  have hI := pRKeyInt n
  have htl := textB_len s hs
  unfold XV.v XV.c
  cases nu
  · rcases (by omega : ty = 1 ∨ ty = 2 ∨ ty = 3) with rfl | rfl | rfl
    · have e : b ++ plainB ⟨1, false, n, s⟩ = b ++ [1] ++ Codec.keyL n := by simp [plainB, colKey]
      rw [e]
      obtain ⟨K, hK⟩ : ∃ K, Codec.keyL n = K := ⟨_, rfl⟩
      rw [hK] at hI hkl ⊢
      repeat' (first
        | ((with_reducible (first
         | (refine PW.seq fun K1 hK1 => ?_) | (refine PW.region fun K2 hK2 => ?_) | ((refine hK3 _ ?_; clear hK3)) | ((refine opsP_nil ?_; refine hK2 _ ?_; clear hK2)) | (refine litX_old ?_) | (refine litC_data ?_) 
         | (refine PW.block ?_) | (refine PW.skip ?_) | (refine PW.ret ?_) | ((refine hX1 ?_; clear hX1 hY1; try simp only [hb])) | ((refine hY1 ?_; clear hX1 hY1; try simp only [hb])) )))
        | (((with_reducible refine cC_new ?_ (hI) ?_); (focus ((repeat' constructor); done))))
        | (((with_reducible refine And.intro ?_ ?_); (focus (first | omega | (simp; done) | assumption))))
        | ((simp only [thenP, blockP]; (try ((repeat (fail_if_success (with_reducible refine hK1 _ ?_)); clear hK1); (with_reducible refine hK1 _ ?_); clear hK1))))
        | (((first | (((with_reducible refine opsP_cons fun K3 hK3 => ?_); simp only [wantP, opP, valP, Ur, Us, List.mapM_cons, List.mapM_nil, Uw, Ux])) | ((with_reducible refine PW.condM fun X1 Y1 hX1 hY1 => ?_)) | (skip)); simp (disch := omega) only [St.eval, St.put, upd_app, iniT_app, avOf, avOf1, cellsA, AV.okv, loadA, binP, intsP, intP, nilP, builtinP, appP, srcA, srcTy, isBsl, U3, U4, U5, slA, elA, dv1, U7, U8, Ua, Uc, Uf, Ug, Ui, Uk, Ul, Ut, Uu, Uv, List.mapM_cons, List.mapM_nil, Uw, Ux, V0, V1, V2, V4, Option.bind_eq_bind, Option.pure_def, V9, Va, Ve, UU9, PmL, simprocAttr, PmT, retQ, resP, tupA, fg, condP, condB_t, condB_f]; try (with_reducible (first | exact co_refl _ | exact co_own _ _ _ | exact co_nilsB | exact co_nilsL _ _)))))
      all_goals exact end_row (by first | rfl | (simp; done) | (simp; omega))
    · have e : b ++ plainB ⟨2, false, n, s⟩ = b ++ [1] ++ [n % 256] := by simp [plainB, colKey]
      rw [e]
      repeat' (first
        | ((with_reducible (first
         | (refine PW.seq fun K1 hK1 => ?_) | (refine PW.region fun K2 hK2 => ?_) | ((refine hK3 _ ?_; clear hK3)) | ((refine opsP_nil ?_; refine hK2 _ ?_; clear hK2)) | (refine litX_old ?_) | (refine litC_data ?_) 
         | (refine PW.block ?_) | (refine PW.skip ?_) | (refine PW.ret ?_) | ((refine hX1 ?_; clear hX1 hY1; try simp only [hb])) | ((refine hY1 ?_; clear hX1 hY1; try simp only [hb])) )))
        | (((with_reducible refine And.intro ?_ ?_); (focus (first | omega | (simp; done) | assumption))))
        | ((simp only [thenP, blockP]; (try ((repeat (fail_if_success (with_reducible refine hK1 _ ?_)); clear hK1); (with_reducible refine hK1 _ ?_); clear hK1))))
        | (((first | (((with_reducible refine opsP_cons fun K3 hK3 => ?_); simp only [wantP, opP, valP, Ur, Us, List.mapM_cons, List.mapM_nil, Uw, Ux])) | ((with_reducible refine PW.condM fun X1 Y1 hX1 hY1 => ?_)) | (skip)); simp (disch := omega) only [St.eval, St.put, upd_app, iniT_app, avOf, avOf1, cellsA, AV.okv, loadA, binP, intsP, intP, nilP, convP, builtinP, appP, srcA, srcTy, isBsl, U3, U4, U5, slA, elA, dv1, U7, U8, Ua, Uc, Uf, Ug, Ui, Uk, Ul, Ut, Uu, Uv, List.mapM_cons, List.mapM_nil, Uw, Ux, V0, V1, V2, V4, Option.bind_eq_bind, Option.pure_def, V9, Va, Ve, UU9, PmL, simprocAttr, PmT, wrap_u8, retQ, resP, tupA, fg, condP, condB_t, condB_f]; try (with_reducible (first | exact co_refl _ | exact co_own _ _ _ | exact co_nilsB | exact co_nilsL _ _)))))
      all_goals exact end_row (by first | rfl | (simp; done) | (simp; omega))
    · have e : b ++ plainB ⟨3, false, n, s⟩ = b ++ [1] ++ textB s := by simp [plainB]
      rw [e]
      unfold orow rowm at hT
      obtain ⟨T, hTe⟩ : ∃ T, textB s = T := ⟨_, rfl⟩
      rw [hTe] at hT htl ⊢
      simp only [List.length_append, List.length_cons, List.length_nil, Nat.zero_add] at hT
      repeat' (first
        | ((with_reducible (first
         | (refine PW.seq fun K1 hK1 => ?_) | (refine PW.region fun K2 hK2 => ?_) | ((refine hK3 _ ?_; clear hK3)) | ((refine opsP_nil ?_; refine hK2 _ ?_; clear hK2)) | (refine litX_old ?_) | (refine litC_data ?_) 
         | (refine PW.block ?_) | (refine PW.skip ?_) | (refine PW.ret ?_) | ((refine hY1 ?_; clear hX1 hY1; try simp only [hb])) )))
        | (((with_reducible refine cC_row ?_ ?_ ?_ (hT) ?_); (with_reducible exact rfl); (focus (simp only [Ua]; try rfl)); (focus ((repeat' constructor); done))))
        | (((with_reducible refine And.intro ?_ ?_); (focus (first | omega | (simp; done) | assumption))))
        | ((simp only [thenP, blockP]; (try ((repeat (fail_if_success (with_reducible refine hK1 _ ?_)); clear hK1); (with_reducible refine hK1 _ ?_); clear hK1))))
        | (((first | (((with_reducible refine opsP_cons fun K3 hK3 => ?_); simp only [wantP, opP, valP, Ur, Us, List.mapM_cons, List.mapM_nil, Uw, Ux])) | ((with_reducible refine PW.condM fun X1 Y1 hX1 hY1 => ?_)) | (skip)); simp (disch := omega) only [St.eval, St.put, upd_app, iniT_app, avOf, avOf1, cellsA, AV.okv, loadA, binP, intsP, intP, nilP, builtinP, appP, srcA, srcTy, isBsl, U3, U4, U5, slA, elA, dv1, U7, U8, Ua, Uc, Uf, Ug, Ui, Uk, Ul, Ut, Uu, Uv, List.mapM_cons, List.mapM_nil, Uw, Ux, V0, V1, V2, V4, Option.bind_eq_bind, Option.pure_def, V9, Va, Ve, UU9, PmL, simprocAttr, PmT, retQ, resP, tupA, fg, condP, condB_f]; try (with_reducible (first | exact co_refl _ | exact co_own _ _ _ | exact co_nilsB | exact co_nilsL _ _)))))
      all_goals exact end_row (by first | rfl | (simp; done) | (simp; omega))
  · have e : b ++ plainB ⟨ty, true, n, s⟩ = b ++ [0] := by simp [plainB]
    rw [e]
    repeat' (first
      | ((with_reducible (first
       | (refine PW.seq fun K1 hK1 => ?_) | (refine PW.region fun K2 hK2 => ?_) | ((refine hK3 _ ?_; clear hK3)) | ((refine opsP_nil ?_; refine hK2 _ ?_; clear hK2)) | (refine litX_old ?_) | (refine litC_data ?_) 
       | (refine PW.ret ?_) | ((refine hX1 ?_; clear hX1 hY1; try simp only [hb])) )))
      | (((with_reducible refine And.intro ?_ ?_); (focus (first | omega | (simp; done) | assumption))))
      | ((simp only [thenP]; (try ((repeat (fail_if_success (with_reducible refine hK1 _ ?_)); clear hK1); (with_reducible refine hK1 _ ?_); clear hK1))))
      | (((first | (((with_reducible refine opsP_cons fun K3 hK3 => ?_); simp only [wantP, opP, valP, Ur, Us, List.mapM_cons, List.mapM_nil, Uw, Ux])) | ((with_reducible refine PW.condM fun X1 Y1 hX1 hY1 => ?_)) | (skip)); simp (disch := omega) only [St.eval, St.put, upd_app, iniT_app, avOf, avOf1, cellsA, AV.okv, loadA, builtinP, appP, srcA, srcTy, isBsl, U3, U4, U5, elA, dv1, U7, U8, Ua, Uc, Uf, Ug, Ui, Uk, Ul, Ut, Uu, Uv, List.mapM_cons, List.mapM_nil, Uw, Ux, V0, V1, V2, V4, Option.bind_eq_bind, Option.pure_def, V9, Ve, UU9, Vs, PmL, simprocAttr, PmT, retQ, resP, tupA, fg, condP, condB_t]; try (with_reducible (first | exact co_refl _ | exact co_own _ _ _ | exact co_nilsB | exact co_nilsL _ _)))))
    all_goals exact end_row (by first | rfl | (simp; done) | (simp; omega))
theorem pRBegin1 (n : Int) : PFun Tryd.prog 55 [.d (.int .i64 n)] nom (.own 1 1 (encB (begB [n]))) ⟨[], [some ⟨5, 1, 8⟩, some ⟨5, 1, (begB [n]).length⟩]⟩ := by
  refine fun_intro Tryd.func55 rfl rfl rfl 9 rfl ⟨Nat.le_refl _, Nat.zero_le _⟩ (fun hh => ?_)
  have hI := pRKeyInt n
  have hkl : (Codec.keyL n).length = 8 := rfl
  have e : begB [n] = [2] ++ Codec.keyL n := by simp [begB]
  rw [e]
  rw [hkl] at hI
  obtain ⟨K, hK⟩ : ∃ K, Codec.keyL n = K := ⟨_, rfl⟩
  rw [hK] at hI hkl ⊢
  repeat' (first
    | ((with_reducible (first
     | (refine PW.seq fun K1 hK1 => ?_) | (refine PW.region fun K2 hK2 => ?_) | ((refine hK3 _ ?_; clear hK3)) | ((refine opsP_nil ?_; refine hK2 _ ?_; clear hK2)) 
     | (refine PW.ret ?_) )))
    | (((with_reducible refine cC_new ?_ (hI) ?_); (focus ((repeat' constructor); done))))
    | (((with_reducible refine And.intro ?_ ?_); (focus (first | omega | (simp; done) | assumption))))
    | ((simp only [thenP]; (try ((repeat (fail_if_success (with_reducible refine hK1 _ ?_)); clear hK1); (with_reducible refine hK1 _ ?_); clear hK1))))
    | (((with_reducible refine opsP_consD (d := 6) fun K3 hK3 => ?_); simp only [wantP, opP, Ur, Us, List.mapM_cons, List.mapM_nil, Uw, Ux]; simp (disch := omega) only [St.eval, St.put, avOf, avOf1, cellsA, AV.okv, U3, U4, U5, elA, dv1, Uf, Ug, Ut, Uu, Uv, List.mapM_cons, List.mapM_nil, Uw, Ux, V0, V1, V4, Option.bind_eq_bind, Option.pure_def, V9, Ve, UU9, PmL, simprocAttr, PmT]; (with_reducible refine litX_old ?_); (with_reducible refine litC_own ?_)))
    | (((first | (((with_reducible refine opsP_cons fun K3 hK3 => ?_); simp only [wantP, opP, valP, Ur, Us])) | (skip)); simp (disch := omega) only [St.eval, St.put, upd_app, iniT_app, avOf, avOf1, nom, builtinP, appP, srcA, srcTy, isBsl, U7, Ua, Ub, Uc, Ud, Uf, Ug, Ut, Uu, Uv, V2, V9, Ve, PmL, simprocAttr, PmT, retQ, resP, tupA, fg]; try (with_reducible (first | exact co_refl _ | exact co_own _ _ _ | exact co_nilsB | exact co_nilsL _ _)))))
  rw [← encB_cons2]
  exact end_row1 (by rw [List.length_append, hkl]; rfl)
theorem pRBegin (n : Int) : PFun Tryd.prog 55 [.d (.int .i64 n)] nom (orow (begB [n])) (rowm (begB [n])) := PFun.row1 (pRBegin1 n)
theorem pRBeginIx (n i : Int) : PFun Tryd.prog 35 [.d (.int .i64 n), .d (.int .i64 i)] nom (orow (begB [n, i])) (rowm (begB [n, i])) := by
  refine fun_intro Tryd.func35 rfl rfl rfl 14 rfl ⟨Nat.le_refl _, Nat.zero_le _⟩ (fun hh => ?_)
  have hB := pRBegin n
  have hI := pRKeyInt i
  have hkl : (Codec.keyL i).length = 8 := rfl
  have hbl := begB_len [n]
  have e : begB [n, i] = begB [n] ++ Codec.keyL i := by simp [begB]
  rw [e]
  obtain ⟨K, hK⟩ : ∃ K, Codec.keyL i = K := ⟨_, rfl⟩
  obtain ⟨B, hBe⟩ : ∃ K, begB [n] = K := ⟨_, rfl⟩
  rw [hK] at hI hkl ⊢
  rw [hBe] at hB hbl ⊢
  simp only [List.length_cons, List.length_nil] at hbl
  repeat' (first
    | ((with_reducible (first
     | (refine PW.seq fun K1 hK1 => ?_) | (refine PW.region fun K2 hK2 => ?_) | ((refine hK3 _ ?_; clear hK3)) | ((refine opsP_nil ?_; refine hK2 _ ?_; clear hK2)) 
     | (refine PW.ret ?_) )))
    | (((with_reducible refine cC_new ?_ (hI) ?_); (focus ((repeat' constructor); done))))
    | (((with_reducible refine cC_new ?_ (hB) ?_); (focus ((repeat' constructor); done))))
    | (((with_reducible refine And.intro ?_ ?_); (focus (first | omega | (simp; done) | assumption))))
    | ((simp only [thenP]; (try ((repeat (fail_if_success (with_reducible refine hK1 _ ?_)); clear hK1); (with_reducible refine hK1 _ ?_); clear hK1))))
    | (((first | (((with_reducible refine opsP_cons fun K3 hK3 => ?_); simp only [wantP, opP, valP, Ur, Us])) | (skip)); simp (disch := omega) only [St.eval, St.put, upd_app, iniT_app, avOf, avOf1, nom, builtinP, appP, srcA, srcTy, isBsl, U7, U8, Ua, Uc, Uf, Ug, Ui, Ut, Uu, Uv, V2, V9, Ve, PmL, simprocAttr, PmT, retQ, resP, tupA, fg]; try (with_reducible (first | exact co_refl _ | exact co_own _ _ _ | exact co_nilsB | exact co_nilsL _ _)))))
  all_goals exact end_row (by first | rfl | (simp; done) | (simp; omega))
set_option maxHeartbeats 4000000 in
theorem pRKeys (b : List Int) (R : List XV) (l : List Int) (hR : ∀ x ∈ R, x.s.length ≤ 65536 ∧ (Codec.keyT x.s).length ≤ 1000000) (hl : ∀ i ∈ l, 0 ≤ i ∧ i < R.length) (hll : l.length ≤ 1048576) (hb : b.length ≤ 10000000000000) :
    PFun Tryd.prog 34 [orow b, il l, vl R] (rowm b) (orow (b ++ keysOf R l)) (rowm (b ++ keysOf R l)) := by
  refine fun_intro Tryd.func34 rfl rfl rfl 24 rfl ⟨Nat.le_refl _, Nat.le_refl _⟩ (fun hh => ?_)
  have hml : maxLen = 9223372036854775807 := rfl
  have hRl := (has_sl (hh (vl R) (by simp))).1
  rw [encL_len] at hRl
  repeat' (first
    | ((with_reducible (first
     | (refine PW.seq fun K1 hK1 => ?_) | (refine PW.region fun K2 hK2 => ?_) | ((refine hK3 _ ?_; clear hK3)) | ((refine opsP_nil ?_; refine hK2 _ ?_; clear hK2)) 
     | (refine PW.block ?_) )))
    | ((simp only [thenP]; (try ((repeat (fail_if_success (with_reducible refine hK1 _ ?_)); clear hK1); (with_reducible refine hK1 _ ?_); clear hK1))))
    | (((first | (((with_reducible refine opsP_cons fun K3 hK3 => ?_); simp only [wantP, opP, valP])) | (skip)); simp (disch := omega) only [St.eval, St.put, avOf, avOf1, Uf, Ug, Ui, V9, PmL, simprocAttr]; try (with_reducible (first | exact co_refl _ | exact co_own _ _ _ | exact co_nilsB | exact co_nilsL _ _)))))
  (with_reducible refine PW.loop (fun n s => ∃ (k : Nat), s.t 0 = orow (b ++ keysOf R (l.take k)) ∧ s.t 1 = il l ∧ s.t 2 = vl R ∧ s.t 7 = .d (.int .i64 k) ∧ s.n = 24 ∧ s.m = rowm (b ++ keysOf R (l.take k)) ∧ k ≤ l.length ∧ n = l.length - k) l.length ?_ ?_)
  · refine ⟨0, ?_, rfl, rfl, rfl, rfl, ?_, Nat.zero_le _, rfl⟩
    · simp [keysOf, iniT, upd]
    · simp [keysOf]
  rintro n ⟨t, nn, m⟩ ⟨k, h0, h1, h2, h7, hn, hm, hk, hnk⟩ - -
  simp only at h0 h1 h2 h7 hn hm
  subst hn hm hnk
  by_cases hlt : (k : Int) < l.length
  · have hlt' := eq_true hlt
    obtain ⟨x, hx⟩ : ∃ x, l[k]? = some x := ⟨_, List.getElem?_eq_getElem (by omega)⟩
    have hxr := hl x (List.mem_of_getElem? hx)
    have hw : IntKind.i64.wrap ((k : Int) + 1) = k + 1 := IntWalk.i64_in ((k : Int) + 1) (by omega)
    obtain ⟨i, rfl⟩ : ∃ i : Nat, x = i := ⟨x.toNat, by omega⟩
    obtain ⟨v, hv⟩ : ∃ v, R[i]? = some v := ⟨_, List.getElem?_eq_getElem (by omega)⟩
    have hva : valAt R i = v := by unfold valAt; rw [List.getD_eq_getElem?_getD, Int.toNat_natCast, hv]; rfl
    have hvR := hR v (List.mem_of_getElem? hv)
    have hb1 := keysOf_len R hR (l.take k) fun j hj => hl j (List.mem_of_mem_take hj)
    rw [List.length_take] at hb1
    have hb1' : (keysOf R (l.take k)).length ≤ 1048576 * 1000009 := Nat.le_trans hb1 (Nat.mul_le_mul_right _ (by omega))
    have ht : b ++ keysOf R (l.take (k + 1)) = b ++ keysOf R (l.take k) ++ colKey v := by
      rw [List.take_add_one, hx, Option.toList_some, keysOf_snoc, hva, List.append_assoc]
    have hC := pRColumn (b ++ keysOf R (l.take k)) v hvR.1 hvR.2 (by rw [List.length_append]; omega)
    rw [← ht] at hC
    obtain ⟨B, hB⟩ : ∃ B, b ++ keysOf R (l.take k) = B := ⟨_, rfl⟩
    obtain ⟨B2, hB2⟩ : ∃ B, b ++ keysOf R (l.take (k + 1)) = B := ⟨_, rfl⟩
    rw [hB] at h0 hC ⊢
    rw [hB2] at hC
    unfold XV.v XV.c orow rowm at hC
    repeat' (first
      | ((with_reducible (first
       | (refine PW.seq fun K1 hK1 => ?_) | (refine PW.region fun K2 hK2 => ?_) | ((refine hK3 _ ?_; clear hK3)) | ((refine opsP_nil ?_; refine hK2 _ ?_; clear hK2)) 
       | (refine PW.block ?_) | (refine PW.skip ?_) | ((refine hX1 ?_; clear hX1 hY1; try simp only [hb])) )))
      | (((with_reducible refine cC_row ?_ ?_ ?_ (hC) ?_); (with_reducible exact rfl); (focus (simp only [Ua]; try rfl)); (focus ((repeat' constructor) <;> (simp only [purAs, purA, Vf, Bool.and_self, h0, h1, h2, h7, hlt', hx, hv, hw, eI, XV.cd]; done)))))
      | (((with_reducible refine And.intro ?_ ?_); (focus (first | omega | (simp; done) | assumption))))
      | ((simp only [thenP, blockP]; (try ((repeat (fail_if_success (with_reducible refine hK1 _ ?_)); clear hK1); (with_reducible refine hK1 _ ?_); clear hK1))))
      | (((first | (((with_reducible refine opsP_cons fun K3 hK3 => ?_); simp only [wantP, opP, valP, Ur, Us])) | ((with_reducible refine PW.condM fun X1 Y1 hX1 hY1 => ?_)) | (skip)); simp (disch := omega) only [St.eval, St.put, upd_app, avOf, avOf1, loadA, lenP, binP, intsP, intP, nilP, builtinP, isMapA, slA, Uc, Uf, Ug, Un, Up, Ur, Us, Uv, V2, V7, V9, Vr, PmL, simprocAttr, PmT, h0, h1, h2, h7, hlt', hx, hv, hw, eI, XV.cd, condP, condB_t]; try (with_reducible (first | exact co_refl _ | exact co_own _ _ _ | exact co_nilsB | exact co_nilsL _ _)))))
    refine ⟨l.length - (k + 1), by omega, k + 1, ?_, ?_, ?_, ?_, ?_, ?_, by omega, rfl⟩
    all_goals (simp only [St.cut, Mem.cut, fg, upd_app, Nat.reduceEqDiff, ↓reduceIte, List.take_nil, List.map_nil, List.take_succ_cons, Nat.zero_lt_one, Int.natCast_add, Int.cast_ofNat_Int, h1, h2, hB2]; try rfl)
  have hkl : k = l.length := by omega
  subst hkl
  rw [List.take_length] at h0 ⊢
  have hlt' := eq_false hlt
  obtain ⟨B, hB⟩ : ∃ B, b ++ keysOf R l = B := ⟨_, rfl⟩
  rw [hB] at h0 ⊢
  repeat' (first
    | ((with_reducible (first
     | (refine PW.seq fun K1 hK1 => ?_) | (refine PW.region fun K2 hK2 => ?_) | ((refine hK3 _ ?_; clear hK3)) | ((refine opsP_nil ?_; refine hK2 _ ?_; clear hK2)) 
     | (refine PW.exit ?_) | (refine PW.ret ?_) | ((refine hY1 ?_; clear hX1 hY1; try simp only [hb])) )))
    | ((simp only [thenP, blockP, ↓reduceIte]; (try ((repeat (fail_if_success (with_reducible refine hK1 _ ?_)); clear hK1); (with_reducible refine hK1 _ ?_); clear hK1))))
    | (((first | (((with_reducible refine opsP_cons fun K3 hK3 => ?_); simp only [wantP, opP, valP, Ur, Us])) | ((with_reducible refine PW.condM fun X1 Y1 hX1 hY1 => ?_)) | (skip)); simp (disch := omega) only [St.eval, St.put, upd_app, lenP, binP, intsP, intP, nilP, builtinP, isMapA, slA, Uf, Ug, Ui, V9, Ve, PmL, simprocAttr, PmT, h0, h1, h7, hlt', retQ, resP, tupA, fg, condP, condB_f]; try (with_reducible (first | exact co_refl _ | exact co_own _ _ _ | exact co_nilsB | exact co_nilsL _ _)))))
  rw [hB]
  exact end_row rfl
end PM
end Go.Proofs.YtfkemeamimcnjaaDoor
