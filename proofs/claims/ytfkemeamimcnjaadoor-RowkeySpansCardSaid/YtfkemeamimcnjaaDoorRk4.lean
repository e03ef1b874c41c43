/- rowkey in the abstract: columns' keys. rowkey in the abstract: a column's bytes, how keys begin, rows that may be handed in. -/
import Derived.Test.YtfkemeamimcnjaaDoorRk2
import Derived.Test.YtfkemeamimcnjaaDoorRkShown
namespace Go.Proofs.YtfkemeamimcnjaaDoor
open Go.RowKit
set_option maxRecDepth 100000
namespace PM
theorem co_bs {a : List (List DV)} {b : List Int} (h : a = encB b) : Co (.d (.sl 1 a)) (bs b) := h ▸ co_refl _
theorem wrap_u8 (n : Int) : IntKind.u8.wrap n = n % 256 := by
  unfold IntKind.wrap
  simp [IntKind.bits, IntKind.signed]
set_option maxHeartbeats 2000000 in
theorem pColumn (x : XV) (hs : x.s.length ≤ 65536) (hk : (Codec.keyT x.s).length ≤ 1000000) : Pure Tryd.prog 60 [x.v] (bs (colKey x)) := by
  refine pure_intro Tryd.func60 rfl rfl rfl 30 rfl (fun hh => ?_)
  obtain ⟨ty, nu, n, s⟩ := x
  simp only at hs hk
  have hkl : (Codec.keyL n).length = 8 := rfl
  unfold XV.v XV.c
  have hT := pKeyText s (by omega)
  have hI := pKeyInt n
  repeat' (first
    | ((with_reducible (first
     | (refine PW.seq fun K1 hK1 => ?_) | (refine PW.region fun K2 hK2 => ?_) | ((refine hK3 _ ?_; clear hK3)) | ((refine opsP_nil ?_; refine hK2 _ ?_; clear hK2)) | (refine litX_old ?_) | (refine litC_data ?_) 
     | (refine PW.block ?_) | (refine PW.skip ?_) | (refine PW.ret ?_) | ((refine hX1 ?_; clear hX1 hY1; try simp only [hb])) | ((refine hY1 ?_; clear hX1 hY1; try simp only [hb])) )))
    | (((first | (with_reducible refine wantB_intro (fun hb => ?_) (fun hb => ?_)) | (with_reducible refine condB_intro (fun hb => ?_) (fun hb => ?_))) <;> ((try (have hp := hb; simp only [PmH] at hp)); try simp only [hb, Bool.not_true, Bool.not_false])))
    | (((with_reducible refine cC_new ?_ (hI) ?_); (focus ((repeat' constructor) <;> (simp only [purAs, purA, Vf, Bool.and_self, XV.v, XV.c]; done)))))
    | (((with_reducible refine cC_new ?_ (hT) ?_); (focus ((repeat' constructor) <;> (simp only [purAs, purA, Vf, Bool.and_self, XV.v, XV.c]; done)))))
    | (((with_reducible refine And.intro ?_ ?_); (focus (first | omega | (simp; done) | assumption))))
    | ((simp only [thenP, blockP]; (try ((repeat (fail_if_success (with_reducible refine hK1 _ ?_)); clear hK1); (with_reducible refine hK1 _ ?_); clear hK1))))
    | (((with_reducible refine opsP_consD (d := 11) fun K3 hK3 => ?_); simp only [wantP, opP, Ur, Us, List.mapM_cons, List.mapM_nil, Uw, Ux]; simp (disch := omega) only [St.eval, St.put, avOf, avOf1, cellsA, AV.okv, U3, U4, U5, elA, dv1, Uf, Ug, Ut, Uu, Uv, List.mapM_cons, List.mapM_nil, Uw, Ux, V0, V1, V4, Option.bind_eq_bind, Option.pure_def, V9, Ve, UU9, PmL, simprocAttr, PmT]; (with_reducible refine litX_old ?_); (with_reducible refine litC_own ?_)))
    | (((with_reducible refine opsP_consD (d := 24) fun K3 hK3 => ?_); simp only [wantP, opP, Ur, Us, List.mapM_cons, List.mapM_nil, Uw, Ux]; simp (disch := omega) only [St.eval, St.put, avOf, avOf1, cellsA, AV.okv, U3, U4, U5, elA, dv1, Uf, Ug, Ut, Uu, Uv, List.mapM_cons, List.mapM_nil, Uw, Ux, V0, V1, V4, Option.bind_eq_bind, Option.pure_def, V9, Ve, UU9, PmL, simprocAttr, PmT]; (with_reducible refine litX_old ?_); (with_reducible refine litC_own ?_)))
    | (((first | (((with_reducible refine opsP_cons fun K3 hK3 => ?_); simp only [wantP, opP, valP, Ur, Us, List.mapM_cons, List.mapM_nil, Uw, Ux])) | ((with_reducible refine PW.condM fun X1 Y1 hX1 hY1 => ?_)) | (skip)); simp (disch := omega) only [St.eval, St.put, upd_app, iniT_app, avOf, avOf1, nom, cellsA, AV.okv, loadA, binP, intsP, intP, nilP, convP, builtinP, appP, srcA, srcTy, isBsl, U3, U4, U5, slA, elA, dv1, U7, Ua, Uc, Uf, Ug, Uk, Ul, Ut, Uu, Uv, List.mapM_cons, List.mapM_nil, Uw, Ux, V0, V1, V2, V4, Option.bind_eq_bind, Option.pure_def, V9, Va, Vd, Ve, UU9, PmL, simprocAttr, PmT, retQ, resP, tupA, fg, condP]; try (with_reducible (first | exact co_refl _ | exact co_own _ _ _ | exact co_nilsB | exact co_nilsL _ _)))))
  · exact co_bs (by simp [colKey, encB])
  · exact co_bs (by simp [colKey, encB, hp])
  · exact co_bs (by simp_all [colKey, encB, wrap_u8])
  · exact co_bs (by simp_all [colKey, encB])
def valAt (R : List XV) (i : Int) : XV := R.getD i.toNat ⟨0, false, 0, []⟩
def keysOf (R : List XV) (l : List Int) : List Int := (l.map fun i => colKey (valAt R i)).flatten
theorem keysOf_snoc (R : List XV) (l : List Int) (i : Int) : keysOf R (l ++ [i]) = keysOf R l ++ colKey (valAt R i) := by
  unfold keysOf; simp
theorem colKey_len (x : XV) (hk : (Codec.keyT x.s).length ≤ 1000000) : (colKey x).length ≤ 1000009 := by
  have hkl : (Codec.keyL x.n).length = 8 := rfl
  unfold colKey
  split
  · simp
  · split
    · simp [hkl]
    · split <;> simp <;> omega
theorem keysOf_len (R : List XV) (hR : ∀ x ∈ R, x.s.length ≤ 65536 ∧ (Codec.keyT x.s).length ≤ 1000000) : ∀ l : List Int, (∀ i ∈ l, 0 ≤ i ∧ i < R.length) → (keysOf R l).length ≤ l.length * 1000009
  | [], _ => by simp [keysOf]
  | i :: l, h => by
    have h1 := keysOf_len R hR l fun j hj => h j (List.mem_cons_of_mem _ hj)
    have h0 := h i (by simp)
    have hm : valAt R i ∈ R := by
      unfold valAt
      rw [List.getD_eq_getElem?_getD, List.getElem?_eq_getElem (by omega)]
      exact List.getElem_mem _
    have h2 := colKey_len _ (hR _ hm).2
    unfold keysOf at h1 ⊢
    rw [List.map_cons, List.flatten_cons, List.length_append, List.length_cons]
    omega
set_option maxHeartbeats 2000000 in
theorem pColumns (R : List XV) (l : List Int) (hR : ∀ x ∈ R, x.s.length ≤ 65536 ∧ (Codec.keyT x.s).length ≤ 1000000) (hl : ∀ i ∈ l, 0 ≤ i ∧ i < R.length) (hll : l.length ≤ 1048576) : Pure Tryd.prog 42 [vl R, il l] (bs (keysOf R l)) := by
  refine pure_intro Tryd.func42 rfl rfl rfl 23 rfl (fun hh => ?_)
  have hml : maxLen = 9223372036854775807 := rfl
  have hRl := (has_sl (hh (vl R) (by simp))).1
  rw [encL_len] at hRl
  repeat' (first
    | ((with_reducible (first
     | (refine PW.seq fun K1 hK1 => ?_) | (refine PW.region fun K2 hK2 => ?_) | ((refine hK3 _ ?_; clear hK3)) | ((refine opsP_nil ?_; refine hK2 _ ?_; clear hK2)) 
     | (refine PW.block ?_) )))
    | ((simp only [thenP]; (try ((repeat (fail_if_success (with_reducible refine hK1 _ ?_)); clear hK1); (with_reducible refine hK1 _ ?_); clear hK1))))
    | (((first | (((with_reducible refine opsP_cons fun K3 hK3 => ?_); simp only [wantP, opP, valP, Ur, Us])) | (skip)); simp (disch := omega) only [St.eval, St.put, upd_app, iniT_app, avOf, avOf1, nom, lenP, builtinP, isMapA, U7, U8, PmL, simprocAttr, PmT]; try (with_reducible (first | exact co_refl _ | exact co_own _ _ _ | exact co_nilsB | exact co_nilsL _ _)))))
  (with_reducible refine PW.nil2ownB 5 5 rfl rfl ?_)
  (with_reducible refine PW.loop (fun n s => ∃ (k : Nat), s.t 0 = vl R ∧ s.t 5 = .own 0 1 (encB (keysOf R (l.take k))) ∧ s.t 8 = il l ∧ s.t 9 = .d (.int .i64 l.length) ∧ s.t 10 = .d (.int .i64 k) ∧ s.n = 23 ∧ s.m = ⟨[], [some ⟨5, 1, (keysOf R (l.take k)).length⟩]⟩ ∧ k ≤ l.length ∧ n = l.length - k) l.length ?_ ?_)
  · exact ⟨0, rfl, rfl, rfl, rfl, rfl, rfl, rfl, Nat.zero_le _, rfl⟩
  rintro n ⟨t, nn, m⟩ ⟨k, h0, h5, h8, h9, h10, hn, hm, hk, hnk⟩ - -
  simp only at h0 h5 h8 h9 h10 hn hm
  subst hn hm hnk
  by_cases hlt : (k : Int) < l.length
  · have hlt' := eq_true hlt
    obtain ⟨x, hx⟩ : ∃ x, l[k]? = some x := ⟨_, List.getElem?_eq_getElem (by omega)⟩
    have hxr := hl x (List.mem_of_getElem? hx)
    have hw : IntKind.i64.wrap ((k : Int) + 1) = k + 1 := IntWalk.i64_in ((k : Int) + 1) (by omega)
    obtain ⟨i, rfl⟩ : ∃ i : Nat, x = i := ⟨x.toNat, by omega⟩
    obtain ⟨v, hv⟩ : ∃ v, R[i]? = some v := ⟨_, List.getElem?_eq_getElem (by omega)⟩
    have hva : valAt R i = v := by unfold valAt; rw [List.getD_eq_getElem?_getD, Int.toNat_natCast, hv]; rfl
    have hvR := hR v (List.mem_of_getElem? hv)
    have hb1 := keysOf_len R hR (l.take k) fun j hj => hl j (List.mem_of_mem_take hj)
    rw [List.length_take] at hb1
    have hb2 := colKey_len v hvR.2
    have hb1' : (keysOf R (l.take k)).length ≤ 1048576 * 1000009 := Nat.le_trans hb1 (Nat.mul_le_mul_right _ (by omega))
    have ht : keysOf R (l.take (k + 1)) = keysOf R (l.take k) ++ colKey v := by
      rw [List.take_add_one, hx, Option.toList_some, keysOf_snoc, hva]
    have hC := pColumn v hvR.1 hvR.2
    unfold XV.v XV.c at hC
    repeat' (first
      | ((with_reducible (first
       | (refine PW.seq fun K1 hK1 => ?_) | (refine PW.region fun K2 hK2 => ?_) | ((refine hK3 _ ?_; clear hK3)) | ((refine opsP_nil ?_; refine hK2 _ ?_; clear hK2)) 
       | (refine PW.block ?_) | (refine PW.skip ?_) | ((refine hX1 ?_; clear hX1 hY1; try simp only [hb])) )))
      | (((with_reducible refine cC_pure ?_ (hC) (fun _ => ?_)); (focus ((repeat' constructor) <;> (simp only [purAs, purA, Vf, Bool.and_self, h0, h5, h8, h9, h10, hlt', hx, hv, hw, eI, XV.cd]; done)))))
      | (((with_reducible refine And.intro ?_ ?_); (focus (first | omega | (simp; done) | assumption))))
      | ((simp only [thenP, blockP]; (try ((repeat (fail_if_success (with_reducible refine hK1 _ ?_)); clear hK1); (with_reducible refine hK1 _ ?_); clear hK1))))
      | (((first | (((with_reducible refine opsP_cons fun K3 hK3 => ?_); simp only [wantP, opP, valP, Ur, Us])) | ((with_reducible refine PW.condM fun X1 Y1 hX1 hY1 => ?_)) | (skip)); simp (disch := omega) only [St.eval, St.put, upd_app, avOf, avOf1, loadA, binP, intsP, intP, nilP, builtinP, appP, srcA, srcTy, isBsl, slA, Ua, Uc, Uf, Ug, Un, Up, Ur, Us, Uv, V2, V7, V9, Ve, Vr, PmL, simprocAttr, PmT, h0, h5, h8, h9, h10, hlt', hx, hv, hw, eI, XV.cd, condP, condB_t]; try (with_reducible (first | exact co_refl _ | exact co_own _ _ _ | exact co_nilsB | exact co_nilsL _ _)))))
    refine ⟨l.length - (k + 1), by omega, k + 1, ?_, ?_, ?_, ?_, ?_, ?_, ?_, by omega, rfl⟩
    all_goals (simp only [St.cut, Mem.cut, fg, upd_app, Nat.reduceEqDiff, ↓reduceIte, List.take_nil, List.map_nil, List.take_succ_cons, Nat.zero_lt_one, List.length_append, Int.natCast_add, Int.cast_ofNat_Int, h0, h8, h9, ht]; try rfl)
  have hkl : k = l.length := by omega
  subst hkl
  rw [List.take_length] at h5
  have hlt' := eq_false hlt
  repeat' (first
    | ((with_reducible (first
     | (refine PW.seq fun K1 hK1 => ?_) | (refine PW.region fun K2 hK2 => ?_) | ((refine hK3 _ ?_; clear hK3)) | ((refine opsP_nil ?_; refine hK2 _ ?_; clear hK2)) 
     | (refine PW.exit ?_) | (refine PW.ret ?_) | ((refine hY1 ?_; clear hX1 hY1; try simp only [hb])) )))
    | ((simp only [thenP, blockP, ↓reduceIte]; (try ((repeat (fail_if_success (with_reducible refine hK1 _ ?_)); clear hK1); (with_reducible refine hK1 _ ?_); clear hK1))))
    | (((first | (((with_reducible refine opsP_cons fun K3 hK3 => ?_); simp only [wantP, opP, valP])) | ((with_reducible refine PW.condM fun X1 Y1 hX1 hY1 => ?_)) | (skip)); simp (disch := omega) only [St.eval, St.put, upd_app, binP, intsP, intP, nilP, slA, Uq, Vd, Ve, PmL, simprocAttr, h5, h9, h10, hlt', retQ, resP, tupA, fg, condP, condB_f]; try (with_reducible (first | exact co_refl _ | exact co_own _ _ _ | exact co_nilsB | exact co_nilsL _ _)))))
end PM
end Go.Proofs.YtfkemeamimcnjaaDoor
namespace Go.Proofs.YtfkemeamimcnjaaDoor
open Go.RowKit
set_option maxRecDepth 100000
namespace PM
theorem textB_len (l : List Int) (hl : l.length ≤ 65536) : (textB l).length ≤ 65546 := by
  have := Codec.numN_len10 (n := l.length) (by omega)
  unfold textB
  rw [List.length_append]
  omega
set_option maxHeartbeats 2000000 in
theorem pPlain (x : XV) (hs : x.s.length ≤ 65536) (hk : (Codec.keyT x.s).length ≤ 1000000) : Pure Tryd.prog 44 [x.v] (bs (plainB x)) := by
  refine pure_intro Tryd.func44 rfl rfl rfl 25 rfl (fun hh => ?_)
  have hC := pColumn x hs hk
  obtain ⟨ty, nu, n, s⟩ := x
  simp only at hs hk
  unfold XV.v XV.c at hC ⊢
  have hT := pText s (by omega)
  have htl := textB_len s hs
  cases nu
  · repeat' (first
      | ((with_reducible (first
       | (refine PW.seq fun K1 hK1 => ?_) | (refine PW.region fun K2 hK2 => ?_) | ((refine hK3 _ ?_; clear hK3)) | ((refine opsP_nil ?_; refine hK2 _ ?_; clear hK2)) 
       | (refine PW.block ?_) | (refine PW.skip ?_) | (refine PW.ret ?_) | ((refine hX1 ?_; clear hX1 hY1; try simp only [hb])) | ((refine hY1 ?_; clear hX1 hY1; try simp only [hb])) )))
      | (((first | (with_reducible refine wantB_intro (fun hb => ?_) (fun hb => ?_)) | (with_reducible refine condB_intro (fun hb => ?_) (fun hb => ?_))) <;> ((try (have hp := hb; simp only [PmH] at hp)); try simp only [hb, Bool.not_true, Bool.not_false])))
      | (((with_reducible refine cC_pure ?_ (hT) (fun _ => ?_)); (focus ((repeat' constructor); done))))
      | (((with_reducible refine cC_pure ?_ (hC) (fun _ => ?_)); (focus ((repeat' constructor); done))))
      | (((with_reducible refine And.intro ?_ ?_); (focus (first | omega | (simp; done) | assumption))))
      | ((simp only [thenP, blockP]; (try ((repeat (fail_if_success (with_reducible refine hK1 _ ?_)); clear hK1); (with_reducible refine hK1 _ ?_); clear hK1))))
      | (((with_reducible refine opsP_consD (d := 20) fun K3 hK3 => ?_); simp only [wantP, opP, Ur, Us, List.mapM_cons, List.mapM_nil, Uw, Ux]; simp (disch := omega) only [St.eval, St.put, avOf, avOf1, cellsA, AV.okv, U3, U4, U5, elA, dv1, Uf, Ug, Ut, Uu, Uv, List.mapM_cons, List.mapM_nil, Uw, Ux, V0, V1, V4, Option.bind_eq_bind, Option.pure_def, V9, Ve, UU9, PmL, simprocAttr, PmT]; (with_reducible refine litX_old ?_); (with_reducible refine litC_own ?_)))
      | (((first | (((with_reducible refine opsP_cons fun K3 hK3 => ?_); simp only [wantP, opP, valP, Ur, Us])) | ((with_reducible refine PW.condM fun X1 Y1 hX1 hY1 => ?_)) | (skip)); simp (disch := omega) only [St.eval, St.put, upd_app, iniT_app, avOf, avOf1, nom, cellsA, AV.okv, loadA, binP, intsP, intP, nilP, convP, builtinP, appP, srcA, srcTy, isBsl, slA, U7, Ua, Ub, Uc, Uf, Ug, Uk, Ul, Un, Up, Ut, Uu, Uv, V2, V9, Va, Vd, Ve, Vr, PmL, simprocAttr, PmT, retQ, resP, tupA, fg, condP, condB_f]; try (with_reducible (first | exact co_refl _ | exact co_own _ _ _ | exact co_nilsB | exact co_nilsL _ _)))))
    · exact co_bs (by simp_all [plainB, encB])
    · rename_i hb _ _ _ _ _
      have e : plainB ⟨ty, false, n, s⟩ = colKey ⟨ty, false, n, s⟩ := by simp_all [plainB]
      rw [e]
      exact co_refl _
  · repeat' (first
      | ((with_reducible (first
       | (refine PW.seq fun K1 hK1 => ?_) | (refine PW.region fun K2 hK2 => ?_) | ((refine hK3 _ ?_; clear hK3)) | ((refine opsP_nil ?_; refine hK2 _ ?_; clear hK2)) | (refine litX_old ?_) | (refine litC_data ?_) 
       | (refine PW.block ?_) | (refine PW.ret ?_) | ((refine hX1 ?_; clear hX1 hY1; try simp only [hb])) )))
      | ((simp only [thenP, blockP]; (try ((repeat (fail_if_success (with_reducible refine hK1 _ ?_)); clear hK1); (with_reducible refine hK1 _ ?_); clear hK1))))
      | (((first | (((with_reducible refine opsP_cons fun K3 hK3 => ?_); simp only [wantP, opP, valP, Ur, Us, List.mapM_cons, List.mapM_nil, Uw, Ux])) | ((with_reducible refine PW.condM fun X1 Y1 hX1 hY1 => ?_)) | (skip)); simp (disch := omega) only [St.eval, St.put, upd_app, iniT_app, avOf, avOf1, nom, cellsA, AV.okv, loadA, U3, U4, U5, elA, dv1, U7, Ua, Uf, Ug, Uk, Ul, Ut, Uu, Uv, List.mapM_cons, List.mapM_nil, Uw, Ux, V0, V1, V4, Option.bind_eq_bind, Option.pure_def, V9, Ve, UU9, Vs, PmL, simprocAttr, PmT, retQ, resP, tupA, fg, condP, condB_t]; try (with_reducible (first | exact co_refl _ | exact co_own _ _ _ | exact co_nilsB | exact co_nilsL _ _)))))
    exact co_bs (by simp [plainB, encB])
set_option maxHeartbeats 2000000 in
theorem pClipB (l : List Int) : Pure Tryd.prog 45 [bs l] (bs l) := by
  refine pure_intro Tryd.func45 rfl rfl rfl 9 rfl (fun hh => ?_)
  obtain ⟨-, hl⟩ := has_bytes (hh (bs l) (by simp))
  have hml : maxLen = 9223372036854775807 := rfl
  repeat' (first
    | ((with_reducible (first
     | (refine PW.seq fun K1 hK1 => ?_) | (refine PW.region fun K2 hK2 => ?_) | ((refine hK3 _ ?_; clear hK3)) | ((refine opsP_nil ?_; refine hK2 _ ?_; clear hK2)) | ((refine Exists.intro _ (Exists.intro _ (And.intro rfl (And.intro rfl (And.intro ?_ ?_)))); focus omega)) 
     | (refine PW.ret ?_) )))
    | ((simp only [thenP]; (try ((repeat (fail_if_success (with_reducible refine hK1 _ ?_)); clear hK1); (with_reducible refine hK1 _ ?_); clear hK1))))
    | (((first | (((with_reducible refine opsP_cons fun K3 hK3 => ?_); simp only [wantP, opP, valP, Ur, Us])) | (skip)); simp (disch := omega) only [St.eval, St.put, upd_app, iniT_app, avOf, avOf1, nom, lenP, sliceP, boundLo, boundHi, builtinP, isMapA, U7, Uk, Uq, V2, V3, V7, V8, Ve, UU2, UU4, PmL, simprocAttr, PmT, retQ, resP, tupA, fg]; try (with_reducible (first | exact co_refl _ | exact co_own _ _ _ | exact co_nilsB | exact co_nilsL _ _)))))
def begB (l : List Int) : List Int := 2 :: (l.map Codec.keyL).flatten
theorem begB_len (l : List Int) : (begB l).length = 1 + l.length * 8 := by
  unfold begB
  induction l with
  | nil => rfl
  | cons x l ih =>
    have hkl : (Codec.keyL x).length = 8 := rfl
    simp only [List.map_cons, List.flatten_cons, List.length_cons, List.length_append] at ih ⊢
    omega
set_option maxHeartbeats 2000000 in
theorem pBegin (l : List Int) (hll : l.length ≤ 10000) : Pure Tryd.prog 41 [il l] (bs (begB l)) := by
  refine pure_intro Tryd.func41 rfl rfl rfl 20 rfl (fun hh => ?_)
  have hml : maxLen = 9223372036854775807 := rfl
  repeat' (first
    | ((with_reducible (first
     | (refine PW.seq fun K1 hK1 => ?_) | (refine PW.region fun K2 hK2 => ?_) | ((refine hK3 _ ?_; clear hK3)) | ((refine opsP_nil ?_; refine hK2 _ ?_; clear hK2)) 
     | (refine PW.block ?_) )))
    | ((simp only [thenP]; (try ((repeat (fail_if_success (with_reducible refine hK1 _ ?_)); clear hK1); (with_reducible refine hK1 _ ?_); clear hK1))))
    | (((with_reducible refine opsP_consD (d := 6) fun K3 hK3 => ?_); simp only [wantP, opP, Ur, Us, List.mapM_cons, List.mapM_nil, Uw, Ux]; simp (disch := omega) only [St.eval, St.put, avOf, avOf1, cellsA, AV.okv, U3, U4, U5, elA, dv1, Uf, Ug, Ut, Uv, List.mapM_cons, List.mapM_nil, Uw, Ux, V0, V1, V4, Option.bind_eq_bind, Option.pure_def, V9, Ve, UU9, PmL, simprocAttr, PmT]; (with_reducible refine litX_old ?_); (with_reducible refine litC_own ?_)))
    | (((first | (((with_reducible refine opsP_cons fun K3 hK3 => ?_); simp only [wantP, opP, valP, Ur, Us])) | (skip)); simp (disch := omega) only [St.eval, St.put, upd_app, iniT_app, avOf, avOf1, nom, lenP, builtinP, isMapA, U7, PmL, simprocAttr, PmT]; try (with_reducible (first | exact co_refl _ | exact co_own _ _ _ | exact co_nilsB | exact co_nilsL _ _)))))
  (with_reducible refine PW.loop (fun n s => ∃ (k : Nat), s.t 3 = .own 0 1 (encB (begB (l.take k))) ∧ s.t 7 = il l ∧ s.t 8 = .d (.int .i64 l.length) ∧ s.t 9 = .d (.int .i64 k) ∧ s.n = 20 ∧ s.m = ⟨[], [some ⟨5, 1, (begB (l.take k)).length⟩]⟩ ∧ k ≤ l.length ∧ n = l.length - k) l.length ?_ ?_)
  · exact ⟨0, rfl, rfl, rfl, rfl, rfl, rfl, Nat.zero_le _, rfl⟩
  rintro n ⟨t, nn, m⟩ ⟨k, h3, h7, h8, h9, hn, hm, hk, hnk⟩ - -
  simp only at h3 h7 h8 h9 hn hm
  subst hn hm hnk
  by_cases hlt : (k : Int) < l.length
  · have hlt' := eq_true hlt
    obtain ⟨x, hx⟩ : ∃ x, l[k]? = some x := ⟨_, List.getElem?_eq_getElem (by omega)⟩
    have hw : IntKind.i64.wrap ((k : Int) + 1) = k + 1 := IntWalk.i64_in ((k : Int) + 1) (by omega)
    have hkl : (Codec.keyL x).length = 8 := rfl
    have hb1 : (begB (l.take k)).length ≤ 80001 := by
      rw [begB_len, List.length_take]
      omega
    have hb2 : (begB (l.take k)).length + (Codec.keyL x).length ≤ 140737488355328 := by omega
    have ht : begB (l.take (k + 1)) = begB (l.take k) ++ Codec.keyL x := by
      unfold begB
      rw [List.take_add_one, hx]
      simp
    have hC := pKeyIntD x
    repeat' (first
      | ((with_reducible (first
       | (refine PW.seq fun K1 hK1 => ?_) | (refine PW.region fun K2 hK2 => ?_) | ((refine hK3 _ ?_; clear hK3)) | ((refine opsP_nil ?_; refine hK2 _ ?_; clear hK2)) 
       | (refine PW.block ?_) | (refine PW.skip ?_) | ((refine hX1 ?_; clear hX1 hY1; try simp only [hb])) )))
      | (((with_reducible refine cC_pure ?_ (hC) (fun _ => ?_)); (focus ((repeat' constructor) <;> (simp only [purAs, purA, Vf, Bool.and_self, h3, h7, h8, h9, hlt', hx, hw, eI]; done)))))
      | (((with_reducible refine And.intro ?_ ?_); (focus (first | omega | (simp; done) | assumption))))
      | ((simp only [thenP, blockP]; (try ((repeat (fail_if_success (with_reducible refine hK1 _ ?_)); clear hK1); (with_reducible refine hK1 _ ?_); clear hK1))))
      | (((first | (((with_reducible refine opsP_cons fun K3 hK3 => ?_); simp only [wantP, opP, valP, Ur, Us])) | ((with_reducible refine PW.condM fun X1 Y1 hX1 hY1 => ?_)) | (skip)); simp (disch := omega) only [St.eval, St.put, upd_app, avOf, avOf1, loadA, binP, intsP, intP, nilP, builtinP, appP, srcA, srcTy, isBsl, slA, Ua, Uc, Uf, Ug, Ur, Us, Uv, V2, V7, V9, Ve, PmL, simprocAttr, PmT, h3, h7, h8, h9, hlt', hx, hw, eI, condP, condB_t]; try (with_reducible (first | exact co_refl _ | exact co_own _ _ _ | exact co_nilsB | exact co_nilsL _ _)))))
    refine ⟨l.length - (k + 1), by omega, k + 1, ?_, ?_, ?_, ?_, ?_, ?_, by omega, rfl⟩
    all_goals (simp only [St.cut, Mem.cut, fg, upd_app, Nat.reduceEqDiff, ↓reduceIte, List.take_nil, List.map_nil, List.take_succ_cons, Nat.zero_lt_one, List.length_append, Int.natCast_add, Int.cast_ofNat_Int, h7, h8, ht]; try rfl)
  have hkl : k = l.length := by omega
  subst hkl
  rw [List.take_length] at h3
  have hlt' := eq_false hlt
  repeat' (first
    | ((with_reducible (first
     | (refine PW.seq fun K1 hK1 => ?_) | (refine PW.region fun K2 hK2 => ?_) | ((refine hK3 _ ?_; clear hK3)) | ((refine opsP_nil ?_; refine hK2 _ ?_; clear hK2)) 
     | (refine PW.exit ?_) | (refine PW.ret ?_) | ((refine hY1 ?_; clear hX1 hY1; try simp only [hb])) )))
    | (((with_reducible refine cC_pure ?_ (pClipB ?_) (fun _ => ?_)); (focus ((repeat' (first | (refine .cons ?_ ?_) | (exact .nil) | (exact .own _ _ _) )) <;> (simp only [purAs, purA, Vf, Bool.and_self, h3, h7, h8, h9, hlt']; done)))))
    | ((simp only [thenP, blockP, ↓reduceIte]; (try ((repeat (fail_if_success (with_reducible refine hK1 _ ?_)); clear hK1); (with_reducible refine hK1 _ ?_); clear hK1))))
    | (((first | (((with_reducible refine opsP_cons fun K3 hK3 => ?_); simp only [wantP, opP, valP, Ur, Us])) | ((with_reducible refine PW.condM fun X1 Y1 hX1 hY1 => ?_)) | (skip)); simp (disch := omega) only [St.eval, St.put, upd_app, binP, intsP, intP, nilP, slA, Uq, Uv, Ve, PmL, simprocAttr, h3, h8, h9, hlt', retQ, resP, tupA, fg, condP, condB_f]; try (with_reducible (first | exact co_refl _ | exact co_own _ _ _ | exact co_nilsB | exact co_nilsL _ _)))))
end PM
end Go.Proofs.YtfkemeamimcnjaaDoor
