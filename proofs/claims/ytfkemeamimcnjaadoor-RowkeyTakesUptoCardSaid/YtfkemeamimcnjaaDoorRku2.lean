/- rowkey's reference in the abstract: taken, TakeRow. -/
import Derived.Test.YtfkemeamimcnjaaDoorRku1
namespace Go.Proofs.YtfkemeamimcnjaaDoor
open Go.RowKit
set_option maxRecDepth 100000
namespace PM
def takenS (T : Tb) : List Int → List XV × List Int → List XV × Option (List Int)
  | [], x => (x.1, some x.2)
  | i :: l, x => if (takeKeyS (tyAt T i) x.2).2.2 = true then takenS T l (x.1.set i.toNat (takeKeyS (tyAt T i) x.2).1, (takeKeyS (tyAt T i) x.2).2.1) else (x.1, none)
theorem takenS_cons (T : Tb) (i : Int) (l : List Int) (x : List XV × List Int) : takenS T (i :: l) x = if (takeKeyS (tyAt T i) x.2).2.2 = true then takenS T l (x.1.set i.toNat (takeKeyS (tyAt T i) x.2).1, (takeKeyS (tyAt T i) x.2).2.1) else (x.1, none) := rfl
theorem takenS_nil (T : Tb) (x : List XV × List Int) : takenS T [] x = (x.1, some x.2) := rfl
theorem takenS_app (T : Tb) (m : List Int) : ∀ (l : List Int) (x : List XV × List Int), takenS T (l ++ m) x = match takenS T l x with
    | (R, some b) => takenS T m (R, b)
    | (R, none) => (R, none)
  | [], x => rfl
  | i :: l, x => by
    rw [List.cons_append, takenS_cons, takenS_cons]
    split
    · exact takenS_app T m l _
    · rfl
theorem takeKeyS_len (k : Int) (b : List Int) : (takeKeyS k b).2.1.length ≤ b.length := by
  unfold takeKeyS
  split
  · simp
  · split
    · simp
    · split
      · split
        · simp
        · simp
      · split
        · split
          · simp
          · simp
        · split
          · simp
          · simp
theorem takenS_len (T : Tb) : ∀ (l : List Int) (x : List XV × List Int), (takenS T l x).1.length = x.1.length ∧ ∀ b, (takenS T l x).2 = some b → b.length ≤ x.2.length
  | [], x => ⟨rfl, fun b h => by unfold takenS at h; cases h; exact Nat.le_refl _⟩
  | i :: l, x => by
    unfold takenS
    split
    · have ih := takenS_len T l (x.1.set i.toNat (takeKeyS (tyAt T i) x.2).1, (takeKeyS (tyAt T i) x.2).2.1)
      have h1 := takeKeyS_len (tyAt T i) x.2
      simp only [List.length_set] at ih
      exact ⟨ih.1, fun b h => Nat.le_trans (ih.2 b h) h1⟩
    · exact ⟨rfl, fun b h => by cases h⟩
def tkR (x : List XV × Option (List Int)) : AV := .tup [bs (x.2.getD []), .d (.bool x.2.isSome)]
abbrev vM (R : List XV) : Mem := ⟨[some (47, cX R)], []⟩
theorem keep2x (a a' b c : Option (TypeId × List AV)) (l l' : List (Option (TypeId × List AV))) (r r' : List (Option RowI)) : keepL [2] ⟨a :: b :: c :: l, r⟩ ⟨a' :: b :: c :: l', r'⟩ := fun id h => by
  obtain rfl := List.mem_singleton.1 h
  rfl
theorem keep01x (a b : Option (TypeId × List AV)) (l l' : List (Option (TypeId × List AV))) (r r' : List (Option RowI)) : keepL [0, 1] ⟨a :: b :: l, r⟩ ⟨a :: b :: l', r'⟩ := fun id h => by
  simp only [List.mem_cons, List.not_mem_nil, or_false] at h
  rcases h with rfl | rfl <;> rfl
theorem end_boxE {e : TypeId} {cs : List AV} {bx : List (Option (TypeId × List AV))} {r r' : AV} {rw_ : List (Option RowI)} (hr : Co r r') (h : fgs 1 0 cs = cs) : Co r r' ∧ SubM ⟨some (e, cs) :: bx, rw_⟩ ⟨[some (e, cs)], []⟩ := ⟨hr, (end_box (r := r) h).2⟩
theorem co_nt (b : AV) : Co (.tup [.nils, b]) (.tup [bs [], b]) := by
  have h : Co .nils (bs []) := co_nilsB
  unfold Co
  exact ⟨_, rfl, cos_cons h (cos_refl _)⟩
set_option maxHeartbeats 4000000 in
theorem pRTaken (T : Tb) (l : List Int) (R : List XV) (b : List Int) (hl : ∀ i ∈ l, 0 ≤ i ∧ i < T.cols.length) (hR : R.length = T.cols.length) (hst : b.length ≤ 100000000) :
    PFun Tryd.prog 50 [T.v, il l, bs b, .bsl 0 0 R.length R.length 4] (vM R) (tkR (takenS T l (R, b))) (vM (takenS T l (R, b)).1) := by
  refine fun_intro Tryd.func50 rfl rfl rfl 46 rfl ⟨by simp, Nat.le_refl _⟩ (fun hh => ?_)
  have hml : maxLen = 9223372036854775807 := rfl
  have hll := (has_sl (hh (il l) (by simp))).1
  rw [encL_len] at hll
  have hTy : ∀ i : Nat, ∀ c : Col, T.cols[i]? = some c → tyAt T i = c.ty := fun i c h => by unfold tyAt; rw [Int.toNat_natCast, List.getD_eq_getElem?_getD, h]; rfl
  obtain ⟨nR, hnR⟩ : ∃ n, R.length = n := ⟨_, rfl⟩
  rw [hnR]
  have hK := fun k : Nat => takenS_len T (l.take k) (R, b)
  have hsn := fun (k : Nat) => takenS_app T (l.drop k) (l.take k) (R, b)
  simp only [List.take_append_drop] at hsn
  have hs1 := fun (k : Nat) (x : Int) (_ : l[k]? = some x) => takenS_app T [x] (l.take k) (R, b)
  obtain ⟨tid, tnm, tcols, tkey, tix⟩ := T
  simp only at hR hl hTy
  repeat' (first
    | ((with_reducible (first
     | (refine PW.seq fun K1 hK1 => ?_) | (refine PW.region fun K2 hK2 => ?_) | ((refine hK3 _ ?_; clear hK3)) | ((refine opsP_nil ?_; refine hK2 _ ?_; clear hK2)) | (refine PW.block ?_) 
     )))
    | ((simp only [thenP]; (try ((repeat (fail_if_success (with_reducible refine hK1 _ ?_)); clear hK1); (with_reducible refine hK1 _ ?_); clear hK1))))
    | (((first | (((with_reducible refine opsP_cons fun K3 hK3 => ?_); simp only [wantP, opP, valP])) | (skip)); simp (disch := omega) only [St.eval, St.put, iniT_app, avOf, avOf1, cellsA, AV.okv, U7, Uf, Ug, Ut, Uu, V9, PmL, simprocAttr, Tb.v, Tb.c]; try (with_reducible (first | exact co_refl _ | exact co_own _ _ _ | exact co_nilsB | exact co_nilsL _ _)))))
  (with_reducible refine PW.loop (fun n s => ∃ (k : Nat) (Rk : List XV) (bk : List Int), s.t 1 = il l ∧ s.t 2 = bs bk ∧ s.t 3 = .bsl 0 0 nR nR 4 ∧ s.t 4 = .ptr 1 0 ∧ s.t 10 = .d (.int .i64 k) ∧ s.n = 46 ∧ s.m = ⟨[some (47, cX Rk), some (26, Tb.c ⟨tid, tnm, tcols, tkey, tix⟩)], []⟩ ∧ k ≤ l.length ∧ takenS ⟨tid, tnm, tcols, tkey, tix⟩ (l.take k) (R, b) = (Rk, some bk) ∧ n = l.length - k) l.length ?_ ?_)
  · exact ⟨0, R, b, rfl, rfl, rfl, rfl, rfl, rfl, rfl, Nat.zero_le _, rfl, rfl⟩
  rintro n ⟨t, nn, m⟩ ⟨k, Rk, bk, h1, h2, h3, h4, h10, hn, hm, hk, htk, hnk⟩ - -
  simp only at h1 h2 h3 h4 h10 hn hm
  subst hn hm hnk
  by_cases hlt : (k : Int) < l.length
  · have hlt' := eq_true hlt
    obtain ⟨x, hx⟩ : ∃ x, l[k]? = some x := ⟨_, List.getElem?_eq_getElem (by omega)⟩
    have hxr := hl x (List.mem_of_getElem? hx)
    have hw : IntKind.i64.wrap ((k : Int) + 1) = k + 1 := IntWalk.i64_in ((k : Int) + 1) (by omega)
    have hs := hs1 k x hx
    have hall := hsn k
    rw [dropG hx] at hall
    obtain ⟨i, rfl⟩ : ∃ i : Nat, x = i := ⟨x.toNat, by omega⟩
    obtain ⟨c, hc⟩ : ∃ c, tcols[i]? = some c := ⟨_, List.getElem?_eq_getElem (by omega)⟩
    have hty := hTy i c hc
    have hkl := hK k
    rw [htk] at hs hall hkl
    simp only at hs hall hkl
    have hkl1 := hkl.1
    have hkl2 := hkl.2 bk rfl
    have ht : l.take (k + 1) = l.take k ++ [(i : Int)] := by rw [List.take_add_one, hx, Option.toList_some]
    rw [← ht] at hs
    have hV := pRTakeKey bk c.ty (by omega)
    rw [takenS_cons, hty] at hs hall
    simp only at hs hall
    obtain ⟨⟨⟨xa, xb, xc, xd⟩, l2, ok⟩, hv⟩ : ∃ r, takeKeyS c.ty bk = r := ⟨_, rfl⟩
    rw [hv] at hV hs hall
    unfold XV.v XV.c at hV
    simp only at hV hs hall
    rw [Int.toNat_natCast] at hs
    have hset := cX_set Rk i xa xb xc xd (by omega)
    have hcl := cX_len Rk
    have hil : (i : Int) < nR := by omega
    cases ok
    · rw [if_neg (by simp)] at hall
      repeat' (first
        | (((with_reducible first | refine keepA_intro (keep1x _ _ _ _ _ _ _) ?_ | refine keepO_intro (.inl (keep1x _ _ _ _ _ _ _)) ?_ | refine keepA_intro (keep2x _ _ _ _ _ _ _ _) ?_ | refine keepO_intro (.inl (keep2x _ _ _ _ _ _ _ _)) ?_)))
        | ((with_reducible (first
         | (refine PW.seq fun K1 hK1 => ?_) | (refine PW.region fun K2 hK2 => ?_) | ((refine hK3 _ ?_; clear hK3)) | ((refine opsP_nil ?_; refine hK2 _ ?_; clear hK2)) | (refine PW.block ?_) | (refine PW.skip ?_)
         | (refine PW.ret ?_) | ((refine hX1 ?_; clear hX1 hY1; try simp only [hb])) | ((refine opsO_nil ?_; refine hK2 _ ?_; clear hK2)) )))
        | (((with_reducible refine fC_call ?_ (hV) ?_); (focus ((repeat' constructor) <;> (simp only [purAs, purA, Vf, Bool.and_self, Tb.c, h1, h2, h3, h4, h10, hlt', hx, hc, hw, eI, Col.c, hset, hcl]; done)))))
        | (((with_reducible refine PW.draw (id := 4) mixed [1] [] [(0, true), (1, true), (2, true), (3, true), (4, true), (5, true), (6, true), (7, true), (8, true), (9, true), (10, true), (11, true), (12, true), (13, true), (14, true), (15, false), (16, false), (17, true), (18, true)] (by kernel_rfl) (by decide) fun K2 hK2 => ?_)))
        | (((with_reducible refine And.intro ?_ ?_); (focus (first | omega | (simp; done) | assumption))))
        | ((simp only [thenP, blockP]; (try ((repeat (fail_if_success (with_reducible refine hK1 _ ?_)); clear hK1); (with_reducible refine hK1 _ ?_); clear hK1))))
        | (((first | (((with_reducible refine opsP_cons fun K3 hK3 => ?_); simp only [wantP, opP, valP, Ur, Us])) | (((with_reducible refine opsO_first (o := ?_) ?_ fun K3 hK3 => ?_); rotate_left 1; (focus (simp only [Uz, Ub, Ua] <;> rfl)); simp only [wantP, firstP, valP, Ur, Us])) | (((with_reducible refine opsO_only (o := ?_) ?_ fun K3 hK3 => ?_); rotate_left 1; (focus (simp only [Uz, Ub, Ua] <;> rfl)); simp only [wantP, opP, Uw, Ux])) | ((with_reducible refine PW.condM fun X1 Y1 hX1 hY1 => ?_)) | (skip)); simp (disch := omega) only [St.eval, St.put, upd_app, avOf, avOf1, cellsA, AV.okv, loadA, lenP, binP, intsP, intP, nilP, unP, builtinP, isMapA, slA, putCells, Ua, Ub, Uc, Ud, Uf, Ug, Uk, Ul, Ur, Us, Ut, Uu, Uv, V2, V7, V9, Ve, Vr, PmL, simprocAttr, PmT, Tb.c, h1, h2, h4, h10, hlt', hx, hc, eI, Col.c, retQ, resP, tupA, fg, fgs, condP, condB_t, firstOk, List.mem_cons]; try (with_reducible (first | exact co_refl _ | exact co_own _ _ _ | exact co_nilsB | exact co_nilsL _ _)))))
      all_goals (rw [hall]; exact end_boxE (co_nt _) (cX_fgs _ _ _))
    · rw [if_pos rfl] at hs
      rw [takenS_nil] at hs
      simp only at hs
      repeat' (first
        | (((with_reducible first | refine keepA_intro (keep1x _ _ _ _ _ _ _) ?_ | refine keepO_intro (.inl (keep1x _ _ _ _ _ _ _)) ?_ | refine keepA_intro (keep2x _ _ _ _ _ _ _ _) ?_ | refine keepO_intro (.inl (keep2x _ _ _ _ _ _ _ _)) ?_)))
        | ((with_reducible (first
         | (refine PW.seq fun K1 hK1 => ?_) | (refine PW.region fun K2 hK2 => ?_) | ((refine hK3 _ ?_; clear hK3)) | ((refine opsP_nil ?_; refine hK2 _ ?_; clear hK2)) | (refine PW.block ?_) | (refine PW.skip ?_)
         | ((refine hX1 ?_; clear hX1 hY1; try simp only [hb])) | ((refine hY1 ?_; clear hX1 hY1; try simp only [hb])) | ((refine opsO_nil ?_; refine hK2 _ ?_; clear hK2)) )))
        | (((with_reducible refine fC_call ?_ (hV) ?_); (focus ((repeat' constructor) <;> (simp only [purAs, purA, Vf, Bool.and_self, Tb.c, h1, h2, h3, h4, h10, hlt', hx, hc, hw, eI, Col.c, hset, hcl]; done)))))
        | (((with_reducible refine PW.draw (id := 4) mixed [1] [] [(0, true), (1, true), (2, true), (3, true), (4, true), (5, true), (6, true), (7, true), (8, true), (9, true), (10, true), (11, true), (12, true), (13, true), (14, true), (15, false), (16, false), (17, true), (18, true)] (by kernel_rfl) (by decide) fun K2 hK2 => ?_)))
        | (((with_reducible refine PW.draw (id := 7) mixed [2] [7] [(0, true), (1, true), (2, true), (3, true), (4, true), (5, true), (6, true), (7, false)] (by kernel_rfl) (by decide) fun K2 hK2 => ?_)))
        | (((with_reducible refine And.intro ?_ ?_); (focus (first | omega | (simp; done) | assumption))))
        | ((simp only [thenP, blockP]; (try ((repeat (fail_if_success (with_reducible refine hK1 _ ?_)); clear hK1); (with_reducible refine hK1 _ ?_); clear hK1))))
        | (((first | (((with_reducible refine opsP_cons fun K3 hK3 => ?_); simp only [wantP, opP, valP, Ur, Us])) | (((with_reducible refine opsO_first (o := ?_) ?_ fun K3 hK3 => ?_); rotate_left 1; (focus (simp only [Uz, Ub, Ua] <;> rfl)); simp only [wantP, firstP, valP, Ur, Us])) | (((with_reducible refine opsO_only (o := ?_) ?_ fun K3 hK3 => ?_); rotate_left 1; (focus (simp only [Uz, Ub, Ua] <;> rfl)); simp only [wantP, opP, Uw, Ux])) | ((with_reducible refine PW.condM fun X1 Y1 hX1 hY1 => ?_)) | (skip)); simp (disch := omega) only [St.eval, St.put, upd_app, avOf, avOf1, cellsA, AV.okv, loadA, lenP, binP, intsP, intP, nilP, unP, builtinP, isMapA, slA, putCells, Ua, Ub, Uc, Ud, Uf, Ug, Uk, Ul, Un, Up, Ur, Us, Ut, Uu, Uv, V2, V7, V9, Ve, Vr, PmL, simprocAttr, PmT, Tb.c, h1, h2, h3, h4, h10, hlt', hx, hc, hw, eI, Col.c, hset, hcl, condP, condB_t, condB_f, firstOk, List.mem_cons]; try (with_reducible (first | exact co_refl _ | exact co_own _ _ _ | exact co_nilsB | exact co_nilsL _ _)))))
      refine ⟨l.length - (k + 1), by omega, k + 1, Rk.set i ⟨xa, xb, xc, xd⟩, l2, ?_, ?_, ?_, ?_, ?_, ?_, ?_, by omega, hs, rfl⟩
      all_goals (simp only [St.cut, Mem.cut, fg, fgs, upd_app, Nat.reduceEqDiff, ↓reduceIte, List.take_nil, List.map_nil, List.take_succ_cons, List.take_zero, List.map_cons, Option.map_some, Nat.reduceLT, Int.natCast_add, Int.cast_ofNat_Int, h1, h3, h4, cX_fgs]; try rfl)
  have hkl : k = l.length := by omega
  subst hkl
  have hlt' := eq_false hlt
  rw [List.take_length] at htk
  repeat' (first
    | ((with_reducible (first
     | (refine PW.seq fun K1 hK1 => ?_) | (refine PW.region fun K2 hK2 => ?_) | ((refine hK3 _ ?_; clear hK3)) | ((refine opsP_nil ?_; refine hK2 _ ?_; clear hK2)) 
     | (refine PW.exit ?_) | (refine PW.ret ?_) | ((refine hY1 ?_; clear hX1 hY1; try simp only [hb])) )))
    | ((simp only [thenP, blockP, ↓reduceIte]; (try ((repeat (fail_if_success (with_reducible refine hK1 _ ?_)); clear hK1); (with_reducible refine hK1 _ ?_); clear hK1))))
    | (((first | (((with_reducible refine opsP_cons fun K3 hK3 => ?_); simp only [wantP, opP, valP, Ur, Us])) | ((with_reducible refine PW.condM fun X1 Y1 hX1 hY1 => ?_)) | (skip)); simp (disch := omega) only [St.eval, St.put, upd_app, avOf, avOf1, lenP, binP, intsP, intP, nilP, builtinP, isMapA, slA, Uf, Ug, V9, Ve, PmL, simprocAttr, PmT, h1, h2, h10, hlt', retQ, resP, tupA, fg, fgs, condP, condB_f]; try (with_reducible (first | exact co_refl _ | exact co_own _ _ _ | exact co_nilsB | exact co_nilsL _ _)))))
  all_goals (rw [htk]; exact end_boxE (co_refl _) (cX_fgs _ _ _))
/-- the columns that are not of the key, off a value's bytes (the document's way) -/
def rest18 (key : List Int) (k : Nat) : List Col → List XV × List Int → Option (List XV × List Int)
  | [], x => some x
  | c :: C, x => if key.contains (k : Int) = true then rest18 key (k + 1) C x else if (val18 c.ty (x.2, false)).2.2 = true then none else rest18 key (k + 1) C (x.1.set k (val18 c.ty (x.2, false)).1, (val18 c.ty (x.2, false)).2.1)
theorem rest18_cons (key : List Int) (k : Nat) (c : Col) (C : List Col) (x : List XV × List Int) : rest18 key k (c :: C) x = if key.contains (k : Int) = true then rest18 key (k + 1) C x else if (val18 c.ty (x.2, false)).2.2 = true then none else rest18 key (k + 1) C (x.1.set k (val18 c.ty (x.2, false)).1, (val18 c.ty (x.2, false)).2.1) := rfl
theorem rest18_nil (key : List Int) (k : Nat) (x : List XV × List Int) : rest18 key k [] x = some x := rfl
theorem rest18_app (key : List Int) (D : List Col) : ∀ (C : List Col) (k : Nat) (x : List XV × List Int), rest18 key k (C ++ D) x = (rest18 key k C x).bind fun y => rest18 key (k + C.length) D y
  | [], k, x => rfl
  | c :: C, k, x => by
    rw [List.cons_append, rest18_cons, rest18_cons]
    split
    · rw [rest18_app key D C (k + 1), List.length_cons, show k + 1 + C.length = k + (C.length + 1) by omega]
    · split
      · rfl
      · rw [rest18_app key D C (k + 1), List.length_cons, show k + 1 + C.length = k + (C.length + 1) by omega]
theorem text18_len (st : Rdr) : (text18 st).2.1.length ≤ st.1.length := by
  unfold text18 went18
  simp only
  split <;> simp
theorem val18_len (k : Int) (st : Rdr) : (val18 k st).2.1.length ≤ st.1.length := by
  have h1 := byteS_len st
  unfold val18
  split
  · exact h1
  · split
    · refine Nat.le_trans ?_ h1
      unfold went18
      split <;> simp
    · split
      · exact Nat.le_trans (byteS_len _) h1
      · exact Nat.le_trans (text18_len _) h1
theorem rest18_len (key : List Int) : ∀ (C : List Col) (k : Nat) (x y : List XV × List Int), rest18 key k C x = some y → y.1.length = x.1.length ∧ y.2.length ≤ x.2.length
  | [], k, x, y, h => by
    rw [rest18_nil] at h
    cases h
    exact ⟨rfl, Nat.le_refl _⟩
  | c :: C, k, x, y, h => by
    rw [rest18_cons] at h
    split at h
    · exact rest18_len key C (k + 1) x y h
    · split at h
      · cases h
      · have ih := rest18_len key C (k + 1) _ y h
        have hv := val18_len c.ty (x.2, false)
        simp only [List.length_set] at ih hv
        exact ⟨ih.1, Nat.le_trans ih.2 hv⟩
def tRowS (T : Tb) (K V : List Int) : List XV × Int :=
  if tabled T T.key = false then ([], 1) else if K.length < 17 then ([], 200) else
  match takenS T T.key (List.replicate T.cols.length z4, K.drop 17) with
  | (_, none) => ([], 200)
  | (R1, some _) => match rest18 T.key 0 T.cols (R1, V) with
    | none => ([], 200)
    | some y => if rowKV T y.1 = (K, V, 0) then (y.1, 0) else ([], 200)
set_option maxHeartbeats 8000000 in
theorem pRTakeRow (T : Tb) (K V : List Int) (hT : T.cols.length ≤ 1048576 ∧ T.key.length ≤ 1048576) (hV : V.length ≤ 1048576) (hKl : K.length ≤ 1048576) : Pure Tryd.prog 15 [T.v, .agg [bs K, bs V]] (rowR (tRowS T K V)) := by
  refine pure_intro Tryd.func15 rfl rfl rfl 101 rfl (fun hh => ?_)
  have hml : maxLen = 9223372036854775807 := rfl
  have hC := pRTabled T []
  rw [tabMay_nil] at hC
  cases ht : tabled T T.key
  · have hu : tRowS T K V = ([], 1) := by unfold tRowS; rw [if_pos ht]
    rw [ht] at hC
    rw [hu]
    obtain ⟨tid, tnm, tcols, tkey, tix⟩ := T
    unfold Tb.v Tb.c il encL at hC
    simp only [List.map_nil] at hC
    repeat' (first
      | ((with_reducible (first
       | (refine PW.seq fun K1 hK1 => ?_) | (refine PW.region fun K2 hK2 => ?_) | ((refine hK3 _ ?_; clear hK3)) | ((refine opsP_nil ?_; refine hK2 _ ?_; clear hK2)) 
       | (refine PW.ret ?_) | ((refine hX1 ?_; clear hX1 hY1; try simp only [hb])) )))
      | (((with_reducible refine cC_pure ?_ (hC) (fun _ => ?_)); (focus ((repeat' constructor) <;> (simp only [purAs, purA, Vf, Bool.and_self, Tb.v, Tb.c, rowR]; done)))))
      | ((simp only [thenP]; (try ((repeat (fail_if_success (with_reducible refine hK1 _ ?_)); clear hK1); (with_reducible refine hK1 _ ?_); clear hK1))))
      | (((first | (((with_reducible refine opsP_cons fun K3 hK3 => ?_); simp only [wantP, opP, valP, Ur, Us])) | ((with_reducible refine PW.condM fun X1 Y1 hX1 hY1 => ?_)) | (skip)); simp (disch := omega) only [St.eval, St.put, upd_app, iniT_app, avOf, avOf1, nom, cellsA, AV.okv, loadA, unP, U7, U8, Ua, Uf, Ug, Uk, Un, Up, Ut, Uu, Uv, V9, Vr, PmL, simprocAttr, PmT, Tb.v, Tb.c, rowR, retQ, resP, tupA, fg, fgs, condP, condB_t]; try (with_reducible (first | exact co_refl _ | exact co_own _ _ _ | exact co_nilsB | exact co_nilsL _ _)))))
    exact co_row0 _
  rw [ht] at hC
  by_cases h17 : (K.length : Int) < 17
  · have h17' := eq_true h17
    have hu : tRowS T K V = ([], 200) := by unfold tRowS; rw [if_neg (by rw [ht]; simp), if_pos (by omega)]
    rw [hu]
    obtain ⟨tid, tnm, tcols, tkey, tix⟩ := T
    unfold Tb.v Tb.c il encL at hC
    simp only [List.map_nil] at hC
    repeat' (first
      | ((with_reducible (first
       | (refine PW.seq fun K1 hK1 => ?_) | (refine PW.region fun K2 hK2 => ?_) | ((refine hK3 _ ?_; clear hK3)) | ((refine opsP_nil ?_; refine hK2 _ ?_; clear hK2)) | (refine PW.skip ?_)
       | (refine PW.ret ?_) | ((refine hX1 ?_; clear hX1 hY1; try simp only [hb])) | ((refine hY1 ?_; clear hX1 hY1; try simp only [hb])) )))
      | (((with_reducible refine cC_pure ?_ (hC) (fun _ => ?_)); (focus ((repeat' constructor) <;> (simp only [purAs, purA, Vf, Bool.and_self, Tb.v, Tb.c, rowR, h17']; done)))))
      | ((simp only [thenP]; (try ((repeat (fail_if_success (with_reducible refine hK1 _ ?_)); clear hK1); (with_reducible refine hK1 _ ?_); clear hK1))))
      | (((first | (((with_reducible refine opsP_cons fun K3 hK3 => ?_); simp only [wantP, opP, valP, Ur, Us])) | ((with_reducible refine PW.condM fun X1 Y1 hX1 hY1 => ?_)) | (skip)); simp (disch := omega) only [St.eval, St.put, upd_app, iniT_app, avOf, avOf1, nom, cellsA, AV.okv, loadA, lenP, binP, intsP, intP, nilP, unP, builtinP, isMapA, slA, U7, U8, Ua, Ub, Uf, Ug, Uk, Un, Up, Ut, Uu, Uv, V9, Va, Ve, Vr, PmL, simprocAttr, PmT, Tb.v, Tb.c, rowR, h17', retQ, resP, tupA, fg, fgs, condP, condB_t, condB_f]; try (with_reducible (first | exact co_refl _ | exact co_own _ _ _ | exact co_nilsB | exact co_nilsL _ _)))))
    exact co_row0 _
  have h17' := eq_false h17
  have hu : tRowS T K V = match takenS T T.key (List.replicate T.cols.length z4, K.drop 17) with
    | (_, none) => ([], 200)
    | (R1, some _) => match rest18 T.key 0 T.cols (R1, V) with
      | none => ([], 200)
      | some y => if rowKV T y.1 = (K, V, 0) then (y.1, 0) else ([], 200) := by unfold tRowS; rw [if_neg (by rw [ht]; simp), if_neg (by omega)]
  have hin := (tabled_in ht).1
  have hcols := tabled_cols ht
  have hk1 := pRTaken T T.key (List.replicate T.cols.length z4) (K.drop 17) hin (by simp) (by simp only [List.length_drop]; omega)
  have hr1l := (takenS_len T T.key (List.replicate T.cols.length z4, K.drop 17)).1
  have hrow := fun R h => pRRow T R h hT.2
  have hctk := fun i : Int => pRIsKey T i
  rw [List.length_replicate] at hk1
  simp only [List.length_replicate] at hr1l
  obtain ⟨⟨R1, o1⟩, h1⟩ : ∃ r, takenS T T.key (List.replicate T.cols.length z4, K.drop 17) = r := ⟨_, rfl⟩
  rw [h1] at hu hk1 hr1l
  unfold tkR vM at hk1
  simp only at hk1 hr1l
  obtain ⟨tid, tnm, tcols, tkey, tix⟩ := T
  simp only at hk1 hr1l hin hcols hu hT
  unfold Tb.v Tb.c il encL at hC
  simp only [List.map_nil] at hC
  unfold Tb.v Tb.c at hk1 hrow hctk
  obtain ⟨N, hN⟩ : ∃ n, tcols.length = n := ⟨_, rfl⟩
  rw [hN] at hk1 hr1l
  have hcN : ((N : Nat) : Int).toNat = N := by omega
  obtain ⟨D, hD⟩ : ∃ d, K.drop 17 = d := ⟨_, rfl⟩
  rw [hD] at hk1
  have hrep : (List.replicate N [AV.d (.int .i64 0), .d (.bool false), .d (.int .i64 0), .d (.str [])]).flatten = cX (List.replicate N z4) := cX_rep N
  cases o1 with
  | none =>
    simp only [Option.getD_none, Option.isSome_none] at hk1
    simp only at hu
    repeat' (first
      | (((with_reducible first | refine keepA_intro (keep01x _ _ _ _ _ _) ?_ | refine keepO_intro (.inl (keep01x _ _ _ _ _ _)) ?_)))
      | (((with_reducible refine callP_b1 (i := 2) ?_ ?_ ?_ hk1 (fun _ => ?_)); (focus (exact rfl)); (focus (exact rfl)); (focus (exact ⟨cX_pur _, cX_pur _, rfl⟩)); simp only [List.set_cons_succ, List.set_cons_zero]))
      | ((with_reducible (first
       | (refine PW.seq fun K1 hK1 => ?_) | (refine PW.region fun K2 hK2 => ?_) | ((refine hK3 _ ?_; clear hK3)) | ((refine opsP_nil ?_; refine hK2 _ ?_; clear hK2)) | ((refine Exists.intro _ (Exists.intro _ (And.intro rfl (And.intro rfl (And.intro ?_ ?_)))); focus omega)) | (refine PW.skip ?_)
       | (refine PW.ret ?_) | ((refine hX1 ?_; clear hX1 hY1; try simp only [hb])) | ((refine hY1 ?_; clear hX1 hY1; try simp only [hb])) | ((refine opsO_nil ?_; refine hK2 _ ?_; clear hK2)) )))
      | (((with_reducible refine cC_pure ?_ (hC) (fun _ => ?_)); (focus ((repeat' constructor) <;> (simp only [purAs, purA, Vf, Bool.and_self, Tb.v, Tb.c, eI, h17', hN, hcN, hrep, hD]; done)))))
      | (((with_reducible refine PW.draw (id := 7) mixed [0,1] [] [(0, true), (1, true), (2, true), (3, true), (4, true), (5, true), (6, true), (7, false), (8, true), (9, true), (10, true), (11, true), (12, true)] (by kernel_rfl) (by decide) fun K2 hK2 => ?_)))
      | (((with_reducible refine And.intro ?_ ?_); (focus (first | omega | (simp; done) | assumption))))
      | ((simp only [thenP]; (try ((repeat (fail_if_success (with_reducible refine hK1 _ ?_)); clear hK1); (with_reducible refine hK1 _ ?_); clear hK1))))
      | (((first | (((with_reducible refine opsP_consD (d := 29) fun K3 hK3 => ?_); simp only [wantP, opP]; (with_reducible refine litX_box ?_))) | (((with_reducible refine opsP_cons fun K3 hK3 => ?_); simp only [wantP, opP, valP, Ur, Us])) | (((with_reducible refine opsO_first (o := ?_) ?_ fun K3 hK3 => ?_); rotate_left 1; (focus (simp only [Uz, Ub, Ua] <;> rfl)); simp only [wantP, firstP, valP])) | (((with_reducible refine opsO_only (o := ?_) ?_ fun K3 hK3 => ?_); rotate_left 1; (focus (simp only [Uz, Ub, Ua] <;> rfl)); simp only [wantP, opP, Ur, Us, Uw, Ux])) | ((with_reducible refine PW.condM fun X1 Y1 hX1 hY1 => ?_)) | (skip)); simp (disch := omega) only [St.eval, St.put, upd_app, iniT_app, avOf, avOf1, nom, cellsA, AV.okv, loadA, lenP, binP, intsP, intP, nilP, sliceP, boundLo, boundHi, unP, builtinP, isMapA, slA, U7, U8, Ua, Ub, Uf, Ug, Uk, Ul, Un, Up, Uq, Ut, Uu, Uv, V2, V3, V7, V9, Va, Ve, Int.cast_ofNat_Int, UU2, UU4, Vr, Vs, PmL, simprocAttr, PmT, Tb.v, Tb.c, h17', hN, hcN, hrep, hD, retQ, resP, tupA, fg, fgs, condP, condB_t, condB_f, firstOk, List.mem_cons]; try (with_reducible (first | exact co_refl _ | exact co_own _ _ _ | exact co_nilsB | exact co_nilsL _ _)))))
    all_goals (rw [hu]; exact co_row0 _)
  | some b1 =>
    simp only [Option.getD_some, Option.isSome_some] at hk1
    simp only at hu
    repeat' (first
      | (((with_reducible first | refine keepA_intro (keep01x _ _ _ _ _ _) ?_ | refine keepO_intro (.inl (keep01x _ _ _ _ _ _)) ?_)))
      | (((with_reducible refine callP_b1 (i := 2) ?_ ?_ ?_ hk1 (fun _ => ?_)); (focus (exact rfl)); (focus (exact rfl)); (focus (exact ⟨cX_pur _, cX_pur _, rfl⟩)); simp only [List.set_cons_succ, List.set_cons_zero]))
      | ((with_reducible (first
       | (refine PW.seq fun K1 hK1 => ?_) | (refine PW.region fun K2 hK2 => ?_) | ((refine hK3 _ ?_; clear hK3)) | ((refine opsP_nil ?_; refine hK2 _ ?_; clear hK2)) | ((refine Exists.intro _ (Exists.intro _ (And.intro rfl (And.intro rfl (And.intro ?_ ?_)))); focus omega)) | (refine PW.block ?_) | (refine PW.skip ?_)
       | ((refine hY1 ?_; clear hX1 hY1; try simp only [hb])) | ((refine opsO_nil ?_; refine hK2 _ ?_; clear hK2)) )))
      | (((with_reducible refine cC_pure ?_ (hC) (fun _ => ?_)); (focus ((repeat' constructor) <;> (simp only [purAs, purA, Vf, Bool.and_self, Tb.v, Tb.c, eI, h17', hN, hcN, hrep, hD]; done)))))
      | (((with_reducible refine PW.draw (id := 7) mixed [0,1] [] [(0, true), (1, true), (2, true), (3, true), (4, true), (5, true), (6, true), (7, false), (8, true), (9, true), (10, true), (11, true), (12, true)] (by kernel_rfl) (by decide) fun K2 hK2 => ?_)))
      | (((with_reducible refine And.intro ?_ ?_); (focus (first | omega | (simp; done) | assumption))))
      | ((simp only [thenP]; (try ((repeat (fail_if_success (with_reducible refine hK1 _ ?_)); clear hK1); (with_reducible refine hK1 _ ?_); clear hK1))))
      | (((first | (((with_reducible refine opsP_consD (d := 29) fun K3 hK3 => ?_); simp only [wantP, opP]; (with_reducible refine litX_box ?_))) | (((with_reducible refine opsP_cons fun K3 hK3 => ?_); simp only [wantP, opP, valP, Ur, Us])) | (((with_reducible refine opsO_first (o := ?_) ?_ fun K3 hK3 => ?_); rotate_left 1; (focus (simp only [Uz, Ub, Ua] <;> rfl)); simp only [wantP, firstP, valP])) | (((with_reducible refine opsO_only (o := ?_) ?_ fun K3 hK3 => ?_); rotate_left 1; (focus (simp only [Uz, Ub, Ua] <;> rfl)); simp only [wantP, opP, Ur, Us, Uw, Ux])) | ((with_reducible refine PW.condM fun X1 Y1 hX1 hY1 => ?_)) | (skip)); simp (disch := omega) only [St.eval, St.put, upd_app, iniT_app, avOf, avOf1, nom, cellsA, AV.okv, loadA, lenP, binP, intsP, intP, nilP, sliceP, boundLo, boundHi, unP, builtinP, isMapA, slA, U7, U8, Ua, Ub, Uf, Ug, Uk, Ul, Un, Up, Uq, Ut, Uu, Uv, V2, V3, V7, V9, Va, Ve, Int.cast_ofNat_Int, UU2, UU4, Vr, Vs, PmL, simprocAttr, PmT, Tb.v, Tb.c, h17', hN, hcN, hrep, hD, condP, condB_f, firstOk, List.mem_cons]; try (with_reducible (first | exact co_refl _ | exact co_own _ _ _ | exact co_nilsB | exact co_nilsL _ _)))))
    (with_reducible refine PW.loop (fun n s => ∃ (k : Nat) (Rk : List XV) (bk : List Int), s.t 2 = .ptr 0 0 ∧ s.t 3 = .ptr 1 0 ∧ s.t 7 = .bsl 2 0 N N 4 ∧ s.t 10 = bs bk ∧ s.t 11 = .d (.int .i64 k) ∧ s.n = 101 ∧ s.m = ⟨[some (26, Tb.c ⟨tid, tnm, tcols, tkey, tix⟩), some (31, [bs K, bs V]), some (47, cX Rk)], []⟩ ∧ k ≤ tcols.length ∧ rest18 tkey 0 (tcols.take k) (R1, V) = some (Rk, bk) ∧ n = tcols.length - k) tcols.length ?_ ?_)
    · exact ⟨0, R1, V, rfl, rfl, rfl, rfl, rfl, rfl, rfl, Nat.zero_le _, rfl, rfl⟩
    rintro n ⟨t, nn, m⟩ ⟨k, Rk, bk, q2, q3, q7, q10, q11, hn, hm, hk, hrk, hnk⟩ - -
    simp only at q2 q3 q7 q10 q11 hn hm
    subst hn hm hnk
    have hkl := rest18_len _ _ _ _ _ hrk
    simp only at hkl
    obtain ⟨hkl1, hkl2⟩ := hkl
    by_cases hlt : (k : Int) < N
    · have hlt' := eq_true hlt
      obtain ⟨c, hc⟩ : ∃ x, tcols[k]? = some x := ⟨_, List.getElem?_eq_getElem (by omega)⟩
      have hw : IntKind.i64.wrap ((k : Int) + 1) = k + 1 := IntWalk.i64_in ((k : Int) + 1) (by omega)
      have hct := hctk (k : Int)
      have hkk : 1 ≤ c.ty ∧ c.ty ≤ 3 := by
        unfold colsOk at hcols
        rw [List.all_eq_true] at hcols
        simpa using hcols c (List.mem_of_getElem? hc)
      have hall := rest18_app tkey (tcols.drop k) (tcols.take k) 0 (R1, V)
      have hs := rest18_app tkey [c] (tcols.take k) 0 (R1, V)
      rw [List.take_append_drop, hrk, dropG hc, Option.bind_some, List.length_take, hN, Nat.min_eq_left (by omega), Nat.zero_add] at hall
      rw [hrk, Option.bind_some, List.length_take, hN, Nat.min_eq_left (by omega), Nat.zero_add] at hs
      have ht : tcols.take (k + 1) = tcols.take k ++ [c] := by rw [List.take_add_one, hc, Option.toList_some]
      rw [← ht] at hs
      rw [rest18_cons] at hs hall
      simp only at hs hall
      cases hcv : tkey.contains (k : Int)
      · rw [hcv] at hct hs hall
        rw [if_neg (by simp)] at hs hall
        have hV := pRTakeValue c.ty hkk bk (by omega)
        obtain ⟨⟨⟨xa, xb, xc, xd⟩, l3, bad3⟩, hv⟩ : ∃ r, val18 c.ty (bk, false) = r := ⟨_, rfl⟩
        rw [hv] at hV hs hall
        unfold XV.v XV.c at hV
        simp only at hV hs hall
        have hset := cX_set Rk k xa xb xc xd (by omega)
        have hcl := cX_len Rk
        cases bad3
        · rw [if_neg (by simp), rest18_nil] at hs
          simp only [Bool.not_false] at hV
          repeat' (first
            | ((with_reducible (first
             | (refine PW.seq fun K1 hK1 => ?_) | (refine PW.region fun K2 hK2 => ?_) | ((refine hK3 _ ?_; clear hK3)) | ((refine opsP_nil ?_; refine hK2 _ ?_; clear hK2)) | (refine PW.block ?_) | (refine PW.skip ?_)
             | ((refine hX1 ?_; clear hX1 hY1; try simp only [hb])) | ((refine hY1 ?_; clear hX1 hY1; try simp only [hb])) )))
            | (((with_reducible refine cC_pure ?_ (hct) (fun _ => ?_)); (focus ((repeat' constructor) <;> (simp only [purAs, purA, Vf, Bool.and_self, Tb.c, q2, q3, q7, q10, q11, hlt', hc, hw, eI, Col.c, hset, hcl]; done)))))
            | (((with_reducible refine cC_pure ?_ (hV) (fun _ => ?_)); (focus ((repeat' constructor) <;> (simp only [purAs, purA, Vf, Bool.and_self, Tb.c, q2, q3, q7, q10, q11, hlt', hc, hw, eI, Col.c, hset, hcl]; done)))))
            | (((with_reducible refine And.intro ?_ ?_); (focus (first | omega | (simp; done) | assumption))))
            | ((simp only [thenP, blockP]; (try ((repeat (fail_if_success (with_reducible refine hK1 _ ?_)); clear hK1); (with_reducible refine hK1 _ ?_); clear hK1))))
            | (((first | (((with_reducible refine opsP_cons fun K3 hK3 => ?_); simp only [wantP, opP, valP, Ur, Us])) | ((with_reducible refine PW.condM fun X1 Y1 hX1 hY1 => ?_)) | (skip)); simp (disch := omega) only [St.eval, St.put, upd_app, avOf, avOf1, cellsA, AV.okv, loadA, lenP, binP, intsP, intP, nilP, unP, builtinP, isMapA, slA, putCells, Ua, Ub, Uc, Ud, Uf, Ug, Uk, Ul, Un, Up, Ur, Us, Ut, Uu, Uv, V2, V7, V9, Ve, Vr, PmL, simprocAttr, PmT, Tb.c, q2, q7, q10, q11, hlt', hc, hw, Col.c, hset, hcl, condP, condB_t, condB_f]; try (with_reducible (first | exact co_refl _ | exact co_own _ _ _ | exact co_nilsB | exact co_nilsL _ _)))))
          refine ⟨tcols.length - (k + 1), by omega, k + 1, Rk.set k ⟨xa, xb, xc, xd⟩, l3, ?_, ?_, ?_, ?_, ?_, ?_, ?_, by omega, hs, rfl⟩
          all_goals (simp only [St.cut, Mem.cut, fg, fgs, upd_app, Nat.reduceEqDiff, ↓reduceIte, List.take_nil, List.map_nil, List.take_succ_cons, List.take_zero, List.map_cons, Option.map_some, Nat.reduceLT, Int.natCast_add, Int.cast_ofNat_Int, q2, q3, q7, cX_fgs]; try rfl)
        · rw [if_pos rfl] at hall
          rw [hall] at hu
          simp only at hu
          simp only [Bool.not_true] at hV
          repeat' (first
            | ((with_reducible (first
             | (refine PW.seq fun K1 hK1 => ?_) | (refine PW.region fun K2 hK2 => ?_) | ((refine hK3 _ ?_; clear hK3)) | ((refine opsP_nil ?_; refine hK2 _ ?_; clear hK2)) | (refine PW.block ?_) | (refine PW.skip ?_)
             | (refine PW.ret ?_) | ((refine hX1 ?_; clear hX1 hY1; try simp only [hb])) | ((refine hY1 ?_; clear hX1 hY1; try simp only [hb])) )))
            | (((with_reducible refine cC_pure ?_ (hct) (fun _ => ?_)); (focus ((repeat' constructor) <;> (simp only [purAs, purA, Vf, Bool.and_self, Tb.c, q2, q3, q7, q10, q11, hlt', hc, hw, eI, Col.c, hset, hcl]; done)))))
            | (((with_reducible refine cC_pure ?_ (hV) (fun _ => ?_)); (focus ((repeat' constructor) <;> (simp only [purAs, purA, Vf, Bool.and_self, Tb.c, q2, q3, q7, q10, q11, hlt', hc, hw, eI, Col.c, hset, hcl]; done)))))
            | (((with_reducible refine And.intro ?_ ?_); (focus (first | omega | (simp; done) | assumption))))
            | ((simp only [thenP, blockP]; (try ((repeat (fail_if_success (with_reducible refine hK1 _ ?_)); clear hK1); (with_reducible refine hK1 _ ?_); clear hK1))))
            | (((first | (((with_reducible refine opsP_cons fun K3 hK3 => ?_); simp only [wantP, opP, valP, Ur, Us])) | ((with_reducible refine PW.condM fun X1 Y1 hX1 hY1 => ?_)) | (skip)); simp (disch := omega) only [St.eval, St.put, upd_app, avOf, avOf1, cellsA, AV.okv, loadA, lenP, binP, intsP, intP, nilP, unP, builtinP, isMapA, slA, putCells, Ua, Ub, Uc, Ud, Uf, Ug, Uk, Ul, Un, Up, Ur, Us, Ut, Uu, Uv, V2, V7, V9, Ve, Vr, PmL, simprocAttr, PmT, Tb.c, q2, q7, q10, q11, hlt', hc, Col.c, retQ, resP, tupA, fg, fgs, condP, condB_t, condB_f]; try (with_reducible (first | exact co_refl _ | exact co_own _ _ _ | exact co_nilsB | exact co_nilsL _ _)))))
          all_goals (rw [hu]; exact co_row0 _)
      · rw [hcv] at hct hs
        rw [if_pos rfl, rest18_nil] at hs
        repeat' (first
          | ((with_reducible (first
           | (refine PW.seq fun K1 hK1 => ?_) | (refine PW.region fun K2 hK2 => ?_) | ((refine hK3 _ ?_; clear hK3)) | ((refine opsP_nil ?_; refine hK2 _ ?_; clear hK2)) | (refine PW.block ?_) | (refine PW.skip ?_)
           | (refine PW.exit ?_) | ((refine hX1 ?_; clear hX1 hY1; try simp only [hb])) )))
          | (((with_reducible refine cC_pure ?_ (hct) (fun _ => ?_)); (focus ((repeat' constructor) <;> (simp only [purAs, purA, Vf, Bool.and_self, Tb.c, q2, q3, q7, q10, q11, hlt', hc, hw, eI, Col.c]; done)))))
          | ((simp only [thenP, blockP, ↓reduceIte]; (try ((repeat (fail_if_success (with_reducible refine hK1 _ ?_)); clear hK1); (with_reducible refine hK1 _ ?_); clear hK1))))
          | (((first | (((with_reducible refine opsP_cons fun K3 hK3 => ?_); simp only [wantP, opP, valP, Ur, Us])) | ((with_reducible refine PW.condM fun X1 Y1 hX1 hY1 => ?_)) | (skip)); simp (disch := omega) only [St.eval, St.put, upd_app, avOf, avOf1, loadA, lenP, binP, intsP, intP, nilP, builtinP, isMapA, slA, Ua, Uf, Ug, Uk, Un, Up, Uv, V9, Vr, PmL, simprocAttr, PmT, Tb.c, q2, q7, q11, hlt', hw, condP, condB_t]; try (with_reducible (first | exact co_refl _ | exact co_own _ _ _ | exact co_nilsB | exact co_nilsL _ _)))))
        refine ⟨tcols.length - (k + 1), by omega, k + 1, Rk, bk, ?_, ?_, ?_, ?_, ?_, ?_, ?_, by omega, hs, rfl⟩
        all_goals (simp only [St.cut, Mem.cut, fg, fgs, upd_app, Nat.reduceEqDiff, ↓reduceIte, List.take_nil, List.map_nil, List.take_succ_cons, List.map_cons, Option.map_some, Nat.reduceLT, Int.natCast_add, Int.cast_ofNat_Int, q2, q3, q7, q10, cX_fgs]; try rfl)
    have hkl : k = tcols.length := by omega
    subst hkl
    have hlt' := eq_false hlt
    rw [List.take_length] at hrk
    rw [hrk] at hu
    simp only at hu
    have hr := hrow Rk (by omega)
    have hRN : Rk.length = N := by omega
    obtain ⟨⟨kk, vv, ee⟩, hkv⟩ : ∃ r, rowKV ⟨tid, tnm, tcols, tkey, tix⟩ Rk = r := ⟨_, rfl⟩
    rw [hkv] at hu hr
    unfold kvR at hr
    simp only at hr
    repeat' (first
      | (((with_reducible refine PW.freezeR (id := 21) 7 2 0 N N 4 (xs := encL XV.cd Rk) (b := (47, cX Rk)) ?_ ?_ ?_ ?_); (focus (simp only [upd_app, simprocAttr, q7])); (focus (exact rfl)); (focus (exact view_cX (by decide) rfl hRN))))
      | ((with_reducible (first
       | (refine PW.seq fun K1 hK1 => ?_) | (refine PW.region fun K2 hK2 => ?_) | ((refine hK3 _ ?_; clear hK3)) | ((refine opsP_nil ?_; refine hK2 _ ?_; clear hK2)) | (refine PW.skip ?_)
       | (refine PW.exit ?_) | (refine PW.ret ?_) | ((refine hX1 ?_; clear hX1 hY1; try simp only [hb])) | ((refine hY1 ?_; clear hX1 hY1; try simp only [hb])) )))
      | (((first | (with_reducible refine wantB_intro (fun hb => ?_) (fun hb => ?_)) | (with_reducible refine condB_intro (fun hb => ?_) (fun hb => ?_))) <;> ((try (have hp := hb; simp only [PmH] at hp)); try simp only [hb, Bool.not_false])))
      | (((with_reducible refine cC_pure ?_ (hr) (fun _ => ?_)); (focus ((repeat' constructor) <;> (simp only [purAs, purA, Vf, Bool.and_self, Tb.v, Tb.c, q2, q3, q7, q10, q11, hlt']; done)))))
      | ((simp only [thenP, blockP, ↓reduceIte]; (try ((repeat (fail_if_success (with_reducible refine hK1 _ ?_)); clear hK1); (with_reducible refine hK1 _ ?_); clear hK1))))
      | (((first | (((with_reducible refine opsP_cons fun K3 hK3 => ?_); simp only [wantP, opP, valP, Ur, Us])) | ((with_reducible refine PW.condM fun X1 Y1 hX1 hY1 => ?_)) | (skip)); simp (disch := omega) only [wantB_ff, wantB_tf, St.eval, St.put, upd_app, avOf, avOf1, cellsA, AV.okv, loadA, lenP, binP, intsP, intP, strP, eqP, nilP, convP, builtinP, isMapA, slA, putCells, Ua, Ub, Uc, Ud, Uf, Ug, Uk, Ul, Un, Up, Ut, Uu, Uv, Uz, V4, V9, Va, Ve, Vr, PmL, simprocAttr, PmT, Tb.c, q2, q3, q7, q11, hlt', retQ, resP, tupA, fg, fgs, condP, condB_t, condB_f]; try (with_reducible (first | exact co_refl _ | exact co_own _ _ _ | exact co_nilsB | exact co_nilsL _ _)))))
    all_goals first
      | (rw [hu, if_neg (by simp_all)]; exact co_row0 _)
      | (rw [hu, if_pos (by simp_all)]; exact co_refl _)
end PM
end Go.Proofs.YtfkemeamimcnjaaDoor
