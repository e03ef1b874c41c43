/- rowkey in the abstract: what may be handed in. rowkey in the abstract: may a table, a value be handed in. -/
import Derived.Test.YtfkemeamimcnjaaDoorRkP
import Derived.Test.YtfkemeamimcnjaaDoorPgIx
namespace Go.Proofs.YtfkemeamimcnjaaDoor
open Go.RowKit
set_option maxRecDepth 100000
namespace PM
def ent (x : Int) : AV := .tup [.d (.int .i64 x), .d (.bool true)]
theorem findK_ent {P : Program} {kt : TypeId} (hc : clsOf P kt = some 0) (x : Int) : ∀ l : List Int, findK P kt (.d (.int .i64 x)) (l.map ent) = some (if x ∈ l then some (l.idxOf x) else none)
  | [] => rfl
  | y :: l => by
    have ih := findK_ent hc x l
    rw [List.map_cons]
    unfold ent
    simp only [findK, keyEq, hc, dvEqC]
    by_cases h : x = y
    · subst h; simp
    · have h' : ¬ y = x := fun e => h e.symm
      have e1 : decide (x = y) = false := by simp [h]
      simp only [if_true]
      rw [e1]
      simp only
      rw [show l.map (fun x => AV.tup [.d (.int .i64 x), .d (.bool true)]) = l.map ent from rfl, ih]
      have e2 : (y == x) = false := by simp [h']
      by_cases hm : x ∈ l
      · simp [hm, h, List.idxOf_cons, e2]
      · simp [hm, h]
theorem ent_at {l : List Int} {x : Int} (h : x ∈ l) : (l.map ent)[l.idxOf x]? = some (ent x) := by
  rw [List.getElem?_map, List.getElem?_eq_getElem (List.idxOf_lt_length_of_mem h), List.getElem_idxOf]
  rfl
theorem ent_fgs (a b : Nat) : ∀ l : List Int, fgs a b (l.map ent) = l.map ent
  | [] => rfl
  | x :: l => by
    rw [List.map_cons]
    unfold fgs
    rw [ent_fgs a b l]
    rfl
theorem apart_no : ∀ {l : List Int} {k : Nat} {x : Int}, l[k]? = some x → x ∈ l.take k → apart l = false
  | [], k, x, h, _ => by simp at h
  | y :: l, 0, x, _, hm => by simp at hm
  | y :: l, k + 1, x, h, hm => by
    rw [List.getElem?_cons_succ] at h
    rw [List.take_succ_cons, List.mem_cons] at hm
    unfold apart
    rcases hm with rfl | hm
    · have : l.contains x = true := by simpa using List.mem_of_getElem? h
      rw [this]; rfl
    · rw [apart_no h hm, Bool.and_false]
theorem unlike_no {l : List Int} {n k : Nat} {x : Int} (h : l[k]? = some x) (hx : x < 0 ∨ ¬ x < n ∨ x ∈ l.take k) : unlike l n = false := by
  unfold unlike
  have ha : (x < 0 ∨ ¬ x < n) → (l.all fun x => decide (0 ≤ x) && decide (x < n)) = false := fun hx => by
    rw [List.all_eq_false]
    refine ⟨x, List.mem_of_getElem? h, ?_⟩
    simp only [Bool.and_eq_true, decide_eq_true_eq]
    omega
  rcases hx with hx | hx | hx
  · rw [ha (.inl hx)]; simp
  · rw [ha (.inr hx)]; simp
  · rw [apart_no h hx]; simp
theorem apart_take : ∀ {l : List Int}, (∀ (k : Nat) (x : Int), l[k]? = some x → x ∉ l.take k) → apart l = true
  | [], _ => rfl
  | y :: l, h => by
    unfold apart
    have h1 : apart l = true := apart_take fun k x hx hm => h (k + 1) x (by rw [List.getElem?_cons_succ]; exact hx) (by rw [List.take_succ_cons]; exact List.mem_cons_of_mem _ hm)
    have h2 : l.contains y = false := by
      rw [Bool.eq_false_iff]
      intro hc
      obtain ⟨k, hk⟩ := List.getElem?_of_mem (by simpa using hc : y ∈ l)
      exact h (k + 1) y (by rw [List.getElem?_cons_succ]; exact hk) (by rw [List.take_succ_cons]; exact List.mem_cons_self)
    rw [h1, h2]; rfl
theorem unlike_ok {l : List Int} {n : Nat} (h : ∀ (k : Nat) (x : Int), l[k]? = some x → ¬ x < 0 ∧ x < n ∧ x ∉ l.take k) : unlike l n = decide ((0 : Int) < (l.length : Int)) := by
  unfold unlike
  have h1 : (l.all fun x => decide (0 ≤ x) && decide (x < n)) = true := List.all_eq_true.2 fun x hx => by
    obtain ⟨k, hk⟩ := List.getElem?_of_mem hx
    have := h k x hk
    simp only [Bool.and_eq_true, decide_eq_true_eq]
    omega
  rw [h1, apart_take fun k x hk => (h k x hk).2.2]
  simp
set_option maxRecDepth 100000 in
set_option maxHeartbeats 1000000 in
theorem pOfColumns (T : Tb) (l : List Int) : Pure Tryd.prog 68 [T.v, il l] (.d (.bool (unlike l T.cols.length))) := by
  refine pure_intro Tryd.func68 rfl rfl rfl 35 rfl (fun hh => ?_)
  have hml : maxLen = 9223372036854775807 := rfl
  have hl := (has_sl (hh (il l) (by simp))).1
  rw [encL_len] at hl
  obtain ⟨tid, tnm, tcols, tkey, tix⟩ := T
  repeat' (first
    | ((with_reducible (first
     | (refine PW.seq fun K1 hK1 => ?_) | (refine PW.region fun K2 hK2 => ?_) | ((refine hK3 _ ?_; clear hK3)) | ((refine opsP_nil ?_; refine hK2 _ ?_; clear hK2)) 
     | (refine PW.block ?_) )))
    | ((simp only [thenP]; (try ((repeat (fail_if_success (with_reducible refine hK1 _ ?_)); clear hK1); (with_reducible refine hK1 _ ?_); clear hK1))))
    | (((first | (((with_reducible refine opsP_cons fun K3 hK3 => ?_); simp only [wantP, opP, valP, Ur, Us])) | (skip)); simp (disch := omega) only [St.eval, St.put, upd_app, iniT_app, avOf, avOf1, nom, cellsA, AV.okv, lenP, builtinP, isMapA, U3, U7, U8, Uf, Ug, Ut, Uu, V9, PmL, simprocAttr, PmT, Tb.v, Tb.c]; try (with_reducible (first | exact co_refl _ | exact co_own _ _ _ | exact co_nilsB | exact co_nilsL _ _)))))
  (with_reducible refine PW.loop (fun n s => ∃ (k : Nat), s.t 1 = il l ∧ s.t 2 = .ptr 0 0 ∧ s.t 5 = .mp 1 ∧ s.t 9 = il l ∧ s.t 10 = .d (.int .i64 l.length) ∧ s.t 11 = .d (.int .i64 k) ∧ s.n = 35 ∧ s.m = ⟨[some (26, Tb.c ⟨tid, tnm, tcols, tkey, tix⟩), some (4294967296, (l.take k).map ent)], []⟩ ∧ k ≤ l.length ∧ (∀ (j : Nat) (x : Int), j < k → l[j]? = some x → ¬ x < 0 ∧ x < tcols.length ∧ x ∉ l.take j) ∧ n = l.length - k) l.length ?_ ?_)
  · exact ⟨0, rfl, rfl, rfl, rfl, rfl, rfl, rfl, rfl, Nat.zero_le _, fun j x hj => absurd hj (by omega), rfl⟩
  rintro n ⟨t, nn, m⟩ ⟨k, h1, h2, h5, h9, h10, h11, hn, hm, hk, hall, hnk⟩ - -
  simp only at h1 h2 h5 h9 h10 h11 hn hm
  subst hn hm hnk
  by_cases hlt : (k : Int) < l.length
  · have hlt' := eq_true hlt
    obtain ⟨x, hx⟩ : ∃ x, l[k]? = some x := ⟨_, List.getElem?_eq_getElem (by omega)⟩
    have hw : IntKind.i64.wrap ((k : Int) + 1) = k + 1 := IntWalk.i64_in ((k : Int) + 1) (by omega)
    by_cases hx0 : x < 0
    · have hx0' := eq_true hx0
      have hu := unlike_no (n := tcols.length) hx (.inl hx0)
      repeat' (first
        | ((with_reducible (first
         | (refine PW.seq fun K1 hK1 => ?_) | (refine PW.region fun K2 hK2 => ?_) | ((refine hK3 _ ?_; clear hK3)) | ((refine opsP_nil ?_; refine hK2 _ ?_; clear hK2)) 
         | (refine PW.block ?_) | (refine PW.skip ?_) | (refine PW.ret ?_) | ((refine hX1 ?_; clear hX1 hY1; try simp only [hb])) )))
        | (((with_reducible refine And.intro ?_ ?_); (focus (first | omega | (simp; done) | assumption))))
        | ((simp only [thenP, blockP]; (try ((repeat (fail_if_success (with_reducible refine hK1 _ ?_)); clear hK1); (with_reducible refine hK1 _ ?_); clear hK1))))
        | (((first | (((with_reducible refine opsP_cons fun K3 hK3 => ?_); simp only [wantP, opP, valP, Ur, Us])) | ((with_reducible refine PW.condM fun X1 Y1 hX1 hY1 => ?_)) | (skip)); simp (disch := omega) only [wantB_tf, St.eval, St.put, upd_app, avOf, avOf1, loadA, lenP, binP, intsP, intP, nilP, builtinP, keyOk, entriesA, lookP, isMapA, slA, Ua, Ub, Ur, Us, Uz, V2, V4, V7, V9, Ve, PmL, simprocAttr, PmT, Tb.c, h2, h5, h9, h10, h11, hlt', hx, hx0', eI, hu, retQ, resP, tupA, fg, condP, condB_t]; try (with_reducible (first | exact co_refl _ | exact co_own _ _ _ | exact co_nilsB | exact co_nilsL _ _)))))
    have hx0' := eq_false hx0
    by_cases hx1 : (tcols.length : Int) ≤ x
    · have hx1' := eq_true hx1
      have hu := unlike_no (n := tcols.length) hx (.inr (.inl (by omega)))
      repeat' (first
        | ((with_reducible (first
         | (refine PW.seq fun K1 hK1 => ?_) | (refine PW.region fun K2 hK2 => ?_) | ((refine hK3 _ ?_; clear hK3)) | ((refine opsP_nil ?_; refine hK2 _ ?_; clear hK2)) 
         | (refine PW.block ?_) | (refine PW.skip ?_) | (refine PW.ret ?_) | ((refine hX1 ?_; clear hX1 hY1; try simp only [hb])) )))
        | (((with_reducible refine And.intro ?_ ?_); (focus (first | omega | (simp; done) | assumption))))
        | ((simp only [thenP, blockP]; (try ((repeat (fail_if_success (with_reducible refine hK1 _ ?_)); clear hK1); (with_reducible refine hK1 _ ?_); clear hK1))))
        | (((first | (((with_reducible refine opsP_cons fun K3 hK3 => ?_); simp only [wantP, opP, valP, Ur, Us])) | ((with_reducible refine PW.condM fun X1 Y1 hX1 hY1 => ?_)) | (skip)); simp (disch := omega) only [wantB_ff, wantB_tf, St.eval, St.put, upd_app, avOf, avOf1, loadA, lenP, binP, intsP, intP, nilP, builtinP, keyOk, entriesA, lookP, isMapA, slA, Ua, Ub, Uk, Ul, Ur, Us, Uz, V2, V4, V7, V9, Ve, PmL, simprocAttr, PmT, Tb.c, h2, h5, h9, h10, h11, hlt', hx, hx0', hx1', eI, hu, retQ, resP, tupA, fg, condP, condB_t]; try (with_reducible (first | exact co_refl _ | exact co_own _ _ _ | exact co_nilsB | exact co_nilsL _ _)))))
    have hx1' := eq_false hx1
    have hfk : ∀ kt, clsOf Tryd.prog kt = some 0 → findK Tryd.prog kt (.d (.int .i64 x)) ((l.take k).map ent) = some (if x ∈ l.take k then some ((l.take k).idxOf x) else none) := fun kt hc => findK_ent hc x _
    by_cases hm : x ∈ l.take k
    · have hu := unlike_no (n := tcols.length) hx (.inr (.inr hm))
      have hat := ent_at hm
      rw [show ent x = .tup [.d (.int .i64 x), .d (.bool true)] from rfl] at hat
      have hf := hfk 3 (by kernel_rfl)
      rw [if_pos hm] at hf
      repeat' (first
        | ((with_reducible (first
         | (refine PW.seq fun K1 hK1 => ?_) | (refine PW.region fun K2 hK2 => ?_) | ((refine hK3 _ ?_; clear hK3)) | ((refine opsP_nil ?_; refine hK2 _ ?_; clear hK2)) 
         | (refine PW.block ?_) | (refine PW.skip ?_) | (refine PW.ret ?_) | ((refine hX1 ?_; clear hX1 hY1; try simp only [hb])) )))
        | (((with_reducible refine And.intro ?_ ?_); (focus (first | omega | (simp; done) | assumption))))
        | ((simp only [thenP, blockP]; (try ((repeat (fail_if_success (with_reducible refine hK1 _ ?_)); clear hK1); (with_reducible refine hK1 _ ?_); clear hK1))))
        | (((first | (((with_reducible refine opsP_cons fun K3 hK3 => ?_); simp only [wantP, opP, valP, Ur, Us])) | ((with_reducible refine PW.condM fun X1 Y1 hX1 hY1 => ?_)) | (skip)); simp (disch := omega) only [wantB_ff, St.eval, St.put, upd_app, avOf, avOf1, loadA, lenP, binP, intsP, intP, nilP, builtinP, keyOk, entriesA, lookP, isMapA, slA, Ua, Ub, Uk, Ul, Ur, Us, Uz, V2, V4, V7, V9, Ve, Vr, PmL, simprocAttr, PmT, Tb.c, h2, h5, h9, h10, h11, hlt', hx, hx0', hx1', eI, hu, hf, hat, retQ, resP, tupA, fg, condP, condB_t]; try (with_reducible (first | exact co_refl _ | exact co_own _ _ _ | exact co_nilsB | exact co_nilsL _ _)))))
    have hf := hfk 3 (by kernel_rfl)
    rw [if_neg hm] at hf
    repeat' (first
      | ((with_reducible (first
       | (refine PW.seq fun K1 hK1 => ?_) | (refine PW.region fun K2 hK2 => ?_) | ((refine hK3 _ ?_; clear hK3)) | ((refine opsP_nil ?_; refine hK2 _ ?_; clear hK2)) 
       | (refine PW.block ?_) | (refine PW.skip ?_) | ((refine hX1 ?_; clear hX1 hY1; try simp only [hb])) | ((refine hY1 ?_; clear hX1 hY1; try simp only [hb])) )))
      | (((with_reducible refine And.intro ?_ ?_); (focus (first | omega | (simp; done) | assumption))))
      | ((simp only [thenP, blockP]; (try ((repeat (fail_if_success (with_reducible refine hK1 _ ?_)); clear hK1); (with_reducible refine hK1 _ ?_); clear hK1))))
      | (((first | (((with_reducible refine opsP_cons fun K3 hK3 => ?_); simp only [wantP, opP, valP, Ur, Us])) | ((with_reducible refine PW.condM fun X1 Y1 hX1 hY1 => ?_)) | (skip)); simp (disch := omega) only [wantB_ff, St.eval, St.put, upd_app, avOf, avOf1, loadA, lenP, binP, intsP, intP, nilP, builtinP, keyOk, entriesA, lookP, mapSetP, isMapA, slA, Ua, Ub, Uc, Ud, Uf, Ug, Uk, Ul, Ur, Us, Uz, V2, V4, V7, V9, Ve, Vr, PmL, simprocAttr, PmT, Tb.c, h2, h5, h9, h10, h11, hlt', hx, hw, hx0', hx1', eI, hf, condP, condB_t, condB_f]; try (with_reducible (first | exact co_refl _ | exact co_own _ _ _ | exact co_nilsB | exact co_nilsL _ _)))))
    have ht : (l.take (k + 1)).map ent = (l.take k).map ent ++ [.tup [.d (.int .i64 x), .d (.bool true)]] := by
      rw [List.take_add_one, hx, List.map_append]
      rfl
    have hf2 : fgs 2 0 ((l.take k).map ent ++ [.tup [.d (.int .i64 x), .d (.bool true)]]) = (l.take k).map ent ++ [.tup [.d (.int .i64 x), .d (.bool true)]] := by rw [← ht]; exact ent_fgs 2 0 _
    have hall' : ∀ (j : Nat) (y : Int), j < k + 1 → l[j]? = some y → ¬ y < 0 ∧ y < tcols.length ∧ y ∉ l.take j := fun j y hj hy => by
      by_cases e : j = k
      · subst e
        rw [hx] at hy
        cases hy
        exact ⟨hx0, by omega, hm⟩
      · exact hall j y (by omega) hy
    refine ⟨l.length - (k + 1), by omega, k + 1, ?_, ?_, ?_, ?_, ?_, ?_, ?_, ?_, by omega, hall', rfl⟩
    all_goals (simp only [St.cut, Mem.cut, fg, fgs, upd_app, Nat.reduceEqDiff, ↓reduceIte, List.take_nil, List.map_nil, List.take_succ_cons, List.map_cons, Option.map_some, Nat.reduceLT, Int.natCast_add, Int.cast_ofNat_Int, h1, h2, h5, h9, h10, ht, hf2]; try rfl)
  have hkl : k = l.length := by omega
  subst hkl
  have hu := unlike_ok (n := tcols.length) (l := l) fun j x hj => hall j x (List.getElem?_eq_some_iff.1 hj).1 hj
  have hlt' := eq_false hlt
  repeat' (first
    | ((with_reducible (first
     | (refine PW.seq fun K1 hK1 => ?_) | (refine PW.region fun K2 hK2 => ?_) | ((refine hK3 _ ?_; clear hK3)) | ((refine opsP_nil ?_; refine hK2 _ ?_; clear hK2)) 
     | (refine PW.exit ?_) | (refine PW.ret ?_) | ((refine hY1 ?_; clear hX1 hY1; try simp only [hb])) )))
    | ((simp only [thenP, blockP, ↓reduceIte]; (try ((repeat (fail_if_success (with_reducible refine hK1 _ ?_)); clear hK1); (with_reducible refine hK1 _ ?_); clear hK1))))
    | (((first | (((with_reducible refine opsP_cons fun K3 hK3 => ?_); simp only [wantP, opP, valP, Ur, Us])) | ((with_reducible refine PW.condM fun X1 Y1 hX1 hY1 => ?_)) | (skip)); simp (disch := omega) only [St.eval, St.put, upd_app, avOf, avOf1, lenP, binP, intsP, intP, nilP, builtinP, isMapA, slA, Uq, Ve, PmL, simprocAttr, PmT, Tb.c, h1, h10, h11, hlt', hu, retQ, resP, tupA, fg, condP, condB_f]; try (with_reducible (first | exact co_refl _ | exact co_own _ _ _ | exact co_nilsB | exact co_nilsL _ _)))))
end PM
end Go.Proofs.YtfkemeamimcnjaaDoor
namespace Go.Proofs.YtfkemeamimcnjaaDoor
open Go.RowKit
set_option maxRecDepth 100000
namespace PM
theorem colsOk_no {l : List Col} {k : Nat} {x : Col} (h : l[k]? = some x) (hx : x.ty < 1 ∨ 3 < x.ty) : colsOk l = false := by
  unfold colsOk
  rw [List.all_eq_false]
  refine ⟨x, List.mem_of_getElem? h, ?_⟩
  simp only [Bool.and_eq_true, decide_eq_true_eq]
  omega
theorem colsOk_ok {l : List Col} (h : ∀ (k : Nat) (x : Col), l[k]? = some x → 1 ≤ x.ty ∧ x.ty ≤ 3) : colsOk l = true := by
  unfold colsOk
  rw [List.all_eq_true]
  intro x hx
  obtain ⟨k, hk⟩ := List.getElem?_of_mem hx
  have := h k x hk
  simp only [Bool.and_eq_true, decide_eq_true_eq]
  omega
set_option maxHeartbeats 2000000 in
theorem pTabled (T : Tb) (l : List Int) : Pure Tryd.prog 38 [T.v, il l] (.d (.bool (tabled T l))) := by
  refine pure_intro Tryd.func38 rfl rfl rfl 32 rfl (fun hh => ?_)
  have hml : maxLen = 9223372036854775807 := rfl
  have hT := hh T.v (by simp)
  obtain ⟨tid, tnm, tcols, tkey, tix⟩ := T
  have hl : tcols.length ≤ maxLen := by
    have := (has_sl (has_agg hT (.d (.sl 7 (encL Col.c tcols))) (by simp [Tb.c]))).1
    rwa [encL_len] at this
  have hC := pOfColumns ⟨tid, tnm, tcols, tkey, tix⟩
  unfold Tb.v Tb.c at hC
  repeat' (first
    | ((with_reducible (first
     | (refine PW.seq fun K1 hK1 => ?_) | (refine PW.region fun K2 hK2 => ?_) | ((refine hK3 _ ?_; clear hK3)) | ((refine opsP_nil ?_; refine hK2 _ ?_; clear hK2)) 
     | (refine PW.block ?_) )))
    | ((simp only [thenP]; (try ((repeat (fail_if_success (with_reducible refine hK1 _ ?_)); clear hK1); (with_reducible refine hK1 _ ?_); clear hK1))))
    | (((first | (((with_reducible refine opsP_cons fun K3 hK3 => ?_); simp only [wantP, opP, valP, Ur, Us])) | (skip)); simp (disch := omega) only [St.eval, St.put, upd_app, iniT_app, avOf, avOf1, nom, cellsA, AV.okv, loadA, lenP, builtinP, isMapA, U7, Ua, Ug, Uk, Ul, Ut, V9, Ve, PmL, simprocAttr, PmT, Tb.v, Tb.c]; try (with_reducible (first | exact co_refl _ | exact co_own _ _ _ | exact co_nilsB | exact co_nilsL _ _)))))
  (with_reducible refine PW.loop (fun n s => ∃ (k : Nat), s.t 1 = il l ∧ s.t 2 = .ptr 0 0 ∧ s.t 8 = .d (.sl 7 (encL Col.c tcols)) ∧ s.t 9 = .d (.int .i64 tcols.length) ∧ s.t 10 = .d (.int .i64 k) ∧ s.n = 32 ∧ s.m = ⟨[some (26, Tb.c ⟨tid, tnm, tcols, tkey, tix⟩)], []⟩ ∧ k ≤ tcols.length ∧ (∀ (j : Nat) (x : Col), j < k → tcols[j]? = some x → 1 ≤ x.ty ∧ x.ty ≤ 3) ∧ n = tcols.length - k) tcols.length ?_ ?_)
  · exact ⟨0, rfl, rfl, rfl, rfl, rfl, rfl, rfl, Nat.zero_le _, fun j x hj => absurd hj (by omega), rfl⟩
  rintro n ⟨t, nn, m⟩ ⟨k, h1, h2, h8, h9, h10, hn, hm, hk, hall, hnk⟩ - -
  simp only at h1 h2 h8 h9 h10 hn hm
  subst hn hm hnk
  by_cases hlt : (k : Int) < tcols.length
  · have hlt' := eq_true hlt
    obtain ⟨x, hx⟩ : ∃ x, tcols[k]? = some x := ⟨_, List.getElem?_eq_getElem (by omega)⟩
    have hw : IntKind.i64.wrap ((k : Int) + 1) = k + 1 := IntWalk.i64_in ((k : Int) + 1) (by omega)
    by_cases hx0 : x.ty < 1
    · have hx0' := eq_true hx0
      have hu : tabled ⟨tid, tnm, tcols, tkey, tix⟩ l = false := by unfold tabled; rw [colsOk_no hx (.inl hx0)]; rfl
      repeat' (first
        | ((with_reducible (first
         | (refine PW.seq fun K1 hK1 => ?_) | (refine PW.region fun K2 hK2 => ?_) | ((refine hK3 _ ?_; clear hK3)) | ((refine opsP_nil ?_; refine hK2 _ ?_; clear hK2)) 
         | (refine PW.block ?_) | (refine PW.skip ?_) | (refine PW.ret ?_) | ((refine hX1 ?_; clear hX1 hY1; try simp only [hb])) )))
        | (((with_reducible refine And.intro ?_ ?_); (focus (first | omega | (simp; done) | assumption))))
        | ((simp only [thenP, blockP]; (try ((repeat (fail_if_success (with_reducible refine hK1 _ ?_)); clear hK1); (with_reducible refine hK1 _ ?_); clear hK1))))
        | (((first | (((with_reducible refine opsP_cons fun K3 hK3 => ?_); simp only [wantP, opP, valP])) | ((with_reducible refine PW.condM fun X1 Y1 hX1 hY1 => ?_)) | (skip)); simp (disch := omega) only [wantB_tf, St.eval, St.put, upd_app, avOf, avOf1, cellsA, AV.okv, loadA, binP, intsP, intP, nilP, slA, putCells, Ua, Ub, Uc, Ud, Uf, Ug, Uk, Ul, Un, Up, Ur, Us, Ut, Uu, Uz, V2, V4, V7, V9, Ve, Vr, PmL, simprocAttr, PmT, Tb.c, h8, h9, h10, hlt', hx, hx0', Col.c, hu, retQ, resP, tupA, fg, condP, condB_t]; try (with_reducible (first | exact co_refl _ | exact co_own _ _ _ | exact co_nilsB | exact co_nilsL _ _)))))
    have hx0' := eq_false hx0
    by_cases hx1 : 3 < x.ty
    · have hx1' := eq_true hx1
      have hu : tabled ⟨tid, tnm, tcols, tkey, tix⟩ l = false := by unfold tabled; rw [colsOk_no hx (.inr hx1)]; rfl
      repeat' (first
        | ((with_reducible (first
         | (refine PW.seq fun K1 hK1 => ?_) | (refine PW.region fun K2 hK2 => ?_) | ((refine hK3 _ ?_; clear hK3)) | ((refine opsP_nil ?_; refine hK2 _ ?_; clear hK2)) 
         | (refine PW.block ?_) | (refine PW.skip ?_) | (refine PW.ret ?_) | ((refine hX1 ?_; clear hX1 hY1; try simp only [hb])) )))
        | (((with_reducible refine And.intro ?_ ?_); (focus (first | omega | (simp; done) | assumption))))
        | ((simp only [thenP, blockP]; (try ((repeat (fail_if_success (with_reducible refine hK1 _ ?_)); clear hK1); (with_reducible refine hK1 _ ?_); clear hK1))))
        | (((first | (((with_reducible refine opsP_cons fun K3 hK3 => ?_); simp only [wantP, opP, valP])) | ((with_reducible refine PW.condM fun X1 Y1 hX1 hY1 => ?_)) | (skip)); simp (disch := omega) only [wantB_ff, St.eval, St.put, upd_app, avOf, avOf1, cellsA, AV.okv, loadA, binP, intsP, intP, nilP, slA, putCells, Ua, Ub, Uc, Ud, Uf, Ug, Uk, Ul, Un, Up, Ur, Us, Ut, Uu, Uz, V2, V4, V7, V9, Ve, Vr, PmL, simprocAttr, PmT, Tb.c, h8, h9, h10, hlt', hx, hx0', hx1', Col.c, hu, retQ, resP, tupA, fg, condP, condB_t]; try (with_reducible (first | exact co_refl _ | exact co_own _ _ _ | exact co_nilsB | exact co_nilsL _ _)))))
    have hx1' := eq_false hx1
    repeat' (first
      | ((with_reducible (first
       | (refine PW.seq fun K1 hK1 => ?_) | (refine PW.region fun K2 hK2 => ?_) | ((refine hK3 _ ?_; clear hK3)) | ((refine opsP_nil ?_; refine hK2 _ ?_; clear hK2)) 
       | (refine PW.block ?_) | (refine PW.skip ?_) | ((refine hX1 ?_; clear hX1 hY1; try simp only [hb])) | ((refine hY1 ?_; clear hX1 hY1; try simp only [hb])) )))
      | (((with_reducible refine And.intro ?_ ?_); (focus (first | omega | (simp; done) | assumption))))
      | ((simp only [thenP, blockP]; (try ((repeat (fail_if_success (with_reducible refine hK1 _ ?_)); clear hK1); (with_reducible refine hK1 _ ?_); clear hK1))))
      | (((first | (((with_reducible refine opsP_cons fun K3 hK3 => ?_); simp only [wantP, opP, valP])) | ((with_reducible refine PW.condM fun X1 Y1 hX1 hY1 => ?_)) | (skip)); simp (disch := omega) only [wantB_ff, St.eval, St.put, upd_app, avOf, avOf1, cellsA, AV.okv, loadA, binP, intsP, intP, nilP, slA, putCells, Ua, Ub, Uc, Ud, Uf, Ug, Uk, Ul, Un, Up, Ur, Us, Ut, Uu, Uz, V2, V4, V7, V9, Ve, Vr, PmL, simprocAttr, PmT, Tb.c, h8, h9, h10, hlt', hx, hw, hx0', hx1', Col.c, condP, condB_t, condB_f]; try (with_reducible (first | exact co_refl _ | exact co_own _ _ _ | exact co_nilsB | exact co_nilsL _ _)))))
    have hall' : ∀ (j : Nat) (y : Col), j < k + 1 → tcols[j]? = some y → 1 ≤ y.ty ∧ y.ty ≤ 3 := fun j y hj hy => by
      by_cases e : j = k
      · subst e
        rw [hx] at hy
        cases hy
        omega
      · exact hall j y (by omega) hy
    refine ⟨tcols.length - (k + 1), by omega, k + 1, ?_, ?_, ?_, ?_, ?_, ?_, ?_, by omega, hall', rfl⟩
    all_goals (simp only [St.cut, Mem.cut, fg, fgs, upd_app, Nat.reduceEqDiff, ↓reduceIte, List.take_nil, List.map_nil, List.take_succ_cons, List.take_zero, List.map_cons, Option.map_some, Nat.zero_lt_one, Int.natCast_add, Int.cast_ofNat_Int, h1, h2, h8, h9]; try rfl)
  have hkl : k = tcols.length := by omega
  subst hkl
  have hu : tabled ⟨tid, tnm, tcols, tkey, tix⟩ l = (unlike tkey tcols.length && unlike l tcols.length) := by
    unfold tabled
    rw [colsOk_ok fun j x hj => hall j x (List.getElem?_eq_some_iff.1 hj).1 hj]
    rfl
  have hlt' := eq_false hlt
  repeat' (first
    | ((with_reducible (first
     | (refine PW.seq fun K1 hK1 => ?_) | (refine PW.region fun K2 hK2 => ?_) | ((refine hK3 _ ?_; clear hK3)) | ((refine opsP_nil ?_; refine hK2 _ ?_; clear hK2)) 
     | (refine PW.exit ?_) | (refine PW.ret ?_) | ((refine hY1 ?_; clear hX1 hY1; try simp only [hb])) )))
    | (((first | (with_reducible refine wantB_intro (fun hb => ?_) (fun hb => ?_)) | (with_reducible refine condB_intro (fun hb => ?_) (fun hb => ?_))) <;> ((try (have hp := hb; simp only [PmH] at hp)); try simp only [hb, Bool.not_true])))
    | (((with_reducible refine cC_pure ?_ (hC tkey) (fun _ => ?_)); (focus ((repeat' constructor) <;> (simp only [purAs, purA, Vf, Bool.and_self, Tb.c, h1, h2, h8, h9, h10, hlt']; done)))))
    | (((with_reducible refine cC_pure ?_ (hC l) (fun _ => ?_)); (focus ((repeat' constructor) <;> (simp only [purAs, purA, Vf, Bool.and_self, Tb.c, h1, h2, h8, h9, h10, hlt']; done)))))
    | ((simp only [thenP, blockP, ↓reduceIte]; (try ((repeat (fail_if_success (with_reducible refine hK1 _ ?_)); clear hK1); (with_reducible refine hK1 _ ?_); clear hK1))))
    | (((first | (((with_reducible refine opsP_cons fun K3 hK3 => ?_); simp only [wantP, opP, valP, Ur, Us])) | ((with_reducible refine PW.condM fun X1 Y1 hX1 hY1 => ?_)) | (skip)); simp (disch := omega) only [wantB_tt, wantB_ft, St.eval, St.put, upd_app, avOf, avOf1, loadA, binP, intsP, intP, nilP, slA, Ua, Ub, Uf, Ug, Uk, Ul, Un, Up, Uv, Uz, V4, V9, Ve, Vr, PmL, simprocAttr, PmT, Tb.c, h1, h2, h9, h10, hlt', retQ, resP, tupA, fg, condP, condB_f]; try (with_reducible (first | exact co_refl _ | exact co_own _ _ _ | exact co_nilsB | exact co_nilsL _ _)))))
  · rw [hu, hb, Bool.true_and]; exact co_refl _
  · have hb' : unlike tkey tcols.length = false := by simpa using hb
    rw [hu, hb', Bool.false_and]; exact co_refl _
theorem co_bool {a b : Bool} (h : a = b) : Co (.d (.bool a)) (.d (.bool b)) := h ▸ co_refl _
set_option maxHeartbeats 2000000 in
theorem pFits (x : XV) (k : Int) : Pure Tryd.prog 69 [x.v, .d (.int .i64 k)] (.d (.bool (fitsV x k))) := by
  refine pure_intro Tryd.func69 rfl rfl rfl 59 rfl (fun hh => ?_)
  obtain ⟨ty, nu, n, s⟩ := x
  unfold XV.v XV.c
  repeat' (first
    | ((with_reducible (first
     | (refine PW.seq fun K1 hK1 => ?_) | (refine PW.region fun K2 hK2 => ?_) | ((refine hK3 _ ?_; clear hK3)) | ((refine opsP_nil ?_; refine hK2 _ ?_; clear hK2)) 
     | (refine PW.block ?_) | (refine PW.skip ?_) | (refine PW.ret ?_) | ((refine hX1 ?_; clear hX1 hY1; try simp only [hb])) | ((refine hY1 ?_; clear hX1 hY1; try simp only [hb])) )))
    | (((first | (with_reducible refine wantB_intro (fun hb => ?_) (fun hb => ?_)) | (with_reducible refine condB_intro (fun hb => ?_) (fun hb => ?_))) <;> ((try (have hp := hb; simp only [PmH] at hp)); try simp only [hb, Bool.not_true, Bool.not_false])))
    | (((with_reducible refine cC_pure ?_ (pIndexS ?_ ?_ ?_) (fun _ => ?_)); (focus ((repeat' (first | (refine .cons ?_ ?_) | (exact .nil) | (exact .d _) )) <;> (simp only [purAs, purA, Vf, Bool.and_self, XV.v, XV.c]; done)))))
    | (((with_reducible refine And.intro ?_ ?_); (focus (first | omega | (simp; done) | assumption))))
    | ((simp only [thenP, blockP]; (try ((repeat (fail_if_success (with_reducible refine hK1 _ ?_)); clear hK1); (with_reducible refine hK1 _ ?_); clear hK1))))
    | ((with_reducible omega))
    | (((first | (((with_reducible refine opsP_cons fun K3 hK3 => ?_); simp only [wantP, opP, valP, Ur, Us])) | ((with_reducible refine PW.condM fun X1 Y1 hX1 hY1 => ?_)) | (skip)); simp (disch := omega) only [wantB_tt, wantB_ff, wantB_tf, wantB_ft, St.eval, St.put, upd_app, iniT_app, avOf, avOf1, nom, cellsA, AV.okv, loadA, lenP, binP, intsP, intP, strP, eqP, nilP, builtinP, bsz, U1, isMapA, slA, U7, U8, Ua, Ub, Ug, Uk, Ul, Us, Ut, Uv, Uz, V4, V9, Va, Ve, Vs, PmL, simprocAttr, PmT, retQ, resP, tupA, fg, condP, condB_t, condB_f]; try (with_reducible (first | exact co_refl _ | exact co_own _ _ _ | exact co_nilsB | exact co_nilsL _ _)))))
  all_goals refine co_bool ?_
  all_goals unfold fitsV
  all_goals first
    | (simp_all; done)
    | (simp_all; omega)
end PM
end Go.Proofs.YtfkemeamimcnjaaDoor
