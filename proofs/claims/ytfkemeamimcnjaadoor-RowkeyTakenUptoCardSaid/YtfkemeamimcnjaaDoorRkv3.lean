/- rowkey, plainly: an entry that was laid down is read again. No program in sight. -/
import Derived.Test.YtfkemeamimcnjaaDoorRkv2
import Derived.Test.YtfkemeamimcnjaaDoorRkt5
namespace Go.Proofs.YtfkemeamimcnjaaDoor
open Go.RowKit
set_option maxRecDepth 100000
namespace PM
theorem someV_eq {A B : List XV} : ∀ {l : List Int}, (∀ i ∈ l, valAt A i = valAt B i) → someV A l = someV B l
  | [], _ => rfl
  | i :: l, h => by
    unfold someV
    rw [List.map_cons, List.map_cons, h i (by simp)]
    exact congrArg _ (someV_eq (fun j hj => h j (List.mem_cons_of_mem _ hj)))
theorem keysOf_eq {A B : List XV} : ∀ {l : List Int}, (∀ i ∈ l, valAt A i = valAt B i) → keysOf A l = keysOf B l
  | [], _ => rfl
  | i :: l, h => by
    rw [keysOf_cons, keysOf_cons, h i (by simp), keysOf_eq (fun j hj => h j (List.mem_cons_of_mem _ hj))]
theorem valAt_get {A B : List XV} {i : Int} (h : A[i.toNat]? = B[i.toNat]?) : valAt A i = valAt B i := by
  unfold valAt
  rw [List.getD_eq_getElem?_getD, List.getD_eq_getElem?_getD, h]
theorem defV_ok {c : Col} (h : 1 ≤ c.ty ∧ c.ty ≤ 3) : okVC (defV c) c = true := by
  obtain ⟨nm, ty, nn, df⟩ := c
  simp only at h
  unfold okVC fitsV defV
  rcases (by omega : ty = 1 ∨ ty = 2 ∨ ty = 3) with rfl | rfl | rfl <;> cases nn <;> rfl
theorem entryKV_val {T : Tb} {X : Idx} {R : List XV} (h1 : tabled T X.cols = true) (h2 : rowFits R T.cols = true) (h3 : (entB T X R).length ≤ 256) : entryKV T X R = (entB T X R, [], 0) := by
  unfold entryKV
  rw [if_neg (by rw [h1]; simp), if_neg (by rw [h2]; simp), if_neg (by omega)]
theorem takeEntS_back {T : Tb} {X : Idx} {R : List XV} (h : (entryKV T X R).2.2 = 0) (ok : ∀ v ∈ R, okX v) : takeEntS T X (entryKV T X R).1 [] = (someV R X.cols, someV R T.key, 0) ∧ (entryKV T X R).1.length ≤ 256 := by
  obtain ⟨h1, h2, h3⟩ := entryKV_ok h
  have hc := tabled_cols h1
  have hin := tabled_in h1
  have hlen : R.length = T.cols.length := Classical.byContradiction fun e => by rw [rowFits_len e] at h2; cases h2
  have h4 : (entB T X R).length ≤ 256 := by
    unfold entryKV at h
    rw [if_neg (by rw [h1]; simp), if_neg (by rw [h2]; simp)] at h
    split at h
    · simp at h
    · omega
  rw [h3]
  refine ⟨?_, h4⟩
  have hbl : (begB [T.id, X.id]).length = 17 := begB_len _
  have ht : (entB T X R).take 17 = begB [T.id, X.id] := by unfold entB; rw [List.take_left' hbl]
  have hd : (entB T X R).drop 17 = keysOf R X.cols ++ (keysOf R T.key ++ []) := by unfold entB; rw [List.drop_left' hbl, List.append_nil]
  have hl17 : 17 ≤ (entB T X R).length := by unfold entB; rw [List.length_append, hbl]; omega
  have e1 : ent1 T X (entB T X R) = (putAt R X.cols (T.cols.map defV), keysOf R T.key ++ [], false) := by
    unfold ent1
    rw [hd]
    exact keysS_back hc h2 ok _ false X.cols _ hin.2
  have e2 : ent2 T X (entB T X R) = (putAt R T.key (putAt R X.cols (T.cols.map defV)), [], false) := by
    unfold ent2
    rw [e1]
    exact keysS_back hc h2 ok [] false T.key _ hin.1
  have l1 : (putAt R X.cols (T.cols.map defV)).length = R.length := by rw [putAt_len, List.length_map, hlen]
  have l2 : (putAt R T.key (putAt R X.cols (T.cols.map defV))).length = R.length := by rw [putAt_len, l1]
  have nn := fun i hi => (hin.1 i hi).1
  have nx := fun i hi => (hin.2 i hi).1
  have v1 : ∀ i ∈ X.cols, (putAt R X.cols (T.cols.map defV))[i.toNat]? = R[i.toNat]? := fun i hi => by
    have hb := hin.2 i hi
    exact putAt_get R i.toNat (by omega) X.cols _ nx (by rw [List.length_map]; omega) (.inl (by rw [Int.toNat_of_nonneg hb.1]; exact hi))
  have v2 : ∀ i ∈ T.key, (putAt R T.key (putAt R X.cols (T.cols.map defV)))[i.toNat]? = R[i.toNat]? := fun i hi => by
    have hb := hin.1 i hi
    exact putAt_get R i.toNat (by omega) T.key _ nn (by omega) (.inl (by rw [Int.toNat_of_nonneg hb.1]; exact hi))
  have v3 : ∀ i ∈ X.cols, (putAt R T.key (putAt R X.cols (T.cols.map defV)))[i.toNat]? = R[i.toNat]? := fun i hi => by
    have hb := hin.2 i hi
    exact putAt_get R i.toNat (by omega) T.key _ nn (by omega) (.inr (v1 i hi))
  have hfit : rowFits (putAt R T.key (putAt R X.cols (T.cols.map defV))) T.cols = true := by
    refine rowFits_ok (by rw [l2, hlen]) fun k v c hv hcc => ?_
    have hkl : k < R.length := by rw [← l2]; exact (List.getElem?_eq_some_iff.1 hv).1
    have hkk : 1 ≤ c.ty ∧ c.ty ≤ 3 := by
      unfold colsOk at hc
      rw [List.all_eq_true] at hc
      simpa using hc c (List.mem_of_getElem? hcc)
    have hR : ∀ v', R[k]? = some v' → okVC v' c = true := fun v' hv' => by
      cases hf : okVC v' c
      · rw [rowFits_no hv' hcc hf] at h2; cases h2
      · rfl
    have hor : ∀ (l : List Int) (R0 : List XV), (∀ i ∈ l, 0 ≤ i) → k < R0.length → (putAt R l R0)[k]? = R[k]? ∨ (putAt R l R0)[k]? = R0[k]? := by
      intro l
      induction l with
      | nil => intro R0 _ _; exact .inr rfl
      | cons i l ih =>
        intro R0 hp h0
        unfold putAt
        by_cases he : (k : Int) = i
        · left
          refine putAt_get R k hkl l _ (fun x hx => hp x (List.mem_cons_of_mem _ hx)) (by simpa using h0) (.inr ?_)
          subst he
          rw [Int.toNat_natCast, List.getElem?_set_self h0]
          unfold valAt
          rw [Int.toNat_natCast, List.getD_eq_getElem?_getD, List.getElem?_eq_getElem hkl]
          rfl
        · have := ih (R0.set i.toNat (valAt R i)) (fun x hx => hp x (List.mem_cons_of_mem _ hx)) (by simpa using h0)
          have hi := hp i (by simp)
          rw [List.getElem?_set_ne (show i.toNat ≠ k by omega)] at this
          exact this
    rcases hor T.key (putAt R X.cols (T.cols.map defV)) nn (by omega) with g | g
    · rw [g] at hv; exact hR v hv
    · rcases hor X.cols (T.cols.map defV) nx (by rw [List.length_map]; omega) with g2 | g2
      · rw [g, g2] at hv; exact hR v hv
      · rw [g, g2, List.getElem?_map, hcc] at hv
        cases hv
        exact defV_ok hkk
  have hE : entB T X (putAt R T.key (putAt R X.cols (T.cols.map defV))) = entB T X R := by
    unfold entB
    rw [keysOf_eq (fun i hi => valAt_get (v3 i hi)), keysOf_eq (fun i hi => valAt_get (v2 i hi))]
  unfold takeEntS
  rw [if_neg (by rw [h1]; simp), if_neg (by rw [not_or, not_or]; exact ⟨by simp, by omega, by simpa using ⟨hl17, ht⟩⟩), e2, e1]
  simp only
  rw [entryKV_val h1 hfit (by rw [hE]; exact h4), hE]
  rw [if_neg (by simp), someV_eq (fun i hi => valAt_get (v1 i hi)), someV_eq (fun i hi => valAt_get (v2 i hi))]
end PM
end Go.Proofs.YtfkemeamimcnjaaDoor
