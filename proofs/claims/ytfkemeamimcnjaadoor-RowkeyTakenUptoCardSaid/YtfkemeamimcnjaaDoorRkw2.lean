/- rowkey, plainly: both ways of reading an entry answer the same. No program in sight. -/
import Derived.Test.YtfkemeamimcnjaaDoorRku2
import Derived.Test.YtfkemeamimcnjaaDoorRkv3
namespace Go.Proofs.YtfkemeamimcnjaaDoor
open Go.RowKit
set_option maxRecDepth 100000
namespace PM
/-- what was not read is filled in -/
def fillS : List Col → List XV → List XV
  | c :: C, v :: R => (if v.ty = 0 then defV c else v) :: fillS C R
  | _, R => R
theorem fillS_len : ∀ (C : List Col) (R : List XV), (fillS C R).length = R.length
  | [], R => by cases R <;> rfl
  | c :: C, [] => rfl
  | c :: C, v :: R => by unfold fillS; rw [List.length_cons, List.length_cons, fillS_len C R]
theorem fillS_get : ∀ {C : List Col} {R : List XV} {j : Nat} {c : Col} {v : XV}, C[j]? = some c → R[j]? = some v → (fillS C R)[j]? = some (if v.ty = 0 then defV c else v)
  | [], _, j, c, v, h, _ => by simp at h
  | _ :: _, [], j, c, v, _, h => by simp at h
  | a :: C, b :: R, 0, c, v, h, g => by
    simp only [List.getElem?_cons_zero, Option.some.injEq] at h g
    subst h g
    rfl
  | a :: C, b :: R, j + 1, c, v, h, g => by
    rw [List.getElem?_cons_succ] at h g
    unfold fillS
    rw [List.getElem?_cons_succ]
    exact fillS_get h g
def tk1 (T : Tb) (X : Idx) (K : List Int) : List XV × Option (List Int) := takenS T X.cols (List.replicate T.cols.length z4, K.drop 17)
def tk2 (T : Tb) (X : Idx) (K : List Int) : List XV × Option (List Int) := takenS T T.key ((tk1 T X K).1, (tk1 T X K).2.getD [])
def tEntS (T : Tb) (X : Idx) (K V : List Int) : List XV × List XV × Int :=
  if tabled T X.cols = false then ([], [], 1)
  else if K.length < 17 ∨ 256 < K.length ∨ 0 < V.length ∨ ¬ K.take 17 = begB [T.id, X.id] then ([], [], 200)
  else if (tk1 T X K).2.isSome = false ∨ (tk2 T X K).2.isSome = false ∨ 0 < ((tk2 T X K).2.getD []).length then ([], [], 200)
  else if entryKV T X (fillS T.cols (tk2 T X K).1) = (K, [], 0) then (someV (tk1 T X K).1 X.cols, someV (tk2 T X K).1 T.key, 0) else ([], [], 200)
theorem tkL_rng : ∀ {l : List Int}, Rng l → Rng (Codec.tkL l).1
  | [], _ => by rw [Codec.tkL]; exact fun x hx => by simp at hx
  | [x], _ => by rw [Codec.tkL]; exact fun x hx => by simp at hx
  | x :: y :: r, h => by
    have h1 := tkL_rng (l := r) (fun z hz => h z (by simp [hz]))
    have h2 := tkL_rng (l := y :: r) (fun z hz => h z (List.mem_cons_of_mem _ hz))
    have hx := h x (by simp)
    rw [Codec.tkL]
    split
    · split
      · exact fun z hz => by simp at hz
      · split
        · split
          · exact fun z hz => by
              simp only [List.mem_cons] at hz
              rcases hz with rfl | hz
              · decide
              · exact h1 z hz
          · exact fun z hz => by simp at hz
        · exact fun z hz => by simp at hz
    · split
      · exact fun z hz => by
          simp only [List.mem_cons] at hz
          rcases hz with rfl | hz
          · exact hx
          · exact h2 z hz
      · exact fun z hz => by simp at hz
theorem rng_drop {l : List Int} (h : Rng l) (n : Nat) : Rng (l.drop n) := fun x hx => h x (List.mem_of_mem_drop hx)
theorem wentS_rng {st : Rdr} (m e : Int) (h : Rng st.1) : Rng (wentS st m e).1 := by
  unfold wentS
  split
  · exact rng_drop h _
  · exact h
theorem valS_ok {k : Int} {st : Rdr} (h : Rng st.1) : okX (valS Codec.tkL 2 k st).1 ∧ Rng (valS Codec.tkL 2 k st).2.1 := by
  obtain ⟨-, h1⟩ := byteS_rng h
  have h2 := byteS_rng h1
  have nil : Rng [] := fun x hx => by simp at hx
  unfold valS
  split
  · exact ⟨⟨by simp only; omega, nil⟩, h1⟩
  · split
    · have hb := takeKeyIntF_bd h1
      exact ⟨⟨⟨hb.1, hb.2.1⟩, nil⟩, wentS_rng _ _ h1⟩
    · split
      · exact ⟨⟨by simp only; omega, nil⟩, h2.2⟩
      · exact ⟨⟨by simp only; omega, tkL_rng h1⟩, wentS_rng _ _ h1⟩
theorem keysS_ok (T : Tb) : ∀ (l : List Int) (x : List XV × Rdr), (∀ v ∈ x.1, okX v) → Rng x.2.1 → (∀ v ∈ (keysS T l x).1, okX v) ∧ Rng (keysS T l x).2.1
  | [], x, h, g => ⟨h, g⟩
  | i :: l, x, h, g => by
    unfold keysS
    have hv := valS_ok (k := tyAt T i) g
    exact keysS_ok T l _ (fun v hv' => by
      rcases List.mem_or_eq_of_mem_set hv' with h1 | h1
      · exact h v h1
      · rw [h1]; exact hv.1) hv.2
theorem okX_def (c : Col) : okX (defV c) := ⟨by unfold defV; simp only; omega, fun x hx => by simp [defV] at hx⟩
theorem okX_z4 : okX z4 := ⟨by unfold z4; decide, fun x hx => by simp [z4] at hx⟩
theorem fillS_ok : ∀ {C : List Col} {R : List XV}, (∀ v ∈ R, okX v) → ∀ v ∈ fillS C R, okX v
  | [], R, h => by cases R <;> exact h
  | c :: C, [], h => h
  | c :: C, a :: R, h => fun v hv => by
    unfold fillS at hv
    rcases List.mem_cons.1 hv with rfl | hv
    · split
      · exact okX_def c
      · exact h a (by simp)
    · exact fillS_ok (C := C) (fun z hz => h z (List.mem_cons_of_mem _ hz)) v hv
/-- a program's answer, unless it refuses, is the entry of a row -/
theorem takeEntS_row {T : Tb} {X : Idx} {K V : List Int} (hK : Rng K) : takeEntS T X K V = ([], [], 1) ∧ tabled T X.cols = false ∨ takeEntS T X K V = ([], [], 200) ∨ ∃ R, entryKV T X R = (K, [], 0) ∧ (∀ v ∈ R, okX v) ∧ V = [] := by
  unfold takeEntS
  cases ht : tabled T X.cols
  · exact .inl ⟨rfl, rfl⟩
  · right
    simp only [Bool.true_eq_false, if_false]
    by_cases h1 : 0 < V.length ∨ 256 < K.length ∨ ¬ (17 ≤ K.length ∧ K.take 17 = begB [T.id, X.id])
    · rw [if_pos h1]; exact .inl rfl
    · rw [if_neg h1]
      by_cases h2 : (ent2 T X K).2.2 = true ∨ entryKV T X (ent2 T X K).1 ≠ (K, [], 0)
      · rw [if_pos h2]; exact .inl rfl
      · rw [not_or] at h1 h2
        have o1 := keysS_ok T X.cols (T.cols.map defV, K.drop 17, false) (fun v hv => by obtain ⟨c, -, rfl⟩ := List.mem_map.1 hv; exact okX_def c) (rng_drop hK _)
        have o2 := keysS_ok T T.key (ent1 T X K) o1.1 o1.2
        exact .inr ⟨(ent2 T X K).1, Decidable.not_not.1 h2.2, o2.1, List.eq_nil_of_length_eq_zero (by omega)⟩
theorem tk_ok {T : Tb} {X : Idx} {K : List Int} (hK : Rng K) (h : (tk1 T X K).2.isSome = true) (g : (tk2 T X K).2.isSome = true) : ∀ v ∈ (tk2 T X K).1, okX v := by
  have o1 := keysS_ok T X.cols (List.replicate T.cols.length z4, K.drop 17, false) (fun v hv => by rw [(List.mem_replicate.1 hv).2]; exact okX_z4) (rng_drop hK _)
  rcases taken_keys T X.cols (List.replicate T.cols.length z4) (K.drop 17) with ⟨h1, -⟩ | ⟨h1, -⟩
  · rw [show takenS T X.cols (List.replicate T.cols.length z4, K.drop 17) = tk1 T X K from rfl] at h1
    rw [h1] at h
    simp at h
  · rw [show takenS T X.cols (List.replicate T.cols.length z4, K.drop 17) = tk1 T X K from rfl] at h1
    unfold tk2 at g ⊢
    rw [h1] at g ⊢
    simp only [Option.getD_some] at g ⊢
    have o2 := keysS_ok T T.key ((keysS T X.cols (List.replicate T.cols.length z4, K.drop 17, false)).1, (keysS T X.cols (List.replicate T.cols.length z4, K.drop 17, false)).2.1, false) o1.1 o1.2
    rcases taken_keys T T.key (keysS T X.cols (List.replicate T.cols.length z4, K.drop 17, false)).1 (keysS T X.cols (List.replicate T.cols.length z4, K.drop 17, false)).2.1 with ⟨h2, -⟩ | ⟨h2, -⟩
    · rw [h2] at g
      simp at g
    · rw [h2]
      exact o2.1
/-- the document's, likewise -/
theorem tEntS_row {T : Tb} {X : Idx} {K V : List Int} (hK : Rng K) : tEntS T X K V = ([], [], 1) ∧ tabled T X.cols = false ∨ tEntS T X K V = ([], [], 200) ∨ ∃ R, entryKV T X R = (K, [], 0) ∧ (∀ v ∈ R, okX v) ∧ V = [] := by
  unfold tEntS
  cases ht : tabled T X.cols
  · exact .inl ⟨rfl, rfl⟩
  · right
    simp only [Bool.true_eq_false, if_false]
    by_cases h1 : K.length < 17 ∨ 256 < K.length ∨ 0 < V.length ∨ ¬ K.take 17 = begB [T.id, X.id]
    · rw [if_pos h1]; exact .inl rfl
    · rw [if_neg h1]
      by_cases h2 : (tk1 T X K).2.isSome = false ∨ (tk2 T X K).2.isSome = false ∨ 0 < ((tk2 T X K).2.getD []).length
      · rw [if_pos h2]; exact .inl rfl
      · rw [if_neg h2]
        by_cases h3 : entryKV T X (fillS T.cols (tk2 T X K).1) = (K, [], 0)
        · rw [not_or, not_or, not_or] at h1
          rw [not_or, not_or] at h2
          exact .inr ⟨_, h3, fillS_ok (tk_ok hK (eq_true_of_ne_false h2.1) (eq_true_of_ne_false h2.2.1)), List.eq_nil_of_length_eq_zero (by omega)⟩
        · rw [if_neg h3]; exact .inl rfl
theorem tEntS_back {T : Tb} {X : Idx} {R : List XV} (h : (entryKV T X R).2.2 = 0) (ok : ∀ v ∈ R, okX v) : tEntS T X (entryKV T X R).1 [] = (someV R X.cols, someV R T.key, 0) := by
  obtain ⟨h1, h2, h3⟩ := entryKV_ok h
  have hc := tabled_cols h1
  have hin := tabled_in h1
  have hlen : R.length = T.cols.length := Classical.byContradiction fun e => by rw [rowFits_len e] at h2; cases h2
  have h4 : (entB T X R).length ≤ 256 := by
    have := (takeEntS_back h ok).2
    rwa [h3] at this
  rw [h3]
  have hbl : (begB [T.id, X.id]).length = 17 := begB_len _
  have ht : (entB T X R).take 17 = begB [T.id, X.id] := by unfold entB; rw [List.take_left' hbl]
  have hd : (entB T X R).drop 17 = keysOf R X.cols ++ (keysOf R T.key ++ []) := by unfold entB; rw [List.drop_left' hbl, List.append_nil]
  have hl17 : 17 ≤ (entB T X R).length := by unfold entB; rw [List.length_append, hbl]; omega
  have ks : ∀ (l : List Int) (R0 : List XV) (b : List Int), (∀ i ∈ l, 0 ≤ i ∧ i < T.cols.length) → takenS T l (R0, keysOf R l ++ b) = (putAt R l R0, some b) := fun l R0 b hl => by
    have e := keysS_back hc h2 ok b false l R0 hl
    rcases taken_keys T l R0 (keysOf R l ++ b) with ⟨-, g⟩ | ⟨g, -⟩
    · rw [e] at g; simp at g
    · rw [g, e]
  have e1 : tk1 T X (entB T X R) = (putAt R X.cols (List.replicate T.cols.length z4), some (keysOf R T.key ++ [])) := by
    unfold tk1
    rw [hd]
    exact ks X.cols _ _ hin.2
  have e2 : tk2 T X (entB T X R) = (putAt R T.key (putAt R X.cols (List.replicate T.cols.length z4)), some []) := by
    unfold tk2
    rw [e1]
    exact ks T.key _ _ hin.1
  have l1 : (putAt R X.cols (List.replicate T.cols.length z4)).length = R.length := by rw [putAt_len, List.length_replicate, hlen]
  have l2 : (putAt R T.key (putAt R X.cols (List.replicate T.cols.length z4))).length = R.length := by rw [putAt_len, l1]
  have nn := fun i hi => (hin.1 i hi).1
  have nx := fun i hi => (hin.2 i hi).1
  have v1 : ∀ i ∈ X.cols, (putAt R X.cols (List.replicate T.cols.length z4))[i.toNat]? = R[i.toNat]? := fun i hi => by
    have hb := hin.2 i hi
    exact putAt_get R i.toNat (by omega) X.cols _ nx (by rw [List.length_replicate]; omega) (.inl (by rw [Int.toNat_of_nonneg hb.1]; exact hi))
  have v2 : ∀ i ∈ T.key, (putAt R T.key (putAt R X.cols (List.replicate T.cols.length z4)))[i.toNat]? = R[i.toNat]? := fun i hi => by
    have hb := hin.1 i hi
    exact putAt_get R i.toNat (by omega) T.key _ nn (by omega) (.inl (by rw [Int.toNat_of_nonneg hb.1]; exact hi))
  have v3 : ∀ i ∈ X.cols, (putAt R T.key (putAt R X.cols (List.replicate T.cols.length z4)))[i.toNat]? = R[i.toNat]? := fun i hi => by
    have hb := hin.2 i hi
    exact putAt_get R i.toNat (by omega) T.key _ nn (by omega) (.inr (v1 i hi))
  have hty := rowFits_ty hc h2
  have fl : ∀ (j : Nat), j < R.length → (putAt R T.key (putAt R X.cols (List.replicate T.cols.length z4)))[j]? = R[j]? → (fillS T.cols (putAt R T.key (putAt R X.cols (List.replicate T.cols.length z4))))[j]? = R[j]? := fun j hj he => by
    obtain ⟨c, hcc⟩ : ∃ c, T.cols[j]? = some c := ⟨_, List.getElem?_eq_getElem (by omega)⟩
    obtain ⟨v, hv⟩ : ∃ v, R[j]? = some v := ⟨_, List.getElem?_eq_getElem hj⟩
    rw [fillS_get hcc (he.trans hv), hv, if_neg (by have := hty v (List.mem_of_getElem? hv); omega)]
  have hfit : rowFits (fillS T.cols (putAt R T.key (putAt R X.cols (List.replicate T.cols.length z4)))) T.cols = true := by
    refine rowFits_ok (by rw [fillS_len, l2, hlen]) fun k v c hv hcc => ?_
    have hkl : k < R.length := by rw [← l2, ← fillS_len T.cols]; exact (List.getElem?_eq_some_iff.1 hv).1
    have hkk : 1 ≤ c.ty ∧ c.ty ≤ 3 := by
      unfold colsOk at hc
      rw [List.all_eq_true] at hc
      simpa using hc c (List.mem_of_getElem? hcc)
    have hR : ∀ v', R[k]? = some v' → okVC v' c = true := fun v' hv' => by
      cases hf : okVC v' c
      · rw [rowFits_no hv' hcc hf] at h2; cases h2
      · rfl
    have hor : ∀ (l : List Int) (R0 : List XV), (∀ i ∈ l, 0 ≤ i) → k < R0.length → (putAt R l R0)[k]? = R[k]? ∨ (putAt R l R0)[k]? = R0[k]? := by
      intro l
      induction l with
      | nil => intro R0 _ _; exact .inr rfl
      | cons i l ih =>
        intro R0 hp h0
        unfold putAt
        by_cases he : (k : Int) = i
        · left
          refine putAt_get R k hkl l _ (fun x hx => hp x (List.mem_cons_of_mem _ hx)) (by simpa using h0) (.inr ?_)
          subst he
          rw [Int.toNat_natCast, List.getElem?_set_self h0]
          unfold valAt
          rw [Int.toNat_natCast, List.getD_eq_getElem?_getD, List.getElem?_eq_getElem hkl]
          rfl
        · have := ih (R0.set i.toNat (valAt R i)) (fun x hx => hp x (List.mem_cons_of_mem _ hx)) (by simpa using h0)
          have hi := hp i (by simp)
          rw [List.getElem?_set_ne (show i.toNat ≠ k by omega)] at this
          exact this
    have hz : ∀ u, (putAt R T.key (putAt R X.cols (List.replicate T.cols.length z4)))[k]? = some u → u = z4 ∨ R[k]? = some u := fun u hu => by
      rcases hor T.key (putAt R X.cols (List.replicate T.cols.length z4)) nn (by omega) with g | g
      · right; rw [← g]; exact hu
      · rcases hor X.cols (List.replicate T.cols.length z4) nx (by rw [List.length_replicate]; omega) with g2 | g2
        · right; rw [← g2, ← g]; exact hu
        · left
          rw [g, g2, List.getElem?_replicate] at hu
          split at hu
          · cases hu; rfl
          · cases hu
    obtain ⟨u, hu⟩ : ∃ u, (putAt R T.key (putAt R X.cols (List.replicate T.cols.length z4)))[k]? = some u := ⟨_, List.getElem?_eq_getElem (by omega)⟩
    rw [fillS_get hcc hu] at hv
    rcases hz u hu with rfl | hRu
    · rw [if_pos (show z4.ty = 0 from rfl)] at hv
      cases hv
      exact defV_ok hkk
    · rw [if_neg (by have := hty u (List.mem_of_getElem? hRu); omega)] at hv
      cases hv
      exact hR _ hRu
  have hE : entB T X (fillS T.cols (putAt R T.key (putAt R X.cols (List.replicate T.cols.length z4)))) = entB T X R := by
    unfold entB
    rw [keysOf_eq (fun i hi => valAt_get (fl _ (by have := hin.2 i hi; omega) (v3 i hi))), keysOf_eq (fun i hi => valAt_get (fl _ (by have := hin.1 i hi; omega) (v2 i hi)))]
  unfold tEntS
  rw [if_neg (by rw [h1]; simp), if_neg (by rw [not_or, not_or, not_or]; exact ⟨by omega, by omega, by simp, by simpa using ht⟩), e2, e1]
  simp only [Option.isSome_some, Option.getD_some, List.length_nil]
  rw [if_neg (by simp), entryKV_val h1 hfit (by rw [hE]; exact h4), hE, if_pos rfl, someV_eq (fun i hi => valAt_get (v1 i hi)), someV_eq (fun i hi => valAt_get (v2 i hi))]
theorem takeEnt_same (T : Tb) (X : Idx) (K V : List Int) (hK : Rng K) : tEntS T X K V = takeEntS T X K V := by
  have key : ∀ R, entryKV T X R = (K, [], 0) → (∀ v ∈ R, okX v) → V = [] → tEntS T X K V = takeEntS T X K V := fun R h ok hV => by
    have h0 : (entryKV T X R).2.2 = 0 := by rw [h]
    have a := tEntS_back h0 ok
    have b := (takeEntS_back h0 ok).1
    rw [h] at a b
    subst hV
    rw [a, b]
  rcases tEntS_row (T := T) (X := X) (V := V) hK with ⟨h1, h2⟩ | h1 | ⟨R, h1, h2, h3⟩
  · rw [h1]
    unfold takeEntS
    rw [if_pos h2]
  · rcases takeEntS_row (T := T) (X := X) (V := V) hK with ⟨g1, g2⟩ | g1 | ⟨R, g1, g2, g3⟩
    · rw [g1]
      unfold tEntS
      rw [if_pos g2]
    · rw [h1, g1]
    · exact key R g1 g2 g3
  · exact key R h1 h2 h3
end PM
end Go.Proofs.YtfkemeamimcnjaaDoor
