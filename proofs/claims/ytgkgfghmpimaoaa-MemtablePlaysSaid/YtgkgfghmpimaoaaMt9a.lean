/- memtable: Put: how the pointers turn (plain, in the world). -/
import Derived.Test.YtgkgfghmpimaoaaMt8
set_option linter.unusedVariables false
set_option linter.unusedSimpArgs false
namespace Go.Proofs.Ytgkgfghmpimaoaa
open Go.RowKit
namespace Mt
/-- the new list -/
def insN (L : List Nd) (pos : Nat) (n : Nd) : List Nd := L.take pos ++ n :: L.drop pos
/-- what stands at level j behind the node idx, when i levels are done -/
def ptrOf (L : List Nd) (pos : Nat) (n : Nd) (i idx j : Nat) : Option Addr := if j < i ∧ idx ≤ pos then nxt ((insN L pos n).drop idx) j else nxt (L.drop idx) j
def RowsOf (hd : Nd) (L : List Nd) (n : Nd) (b : Nat) : Prop := ∃ nd ∈ n :: hd :: L, b = nd.r
structure PutI (w wr : World) (hd : Nd) (L : List Nd) (pos : Nat) (n : Nd) (i : Nat) : Prop where
  chg : Chg (RowsOf hd L n) w wr
  rows : ∀ idx nd, (hd :: L)[idx]? = some nd → ∀ j, j < nd.h → wr.cell? ⟨nd.r, j, none⟩ = some (.pointer (ptrOf L pos n i idx j))
  nrow : ∀ j, j < n.h → wr.cell? ⟨n.r, j, none⟩ = some (.pointer (if j < i then nxt (L.drop pos) j else none))
  typ : ∀ nd ∈ n :: hd :: L, ∃ cur, wr.heap[nd.r]? = some (.cells cur 54 (0, 0)) ∧ cur.size = nd.h
theorem nxt_app (A B : List Nd) (j : Nat) : nxt (A ++ B) j = match nxt A j with | some a => some a | none => nxt B j := by
  unfold nxt
  rw [List.find?_append]
  cases A.find? (fun n => decide (j < n.h)) <;> rfl
theorem insN_drop {L : List Nd} {pos : Nat} (hp : pos ≤ L.length) (n : Nd) {idx : Nat} (h : idx ≤ pos) : (insN L pos n).drop idx = (L.take pos).drop idx ++ n :: L.drop pos := by
  unfold insN
  rw [List.drop_append_of_le_length (by rw [List.length_take]; omega)]
theorem old_drop {L : List Nd} {pos idx : Nat} (hp : pos ≤ L.length) (h : idx ≤ pos) : L.drop idx = (L.take pos).drop idx ++ L.drop pos := by
  conv => lhs; rw [← List.take_append_drop pos L]
  rw [List.drop_append_of_le_length (by rw [List.length_take]; omega)]
theorem nxt_none {A : List Nd} {j : Nat} (h : ∀ a ∈ A, a.h ≤ j) : nxt A j = none := by
  unfold nxt
  rw [List.find?_eq_none.2 (fun a ha => by have := h a ha; simp; omega)]
  rfl
theorem mem_seg {L : List Nd} {pos idx : Nat} {a : Nd} (h : a ∈ (L.take pos).drop idx) : ∃ k, idx ≤ k ∧ k < pos ∧ L[k]? = some a := by
  obtain ⟨k, hk⟩ := List.mem_iff_getElem?.1 h
  rw [List.getElem?_drop] at hk
  have hlt := (List.getElem?_eq_some_iff.1 hk).1
  rw [List.length_take] at hlt
  refine ⟨idx + k, by omega, by omega, ?_⟩
  rwa [List.getElem?_take_of_lt (by omega)] at hk
/-- what the levels come to -/
theorem ptr_step {hd : Nd} {L : List Nd} {pos : Nat} (n : Nd) (hp : pos ≤ L.length) (hh : hd.h = 12) {i : Nat} (hi : i < n.h) (h12 : n.h ≤ 12) {idx : Nat} {nd : Nd} (hx : (hd :: L)[idx]? = some nd) {j : Nat} (hj : j < nd.h) :
    ptrOf L pos n (i + 1) idx j = if idx = behL (hts L) pos i ∧ j = i then some ⟨n.b, 0, none⟩ else ptrOf L pos n i idx j := by
  obtain ⟨nb, h1, h2, h3, h4, h5⟩ := beh_spec (hd := hd) (L := L) pos hp hh (j := i) (by omega)
  unfold ptrOf
  by_cases hji : j = i
  · subst hji
    rw [if_neg (by omega : ¬ (j < j ∧ idx ≤ pos))]
    by_cases hk : idx = behL (hts L) pos j
    · rw [if_pos ⟨by omega, by omega⟩, if_pos ⟨hk, rfl⟩, insN_drop hp n (by omega), nxt_app, nxt_none (fun a ha => by
        obtain ⟨k, k1, k2, k3⟩ := mem_seg ha
        exact h5 k a (by omega) k2 k3)]
      simp only [nxt, List.find?_cons, hi, decide_true, Option.map_some]
    · rw [if_neg (fun h => hk h.1 : ¬ (idx = behL (hts L) pos j ∧ j = j))]
      by_cases hip : idx ≤ pos
      · rw [if_pos ⟨by omega, hip⟩, insN_drop hp n hip, old_drop hp hip, nxt_app, nxt_app]
        rcases Nat.lt_or_gt_of_ne hk with hlt | hgt
        · -- a node between stands so high
          have hmem : ∃ a, nxt ((L.take pos).drop idx) j = some a := by
            unfold nxt
            cases hf : ((L.take pos).drop idx).find? (fun n => decide (j < n.h)) with
            | some a => exact ⟨_, rfl⟩
            | none =>
              exfalso
              obtain ⟨q, hq⟩ : ∃ q, behL (hts L) pos j = q + 1 := ⟨behL (hts L) pos j - 1, by omega⟩
              rw [hq, List.getElem?_cons_succ] at h1
              have hm : nb ∈ (L.take pos).drop idx := by
                refine List.mem_iff_getElem?.2 ⟨q - idx, ?_⟩
                rw [List.getElem?_drop, List.getElem?_take_of_lt (by omega), show idx + (q - idx) = q by omega]
                exact h1
              have := List.find?_eq_none.1 hf nb hm
              simp at this
              omega
          obtain ⟨a, ha⟩ := hmem
          rw [ha]
        · exfalso
          obtain ⟨q, rfl⟩ : ∃ q, idx = q + 1 := ⟨idx - 1, by omega⟩
          rw [List.getElem?_cons_succ] at hx
          have := h5 q nd (by omega) (by omega) hx
          omega
      · rw [if_neg (fun h => hip h.2 : ¬ (j < j + 1 ∧ idx ≤ pos))]
  · rw [if_neg (fun h => hji h.2 : ¬ (idx = behL (hts L) pos i ∧ j = i))]
    by_cases hlt : j < i
    · by_cases hip : idx ≤ pos
      · rw [if_pos ⟨by omega, hip⟩, if_pos ⟨hlt, hip⟩]
      · rw [if_neg (fun h => hip h.2), if_neg (fun h => hip h.2)]
    · rw [if_neg (by omega), if_neg (by omega)]
/-- above the node's height nothing turns -/
theorem ptr_end {L : List Nd} {pos : Nat} (n : Nd) (hp : pos ≤ L.length) (idx j : Nat) : ptrOf L pos n n.h idx j = if idx ≤ pos then nxt ((insN L pos n).drop idx) j else nxt (L.drop idx) j := by
  unfold ptrOf
  by_cases hip : idx ≤ pos
  · rw [if_pos hip]
    by_cases hj : j < n.h
    · rw [if_pos ⟨hj, hip⟩]
    · rw [if_neg (fun h => hj h.1), insN_drop hp n hip, old_drop hp hip, nxt_app, nxt_app]
      have e : nxt (n :: L.drop pos) j = nxt (L.drop pos) j := by simp [nxt, hj]
      rw [e]
  · rw [if_neg hip, if_neg (fun h => hip h.2)]
theorem cells_set {w : World} {r : Nat} {cur : Array Value} {e : TypeId} {i : Nat} {v : Value} (h : w.heap[r]? = some (.cells cur e (0, 0))) (hi : i < cur.size) : (w.setCell ⟨r, i, none⟩ v).cell? ⟨r, i, none⟩ = some v :=
  World.cell?_setCell_same' _ _ _ (by rw [cell_of_row _ _ _ _ _ _ h, Array.getElem?_eq_getElem hi]; rfl)
theorem PutI.typ_set {wr : World} {nd : Nd} {r i : Nat} {v : Value} (h : ∃ cur, wr.heap[nd.r]? = some (.cells cur 54 (0, 0)) ∧ cur.size = nd.h) : ∃ cur, (wr.setCell ⟨r, i, none⟩ v).heap[nd.r]? = some (.cells cur 54 (0, 0)) ∧ cur.size = nd.h := by
  obtain ⟨cur, h1, h2⟩ := h
  by_cases hr : nd.r = r
  · subst hr
    exact ⟨_, heap_setCell_same _ _ _ _ _ _ h1, by simpa using h2⟩
  · exact ⟨cur, by rw [Below.heap_setCell _ _ _ _ hr]; exact h1, h2⟩
theorem PutI.step {w wr : World} {hd : Nd} {L : List Nd} {pos : Nat} {n nb : Nd} {i : Nat} (h : PutI w wr hd L pos n i) (hp : pos ≤ L.length) (hh : hd.h = 12) (hi : i < n.h) (h12 : n.h ≤ 12) (hne : (n :: hd :: L).Pairwise fun a b => a.r ≠ b.r)
    (hb : (hd :: L)[behL (hts L) pos i]? = some nb) (hbi : i < nb.h) :
    PutI w ((wr.setCell ⟨n.r, i, none⟩ (.pointer (nxt (L.drop pos) i))).setCell ⟨nb.r, i, none⟩ (.pointer (some ⟨n.b, 0, none⟩))) hd L pos n (i + 1) := by
  have hnn : ∀ nd ∈ hd :: L, n.r ≠ nd.r := (List.pairwise_cons.1 hne).1
  have hpw := (List.pairwise_cons.1 hne).2
  have hbm := List.mem_of_getElem? hb
  have uniq : ∀ idx nd, (hd :: L)[idx]? = some nd → nd.r = nb.r → idx = behL (hts L) pos i := fun idx nd hx hr => by
    obtain ⟨l1, e1⟩ := List.getElem?_eq_some_iff.1 hx
    obtain ⟨l2, e2⟩ := List.getElem?_eq_some_iff.1 hb
    rcases Nat.lt_trichotomy idx (behL (hts L) pos i) with q | q | q
    · exact absurd (by rw [e1, e2]; exact hr) (List.pairwise_iff_getElem.1 hpw idx _ l1 l2 q)
    · exact q
    · exact absurd (by rw [e1, e2]; exact hr.symm) (List.pairwise_iff_getElem.1 hpw _ idx l2 l1 q)
  refine ⟨(h.chg.set (p := ⟨n.r, i, none⟩) (fun _ => ⟨n, List.mem_cons_self .., rfl⟩) _).set (p := ⟨nb.r, i, none⟩) (fun _ => ⟨nb, List.mem_cons_of_mem _ hbm, rfl⟩) _, fun idx nd hx j hj => ?_, fun j hj => ?_, fun nd hnd => PutI.typ_set (PutI.typ_set (h.typ nd hnd))⟩
  · rw [ptr_step n hp hh hi h12 hx hj]
    by_cases hk : idx = behL (hts L) pos i ∧ j = i
    · obtain ⟨rfl, rfl⟩ := hk
      rw [hb] at hx
      cases hx
      obtain ⟨cur, c1, c2⟩ := h.typ nb (List.mem_cons_of_mem _ hbm)
      rw [if_pos ⟨rfl, rfl⟩]
      refine cells_set (cur := cur) (e := 54) ?_ (by omega)
      rw [Below.heap_setCell _ _ _ _ (fun e => hnn nb hbm e.symm)]
      exact c1
    · rw [if_neg hk, World.cell?_setCell_other _ _ _ _ (fun e => hk (by
        simp only [Addr.mk.injEq] at e
        exact ⟨uniq idx nd hx e.1.symm, e.2.1.symm⟩)), World.cell?_setCell_other _ _ _ _ (fun e => by
        simp only [Addr.mk.injEq] at e
        exact hnn nd (List.mem_of_getElem? hx) e.1)]
      exact h.rows idx nd hx j hj
  · rw [World.cell?_setCell_other _ _ _ _ (fun e => by
      simp only [Addr.mk.injEq] at e
      exact hnn nb hbm e.1.symm)]
    by_cases hji : j = i
    · subst hji
      obtain ⟨cur, c1, c2⟩ := h.typ n (List.mem_cons_self ..)
      rw [cells_set c1 (by omega), if_pos (by omega)]
    · rw [World.cell?_setCell_other _ _ _ _ (fun e => by
        simp only [Addr.mk.injEq] at e
        exact hji e.2.1.symm), h.nrow j hj]
      by_cases hlt : j < i
      · rw [if_pos hlt, if_pos (by omega)]
      · rw [if_neg hlt, if_neg (by omega)]
end Mt
end Go.Proofs.Ytgkgfghmpimaoaa
