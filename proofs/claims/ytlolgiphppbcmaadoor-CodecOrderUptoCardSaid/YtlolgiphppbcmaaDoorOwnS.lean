/- Bytes of the call's own, whatever their capacity. No program in sight. -/
import Derived.Test.YtlolgiphppbcmaaDoorOwn2
import Derived.Lib.BytesEntry
import Derived.ArgAppend
namespace Go.Proofs.YtlolgiphppbcmaaDoor
open Go.RowKit
/-- v is a []byte in a block of the call's own that reads as l -/
def OwnS (w : World) (base : Nat) (e : TypeId) (v : Value) (l : List Int) : Prop :=
  Rng l ∧ ((v = .slice none 0 0 ∧ l = []) ∨ ∃ g cap cur, v = .slice (some ⟨g, 0, none⟩) l.length cap ∧ base ≤ g ∧ w.heap[g]? = some (.cells cur e (0, 0)) ∧ l.length ≤ cap ∧ cap ≤ cur.size ∧ cap ≤ maxLen ∧ cur.toList.take l.length = l.map (Value.int .u8))
section
variable {w w' : World} {base : Nat} {e : TypeId} {v : Value} {l : List Int}
theorem OwnS.of_own {n : Nat} (h : w.ownsRow base e 1 v n (l.map (Value.int .u8))) (hr : Rng l) : OwnS w base e v l := by
  have hn : l.length = n := by have := own_len h; simpa using this
  subst hn
  refine ⟨hr, ?_⟩
  rcases h.2 with ⟨rfl, h0⟩ | ⟨g, cap, cur, rfl, h1, h2, h3, h4, h5, h6⟩
  · exact .inl ⟨rfl, List.eq_nil_of_length_eq_zero h0⟩
  · exact .inr ⟨g, cap, cur, rfl, h1, h2, h3, by omega, h4, by simpa using h6⟩
theorem OwnS.rng (h : OwnS w base e v l) : Rng l := h.1
theorem OwnS.mono {b' : Nat} (h : OwnS w base e v l) (hb : b' ≤ base) : OwnS w b' e v l := by
  refine ⟨h.1, ?_⟩
  rcases h.2 with h2 | ⟨g, cap, cur, h1, h2, r⟩
  · exact .inl h2
  · exact .inr ⟨g, cap, cur, h1, by omega, r⟩
theorem OwnS.below (h : OwnS w base e v l) (hb : Below w.heap.size w w') : OwnS w' base e v l := by
  refine ⟨h.1, ?_⟩
  rcases h.2 with h2 | ⟨g, cap, cur, h1, h2, h3, r⟩
  · exact .inl h2
  · exact .inr ⟨g, cap, cur, h1, h2, (hb.block g (Array.getElem?_eq_some_iff.1 h3).1).trans h3, r⟩
theorem OwnS.alloc (h : OwnS w base e v l) (o : Obj) : OwnS (w.alloc o) base e v l := h.below ((Below.refl _ _).alloc (Nat.le_refl _) o)
theorem OwnS.lt (h : OwnS w base e v l) : ∀ k, v.ownBlock = some k → base ≤ k ∧ k < w.heap.size := by
  intro k hk
  rcases h.2 with ⟨rfl, _⟩ | ⟨g, cap, cur, rfl, h2, h3, _⟩
  · cases hk
  · have : g = k := by simpa [Value.ownBlock] using hk
    subst this
    exact ⟨h2, (Array.getElem?_eq_some_iff.1 h3).1⟩
theorem OwnS.kept {row : Option Nat} (h : OwnS w base e v l) (hg : w.grownBy w' row) (hne : v.ownBlock = none ∨ v.ownBlock ≠ row) : OwnS w' base e v l := by
  refine ⟨h.1, ?_⟩
  rcases h.2 with h2 | ⟨g, cap, cur, rfl, h2, h3, r⟩
  · exact .inl h2
  · refine .inr ⟨g, cap, cur, rfl, h2, (hg.block g (Array.getElem?_eq_some_iff.1 h3).1 ?_).trans h3, r⟩
    intro he
    rcases hne with hne | hne
    · cases hne
    · exact hne he
theorem OwnS.form (h : OwnS w base e v l) : ∃ ao cap, v = .slice ao l.length cap ∧ l.length ≤ cap ∧ cap ≤ 9223372036854775807 ∧ (ao = none → l.length = 0 ∧ cap = 0) ∧ ∀ a, ao = some a → a = ⟨a.block, 0, none⟩ ∧ base ≤ a.block ∧ a.block < w.heap.size := by
  rcases h.2 with ⟨rfl, rfl⟩ | ⟨g, cap, cur, rfl, h2, h3, h4, _, h6, _⟩
  · exact ⟨none, 0, rfl, by simp, by omega, fun _ => ⟨rfl, rfl⟩, fun _ h => by cases h⟩
  · exact ⟨_, cap, rfl, h4, by unfold maxLen at h6; omega, fun h => (by cases h), fun a ha => by cases ha; exact ⟨rfl, h2, (Array.getElem?_eq_some_iff.1 h3).1⟩⟩
theorem OwnS.isB (h : OwnS w base e v l) : IsB w v l := by
  rcases h.2 with ⟨rfl, rfl⟩ | ⟨g, cap, cur, rfl, h2, h3, h4, h5, h6, h7⟩
  · exact IsB.nil w
  · refine ⟨h.1, _, cap, rfl, h4, h6, fun h => (by cases h), fun a ha hp => ?_⟩
    cases ha
    refine ⟨rfl, (Array.getElem?_eq_some_iff.1 h3).1, fun i hi => ?_⟩
    show w.cell? ⟨g, 0 + i, none⟩ = _
    rw [Nat.zero_add, cell_of_row w g i cur e (0, 0) h3]
    have h8 : (cur.toList.take l.length)[i]? = (l.map (Value.int .u8))[i]? := by rw [h7]
    rw [List.getElem?_take_of_lt hi] at h8
    rw [← Array.getElem?_toList, h8]
    simp [List.getElem?_map, List.getElem?_eq_getElem hi]
theorem OwnS.at_ {ao : Option Addr} {n cap k : Nat} (h : OwnS w base e (.slice ao n cap) l) (hk : k < l.length) :
    ∃ g x, ao = some ⟨g, 0, none⟩ ∧ base ≤ g ∧ g < w.heap.size ∧ Hid (l[k]? = some x) ∧ w.cell? ⟨g, k, none⟩ = some (.int .u8 x) ∧ w.frozen? ⟨g, k, none⟩ = false := by
  have hB := h.isB
  rcases h.2 with ⟨_, rfl⟩ | ⟨g, cap', cur, hv, h2, h3, h4, h5, h6, h7⟩
  · simp at hk
  · simp only [Value.slice.injEq] at hv
    obtain ⟨rfl, rfl, rfl⟩ := hv
    obtain ⟨b, o, x, hb, _, hx, hc, _⟩ := hB.at_ hk
    cases hb
    exact ⟨g, x, rfl, h2, (Array.getElem?_eq_some_iff.1 h3).1, hx, by simpa using hc, frozen_of_row w g k cur e h3⟩
theorem OwnS.stored {g cap k : Nat} {x : Int} (h : OwnS w base e (.slice (some ⟨g, 0, none⟩) l.length cap) l) (hk : k < l.length) (hx : 0 ≤ x ∧ x ≤ 255) :
    OwnS (w.setCell ⟨g, k, none⟩ (.int .u8 x)) base e (.slice (some ⟨g, 0, none⟩) l.length cap) (l.set k x) := by
  refine ⟨fun y hy => ?_, ?_⟩
  · rcases List.mem_or_eq_of_mem_set hy with h1 | h1
    · exact h.1 y h1
    · rw [h1]; exact hx
  · rcases h.2 with ⟨hv, _⟩ | ⟨g', cap', cur, hv, h2, h3, h4, h5, h6, h7⟩
    · cases hv
    · simp only [Value.slice.injEq, Option.some.injEq, Addr.mk.injEq, and_true, true_and] at hv
      obtain ⟨rfl, rfl⟩ := hv
      refine .inr ⟨g, cap, cur.setIfInBounds k (.int .u8 x), by rw [List.length_set], h2, heap_setCell_same w g k cur e _ h3, by rw [List.length_set]; exact h4, by simpa using h5, h6, ?_⟩
      rw [List.length_set, Array.toList_setIfInBounds, List.take_set, h7, List.map_set]
/-- v[:len(v):len(v)] -/
theorem OwnS.clip {ao : Option Addr} {n cap : Nat} (h : OwnS w base e (.slice ao n cap) l) : OwnS w base e (.slice ao n n) l := by
  refine ⟨h.1, ?_⟩
  rcases h.2 with ⟨hv, h2⟩ | ⟨g, cap', cur, hv, h2, h3, h4, h5, h6, h7⟩
  · simp only [Value.slice.injEq] at hv
    obtain ⟨rfl, rfl, rfl⟩ := hv
    exact .inl ⟨rfl, h2⟩
  · simp only [Value.slice.injEq] at hv
    obtain ⟨rfl, rfl, rfl⟩ := hv
    exact .inr ⟨g, l.length, cur, rfl, h2, h3, Nat.le_refl _, by omega, by omega, h7⟩
/-- two rows that lie apart -/
theorem OwnS.apart {v' : Value} {l' : List Int} {base' : Nat} (h : OwnS w base e v l) (hlt : ∀ k, v'.ownBlock = some k → k < base) : v.ownBlock = none ∨ v.ownBlock ≠ v'.ownBlock := by
  rcases h.2 with ⟨rfl, _⟩ | ⟨g, cap, cur, rfl, h2, _⟩
  · exact .inl rfl
  · refine .inr fun he => ?_
    have := hlt g he.symm
    omega
end
section
variable {P : Program} {w : World}
theorem run_loadBytes (xs : List Int) (a : Addr) (h : ∀ j x, xs[j]? = some x → w.cell? (a.add j) = some (.int .u8 x)) :
    (Extern.Bytes.loadBytes a xs.length .empty).run P w = .ok (strOfNums xs) w := by
  rw [Lib.run_loadBytesX (P := P) w xs a .empty h]
  simp [Lib.bytesOf, strOfNums]
theorem IsB.run_bytesOf {v : Value} {l : List Int} (h : IsB w v l) : (Extern.Bytes.bytesOf v).run P w = .ok (strOfNums l) w := by
  obtain ⟨h0, ao, cap, rfl, h2, h3, h4, h5⟩ := h
  rcases ao with _ | a
  · obtain ⟨rfl, rfl⟩ := h4 rfl
    rfl
  · simp only [Extern.Bytes.bytesOf]
    refine run_loadBytes l a fun j x hj => ?_
    have hjl : j < l.length := (List.getElem?_eq_some_iff.1 hj).1
    obtain ⟨k1, k2, k3⟩ := h5 a rfl (by omega)
    obtain ⟨b, o, s⟩ := a
    simp only at k1 k2 k3
    subst k1
    rw [plain_add', k3 j hjl]
    simp [List.getD, hj]
end
theorem gb_row {w w1 w2 : World} {row : Option Nat} (h : w.grownBy w1 row) (k : w1.grownBy w2 none) : w.grownBy w2 row :=
  ⟨k.os.trans h.os, k.tape.trans h.tape, k.output.trans h.output, Nat.le_trans h.size k.size, fun i hi hn => (k.block i (Nat.lt_of_lt_of_le hi h.size) (by simp)).trans (h.block i hi hn)⟩
theorem gb_cells {w : World} {g : Nat} : ∀ (xs : List Value) (o : Nat) {w1 : World}, w.grownBy w1 (some g) → w.grownBy (w1.setCells g o xs) (some g)
  | [], _, _, h => h
  | v :: r, o, _, h => gb_cells r (o + 1) (gb_set h (.inl rfl) v)
theorem OwnS.spare {w : World} {base : Nat} {e : TypeId} {l : List Int} {g cap : Nat} (h : OwnS w base e (.slice (some ⟨g, 0, none⟩) l.length cap) l) (i : Nat) (hi : i < cap) : (w.cell? ⟨g, i, none⟩).isSome = true ∧ w.frozen? ⟨g, i, none⟩ = false := by
  rcases h.2 with ⟨hv, _⟩ | ⟨g', cap', cur, hv, h2, h3, h4, h5, h6, h7⟩
  · cases hv
  · simp only [Value.slice.injEq, Option.some.injEq, Addr.mk.injEq, and_true, true_and] at hv
    obtain ⟨rfl, rfl⟩ := hv
    refine ⟨?_, frozen_of_row w g i cur e h3⟩
    rw [cell_of_row w g i cur e (0, 0) h3]
    simp; omega
/-- v[k:] and v[k:k+m] -/
theorem IsB.cut {w : World} {ao : Option Addr} {cap : Nat} {l : List Int} (h : IsB w (.slice ao l.length cap) l) (k m : Nat) (hk : k + m ≤ l.length) : IsB w (.slice (ao.map (·.add k)) m (cap - k)) ((l.drop k).take m) := by
  obtain ⟨h0, ao', cap', h1, h2, h3, h4, h5⟩ := h
  simp only [Value.slice.injEq, true_and] at h1
  obtain ⟨rfl, rfl⟩ := h1
  have hlen : ((l.drop k).take m).length = m := by rw [List.length_take, List.length_drop]; omega
  refine ⟨(h0.drop k).take m, ao.map (·.add k), cap - k, by rw [hlen], by rw [hlen]; omega, by omega, fun hn => ?_, fun a ha hp => ?_⟩
  · have : ao = none := by cases ao; rfl; cases hn
    obtain ⟨rfl, rfl⟩ := h4 this
    exact ⟨by simp, by omega⟩
  · rw [hlen] at hp
    cases ao with
    | none => cases ha
    | some b =>
      obtain ⟨k1, k2, k3⟩ := h5 b rfl (by omega)
      obtain ⟨g, o, s⟩ := b
      simp only at k1 k2 k3
      subst k1
      simp only [Option.map_some, Option.some.injEq] at ha
      rw [plain_add'] at ha
      subst ha
      refine ⟨rfl, k2, fun i hi => ?_⟩
      rw [hlen] at hi
      have := k3 (k + i) (by omega)
      show w.cell? ⟨g, o + k + i, none⟩ = _
      rw [Nat.add_assoc, this]
      simp [List.getD, List.getElem?_take_of_lt hi]
theorem IsB.cut0 {w : World} {ao : Option Addr} {n cap : Nat} {l : List Int} (h : IsB w (.slice ao n cap) l) : IsB w (.slice ao 0 0) [] :=
  ⟨Rng.nil, ao, 0, rfl, Nat.le_refl _, by simp [maxLen], fun _ => ⟨rfl, rfl⟩, fun _ _ hp => absurd hp (by simp)⟩
/-- append(v, x, y) to bytes of the call's own: only how long it is, and that nothing else turns -/
theorem wpList_append_loose {P : Program} {w : World} {base : Nat} {e : TypeId} {ao : Option Addr} {cap : Nat} {l : List Int} {ops : Array Oper} {rest : List Oper} {o : Oper} {a : Act} {Q : Exit → Act → World → Prop} (s x : Operand) (t : TypeId) (hgd : o.guard = none)
    (ho : o.op = .call { callee := .builtin .append, args := #[s, x], argTypes := #[t, t] })
    (i : TypeInfo) (ht : P.underlying t = some (.slice e)) (hi : P.info? e = some i) (hz : i.zero = some (.int .u8 0)) (hsize : i.size = 1) (hby : i.bytes = 1)
    (u u' : Value) (hs : a.eval s = .slice ao l.length cap) (hx : a.eval x = .slice (some ⟨w.heap.size, 0, none⟩) 2 2)
    (hown : OwnS w base e (.slice ao l.length cap) l) (hu : u.oneCell' = true) (hu' : u'.oneCell' = true) (hn : l.length ≤ 140737488355320)
    (h : ∀ ao' cap' w1, l.length + 2 ≤ cap' → cap' ≤ 9223372036854775807 → w.grownBy w1 (Value.slice ao l.length cap).ownBlock → wpList P ops Q rest (a.put o.dst (.slice ao' (l.length + 2) cap')) w1) :
    wpList P ops Q (o :: rest) a (w.alloc (.cells #[u, u'] e)) := by
  have hnews : ∀ (j : Nat) (z : Value), [u, u'][j]? = some z → (w.alloc (.cells #[u, u'] e)).cell? ((⟨w.heap.size, 0, none⟩ : Addr).add j) = some z := by
    intro j z hj
    rw [plain_add', cell_of_row _ w.heap.size (0 + j) _ e (0, 0) (heap_alloc_new w _)]
    simpa using hj
  have hone : ∀ z ∈ [u, u'], z.oneCell' = true := fun z hz => by simp at hz; rcases hz with rfl | rfl <;> assumption
  obtain ⟨ao0, cap0, hv, hnc, hcap, hnone, hsome⟩ := hown.form
  simp only [Value.slice.injEq, true_and] at hv
  obtain ⟨rfl, rfl⟩ := hv
  have grow : ∀ v' w', w'.ownsRow (w.alloc (.cells #[u, u'] e)).heap.size e 1 v' (l.length + 2) (l.map (Value.int .u8) ++ [u, u']) → (w.alloc (.cells #[u, u'] e)).grownBy w' none → wpList P ops Q rest (a.put o.dst v') w' := by
    intro v' w' h1 h2
    obtain ⟨bo, bcap, rfl, h3, h4, _, _⟩ := own_form h1
    exact h bo bcap w' h3 h4 (gb_row (gb_alloc (gb_refl w _) _) h2)
  rcases ao with _ | ad
  · obtain ⟨h0, hc0⟩ := hnone rfl
    have hl0 : l = [] := List.eq_nil_of_length_eq_zero h0
    refine wpList_append_grows _ hgd s x t ho e i (.int .u8 0) 1 1 ht hi hz hsize hby rfl (by decide) none l.length cap (l.map (Value.int .u8)) hs (fun _ => ⟨h0, hc0⟩) (by simp) (fun b hb => by cases hb) ⟨w.heap.size, 0, none⟩ 2 2 [u, u'] hx rfl hnews hone (by omega) (by unfold maxLen; omega) (by omega) grow
  · obtain ⟨e1, _, hgl⟩ := hsome ad rfl
    obtain ⟨g, o', s'⟩ := ad
    simp only [Addr.mk.injEq, true_and] at e1
    obtain ⟨rfl, rfl⟩ := e1
    simp only at hgl
    refine wpList_append_arg _ hgd s x t ho e i (.int .u8 0) 1 1 ht hi hz hsize hby rfl (by decide) g 0 l.length cap (l.map (Value.int .u8)) hs (by simp) ?_ ⟨w.heap.size, 0, none⟩ 2 2 [u, u'] hx rfl hnews hone ?_ (by unfold maxLen; omega) (by omega) ?_ (fun _ => grow)
    · intro j z hj
      rw [List.getElem?_map, Option.map_eq_some_iff] at hj
      obtain ⟨y, hy, rfl⟩ := hj
      obtain ⟨g', x', hg', _, _, hx', hc', _⟩ := hown.at_ (List.getElem?_eq_some_iff.1 hy).1
      cases hg'
      rw [hx'.out] at hy
      cases hy
      rw [Nat.zero_add, World.cell?_alloc_lt w _ _ hgl]
      exact hc'
    · intro hr j hj
      have hj2 : j < 2 := by simpa using hj
      have := hown.spare (0 + l.length * 1 + j) (by omega)
      exact ⟨(congrArg Option.isSome (World.cell?_alloc_lt w _ ⟨g, 0 + l.length * 1 + j, none⟩ hgl)).trans this.1, ((Below.refl _ w).alloc (Nat.le_refl _) _).frozen (p := ⟨g, 0 + l.length * 1 + j, none⟩) hgl |>.trans this.2⟩
    · intro hr
      exact h _ cap _ (by omega) hcap (gb_cells _ _ (gb_alloc (gb_refl w _) _))
end Go.Proofs.YtlolgiphppbcmaaDoor
