/- Lists of the call's own with elements of several cells; frames that let some blocks turn. No program in sight. -/
import Derived.Test.YtmojbamloanleaaRowK
set_option linter.unusedVariables false
set_option linter.unusedSimpArgs false
namespace Go.Proofs.Ytmojbamloanleaa
open Go.RowKit
section
variable {α β : Type} {C : α → List β} {sz : Nat}
theorem flat_len (hC : ∀ a, (C a).length = sz) : ∀ (l : List α), (l.flatMap C).length = l.length * sz
  | [] => by simp
  | a :: l => by rw [List.flatMap_cons, List.length_append, hC, flat_len hC l, List.length_cons, Nat.add_mul]; omega
theorem flat_take (hC : ∀ a, (C a).length = sz) : ∀ (l : List α) (i : Nat), (l.flatMap C).take (i * sz) = (l.take i).flatMap C
  | [], i => by simp
  | a :: l, 0 => by simp
  | a :: l, i + 1 => by
    rw [List.flatMap_cons, List.take_succ_cons, List.flatMap_cons, ← flat_take hC l i, List.take_append, hC, List.take_of_length_le (by rw [hC, Nat.add_mul]; omega)]
    congr 2
    rw [Nat.add_mul]; omega
theorem flat_drop (hC : ∀ a, (C a).length = sz) : ∀ (l : List α) (i : Nat), (l.flatMap C).drop (i * sz) = (l.drop i).flatMap C
  | [], i => by simp
  | a :: l, 0 => by simp
  | a :: l, i + 1 => by
    rw [List.flatMap_cons, List.drop_succ_cons, ← flat_drop hC l i, List.drop_append, hC, List.drop_eq_nil_of_le (by rw [hC, Nat.add_mul]; omega), List.nil_append]
    congr 1
    rw [Nat.add_mul]; omega
theorem flat_get (hC : ∀ a, (C a).length = sz) : ∀ (l : List α) (i j : Nat) (a : α), l[i]? = some a → j < sz → (l.flatMap C)[i * sz + j]? = (C a)[j]?
  | [], i, j, a, h, _ => by simp at h
  | b :: l, 0, j, a, h, hj => by
    simp only [List.getElem?_cons_zero, Option.some.injEq] at h
    subst h
    rw [List.flatMap_cons, Nat.zero_mul, Nat.zero_add, List.getElem?_append_left (by rw [hC]; exact hj)]
  | b :: l, i + 1, j, a, h, hj => by
    rw [List.getElem?_cons_succ] at h
    rw [List.flatMap_cons, List.getElem?_append_right (by rw [hC, Nat.add_mul]; omega), hC, ← flat_get hC l i j a h hj]
    congr 1
    rw [Nat.add_mul]; omega
end
/-- w' is w but for new blocks and blocks in S -/
structure Chg (S : Nat → Prop) (w w' : World) : Prop where
  os : w'.os = w.os
  tape : w'.tape = w.tape
  output : w'.output = w.output
  size : w.heap.size ≤ w'.heap.size
  block : ∀ k, k < w.heap.size → ¬ S k → w'.heap[k]? = w.heap[k]?
section
variable {S : Nat → Prop} {w w1 w2 : World}
theorem Chg.refl (S : Nat → Prop) (w : World) : Chg S w w := ⟨rfl, rfl, rfl, Nat.le_refl _, fun _ _ _ => rfl⟩
theorem Chg.trans (h : Chg S w w1) (k : Chg S w1 w2) : Chg S w w2 :=
  ⟨k.os.trans h.os, k.tape.trans h.tape, k.output.trans h.output, Nat.le_trans h.size k.size, fun i hi hn => (k.block i (Nat.lt_of_lt_of_le hi h.size) hn).trans (h.block i hi hn)⟩
/-- a later change of blocks that were not there -/
theorem Chg.fresh {T : Nat → Prop} (h : Chg S w w1) (k : Chg T w1 w2) (hT : ∀ b, b < w.heap.size → T b → S b) : Chg S w w2 :=
  ⟨k.os.trans h.os, k.tape.trans h.tape, k.output.trans h.output, Nat.le_trans h.size k.size, fun i hi hn => (k.block i (Nat.lt_of_lt_of_le hi h.size) (fun e => hn (hT i hi e))).trans (h.block i hi hn)⟩
theorem Chg.mono {T : Nat → Prop} (h : Chg S w w1) (hT : ∀ b, b < w.heap.size → S b → T b) : Chg T w w1 := ⟨h.os, h.tape, h.output, h.size, fun i hi hn => h.block i hi (fun e => hn (hT i hi e))⟩
theorem Chg.of_below {B : Nat} (h : Below B w w1) (hB : ∀ b, b < w.heap.size → B ≤ b → S b) : Chg S w w1 :=
  ⟨h.os, h.tape, h.output, h.size, fun i hi hn => h.block i (by
    rcases Nat.lt_or_ge i B with h | h
    · exact h
    · exact absurd (hB i hi h) hn)⟩
theorem Chg.of_ext (h : Below w.heap.size w w1) : Chg S w w1 := .of_below h (fun b hb hB => by omega)
theorem Chg.of_grown {row : Option Nat} (h : w.grownBy w1 row) (hr : ∀ b, b < w.heap.size → row = some b → S b) : Chg S w w1 :=
  ⟨h.os, h.tape, h.output, h.size, fun i hi hn => h.block i hi (fun e => hn (hr i hi e.symm))⟩
theorem Chg.below {B : Nat} (h : Chg S w w1) (hB : B ≤ w.heap.size) (hS : ∀ b, b < B → ¬ S b) : Below B w w1 :=
  ⟨h.os, h.tape, h.output, h.size, fun i hi => h.block i (Nat.lt_of_lt_of_le hi hB) (hS i hi)⟩
theorem Chg.alloc (h : Chg S w w1) (o : Obj) : Chg S w (w1.alloc o) := h.trans (.of_ext ((Below.refl _ _).alloc (Nat.le_refl _) o))
theorem Chg.drew (h : Chg S w w1) : Chg S w w1.drew := ⟨h.os, h.tape, h.output, h.size, h.block⟩
theorem Chg.drewN (h : Chg S w w1) (n : Nat) : Chg S w (w1.drewN n) := ⟨h.os, h.tape, h.output, h.size, h.block⟩
theorem Chg.call (h : Chg S w w1) (k : Below w1.heap.size w1 w2) : Chg S w w2 := h.trans (.of_ext k)
theorem Chg.set (h : Chg S w w1) {p : Addr} (hp : p.block < w.heap.size → S p.block) (u : Value) : Chg S w (w1.setCell p u) :=
  ⟨h.os, h.tape, h.output, by simpa [World.setCell] using h.size, fun i hi hn => (Below.heap_setCell w1 p u i (by rintro rfl; exact hn (hp hi))).trans (h.block i hi hn)⟩
theorem Chg.cell (h : Chg S w w1) {b o : Nat} (hb : b < w.heap.size) (hn : ¬ S b) : w1.cell? ⟨b, o, none⟩ = w.cell? ⟨b, o, none⟩ := World.cell?_of_block (h.block b hb hn)
theorem Chg.frozen (h : Chg S w w1) {b o : Nat} (hb : b < w.heap.size) (hn : ¬ S b) : w1.frozen? ⟨b, o, none⟩ = w.frozen? ⟨b, o, none⟩ := World.frozen?_of_block (h.block b hb hn)
theorem Chg.own {base n size : Nat} {e : TypeId} {v : Value} {xs : List Value} (h : Chg S w w1) (ho : w.ownsRow base e size v n xs) (hn : ∀ b, v.ownBlock = some b → ¬ S b) : w1.ownsRow base e size v n xs := by
  obtain ⟨h1, h2⟩ := ho
  refine ⟨h1, ?_⟩
  rcases h2 with h2 | ⟨g, cap, cur, rfl, hbg, hh, h3⟩
  · exact .inl h2
  · exact .inr ⟨g, cap, cur, rfl, hbg, by rw [h.block g (Array.getElem?_eq_some_iff.1 hh).1 (hn g rfl)]; exact hh, h3⟩
theorem Chg.ownS {base : Nat} {e : TypeId} {v : Value} {l : List Int} (h : Chg S w w1) (ho : OwnS w base e v l) (hn : ∀ b, v.ownBlock = some b → ¬ S b) : OwnS w1 base e v l := by
  obtain ⟨h1, h2⟩ := ho
  refine ⟨h1, ?_⟩
  rcases h2 with h2 | h2
  · exact .inl h2
  · obtain ⟨g, cap, cur, rfl, h3, h4, r⟩ := h2
    exact .inr ⟨g, cap, cur, rfl, h3, (h.block g (Array.getElem?_eq_some_iff.1 h4).1 (hn g rfl)).trans h4, r⟩
end
theorem OwnS.typed {w : World} {base : Nat} {e : TypeId} {v : Value} {l : List Int} (h : OwnS w base e v l) : ∀ b, v.ownBlock = some b → ∃ cur, w.heap[b]? = some (.cells cur e (0, 0)) := by
  intro b hb
  rcases h.2 with ⟨rfl, -⟩ | ⟨g, cap, cur, rfl, h3, h4, r⟩
  · cases hb
  · cases hb
    exact ⟨cur, h4⟩
theorem own_typed {w : World} {base n size : Nat} {e : TypeId} {v : Value} {xs : List Value} (h : w.ownsRow base e size v n xs) : ∀ b, v.ownBlock = some b → base ≤ b ∧ b < w.heap.size ∧ ∃ cur, w.heap[b]? = some (.cells cur e (0, 0)) := by
  intro b hb
  rcases h.2 with ⟨rfl, -⟩ | ⟨g, cap, cur, rfl, h3, h4, r⟩
  · cases hb
  · cases hb
    exact ⟨h3, (Array.getElem?_eq_some_iff.1 h4).1, cur, h4⟩
theorem types_apart {w : World} {b : Nat} {c1 c2 : Array Value} {e1 e2 : TypeId} {f1 f2 : Nat × Nat} (h1 : w.heap[b]? = some (.cells c1 e1 f1)) (h2 : w.heap[b]? = some (.cells c2 e2 f2)) : e1 = e2 := by
  rw [h1] at h2
  simp only [Option.some.injEq, Obj.cells.injEq] at h2
  exact h2.2.1
theorem own_nonzero {w : World} {base n size : Nat} {e : TypeId} {v : Value} {xs : List Value} (h : w.ownsRow base e size v n xs) (hn : n ≠ 0) : ∃ g cap, v = .slice (some ⟨g, 0, none⟩) n cap := by
  rcases h.2 with ⟨rfl, h0⟩ | ⟨g, cap, cur, rfl, _⟩
  · exact absurd h0 hn
  · exact ⟨g, cap, rfl⟩
end Go.Proofs.Ytmojbamloanleaa
