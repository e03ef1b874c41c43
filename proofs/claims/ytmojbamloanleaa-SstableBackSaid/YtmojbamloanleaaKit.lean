/- The kit: worlds, frames, bytes, rows of the call's own, appends, copies, slices. No program in sight. -/
import Derived.WalkKit
import Derived.WalkSpells
import Derived.WalkLawsBesides
import Derived.Deep.RegionWith
import Derived.Deep.Draws
import Derived.StillTailTactics
import Derived.Deep.QuietTactic
import Derived.BigQuiet
import Derived.Lib.Hide
import Derived.Laws.BytesArg
import Derived.Lib.SlBytesConst
import Derived.Maps.AppendAt
import Derived.Lib.BytesEntry
import Derived.ArgAppend
import Derived.Laws.CopyOwn
import Derived.Deep.RegionHeld3
set_option linter.unusedVariables false
set_option linter.unusedSimpArgs false
namespace Go.Proofs.Ytmojbamloanleaa
open Go.RowKit

/-- returns V; what was there stays as it was. -/
def Ret (V : Value) (w : World) (e : Ending) (w' : World) : Prop := e = .returned V ∧ Below w.heap.size w w'
theorem below_drewN {B : Nat} {a w : World} (h : Below B a w) (n : Nat) : Below B a (w.drewN n) := ⟨h.os, h.tape, h.output, h.size, h.block⟩
theorem bel_alloc {w W : World} (h : Below w.heap.size w W) (o : Obj) : Below w.heap.size w (W.alloc o) := h.alloc h.size o
/-- a callee's own frame is a caller's -/
theorem bel_call {w W w' : World} (h : Below w.heap.size w W) (hb : Below W.heap.size W w') : Below w.heap.size w w' := h.trans (hb.mono h.size)
theorem lt_step1 {n m : Nat} (h : n < m) : n < m + 1 := by omega
theorem le_step1 {n m : Nat} (h : n < m) : n ≤ m + 1 := by omega
theorem lt_step2 {n m : Nat} (h : n < m) : n < m + 1 + 1 := by omega
theorem le_step2 {n m : Nat} (h : n < m) : n ≤ m + 1 + 1 := by omega
theorem lt_step3 {n m : Nat} (h : n < m) : n < m + 1 + 1 + 1 := by omega
theorem le_step3 {n m : Nat} (h : n < m) : n ≤ m + 1 + 1 + 1 := by omega
theorem lt_step4 {n m : Nat} (h : n < m) : n < m + 1 + 1 + 1 + 1 := by omega
theorem le_step4 {n m : Nat} (h : n < m) : n ≤ m + 1 + 1 + 1 + 1 := by omega
theorem lt_step5 {n m : Nat} (h : n < m) : n < m + 1 + 1 + 1 + 1 + 1 := by omega
theorem le_step5 {n m : Nat} (h : n < m) : n ≤ m + 1 + 1 + 1 + 1 + 1 := by omega
theorem lt_step6 {n m : Nat} (h : n < m) : n < m + 1 + 1 + 1 + 1 + 1 + 1 := by omega
theorem le_step6 {n m : Nat} (h : n < m) : n ≤ m + 1 + 1 + 1 + 1 + 1 + 1 := by omega
theorem lt_step7 {n m : Nat} (h : n < m) : n < m + 1 + 1 + 1 + 1 + 1 + 1 + 1 := by omega
theorem le_step7 {n m : Nat} (h : n < m) : n ≤ m + 1 + 1 + 1 + 1 + 1 + 1 + 1 := by omega
theorem lt_step8 {n m : Nat} (h : n < m) : n < m + 1 + 1 + 1 + 1 + 1 + 1 + 1 + 1 := by omega
theorem le_step8 {n m : Nat} (h : n < m) : n ≤ m + 1 + 1 + 1 + 1 + 1 + 1 + 1 + 1 := by omega
theorem lt_step9 {n m : Nat} (h : n < m) : n < m + 1 + 1 + 1 + 1 + 1 + 1 + 1 + 1 + 1 := by omega
theorem le_step9 {n m : Nat} (h : n < m) : n ≤ m + 1 + 1 + 1 + 1 + 1 + 1 + 1 + 1 + 1 := by omega
theorem lt_step10 {n m : Nat} (h : n < m) : n < m + 1 + 1 + 1 + 1 + 1 + 1 + 1 + 1 + 1 + 1 := by omega
theorem le_step10 {n m : Nat} (h : n < m) : n ≤ m + 1 + 1 + 1 + 1 + 1 + 1 + 1 + 1 + 1 + 1 := by omega
theorem lt_step11 {n m : Nat} (h : n < m) : n < m + 1 + 1 + 1 + 1 + 1 + 1 + 1 + 1 + 1 + 1 + 1 := by omega
theorem le_step11 {n m : Nat} (h : n < m) : n ≤ m + 1 + 1 + 1 + 1 + 1 + 1 + 1 + 1 + 1 + 1 + 1 := by omega
theorem lt_step12 {n m : Nat} (h : n < m) : n < m + 1 + 1 + 1 + 1 + 1 + 1 + 1 + 1 + 1 + 1 + 1 + 1 := by omega
theorem le_step12 {n m : Nat} (h : n < m) : n ≤ m + 1 + 1 + 1 + 1 + 1 + 1 + 1 + 1 + 1 + 1 + 1 + 1 := by omega
theorem lt_step13 {n m : Nat} (h : n < m) : n < m + 1 + 1 + 1 + 1 + 1 + 1 + 1 + 1 + 1 + 1 + 1 + 1 + 1 := by omega
theorem le_step13 {n m : Nat} (h : n < m) : n ≤ m + 1 + 1 + 1 + 1 + 1 + 1 + 1 + 1 + 1 + 1 + 1 + 1 + 1 := by omega
theorem lt_step14 {n m : Nat} (h : n < m) : n < m + 1 + 1 + 1 + 1 + 1 + 1 + 1 + 1 + 1 + 1 + 1 + 1 + 1 + 1 := by omega
theorem le_step14 {n m : Nat} (h : n < m) : n ≤ m + 1 + 1 + 1 + 1 + 1 + 1 + 1 + 1 + 1 + 1 + 1 + 1 + 1 + 1 := by omega
theorem lt_step15 {n m : Nat} (h : n < m) : n < m + 1 + 1 + 1 + 1 + 1 + 1 + 1 + 1 + 1 + 1 + 1 + 1 + 1 + 1 + 1 := by omega
theorem le_step15 {n m : Nat} (h : n < m) : n ≤ m + 1 + 1 + 1 + 1 + 1 + 1 + 1 + 1 + 1 + 1 + 1 + 1 + 1 + 1 + 1 := by omega
theorem lt_step16 {n m : Nat} (h : n < m) : n < m + 1 + 1 + 1 + 1 + 1 + 1 + 1 + 1 + 1 + 1 + 1 + 1 + 1 + 1 + 1 + 1 := by omega
theorem le_step16 {n m : Nat} (h : n < m) : n ≤ m + 1 + 1 + 1 + 1 + 1 + 1 + 1 + 1 + 1 + 1 + 1 + 1 + 1 + 1 + 1 + 1 := by omega
theorem lt_step17 {n m : Nat} (h : n < m) : n < m + 1 + 1 + 1 + 1 + 1 + 1 + 1 + 1 + 1 + 1 + 1 + 1 + 1 + 1 + 1 + 1 + 1 := by omega
theorem le_step17 {n m : Nat} (h : n < m) : n ≤ m + 1 + 1 + 1 + 1 + 1 + 1 + 1 + 1 + 1 + 1 + 1 + 1 + 1 + 1 + 1 + 1 + 1 := by omega
theorem lt_step18 {n m : Nat} (h : n < m) : n < m + 1 + 1 + 1 + 1 + 1 + 1 + 1 + 1 + 1 + 1 + 1 + 1 + 1 + 1 + 1 + 1 + 1 + 1 := by omega
theorem le_step18 {n m : Nat} (h : n < m) : n ≤ m + 1 + 1 + 1 + 1 + 1 + 1 + 1 + 1 + 1 + 1 + 1 + 1 + 1 + 1 + 1 + 1 + 1 + 1 := by omega
theorem lt_step19 {n m : Nat} (h : n < m) : n < m + 1 + 1 + 1 + 1 + 1 + 1 + 1 + 1 + 1 + 1 + 1 + 1 + 1 + 1 + 1 + 1 + 1 + 1 + 1 := by omega
theorem le_step19 {n m : Nat} (h : n < m) : n ≤ m + 1 + 1 + 1 + 1 + 1 + 1 + 1 + 1 + 1 + 1 + 1 + 1 + 1 + 1 + 1 + 1 + 1 + 1 + 1 := by omega
theorem lt_step20 {n m : Nat} (h : n < m) : n < m + 1 + 1 + 1 + 1 + 1 + 1 + 1 + 1 + 1 + 1 + 1 + 1 + 1 + 1 + 1 + 1 + 1 + 1 + 1 + 1 := by omega
theorem le_step20 {n m : Nat} (h : n < m) : n ≤ m + 1 + 1 + 1 + 1 + 1 + 1 + 1 + 1 + 1 + 1 + 1 + 1 + 1 + 1 + 1 + 1 + 1 + 1 + 1 + 1 := by omega
theorem lt_step21 {n m : Nat} (h : n < m) : n < m + 1 + 1 + 1 + 1 + 1 + 1 + 1 + 1 + 1 + 1 + 1 + 1 + 1 + 1 + 1 + 1 + 1 + 1 + 1 + 1 + 1 := by omega
theorem le_step21 {n m : Nat} (h : n < m) : n ≤ m + 1 + 1 + 1 + 1 + 1 + 1 + 1 + 1 + 1 + 1 + 1 + 1 + 1 + 1 + 1 + 1 + 1 + 1 + 1 + 1 + 1 := by omega
theorem lt_step22 {n m : Nat} (h : n < m) : n < m + 1 + 1 + 1 + 1 + 1 + 1 + 1 + 1 + 1 + 1 + 1 + 1 + 1 + 1 + 1 + 1 + 1 + 1 + 1 + 1 + 1 + 1 := by omega
theorem le_step22 {n m : Nat} (h : n < m) : n ≤ m + 1 + 1 + 1 + 1 + 1 + 1 + 1 + 1 + 1 + 1 + 1 + 1 + 1 + 1 + 1 + 1 + 1 + 1 + 1 + 1 + 1 + 1 := by omega
theorem lt_step23 {n m : Nat} (h : n < m) : n < m + 1 + 1 + 1 + 1 + 1 + 1 + 1 + 1 + 1 + 1 + 1 + 1 + 1 + 1 + 1 + 1 + 1 + 1 + 1 + 1 + 1 + 1 + 1 := by omega
theorem le_step23 {n m : Nat} (h : n < m) : n ≤ m + 1 + 1 + 1 + 1 + 1 + 1 + 1 + 1 + 1 + 1 + 1 + 1 + 1 + 1 + 1 + 1 + 1 + 1 + 1 + 1 + 1 + 1 + 1 := by omega
theorem lt_step24 {n m : Nat} (h : n < m) : n < m + 1 + 1 + 1 + 1 + 1 + 1 + 1 + 1 + 1 + 1 + 1 + 1 + 1 + 1 + 1 + 1 + 1 + 1 + 1 + 1 + 1 + 1 + 1 + 1 := by omega
theorem le_step24 {n m : Nat} (h : n < m) : n ≤ m + 1 + 1 + 1 + 1 + 1 + 1 + 1 + 1 + 1 + 1 + 1 + 1 + 1 + 1 + 1 + 1 + 1 + 1 + 1 + 1 + 1 + 1 + 1 + 1 := by omega
theorem le_of_step {n m : Nat} (h : n < m) : n ≤ m := by omega
attribute [go_sem] lt_step1 le_step1 lt_step2 le_step2 lt_step3 le_step3 lt_step4 le_step4 lt_step5 le_step5 lt_step6 le_step6 lt_step7 le_step7 lt_step8 le_step8 lt_step9 le_step9 lt_step10 le_step10 lt_step11 le_step11 lt_step12 le_step12 lt_step13 le_step13 lt_step14 le_step14 lt_step15 le_step15 lt_step16 le_step16 lt_step17 le_step17 lt_step18 le_step18 lt_step19 le_step19 lt_step20 le_step20 lt_step21 le_step21 lt_step22 le_step22 lt_step23 le_step23 lt_step24 le_step24 le_of_step
/-- frames that let one block turn -/
theorem gb_refl (w : World) (row : Option Nat) : w.grownBy w row := ⟨rfl, rfl, rfl, Nat.le_refl _, fun _ _ _ => rfl⟩
theorem gb_call {w W W' : World} {row : Option Nat} (h : w.grownBy W row) (hb : Below W.heap.size W W') : w.grownBy W' row :=
  ⟨hb.os.trans h.os, hb.tape.trans h.tape, hb.output.trans h.output, Nat.le_trans h.size hb.size, fun i hi hn => (hb.block i (Nat.lt_of_lt_of_le hi h.size)).trans (h.block i hi hn)⟩
theorem gb_alloc {w W : World} {row : Option Nat} (h : w.grownBy W row) (o : Obj) : w.grownBy (W.alloc o) row :=
  ⟨h.os, h.tape, h.output, Nat.le_trans h.size (by simp), fun i hi hn => (Below.heap_alloc W o i (Nat.lt_of_lt_of_le hi h.size)).trans (h.block i hi hn)⟩
theorem gb_drew {w W : World} {row : Option Nat} (h : w.grownBy W row) : w.grownBy W.drew row := ⟨h.os, h.tape, h.output, h.size, h.block⟩
theorem gb_set {w W : World} {g : Nat} (h : w.grownBy W (some g)) {p : Addr} (hp : p.block = g ∨ w.heap.size ≤ p.block) (u : Value) : w.grownBy (W.setCell p u) (some g) :=
  ⟨h.os, h.tape, h.output, by simpa [World.setCell] using h.size, fun i hi hn => (Below.heap_setCell W p u i (by
    rintro rfl
    rcases hp with hp | hp
    · exact hn (by rw [hp])
    · omega)).trans (h.block i hi hn)⟩
theorem gb_trans {a b c : World} {g : Nat} (h : a.grownBy b (some g)) (k : b.grownBy c (some g)) : a.grownBy c (some g) :=
  ⟨k.os.trans h.os, k.tape.trans h.tape, k.output.trans h.output, Nat.le_trans h.size k.size, fun i hi hn => (k.block i (Nat.lt_of_lt_of_le hi h.size) hn).trans (h.block i hi hn)⟩
theorem bcell {W w1 : World} (hb : Below W.heap.size W w1) : (∀ b o, b < W.heap.size → w1.cell? ⟨b, o, none⟩ = W.cell? ⟨b, o, none⟩) ∧ (∀ b o, b < W.heap.size → w1.frozen? ⟨b, o, none⟩ = W.frozen? ⟨b, o, none⟩) :=
  ⟨fun b o h => hb.cell (p := ⟨b, o, none⟩) h, fun b o h => hb.frozen (p := ⟨b, o, none⟩) h⟩

end Go.Proofs.Ytmojbamloanleaa
namespace Go.Proofs.Ytmojbamloanleaa
open Go.RowKit
theorem gb_cell {W W' : World} {g b o : Nat} (h : W.grownBy W' (some g)) (hlt : b < W.heap.size) (hne : b ≠ g) : W'.cell? ⟨b, o, none⟩ = W.cell? ⟨b, o, none⟩ :=
  World.cell?_of_block (h.block b hlt (fun e => hne (by cases e; rfl)))
theorem gb_frozen {W W' : World} {g b o : Nat} (h : W.grownBy W' (some g)) (hlt : b < W.heap.size) (hne : b ≠ g) : W'.frozen? ⟨b, o, none⟩ = W.frozen? ⟨b, o, none⟩ := by
  have := h.block b hlt (fun e => hne (by cases e; rfl))
  simp [World.frozen?, this]
theorem bel_grown {w W W' : World} {g : Nat} (h : Below w.heap.size w W) (hg : W.grownBy W' (some g)) (hge : w.heap.size ≤ g) : Below w.heap.size w W' :=
  h.trans ((Below.refl _ _).grown hg h.size (fun k e => by cases e; exact hge))
theorem bel_set {w W : World} (h : Below w.heap.size w W) {p : Addr} (hp : w.heap.size ≤ p.block) (u : Value) : Below w.heap.size w (W.setCell p u) := h.setCell hp u
end Go.Proofs.Ytmojbamloanleaa
namespace Go.Proofs.Ytmojbamloanleaa
open Go.RowKit

/-- each fits a byte -/
def Rng (l : List Int) : Prop := ∀ x ∈ l, 0 ≤ x ∧ x ≤ 255
theorem Rng.nil : Rng [] := fun _ h => by cases h
theorem Rng.cons {x : Int} {l : List Int} (hx : 0 ≤ x ∧ x ≤ 255) (h : Rng l) : Rng (x :: l) := fun y hy => by
  cases List.mem_cons.1 hy with
  | inl e => subst e; exact hx
  | inr e => exact h y e
theorem Rng.append {l m : List Int} (h : Rng l) (k : Rng m) : Rng (l ++ m) := fun y hy => by
  cases List.mem_append.1 hy with
  | inl e => exact h y e
  | inr e => exact k y e
theorem Rng.take {l : List Int} (h : Rng l) (n : Nat) : Rng (l.take n) := fun y hy => h y (List.mem_of_mem_take hy)
theorem Rng.drop {l : List Int} (h : Rng l) (n : Nat) : Rng (l.drop n) := fun y hy => h y (List.mem_of_mem_drop hy)
theorem Rng.getD {l : List Int} (h : Rng l) (i : Nat) : 0 ≤ l.getD i 0 ∧ l.getD i 0 ≤ 255 := by
  rcases Nat.lt_or_ge i l.length with hi | hi
  · rw [List.getD_eq_getElem?_getD, List.getElem?_eq_getElem hi]; exact h _ (List.getElem_mem hi)
  · rw [List.getD_eq_getElem?_getD, List.getElem?_eq_none hi]; simp

/-- v is a []byte that reads as l -/
def IsB (w : World) (v : Value) (l : List Int) : Prop :=
  Rng l ∧ ∃ ao cap, v = .slice ao l.length cap ∧ l.length ≤ cap ∧ cap ≤ maxLen ∧ (ao = none → l = [] ∧ cap = 0) ∧
    ∀ a, ao = some a → 0 < l.length → a.spot = none ∧ a.block < w.heap.size ∧ ∀ i, i < l.length → w.cell? ⟨a.block, a.off + i, none⟩ = some (.int .u8 (l.getD i 0))

theorem IsB.nil (w : World) : IsB w (.slice none 0 0) [] := ⟨Rng.nil, none, 0, rfl, by simp, by simp [maxLen], fun _ => ⟨rfl, rfl⟩, fun _ h => by cases h⟩
theorem IsB.keep {w w' : World} {v : Value} {l : List Int} (h : IsB w v l) (hs : w.heap.size ≤ w'.heap.size) (hk : ∀ b o, b < w.heap.size → w'.cell? ⟨b, o, none⟩ = w.cell? ⟨b, o, none⟩) : IsB w' v l := by
  obtain ⟨h0, ao, cap, h1, h2, h3, h4, h5⟩ := h
  refine ⟨h0, ao, cap, h1, h2, h3, h4, fun a ha hl => ?_⟩
  obtain ⟨k1, k2, k3⟩ := h5 a ha hl
  exact ⟨k1, by omega, fun i hi => (hk _ _ k2).trans (k3 i hi)⟩
theorem IsB.below {w w' : World} {v : Value} {l : List Int} (h : IsB w v l) (hb : Below w.heap.size w w') : IsB w' v l :=
  h.keep hb.size fun _ _ hp => hb.cell (p := ⟨_, _, none⟩) hp
theorem IsB.alloc {w : World} {v : Value} {l : List Int} (h : IsB w v l) (o : Obj) : IsB (w.alloc o) v l := h.below ((Below.refl _ _).alloc (Nat.le_refl _) o)
theorem IsB.drew {w : World} {v : Value} {l : List Int} (h : IsB w v l) : IsB w.drew v l := h
theorem IsB.rng {w : World} {v : Value} {l : List Int} (h : IsB w v l) : Rng l := h.1
theorem IsB.max {w : World} {v : Value} {l : List Int} (h : IsB w v l) : l.length ≤ 9223372036854775807 := by
  obtain ⟨_, ao, cap, _, h2, h3, _⟩ := h
  unfold maxLen at h3; omega

/-- a row of the call's own reads as its bytes -/
theorem IsB.of_own {w : World} {base n : Nat} {e : TypeId} {v : Value} {l : List Int} (h : w.ownsRow base e 1 v n (l.map (Value.int .u8))) (hr : Rng l) : IsB w v l := by
  obtain ⟨hlen, h2⟩ := h
  have hn : l.length = n := by simpa using hlen
  rcases h2 with ⟨rfl, rfl⟩ | ⟨g, cap, cur, rfl, hg, hh, hnc, hm, hs, ht⟩
  · have : l = [] := List.eq_nil_of_length_eq_zero hn
    subst this
    exact IsB.nil w
  · subst hn
    refine ⟨hr, _, cap, rfl, hnc, hm, fun h => by (cases h), fun a ha hl => ?_⟩
    cases ha
    refine ⟨rfl, (Array.getElem?_eq_some_iff.1 hh).1, fun i hi => ?_⟩
    show w.cell? ⟨g, 0 + i, none⟩ = _
    rw [Nat.zero_add, cell_of_row w g i cur e (0, 0) hh]
    have h3 : (cur.toList.take (l.length * 1))[i]? = (l.map (Value.int .u8))[i]? := by rw [ht]
    rw [List.getElem?_take_of_lt (by omega)] at h3
    rw [← Array.getElem?_toList, h3]
    simp [List.getElem?_map, List.getElem?_eq_getElem hi]

/-- v's form, and its length -/
theorem IsB.form {w : World} {v : Value} {l : List Int} (h : IsB w v l) : ∃ ao cap, v = .slice ao l.length cap ∧ l.length ≤ cap ∧ cap ≤ 9223372036854775807 ∧ (l = [] ∨ ∃ b o, ao = some ⟨b, o, none⟩ ∧ b < w.heap.size) := by
  obtain ⟨_, ao, cap, h1, h2, h3, h4, h5⟩ := h
  refine ⟨ao, cap, h1, h2, by unfold maxLen at h3; omega, ?_⟩
  rcases Nat.eq_zero_or_pos l.length with hz | hp
  · exact .inl (List.eq_nil_of_length_eq_zero hz)
  · rcases ao with _ | ⟨b, o, s⟩
    · exact .inl (h4 rfl).1
    · obtain ⟨k1, k2, _⟩ := h5 _ rfl hp
      simp only at k1 k2
      subst k1
      exact .inr ⟨b, o, rfl, k2⟩
/-- element k, under a name of its own -/
theorem IsB.at_ {w : World} {ao : Option Addr} {n cap : Nat} {l : List Int} (h : IsB w (.slice ao n cap) l) {k : Nat} (hk : k < l.length) :
    ∃ b o x, ao = some ⟨b, o, none⟩ ∧ b < w.heap.size ∧ Hid (l[k]? = some x) ∧ w.cell? ⟨b, o + k, none⟩ = some (.int .u8 x) ∧ 0 ≤ x ∧ x ≤ 255 := by
  obtain ⟨h0, ao', cap', h1, h2, h3, h4, h5⟩ := h
  simp only [Value.slice.injEq] at h1
  obtain ⟨rfl, rfl, rfl⟩ := h1
  rcases ao with _ | ⟨b, o, s⟩
  · have := (h4 rfl).1; subst this; simp at hk
  · obtain ⟨k1, k2, k3⟩ := h5 _ rfl (by omega)
    simp only at k1 k2 k3
    subst k1
    have e : l[k]? = some (l.getD k 0) := by simp [List.getD, hk]
    exact ⟨b, o, l.getD k 0, rfl, k2, e, k3 k hk, (h0.getD k).1, (h0.getD k).2⟩
/-- a list's beginning, one element longer -/
theorem take_snoc {α : Type} {l : List α} {k : Nat} {x : α} (h : l[k]? = some x) : l.take (k + 1) = l.take k ++ [x] := by
  obtain ⟨hk, rfl⟩ := List.getElem?_eq_some_iff.1 h
  rw [List.take_succ_eq_append_getElem hk]

/-- the bytes of a constant, as a conversion lays them -/
theorem isB_const (w : World) (l : List Int) (hr : Rng l) (hl : l.length ≤ 9223372036854775807) (e : TypeId) (fr : Nat × Nat) : IsB (w.alloc (.cells (l.map (Value.int .u8)).toArray e fr)) (.slice (some ⟨w.heap.size, 0, none⟩) l.length l.length) l := by
  refine ⟨hr, _, _, rfl, Nat.le_refl _, by unfold maxLen; omega, fun h => (by cases h), fun a ha hp => ?_⟩
  cases ha
  refine ⟨rfl, by simp, fun i hi => ?_⟩
  show (w.alloc _).cell? ⟨w.heap.size, 0 + i, none⟩ = _
  rw [Nat.zero_add, cell_of_row _ w.heap.size i _ e fr (heap_alloc_new w _)]
  simp [hi]

section
variable {P : Program}
/-- string(v) -/
theorem IsB.conv {w : World} {v : Value} {l : List Int} (h : IsB w v l) {src e dst : TypeId} (hs : P.underlying src = some (.slice e)) (he : P.underlying e = some (.int .u8)) (hd : P.underlying dst = some .string) :
    (convert src dst v).run P w = .ok (.string (strOfNums l)) w := by
  obtain ⟨h0, ao, cap, rfl, h2, h3, h4, h5⟩ := h
  rcases ao with _ | a
  · obtain ⟨rfl, rfl⟩ := h4 rfl
    exact run_convert_bytes_nil (P := P) w src e hs he 0 0 dst hd
  · rcases Nat.eq_zero_or_pos l.length with hz | hp
    · have : l = [] := List.eq_nil_of_length_eq_zero hz
      subst this
      obtain ⟨b, o, s⟩ := a
      have hl := run_loadCells_list (P := P) w ⟨b, o, s⟩ [] (fun j v hj => by simp at hj)
      rw [run_convert_bytes_string w src dst e _ _ cap hs he hd, run_bytesToString w _ _ cap [] (by simpa using hl)]
      rfl
    · obtain ⟨k1, k2, k3⟩ := h5 a rfl hp
      obtain ⟨b, o, s⟩ := a
      simp only at k1 k2 k3
      subst k1
      exact run_convert_bytes_arg (P := P) w src e hs he b o _ cap l rfl k3 dst hd
end

theorem toNat_ofNat8 {x : Int} (h : 0 ≤ x ∧ x ≤ 255) : ((UInt8.ofNat x.toNat).toNat : Int) = x := by
  have : x.toNat < 256 := by omega
  simp [Nat.mod_eq_of_lt this]; omega
theorem map_ofNat8_inj : ∀ {l m : List Int}, Rng l → Rng m → (l.map fun n => UInt8.ofNat n.toNat) = (m.map fun n => UInt8.ofNat n.toNat) → l = m
  | [], [], _, _, _ => rfl
  | [], _ :: _, _, _, h => by simp at h
  | _ :: _, [], _, _, h => by simp at h
  | x :: l, y :: m, hl, hm, h => by
    simp only [List.map_cons, List.cons.injEq] at h
    have hx := hl x (by simp)
    have hy := hm y (by simp)
    have e : x = y := by
      have := congrArg (fun u : UInt8 => (u.toNat : Int)) h.1
      simp only [toNat_ofNat8 hx, toNat_ofNat8 hy] at this
      exact this
    rw [e, map_ofNat8_inj (fun z hz => hl z (by simp [hz])) (fun z hz => hm z (by simp [hz])) h.2]
/-- two strings of bytes are one as their numbers are -/
theorem strOfNums_inj {l m : List Int} (hl : Rng l) (hm : Rng m) : strOfNums l = strOfNums m ↔ l = m := by
  constructor
  · intro h
    have := congrArg (fun s : ByteArray => s.data.toList) h
    simp only [strOfNums_data] at this
    exact map_ofNat8_inj hl hm this
  · rintro rfl; rfl

/-- '==' of two strings, as the walk writes it -/
theorem str_beq {l m : List Int} (hl : Rng l) (hm : Rng m) : ((strOfNums l).toList == (strOfNums m).toList) = decide (l = m) := by
  rw [ByteArray.toList_eq, ByteArray.toList_eq, strOfNums_data, strOfNums_data]
  by_cases h : l = m
  · subst h; simp
  · have : ¬ (l.map fun n => UInt8.ofNat n.toNat) = (m.map fun n => UInt8.ofNat n.toNat) := fun e => h (map_ofNat8_inj hl hm e)
    simp [h, this]

end Go.Proofs.Ytmojbamloanleaa
namespace Go.Proofs.Ytmojbamloanleaa
open Go.RowKit
section
variable {P : Program} {w : World} {base : Nat} {e : TypeId} {size : Nat} {v : Value} {n : Nat} {xs : List Value}

theorem own_mono {b' : Nat} (h : w.ownsRow base e size v n xs) (hb : b' ≤ base) : w.ownsRow b' e size v n xs := by
  obtain ⟨h1, h2⟩ := h
  refine ⟨h1, ?_⟩
  rcases h2 with h2 | ⟨g, cap, cur, hv, hg, r⟩
  · exact .inl h2
  · exact .inr ⟨g, cap, cur, hv, by omega, r⟩
/-- what a row of the call's own is, whatever has been laid since -/
theorem own_below {w' : World} (h : w.ownsRow base e size v n xs) (hb : Below w.heap.size w w') : w'.ownsRow base e size v n xs := by
  obtain ⟨h1, h2⟩ := h
  refine ⟨h1, ?_⟩
  rcases h2 with h2 | ⟨g, cap, cur, hv, hg, hh, r⟩
  · exact .inl h2
  · exact .inr ⟨g, cap, cur, hv, hg, (hb.block g (Array.getElem?_eq_some_iff.1 hh).1).trans hh, r⟩
theorem own_drewN (h : w.ownsRow base e size v n xs) (k : Nat) : (w.drewN k).ownsRow base e size v n xs := h
theorem own_len (h : w.ownsRow base e 1 v n xs) : xs.length = n := by have := h.1; omega
/-- its form -/
theorem own_form (h : w.ownsRow base e size v n xs) : ∃ ao cap, v = .slice ao n cap ∧ n ≤ cap ∧ cap ≤ 9223372036854775807 ∧ (ao = none → n = 0 ∧ cap = 0) ∧ ∀ a, ao = some a → a = ⟨a.block, 0, none⟩ ∧ base ≤ a.block ∧ a.block < w.heap.size := by
  rcases h.2 with ⟨rfl, rfl⟩ | ⟨g, cap, cur, rfl, hg, hh, hnc, hm, _⟩
  · exact ⟨none, 0, rfl, by omega, by omega, fun _ => ⟨rfl, rfl⟩, fun _ h => by cases h⟩
  · exact ⟨_, cap, rfl, hnc, by unfold maxLen at hm; omega, fun h => (by cases h), fun a ha => by cases ha; exact ⟨rfl, hg, (Array.getElem?_eq_some_iff.1 hh).1⟩⟩
/-- element k of a row of one-cell elements -/
theorem own_at {ao : Option Addr} {n cap k : Nat} (h : w.ownsRow base e 1 (.slice ao n cap) n xs) (hk : k < n) :
    ∃ g x, ao = some ⟨g, 0, none⟩ ∧ base ≤ g ∧ g < w.heap.size ∧ Hid (xs[k]? = some x) ∧ w.cell? ⟨g, k, none⟩ = some x ∧ w.frozen? ⟨g, k, none⟩ = false := by
  have hlen := own_len h
  obtain ⟨h1, h2⟩ := h
  rcases h2 with ⟨hv, rfl⟩ | ⟨g, cap', cur, hv, hg, hh, hnc, hm, hs, ht⟩
  · omega
  · simp only [Value.slice.injEq] at hv
    obtain ⟨rfl, _, rfl⟩ := hv
    have hx : xs[k]? = some (xs[k]'(by omega)) := List.getElem?_eq_getElem (by omega)
    refine ⟨g, _, rfl, hg, (Array.getElem?_eq_some_iff.1 hh).1, hx, ?_, frozen_of_row w g k cur e hh⟩
    rw [cell_of_row w g k cur e (0, 0) hh, ← hx, ← ht, List.getElem?_take, if_pos (by omega)]
    simp
/-- below 'base' nothing turns -/
theorem below_own {w' : World} {row : Option Nat} (hg : w.grownBy w' row) (hb : base ≤ w.heap.size) (hr : ∀ k, row = some k → base ≤ k) : Below base w w' :=
  (Below.refl base w).grown hg hb hr

/-- append(out, x), x laid in a new block just before -/
theorem wpList_append_one {ops : Array Oper} {rest : List Oper} {o : Oper} {a : Act} {Q : Exit → Act → World → Prop} (s x : Operand) (t : TypeId) (hgd : o.guard = none)
    (ho : o.op = .call { callee := .builtin .append, args := #[s, x], argTypes := #[t, t] })
    (i : TypeInfo) (z : Value) (bytes : Nat) (ht : P.underlying t = some (.slice e)) (hi : P.info? e = some i) (hz : i.zero = some z)
    (hsize : i.size = 1) (hby : i.bytes = bytes) (hzs : z.cells.size = 1) (u : Value) (hs : a.eval s = v) (hx : a.eval x = .slice (some ⟨w.heap.size, 0, none⟩) 1 1)
    (hown : w.ownsRow base e 1 v n xs) (hu : u.oneCell' = true) (hn : n < 9223372036854775807) (hbytes : (n + 1) * bytes ≤ 140737488355328) (hbase : base ≤ w.heap.size)
    (h : ∀ v' w1, w1.ownsRow base e 1 v' (n + 1) (xs ++ [u]) → Below base w w1 → wpList P ops Q rest (a.put o.dst v') w1) :
    wpList P ops Q (o :: rest) a (w.alloc (.cells #[u] e)) := by
  refine wpList_append_own (w.alloc (.cells #[u] e)) hgd s x t ho base e i z 1 bytes ht hi hz hsize hby hzs (by decide) v n xs hs (hown.alloc _) ⟨w.heap.size, 0, none⟩ 1 1 [u] hx rfl (cell_one_new _ _ _) (fun y hy => by simp at hy; subst hy; exact hu)
    (by unfold maxLen; omega) hbytes (by simp; omega) ?_
  intro v' w1 h1 h2 _
  refine h v' w1 h1 ?_
  refine ((Below.refl base w).alloc hbase (.cells #[u] e)).trans ?_
  exact below_own h2 (by simp; omega) (fun k hk => (hown.lt k hk).1)

/-- append(out, src...), src a []byte -/
theorem wpList_append_bytes {ops : Array Oper} {rest : List Oper} {o : Oper} {a : Act} {Q : Exit → Act → World → Prop} (s x : Operand) (t : TypeId) (hgd : o.guard = none)
    (ho : o.op = .call { callee := .builtin .append, args := #[s, x], argTypes := #[t, t] })
    (i : TypeInfo) (z : Value) (ht : P.underlying t = some (.slice e)) (hi : P.info? e = some i) (hz : i.zero = some z)
    (hsize : i.size = 1) (hby : i.bytes = 1) (hzs : z.cells.size = 1) (u : Value) (l m : List Int) (hs : a.eval s = v) (hx : a.eval x = u)
    (hown : w.ownsRow base e 1 v n (l.map (Value.int .u8))) (hu : IsB w u m) (hn : n + m.length ≤ 140737488355328) (hbase : base ≤ w.heap.size)
    (h : ∀ v' w1, w1.ownsRow base e 1 v' (n + m.length) ((l ++ m).map (Value.int .u8)) → Below base w w1 → wpList P ops Q rest (a.put o.dst v') w1) :
    wpList P ops Q (o :: rest) a w := by
  have hrow : ∀ k, v.ownBlock = some k → base ≤ k := fun k hk => (hown.lt k hk).1
  obtain ⟨h0, ao, cap, rfl, h2, h3, h4, h5⟩ := hu
  have nilway : m = [] → ∀ v', v' = v → wpList P ops Q rest (a.put o.dst v') w := fun hm v' hv => by
    subst hm; subst hv
    exact h v' w (by simpa using hown) (Below.refl _ _)
  rcases ao with _ | ad
  · obtain ⟨rfl, rfl⟩ := h4 rfl
    refine wpList_plain hgd fun K hK => ?_
    unfold Oper.wp execOp
    have hrun : (Builtin.append_ #[t, t] o.type #[v, .slice none 0 0]).run P w = .ok v w := by
      rcases hown.2 with ⟨rfl, rfl⟩ | ⟨g, cap, cur, rfl, _, _, hnc, _⟩
      · simp [Builtin.append_, run_underlying ht, sizeOf, typeInfo, hi, Builtin.lenOf, Builtin.firstCells]
      · simp [Builtin.append_, run_underlying ht, sizeOf, typeInfo, hi, Builtin.lenOf, Builtin.firstCells, hnc, storeCells]
    simp only [ho, resolve, invoke, builtin, Sem.run_bind, Sem.run_pure, Result.andThen_ok, List.map_toArray, List.map_cons, List.map_nil, hs, hx, List.length_nil, hrun]
    exact hK _ _ (nilway rfl v rfl)
  · refine wpList_append_own w hgd s x t ho base e i z 1 1 ht hi hz hsize hby hzs (by decide) v n _ hs hown ad m.length cap (m.map (Value.int .u8)) hx (by simp) ?_ (ints_oneCell _ _) (by unfold maxLen; omega) (by omega) hbase ?_
    · intro j y hj
      have hjl : j < m.length := by
        rcases Nat.lt_or_ge j m.length with h | h
        · exact h
        · simp [List.getElem?_eq_none h] at hj
      obtain ⟨k1, k2, k3⟩ := h5 ad rfl (by omega)
      obtain ⟨b, o', s'⟩ := ad
      simp only at k1 k2 k3
      subst k1
      have hplain : (⟨b, o', none⟩ : Addr).add j = ⟨b, o' + j, none⟩ := by unfold Addr.add; split <;> simp_all
      rw [hplain, k3 j hjl]
      simp [List.getElem?_eq_getElem hjl] at hj
      subst hj
      simp [List.getD, hjl]
    · intro v' w1 k1 k2 _
      exact h v' w1 (by simpa using k1) (below_own k2 hbase hrow)
end
end Go.Proofs.Ytmojbamloanleaa
namespace Go.Proofs.Ytmojbamloanleaa
open Go.RowKit
theorem made_bytes (n : Nat) : (madeCells (Value.int .u8 0).cells (n * 1)).toList = (List.replicate n (0 : Int)).map (Value.int .u8) := by
  rw [List.map_replicate, Nat.mul_one]
  unfold madeCells
  rw [Array.toList_map, Array.toList_range]
  refine List.eq_replicate_iff.2 ⟨by simp, fun x hx => ?_⟩
  rw [List.mem_map] at hx
  obtain ⟨k, _, rfl⟩ := hx
  simp [Value.cells, Nat.mod_one]
theorem plain_add' (b o i : Nat) : (⟨b, o, none⟩ : Addr).add i = ⟨b, o + i, none⟩ := by unfold Addr.add; split <;> simp_all
section
variable {P : Program} {w : World} {base : Nat} {e : TypeId} {size : Nat} {v : Value} {n : Nat} {xs : List Value}
theorem wpList_make_bytes {ops : Array Oper} {rest : List Oper} {o : Oper} {a : Act} {Q : Exit → Act → World → Prop} (hg : o.guard = none) (l c : Operand) (t : TypeId) (hop : o.op = Op.makeSlice t l c)
    (i : TypeInfo) (h1 : P.underlying t = some (.slice e)) (h2 : P.info? e = some i) (h3 : i.zero = some (.int .u8 0)) (h4 : i.size = 1) (h5 : i.bytes = 1)
    (L C : Int) (n : Nat) (hl : a.eval l = .int .i64 L) (hc : a.eval c = .int .i64 C) (hL : L = (n : Int)) (hC : C = (n : Int)) (b2 : n ≤ 281474976710656) (b4 : base ≤ w.heap.size)
    (hK : ∀ w', w'.ownsRow base e 1 (.slice (some ⟨w.heap.size, 0, none⟩) n n) n ((List.replicate n (0 : Int)).map (Value.int .u8)) → Below w.heap.size w w' → w.heap.size < w'.heap.size → wpList P ops Q rest (a.put o.dst (.slice (some ⟨w.heap.size, 0, none⟩) n n)) w') :
    wpList P ops Q (o :: rest) a w := by
  refine wpList_make_full w hg l c t hop base e i (.int .u8 0) 1 h1 h2 h3 h4 .i64 .i64 L C n hl hc hL hC (by rw [h5]; omega) (by unfold maxLen; omega) b4 ?_
  intro w' k1 k2
  rw [made_bytes] at k1
  exact hK w' k1 (below_own k2 (Nat.le_refl _) (fun k hk => by cases hk)) (k1.lt _ rfl).2
theorem own_set_other (h : w.ownsRow base e size v n xs) {p : Addr} (hp : v.ownBlock ≠ some p.block) (u : Value) : (w.setCell p u).ownsRow base e size v n xs := by
  obtain ⟨h1, h2⟩ := h
  refine ⟨h1, ?_⟩
  rcases h2 with h2 | ⟨g, cap, cur, rfl, hg, hh, r⟩
  · exact .inl h2
  · refine .inr ⟨g, cap, cur, rfl, hg, (Below.heap_setCell w p u g (fun e => hp (by rw [← e]; rfl))).trans hh, r⟩
theorem own_own_ne {base' n' size' : Nat} {e' : TypeId} {v' : Value} {xs' : List Value} (h : w.ownsRow base e size v n xs) (h' : w.ownsRow base' e' size' v' n' xs') (hne : e ≠ e') : v.ownBlock = none ∨ v.ownBlock ≠ v'.ownBlock := by
  rcases h.2 with ⟨rfl, _⟩ | ⟨g, cap, cur, rfl, _, hh, _⟩
  · exact .inl rfl
  · rcases h'.2 with ⟨rfl, _⟩ | ⟨g', cap', cur', rfl, _, hh', _⟩
    · exact .inr (by simp [Value.ownBlock])
    · refine .inr fun he => ?_
      have : g = g' := by simpa [Value.ownBlock] using he
      subst this
      rw [hh] at hh'
      injection hh' with hh'
      injection hh' with _ ht
      exact hne ht
/-- append(out, x), and what turns: out's block alone -/
theorem wpList_append_one' {ops : Array Oper} {rest : List Oper} {o : Oper} {a : Act} {Q : Exit → Act → World → Prop} (s x : Operand) (t : TypeId) (hgd : o.guard = none)
    (ho : o.op = .call { callee := .builtin .append, args := #[s, x], argTypes := #[t, t] })
    (i : TypeInfo) (z : Value) (bytes : Nat) (ht : P.underlying t = some (.slice e)) (hi : P.info? e = some i) (hz : i.zero = some z)
    (hsize : i.size = 1) (hby : i.bytes = bytes) (hzs : z.cells.size = 1) (u : Value) (hs : a.eval s = v) (hx : a.eval x = .slice (some ⟨w.heap.size, 0, none⟩) 1 1)
    (hown : w.ownsRow base e 1 v n xs) (hu : u.oneCell' = true) (hn : n < 9223372036854775807) (hbytes : (n + 1) * bytes ≤ 140737488355328) (hbase : base ≤ w.heap.size)
    (h : ∀ v' w1, w1.ownsRow base e 1 v' (n + 1) (xs ++ [u]) → w.grownBy w1 v.ownBlock → wpList P ops Q rest (a.put o.dst v') w1) :
    wpList P ops Q (o :: rest) a (w.alloc (.cells #[u] e)) := by
  refine wpList_append_own (w.alloc (.cells #[u] e)) hgd s x t ho base e i z 1 bytes ht hi hz hsize hby hzs (by decide) v n xs hs (hown.alloc _) ⟨w.heap.size, 0, none⟩ 1 1 [u] hx rfl (cell_one_new _ _ _) (fun y hy => by simp at hy; subst hy; exact hu)
    (by unfold maxLen; omega) hbytes (by simp; omega) ?_
  intro v' w1 h1 h2 _
  refine h v' w1 h1 ?_
  exact World.grownBy.trans (gb_alloc (gb_refl w _) _) h2
/-- append(out, x, y), laid in a new block just before -/
theorem wpList_append_two {ops : Array Oper} {rest : List Oper} {o : Oper} {a : Act} {Q : Exit → Act → World → Prop} (s x : Operand) (t : TypeId) (hgd : o.guard = none)
    (ho : o.op = .call { callee := .builtin .append, args := #[s, x], argTypes := #[t, t] })
    (i : TypeInfo) (z : Value) (bytes : Nat) (ht : P.underlying t = some (.slice e)) (hi : P.info? e = some i) (hz : i.zero = some z)
    (hsize : i.size = 1) (hby : i.bytes = bytes) (hzs : z.cells.size = 1) (u u' : Value) (hs : a.eval s = v) (hx : a.eval x = .slice (some ⟨w.heap.size, 0, none⟩) 2 2)
    (hown : w.ownsRow base e 1 v n xs) (hu : u.oneCell' = true) (hu' : u'.oneCell' = true) (hn : n < 9223372036854775806) (hbytes : (n + 2) * bytes ≤ 140737488355328) (hbase : base ≤ w.heap.size)
    (h : ∀ v' w1, w1.ownsRow base e 1 v' (n + 2) (xs ++ [u, u']) → w.grownBy w1 v.ownBlock → wpList P ops Q rest (a.put o.dst v') w1) :
    wpList P ops Q (o :: rest) a (w.alloc (.cells #[u, u'] e)) := by
  refine wpList_append_own (w.alloc (.cells #[u, u'] e)) hgd s x t ho base e i z 1 bytes ht hi hz hsize hby hzs (by decide) v n xs hs (hown.alloc _) ⟨w.heap.size, 0, none⟩ 2 2 [u, u'] hx rfl ?_ (fun y hy => by simp at hy; rcases hy with rfl | rfl <;> assumption)
    (by unfold maxLen; omega) hbytes (by simp; omega) ?_
  · intro j y hj
    rw [plain_add']
    rw [cell_of_row _ w.heap.size (0 + j) _ e (0, 0) (heap_alloc_new w _)]
    simpa using hj
  · intro v' w1 h1 h2 _
    refine h v' w1 h1 ?_
    exact World.grownBy.trans (gb_alloc (gb_refl w _) _) h2
/-- grown by a row of the call's own: what lay below the call's blocks stands -/
theorem bel_own {w0 w' : World} (h : Below w0.heap.size w0 w) (hg : w.grownBy w' v.ownBlock) (ho : w.ownsRow w0.heap.size e size v n xs) : Below w0.heap.size w0 w' :=
  h.trans ((Below.refl _ _).grown hg h.size (fun k hk => (ho.lt k hk).1))
theorem own_below_set {w0 : World} (h : Below w0.heap.size w0 w) {p : Addr} (hp : w0.heap.size ≤ p.block) (u : Value) : Below w0.heap.size w0 (w.setCell p u) := h.setCell hp u
end
end Go.Proofs.Ytmojbamloanleaa
namespace Go.Proofs.Ytmojbamloanleaa
open Go.RowKit
/-- v is a []byte in a block of the call's own that reads as l -/
def OwnS (w : World) (base : Nat) (e : TypeId) (v : Value) (l : List Int) : Prop :=
  Rng l ∧ ((v = .slice none 0 0 ∧ l = []) ∨ ∃ g cap cur, v = .slice (some ⟨g, 0, none⟩) l.length cap ∧ base ≤ g ∧ w.heap[g]? = some (.cells cur e (0, 0)) ∧ l.length ≤ cap ∧ cap ≤ cur.size ∧ cap ≤ maxLen ∧ cur.toList.take l.length = l.map (Value.int .u8))
section
variable {w w' : World} {base : Nat} {e : TypeId} {v : Value} {l : List Int}
theorem OwnS.of_own {n : Nat} (h : w.ownsRow base e 1 v n (l.map (Value.int .u8))) (hr : Rng l) : OwnS w base e v l := by
  have hn : l.length = n := by have := own_len h; simpa using this
  subst hn
  refine ⟨hr, ?_⟩
  rcases h.2 with ⟨rfl, h0⟩ | ⟨g, cap, cur, rfl, h1, h2, h3, h4, h5, h6⟩
  · exact .inl ⟨rfl, List.eq_nil_of_length_eq_zero h0⟩
  · exact .inr ⟨g, cap, cur, rfl, h1, h2, h3, by omega, h4, by simpa using h6⟩
theorem OwnS.rng (h : OwnS w base e v l) : Rng l := h.1
theorem OwnS.mono {b' : Nat} (h : OwnS w base e v l) (hb : b' ≤ base) : OwnS w b' e v l := by
  refine ⟨h.1, ?_⟩
  rcases h.2 with h2 | ⟨g, cap, cur, h1, h2, r⟩
  · exact .inl h2
  · exact .inr ⟨g, cap, cur, h1, by omega, r⟩
theorem OwnS.below (h : OwnS w base e v l) (hb : Below w.heap.size w w') : OwnS w' base e v l := by
  refine ⟨h.1, ?_⟩
  rcases h.2 with h2 | ⟨g, cap, cur, h1, h2, h3, r⟩
  · exact .inl h2
  · exact .inr ⟨g, cap, cur, h1, h2, (hb.block g (Array.getElem?_eq_some_iff.1 h3).1).trans h3, r⟩
theorem OwnS.alloc (h : OwnS w base e v l) (o : Obj) : OwnS (w.alloc o) base e v l := h.below ((Below.refl _ _).alloc (Nat.le_refl _) o)
theorem OwnS.lt (h : OwnS w base e v l) : ∀ k, v.ownBlock = some k → base ≤ k ∧ k < w.heap.size := by
  intro k hk
  rcases h.2 with ⟨rfl, _⟩ | ⟨g, cap, cur, rfl, h2, h3, _⟩
  · cases hk
  · have : g = k := by simpa [Value.ownBlock] using hk
    subst this
    exact ⟨h2, (Array.getElem?_eq_some_iff.1 h3).1⟩
theorem OwnS.kept {row : Option Nat} (h : OwnS w base e v l) (hg : w.grownBy w' row) (hne : v.ownBlock = none ∨ v.ownBlock ≠ row) : OwnS w' base e v l := by
  refine ⟨h.1, ?_⟩
  rcases h.2 with h2 | ⟨g, cap, cur, rfl, h2, h3, r⟩
  · exact .inl h2
  · refine .inr ⟨g, cap, cur, rfl, h2, (hg.block g (Array.getElem?_eq_some_iff.1 h3).1 ?_).trans h3, r⟩
    intro he
    rcases hne with hne | hne
    · cases hne
    · exact hne he
theorem OwnS.form (h : OwnS w base e v l) : ∃ ao cap, v = .slice ao l.length cap ∧ l.length ≤ cap ∧ cap ≤ 9223372036854775807 ∧ (ao = none → l.length = 0 ∧ cap = 0) ∧ ∀ a, ao = some a → a = ⟨a.block, 0, none⟩ ∧ base ≤ a.block ∧ a.block < w.heap.size := by
  rcases h.2 with ⟨rfl, rfl⟩ | ⟨g, cap, cur, rfl, h2, h3, h4, _, h6, _⟩
  · exact ⟨none, 0, rfl, by simp, by omega, fun _ => ⟨rfl, rfl⟩, fun _ h => by cases h⟩
  · exact ⟨_, cap, rfl, h4, by unfold maxLen at h6; omega, fun h => (by cases h), fun a ha => by cases ha; exact ⟨rfl, h2, (Array.getElem?_eq_some_iff.1 h3).1⟩⟩
theorem OwnS.isB (h : OwnS w base e v l) : IsB w v l := by
  rcases h.2 with ⟨rfl, rfl⟩ | ⟨g, cap, cur, rfl, h2, h3, h4, h5, h6, h7⟩
  · exact IsB.nil w
  · refine ⟨h.1, _, cap, rfl, h4, h6, fun h => (by cases h), fun a ha hp => ?_⟩
    cases ha
    refine ⟨rfl, (Array.getElem?_eq_some_iff.1 h3).1, fun i hi => ?_⟩
    show w.cell? ⟨g, 0 + i, none⟩ = _
    rw [Nat.zero_add, cell_of_row w g i cur e (0, 0) h3]
    have h8 : (cur.toList.take l.length)[i]? = (l.map (Value.int .u8))[i]? := by rw [h7]
    rw [List.getElem?_take_of_lt hi] at h8
    rw [← Array.getElem?_toList, h8]
    simp [List.getElem?_map, List.getElem?_eq_getElem hi]
theorem OwnS.at_ {ao : Option Addr} {n cap k : Nat} (h : OwnS w base e (.slice ao n cap) l) (hk : k < l.length) :
    ∃ g x, ao = some ⟨g, 0, none⟩ ∧ base ≤ g ∧ g < w.heap.size ∧ Hid (l[k]? = some x) ∧ w.cell? ⟨g, k, none⟩ = some (.int .u8 x) ∧ w.frozen? ⟨g, k, none⟩ = false := by
  have hB := h.isB
  rcases h.2 with ⟨_, rfl⟩ | ⟨g, cap', cur, hv, h2, h3, h4, h5, h6, h7⟩
  · simp at hk
  · simp only [Value.slice.injEq] at hv
    obtain ⟨rfl, rfl, rfl⟩ := hv
    obtain ⟨b, o, x, hb, _, hx, hc, _⟩ := hB.at_ hk
    cases hb
    exact ⟨g, x, rfl, h2, (Array.getElem?_eq_some_iff.1 h3).1, hx, by simpa using hc, frozen_of_row w g k cur e h3⟩
theorem OwnS.stored {g cap k : Nat} {x : Int} (h : OwnS w base e (.slice (some ⟨g, 0, none⟩) l.length cap) l) (_hk : k < l.length) (hx : 0 ≤ x ∧ x ≤ 255) :
    OwnS (w.setCell ⟨g, k, none⟩ (.int .u8 x)) base e (.slice (some ⟨g, 0, none⟩) l.length cap) (l.set k x) := by
  refine ⟨fun y hy => ?_, ?_⟩
  · rcases List.mem_or_eq_of_mem_set hy with h1 | h1
    · exact h.1 y h1
    · rw [h1]; exact hx
  · rcases h.2 with ⟨hv, _⟩ | ⟨g', cap', cur, hv, h2, h3, h4, h5, h6, h7⟩
    · cases hv
    · simp only [Value.slice.injEq, Option.some.injEq, Addr.mk.injEq, and_true, true_and] at hv
      obtain ⟨rfl, rfl⟩ := hv
      refine .inr ⟨g, cap, cur.setIfInBounds k (.int .u8 x), by rw [List.length_set], h2, heap_setCell_same w g k cur e _ h3, by rw [List.length_set]; exact h4, by simpa using h5, h6, ?_⟩
      rw [List.length_set, Array.toList_setIfInBounds, List.take_set, h7, List.map_set]
/-- v[:len(v):len(v)] -/
theorem OwnS.clip {ao : Option Addr} {n cap : Nat} (h : OwnS w base e (.slice ao n cap) l) : OwnS w base e (.slice ao n n) l := by
  refine ⟨h.1, ?_⟩
  rcases h.2 with ⟨hv, h2⟩ | ⟨g, cap', cur, hv, h2, h3, h4, h5, h6, h7⟩
  · simp only [Value.slice.injEq] at hv
    obtain ⟨rfl, rfl, rfl⟩ := hv
    exact .inl ⟨rfl, h2⟩
  · simp only [Value.slice.injEq] at hv
    obtain ⟨rfl, rfl, rfl⟩ := hv
    exact .inr ⟨g, l.length, cur, rfl, h2, h3, Nat.le_refl _, by omega, by omega, h7⟩
/-- two rows that lie apart -/
theorem OwnS.apart {v' : Value} {_l' : List Int} {_base' : Nat} (h : OwnS w base e v l) (hlt : ∀ k, v'.ownBlock = some k → k < base) : v.ownBlock = none ∨ v.ownBlock ≠ v'.ownBlock := by
  rcases h.2 with ⟨rfl, _⟩ | ⟨g, cap, cur, rfl, h2, _⟩
  · exact .inl rfl
  · refine .inr fun he => ?_
    have := hlt g he.symm
    omega
end
section
variable {P : Program} {w : World}
theorem run_loadBytes (xs : List Int) (a : Addr) (h : ∀ j x, xs[j]? = some x → w.cell? (a.add j) = some (.int .u8 x)) :
    (Extern.Bytes.loadBytes a xs.length .empty).run P w = .ok (strOfNums xs) w := by
  rw [Lib.run_loadBytesX (P := P) w xs a .empty h]
  simp [Lib.bytesOf, strOfNums]
theorem IsB.run_bytesOf {v : Value} {l : List Int} (h : IsB w v l) : (Extern.Bytes.bytesOf v).run P w = .ok (strOfNums l) w := by
  obtain ⟨h0, ao, cap, rfl, h2, h3, h4, h5⟩ := h
  rcases ao with _ | a
  · obtain ⟨rfl, rfl⟩ := h4 rfl
    rfl
  · simp only [Extern.Bytes.bytesOf]
    refine run_loadBytes l a fun j x hj => ?_
    have hjl : j < l.length := (List.getElem?_eq_some_iff.1 hj).1
    obtain ⟨k1, k2, k3⟩ := h5 a rfl (by omega)
    obtain ⟨b, o, s⟩ := a
    simp only at k1 k2 k3
    subst k1
    rw [plain_add', k3 j hjl]
    simp [List.getD, hj]
end
theorem gb_row {w w1 w2 : World} {row : Option Nat} (h : w.grownBy w1 row) (k : w1.grownBy w2 none) : w.grownBy w2 row :=
  ⟨k.os.trans h.os, k.tape.trans h.tape, k.output.trans h.output, Nat.le_trans h.size k.size, fun i hi hn => (k.block i (Nat.lt_of_lt_of_le hi h.size) (by simp)).trans (h.block i hi hn)⟩
theorem gb_cells {w : World} {g : Nat} : ∀ (xs : List Value) (o : Nat) {w1 : World}, w.grownBy w1 (some g) → w.grownBy (w1.setCells g o xs) (some g)
  | [], _, _, h => h
  | v :: r, o, _, h => gb_cells r (o + 1) (gb_set h (.inl rfl) v)
theorem OwnS.spare {w : World} {base : Nat} {e : TypeId} {l : List Int} {g cap : Nat} (h : OwnS w base e (.slice (some ⟨g, 0, none⟩) l.length cap) l) (i : Nat) (hi : i < cap) : (w.cell? ⟨g, i, none⟩).isSome = true ∧ w.frozen? ⟨g, i, none⟩ = false := by
  rcases h.2 with ⟨hv, _⟩ | ⟨g', cap', cur, hv, h2, h3, h4, h5, h6, h7⟩
  · cases hv
  · simp only [Value.slice.injEq, Option.some.injEq, Addr.mk.injEq, and_true, true_and] at hv
    obtain ⟨rfl, rfl⟩ := hv
    refine ⟨?_, frozen_of_row w g i cur e h3⟩
    rw [cell_of_row w g i cur e (0, 0) h3]
    simp; omega
/-- v[k:] and v[k:k+m] -/
theorem IsB.cut {w : World} {ao : Option Addr} {cap : Nat} {l : List Int} (h : IsB w (.slice ao l.length cap) l) (k m : Nat) (hk : k + m ≤ l.length) : IsB w (.slice (ao.map (·.add k)) m (cap - k)) ((l.drop k).take m) := by
  obtain ⟨h0, ao', cap', h1, h2, h3, h4, h5⟩ := h
  simp only [Value.slice.injEq, true_and] at h1
  obtain ⟨rfl, rfl⟩ := h1
  have hlen : ((l.drop k).take m).length = m := by rw [List.length_take, List.length_drop]; omega
  refine ⟨(h0.drop k).take m, ao.map (·.add k), cap - k, by rw [hlen], by rw [hlen]; omega, by omega, fun hn => ?_, fun a ha hp => ?_⟩
  · have : ao = none := by cases ao; rfl; cases hn
    obtain ⟨rfl, rfl⟩ := h4 this
    exact ⟨by simp, by omega⟩
  · rw [hlen] at hp
    cases ao with
    | none => cases ha
    | some b =>
      obtain ⟨k1, k2, k3⟩ := h5 b rfl (by omega)
      obtain ⟨g, o, s⟩ := b
      simp only at k1 k2 k3
      subst k1
      simp only [Option.map_some, Option.some.injEq] at ha
      rw [plain_add'] at ha
      subst ha
      refine ⟨rfl, k2, fun i hi => ?_⟩
      rw [hlen] at hi
      have := k3 (k + i) (by omega)
      show w.cell? ⟨g, o + k + i, none⟩ = _
      rw [Nat.add_assoc, this]
      simp [List.getD, List.getElem?_take_of_lt hi]
theorem IsB.cut0 {w : World} {ao : Option Addr} {n cap : Nat} {l : List Int} (_h : IsB w (.slice ao n cap) l) : IsB w (.slice ao 0 0) [] :=
  ⟨Rng.nil, ao, 0, rfl, Nat.le_refl _, by simp [maxLen], fun _ => ⟨rfl, rfl⟩, fun _ _ hp => absurd hp (by simp)⟩
/-- append(v, x, y) to bytes of the call's own: only how long it is, and that nothing else turns -/
theorem wpList_append_loose {P : Program} {w : World} {base : Nat} {e : TypeId} {ao : Option Addr} {cap : Nat} {l : List Int} {ops : Array Oper} {rest : List Oper} {o : Oper} {a : Act} {Q : Exit → Act → World → Prop} (s x : Operand) (t : TypeId) (hgd : o.guard = none)
    (ho : o.op = .call { callee := .builtin .append, args := #[s, x], argTypes := #[t, t] })
    (i : TypeInfo) (ht : P.underlying t = some (.slice e)) (hi : P.info? e = some i) (hz : i.zero = some (.int .u8 0)) (hsize : i.size = 1) (hby : i.bytes = 1)
    (u u' : Value) (hs : a.eval s = .slice ao l.length cap) (hx : a.eval x = .slice (some ⟨w.heap.size, 0, none⟩) 2 2)
    (hown : OwnS w base e (.slice ao l.length cap) l) (hu : u.oneCell' = true) (hu' : u'.oneCell' = true) (hn : l.length ≤ 140737488355320)
    (h : ∀ ao' cap' w1, l.length + 2 ≤ cap' → cap' ≤ 9223372036854775807 → w.grownBy w1 (Value.slice ao l.length cap).ownBlock → wpList P ops Q rest (a.put o.dst (.slice ao' (l.length + 2) cap')) w1) :
    wpList P ops Q (o :: rest) a (w.alloc (.cells #[u, u'] e)) := by
  have hnews : ∀ (j : Nat) (z : Value), [u, u'][j]? = some z → (w.alloc (.cells #[u, u'] e)).cell? ((⟨w.heap.size, 0, none⟩ : Addr).add j) = some z := by
    intro j z hj
    rw [plain_add', cell_of_row _ w.heap.size (0 + j) _ e (0, 0) (heap_alloc_new w _)]
    simpa using hj
  have hone : ∀ z ∈ [u, u'], z.oneCell' = true := fun z hz => by simp at hz; rcases hz with rfl | rfl <;> assumption
  obtain ⟨ao0, cap0, hv, hnc, hcap, hnone, hsome⟩ := hown.form
  simp only [Value.slice.injEq, true_and] at hv
  obtain ⟨rfl, rfl⟩ := hv
  have grow : ∀ v' w', w'.ownsRow (w.alloc (.cells #[u, u'] e)).heap.size e 1 v' (l.length + 2) (l.map (Value.int .u8) ++ [u, u']) → (w.alloc (.cells #[u, u'] e)).grownBy w' none → wpList P ops Q rest (a.put o.dst v') w' := by
    intro v' w' h1 h2
    obtain ⟨bo, bcap, rfl, h3, h4, _, _⟩ := own_form h1
    exact h bo bcap w' h3 h4 (gb_row (gb_alloc (gb_refl w _) _) h2)
  rcases ao with _ | ad
  · obtain ⟨h0, hc0⟩ := hnone rfl
    have hl0 : l = [] := List.eq_nil_of_length_eq_zero h0
    refine wpList_append_grows _ hgd s x t ho e i (.int .u8 0) 1 1 ht hi hz hsize hby rfl (by decide) none l.length cap (l.map (Value.int .u8)) hs (fun _ => ⟨h0, hc0⟩) (by simp) (fun b hb => by cases hb) ⟨w.heap.size, 0, none⟩ 2 2 [u, u'] hx rfl hnews hone (by omega) (by unfold maxLen; omega) (by omega) grow
  · obtain ⟨e1, _, hgl⟩ := hsome ad rfl
    obtain ⟨g, o', s'⟩ := ad
    simp only [Addr.mk.injEq, true_and] at e1
    obtain ⟨rfl, rfl⟩ := e1
    simp only at hgl
    refine wpList_append_arg _ hgd s x t ho e i (.int .u8 0) 1 1 ht hi hz hsize hby rfl (by decide) g 0 l.length cap (l.map (Value.int .u8)) hs (by simp) ?_ ⟨w.heap.size, 0, none⟩ 2 2 [u, u'] hx rfl hnews hone ?_ (by unfold maxLen; omega) (by omega) ?_ (fun _ => grow)
    · intro j z hj
      rw [List.getElem?_map, Option.map_eq_some_iff] at hj
      obtain ⟨y, hy, rfl⟩ := hj
      obtain ⟨g', x', hg', _, _, hx', hc', _⟩ := hown.at_ (List.getElem?_eq_some_iff.1 hy).1
      cases hg'
      rw [hx'.out] at hy
      cases hy
      rw [Nat.zero_add, World.cell?_alloc_lt w _ _ hgl]
      exact hc'
    · intro hr j hj
      have hj2 : j < 2 := by simpa using hj
      have := hown.spare (0 + l.length * 1 + j) (by omega)
      exact ⟨(congrArg Option.isSome (World.cell?_alloc_lt w _ ⟨g, 0 + l.length * 1 + j, none⟩ hgl)).trans this.1, ((Below.refl _ w).alloc (Nat.le_refl _) _).frozen (p := ⟨g, 0 + l.length * 1 + j, none⟩) hgl |>.trans this.2⟩
    · intro hr
      exact h _ cap _ (by omega) hcap (gb_cells _ _ (gb_alloc (gb_refl w _) _))
end Go.Proofs.Ytmojbamloanleaa
namespace Go.Proofs.Ytmojbamloanleaa
open Go.RowKit
theorem ofInt_nat (n a : Nat) (h : a < 2 ^ n) : (BitVec.ofInt n (a : Int)).toNat = a := by
  simp [Nat.mod_eq_of_lt h]
theorem wrap_nat {k : IntKind} (hk : k.signed = false) (a : Nat) (h : a < 2 ^ k.bits) : k.wrap (a : Int) = a := by
  unfold IntKind.wrap
  simp [hk]
  exact Int.emod_eq_of_lt (by omega) (by exact_mod_cast h)
theorem bits_or_nat {k : IntKind} (hk : k.signed = false) (a b : Nat) (ha : a < 2 ^ k.bits) (hb : b < 2 ^ k.bits) : bits .or k (a : Int) (b : Int) = ((a ||| b : Nat) : Int) := by
  unfold bits
  simp only [BitVec.toNat_or, ofInt_nat _ _ ha, ofInt_nat _ _ hb]
  exact wrap_nat hk _ (Nat.or_lt_two_pow ha hb)
theorem bits_and_nat {k : IntKind} (hk : k.signed = false) (a b : Nat) (ha : a < 2 ^ k.bits) (hb : b < 2 ^ k.bits) : bits .and k (a : Int) (b : Int) = ((a &&& b : Nat) : Int) := by
  unfold bits
  simp only [BitVec.toNat_and, ofInt_nat _ _ ha, ofInt_nat _ _ hb]
  exact wrap_nat hk _ (Nat.and_lt_two_pow _ hb)
theorem bits_xor_nat {k : IntKind} (hk : k.signed = false) (a b : Nat) (ha : a < 2 ^ k.bits) (hb : b < 2 ^ k.bits) : bits .xor k (a : Int) (b : Int) = ((a ^^^ b : Nat) : Int) := by
  unfold bits
  simp only [BitVec.toNat_xor, ofInt_nat _ _ ha, ofInt_nat _ _ hb]
  exact wrap_nat hk _ (Nat.xor_lt_two_pow ha hb)
/-- a low part and a high part, joined by 'or' -/
theorem bits_or_add {k : IntKind} (hk : k.signed = false) (a b i : Nat) (ha : a < 2 ^ i) (hs : a + 2 ^ i * b < 2 ^ k.bits) : bits .or k (a : Int) ((2 ^ i * b : Nat) : Int) = ((a + 2 ^ i * b : Nat) : Int) := by
  rw [bits_or_nat hk a (2 ^ i * b) (by omega) (by omega), Nat.or_comm, ← Nat.two_pow_add_eq_or_of_lt ha, Nat.add_comm]
/-- the low bits -/
theorem bits_and_mod {k : IntKind} (hk : k.signed = false) (a i : Nat) (ha : a < 2 ^ k.bits) (hi : 2 ^ i - 1 < 2 ^ k.bits) : bits .and k (a : Int) ((2 ^ i - 1 : Nat) : Int) = ((a % 2 ^ i : Nat) : Int) := by
  rw [bits_and_nat hk a (2 ^ i - 1) ha hi, Nat.and_two_pow_sub_one_eq_mod]
end Go.Proofs.Ytmojbamloanleaa
namespace Go.Proofs.Ytmojbamloanleaa
open Go.RowKit
/-- v is a [][]byte that reads as ls -/
def IsBB (w : World) (v : Value) (ls : List (List Int)) : Prop :=
  ∃ ao cap, v = .slice ao ls.length cap ∧ ls.length ≤ cap ∧ cap ≤ maxLen ∧ (ao = none → ls = [] ∧ cap = 0) ∧
    ∀ a, ao = some a → 0 < ls.length → a.spot = none ∧ a.block < w.heap.size ∧ ∀ i l, ls[i]? = some l → ∃ u, w.cell? ⟨a.block, a.off + i, none⟩ = some u ∧ IsB w u l
theorem IsBB.nil (w : World) : IsBB w (.slice none 0 0) [] := ⟨none, 0, rfl, by simp, by simp [maxLen], fun _ => ⟨rfl, rfl⟩, fun _ h => by cases h⟩
theorem IsBB.below {w w' : World} {v : Value} {ls : List (List Int)} (h : IsBB w v ls) (hb : Below w.heap.size w w') : IsBB w' v ls := by
  obtain ⟨ao, cap, h1, h2, h3, h4, h5⟩ := h
  refine ⟨ao, cap, h1, h2, h3, h4, fun a ha hl => ?_⟩
  obtain ⟨k1, k2, k3⟩ := h5 a ha hl
  refine ⟨k1, Nat.lt_of_lt_of_le k2 hb.size, fun i l hi => ?_⟩
  obtain ⟨u, hu, hB⟩ := k3 i l hi
  exact ⟨u, (hb.cell (p := ⟨a.block, a.off + i, none⟩) k2).trans hu, hB.below hb⟩
theorem IsBB.max {w : World} {v : Value} {ls : List (List Int)} (h : IsBB w v ls) : ls.length ≤ 9223372036854775807 := by
  obtain ⟨ao, cap, _, h2, h3, _⟩ := h
  unfold maxLen at h3; omega
theorem IsBB.form {w : World} {v : Value} {ls : List (List Int)} (h : IsBB w v ls) : ∃ ao cap, v = .slice ao ls.length cap ∧ ls.length ≤ cap := by
  obtain ⟨ao, cap, h1, h2, _⟩ := h
  exact ⟨ao, cap, h1, h2⟩
/-- element k -/
theorem IsBB.at_ {w : World} {ao : Option Addr} {n cap : Nat} {ls : List (List Int)} (h : IsBB w (.slice ao n cap) ls) {k : Nat} (hk : k < ls.length) :
    ∃ b o u l, ao = some ⟨b, o, none⟩ ∧ b < w.heap.size ∧ Hid (ls[k]? = some l) ∧ w.cell? ⟨b, o + k, none⟩ = some u ∧ Hid (IsB w u l) := by
  obtain ⟨ao', cap', h1, h2, h3, h4, h5⟩ := h
  simp only [Value.slice.injEq] at h1
  obtain ⟨rfl, rfl, rfl⟩ := h1
  rcases ao with _ | ⟨b, o, s⟩
  · have := (h4 rfl).1; subst this; simp at hk
  · obtain ⟨k1, k2, k3⟩ := h5 _ rfl (by omega)
    simp only at k1 k2 k3
    subst k1
    have e : ls[k]? = some (ls[k]) := List.getElem?_eq_getElem hk
    obtain ⟨u, hu, hB⟩ := k3 k _ e
    exact ⟨b, o, u, _, rfl, k2, e, hu, hB⟩
end Go.Proofs.Ytmojbamloanleaa
namespace Go.Proofs.Ytmojbamloanleaa
open Go.RowKit
theorem gb_setRow {w : World} {g : Nat} (cs : Array Value) : w.grownBy (w.setRow g cs) (some g) :=
  ⟨rfl, rfl, rfl, by simp, fun i hi hn => setRow_other w g i cs (fun e => hn (by rw [e]))⟩
theorem wpList_copy_bytes {P : Program} {w : World} {base : Nat} {e : TypeId} {v u : Value} {n : Nat} {ds ms : List Int} {ops : Array Oper} {rest : List Oper} {o : Oper} {a : Act} {Q : Exit → Act → World → Prop} (hgd : o.guard = none) (d s : Operand) (dT sT : TypeId)
    (ho : o.op = .call { callee := .builtin .copy, args := #[d, s], argTypes := #[dT, sT] }) (hu : P.underlying dT = some (.slice e)) (hsz : (P.info? e).map (·.size) = some 1)
    (hd : a.eval d = v) (hs : a.eval s = u) (hown : w.ownsRow base e 1 v n (ds.map (Value.int .u8))) (hB : IsB w u ms) (hle : ms.length ≤ n)
    (h : ∀ w', w'.ownsRow base e 1 v n ((ms ++ ds.drop ms.length).map (Value.int .u8)) → w.grownBy w' v.ownBlock → wpList P ops Q rest (a.put o.dst (goInt ms.length)) w') : wpList P ops Q (o :: rest) a w := by
  have hn : ds.length = n := by have := own_len hown; simpa using this
  obtain ⟨h0, sp, sCap, rfl, h2, h3, h4, h5⟩ := hB
  rcases Nat.eq_zero_or_pos ms.length with hz | hp
  · have hm0 : ms = [] := List.eq_nil_of_length_eq_zero hz
    subst hm0
    obtain ⟨ao, cap, hv, _, _, _, _⟩ := own_form hown
    have hq := h w (by simpa using hown) (World.grownBy.refl w _)
    exact wpList_copy_nothing hgd d s dT sT ho e hu hsz ao sp n cap 0 sCap (hd.trans hv) hs (by simp) hq
  · rcases hown.2 with ⟨rfl, hn0⟩ | ⟨g, cap, cur, rfl, hg, hh, hnc, hm, hcs, ht⟩
    · omega
    · rcases sp with _ | ad
      · have := (h4 rfl).1
        rw [this] at hp; simp at hp
      · obtain ⟨k1, k2, k3⟩ := h5 ad rfl hp
        obtain ⟨b, off, sp'⟩ := ad
        simp only at k1 k2 k3
        subst k1
        have hlen : (ms.map (Value.int .u8)).length = ms.length := by simp
        refine wpList_copy_own hgd d s dT sT ho e hu hsz g 0 n cap ⟨b, off, none⟩ ms.length sCap hd hs cur e hh (ms.map (Value.int .u8)) (by rw [hlen]; exact (Nat.min_eq_left hle).symm) ?_ (by rw [hlen]; omega) (ints_oneCell _ _) ?_
        · intro j z hj
          rw [List.getElem?_map, Option.map_eq_some_iff] at hj
          obtain ⟨y, hy, rfl⟩ := hj
          have hjl := (List.getElem?_eq_some_iff.1 hy).1
          rw [plain_add', k3 j hjl]
          simp [List.getD, hy]
        · rw [hlen]
          refine h _ ⟨by simp; omega, .inr ⟨g, cap, _, rfl, hg, setRow_heap w g cur _ e (0, 0) hh, hnc, hm, ?_, ?_⟩⟩ (gb_setRow _)
          · simp only [List.size_toArray, List.length_append, List.length_take, List.length_drop, Array.length_toList, List.length_map]
            omega
          · have ht' : cur.toList.take n = ds.map (Value.int .u8) := by simpa using ht
            simp only [List.take_zero, List.nil_append, Nat.zero_add, Nat.mul_one, List.map_append, List.map_drop]
            rw [← ht', List.take_append, List.take_of_length_le (by simp; omega), hlen, List.drop_take]
/-- copy into the row's rest from place k on -/
theorem wpList_copy_at {P : Program} {w : World} {base : Nat} {e : TypeId} {g n cap k : Nat} {u : Value} {ds ms : List Int} {ops : Array Oper} {rest : List Oper} {o : Oper} {a : Act} {Q : Exit → Act → World → Prop} (hgd : o.guard = none) (d s : Operand) (dT sT : TypeId)
    (ho : o.op = .call { callee := .builtin .copy, args := #[d, s], argTypes := #[dT, sT] }) (hu : P.underlying dT = some (.slice e)) (hsz : (P.info? e).map (·.size) = some 1)
    (hd : a.eval d = .slice (some ⟨g, k, none⟩) (n - k) (cap - k)) (hs : a.eval s = u) (hown : w.ownsRow base e 1 (.slice (some ⟨g, 0, none⟩) n cap) n (ds.map (Value.int .u8))) (hB : IsB w u ms) (hle : k + ms.length ≤ n)
    (h : ∀ w', w'.ownsRow base e 1 (.slice (some ⟨g, 0, none⟩) n cap) n ((ds.take k ++ ms ++ ds.drop (k + ms.length)).map (Value.int .u8)) → w.grownBy w' (some g) → wpList P ops Q rest (a.put o.dst (goInt ms.length)) w') : wpList P ops Q (o :: rest) a w := by
  have hn : ds.length = n := by have := own_len hown; simpa using this
  obtain ⟨h0, sp, sCap, rfl, h2, h3, h4, h5⟩ := hB
  rcases Nat.eq_zero_or_pos ms.length with hz | hp
  · have hm0 : ms = [] := List.eq_nil_of_length_eq_zero hz
    subst hm0
    have hq := h w (by simpa using hown) (World.grownBy.refl w _)
    exact wpList_copy_nothing hgd d s dT sT ho e hu hsz (some ⟨g, k, none⟩) sp (n - k) (cap - k) 0 sCap hd hs (by simp) hq
  · rcases hown.2 with ⟨hv, hn0⟩ | ⟨g', cap', cur, hv, hg, hh, hnc, hm, hcs, ht⟩
    · cases hv
    · simp only [Value.slice.injEq, Option.some.injEq, Addr.mk.injEq, and_true, true_and] at hv
      obtain ⟨rfl, rfl⟩ := hv
      rcases sp with _ | ad
      · have := (h4 rfl).1
        rw [this] at hp; simp at hp
      · obtain ⟨k1, k2, k3⟩ := h5 ad rfl hp
        obtain ⟨b, off, sp'⟩ := ad
        simp only at k1 k2 k3
        subst k1
        have hlen : (ms.map (Value.int .u8)).length = ms.length := by simp
        refine wpList_copy_own hgd d s dT sT ho e hu hsz g k (n - k) (cap - k) ⟨b, off, none⟩ ms.length sCap hd hs cur e hh (ms.map (Value.int .u8)) (by rw [hlen]; exact (Nat.min_eq_left (by omega)).symm) ?_ (by rw [hlen]; omega) (ints_oneCell _ _) ?_
        · intro j z hj
          rw [List.getElem?_map, Option.map_eq_some_iff] at hj
          obtain ⟨y, hy, rfl⟩ := hj
          have hjl := (List.getElem?_eq_some_iff.1 hy).1
          rw [plain_add', k3 j hjl]
          simp [List.getD, hy]
        · rw [hlen]
          refine h _ ⟨by simp; omega, .inr ⟨g, cap, _, rfl, hg, setRow_heap w g cur _ e (0, 0) hh, hnc, hm, ?_, ?_⟩⟩ (gb_setRow _)
          · simp only [List.size_toArray, List.length_append, List.length_take, List.length_drop, Array.length_toList, List.length_map]
            omega
          · have ht' : cur.toList.take n = ds.map (Value.int .u8) := by simpa using ht
            have hcl : cur.toList.length = cur.size := Array.length_toList
            simp only [Nat.mul_one, List.map_append, List.map_drop, List.map_take]
            rw [← ht', ← List.append_assoc, List.take_append, List.take_of_length_le (by simp; omega), List.take_take, Nat.min_eq_left (by omega)]
            congr 1
            rw [List.length_append, List.length_take, hlen, List.drop_take, Nat.min_eq_left (by omega)]
end Go.Proofs.Ytmojbamloanleaa
namespace Go.Proofs.Ytmojbamloanleaa
open Go.RowKit
section
variable {P : Program} {w : World} {base : Nat} {e : TypeId} {size : Nat} {v : Value} {n : Nat} {xs : List Value}

theorem wpList_append_bytes' {ops : Array Oper} {rest : List Oper} {o : Oper} {a : Act} {Q : Exit → Act → World → Prop} (s x : Operand) (t : TypeId) (hgd : o.guard = none)
    (ho : o.op = .call { callee := .builtin .append, args := #[s, x], argTypes := #[t, t] })
    (i : TypeInfo) (z : Value) (ht : P.underlying t = some (.slice e)) (hi : P.info? e = some i) (hz : i.zero = some z)
    (hsize : i.size = 1) (hby : i.bytes = 1) (hzs : z.cells.size = 1) (u : Value) (l m : List Int) (hs : a.eval s = v) (hx : a.eval x = u)
    (hown : w.ownsRow base e 1 v n (l.map (Value.int .u8))) (hu : IsB w u m) (hn : n + m.length ≤ 140737488355328) (hbase : base ≤ w.heap.size)
    (h : ∀ v' w1, w1.ownsRow base e 1 v' (n + m.length) ((l ++ m).map (Value.int .u8)) → w.grownBy w1 v.ownBlock → (v'.ownBlock = v.ownBlock ∨ v'.ownBlock = some w.heap.size) → wpList P ops Q rest (a.put o.dst v') w1) :
    wpList P ops Q (o :: rest) a w := by
  obtain ⟨h0, ao, cap, rfl, h2, h3, h4, h5⟩ := hu
  have nilway : m = [] → ∀ v', v' = v → wpList P ops Q rest (a.put o.dst v') w := fun hm v' hv => by
    subst hm; subst hv
    exact h v' w (by simpa using hown) (gb_refl _ _) (.inl rfl)
  rcases ao with _ | ad
  · obtain ⟨rfl, rfl⟩ := h4 rfl
    refine wpList_plain hgd fun K hK => ?_
    unfold Oper.wp execOp
    have hrun : (Builtin.append_ #[t, t] o.type #[v, .slice none 0 0]).run P w = .ok v w := by
      rcases hown.2 with ⟨rfl, rfl⟩ | ⟨g, cap, cur, rfl, _, _, hnc, _⟩
      · simp [Builtin.append_, run_underlying ht, sizeOf, typeInfo, hi, Builtin.lenOf, Builtin.firstCells]
      · simp [Builtin.append_, run_underlying ht, sizeOf, typeInfo, hi, Builtin.lenOf, Builtin.firstCells, hnc, storeCells]
    simp only [ho, resolve, invoke, builtin, Sem.run_bind, Sem.run_pure, Result.andThen_ok, List.map_toArray, List.map_cons, List.map_nil, hs, hx, List.length_nil, hrun]
    exact hK _ _ (nilway rfl v rfl)
  · refine wpList_append_own_at (w := w) hgd s x t ho base e i z 1 1 ht hi hz hsize hby hzs (by decide) v n _ hs hown ad m.length cap (m.map (Value.int .u8)) hx (by simp) ?_ (ints_oneCell _ _) (by unfold maxLen; omega) (by omega) hbase ?_
    · intro j y hj
      have hjl : j < m.length := by
        rcases Nat.lt_or_ge j m.length with h | h
        · exact h
        · simp [List.getElem?_eq_none h] at hj
      obtain ⟨k1, k2, k3⟩ := h5 ad rfl (by omega)
      obtain ⟨b, o', s'⟩ := ad
      simp only at k1 k2 k3
      subst k1
      have hplain : (⟨b, o', none⟩ : Addr).add j = ⟨b, o' + j, none⟩ := by unfold Addr.add; split <;> simp_all
      rw [hplain, k3 j hjl]
      simp [List.getElem?_eq_getElem hjl] at hj
      subst hj
      simp [List.getD, hjl]
    · intro v' w1 k1 k2 _ k3
      exact h v' w1 (by simpa using k1) k2 k3
end
end Go.Proofs.Ytmojbamloanleaa
namespace Go.Proofs.Ytmojbamloanleaa
open Go.RowKit
theorem wpList_append_cells {P : Program} {w : World} {base : Nat} {e : TypeId} {size : Nat} {v : Value} {n : Nat} {xs : List Value} {ops : Array Oper} {rest : List Oper} {o : Oper} {a : Act} {Q : Exit → Act → World → Prop} (s x : Operand) (t : TypeId) (hgd : o.guard = none)
    (ho : o.op = .call { callee := .builtin .append, args := #[s, x], argTypes := #[t, t] })
    (i : TypeInfo) (z : Value) (bytes : Nat) (ht : P.underlying t = some (.slice e)) (hi : P.info? e = some i) (hz : i.zero = some z)
    (hsize : i.size = size) (hby : i.bytes = bytes) (hzs : z.cells.size = size) (hsz : 0 < size) (news : List Value) (hnl : news.length = size) (hone : ∀ u ∈ news, u.oneCell' = true) (hs : a.eval s = v) (hx : a.eval x = .slice (some ⟨w.heap.size, 0, none⟩) 1 1)
    (hown : w.ownsRow base e size v n xs) (hn : n < 9223372036854775807) (hbytes : (n + 1) * bytes ≤ 140737488355328) (hbase : base ≤ w.heap.size)
    (h : ∀ v' w1, w1.ownsRow base e size v' (n + 1) (xs ++ news) → w.grownBy w1 v.ownBlock → (v'.ownBlock = v.ownBlock ∨ v'.ownBlock = some (w.heap.size + 1)) → wpList P ops Q rest (a.put o.dst v') w1) :
    wpList P ops Q (o :: rest) a (w.alloc (.cells news.toArray e)) := by
  refine wpList_append_own_at (w := w.alloc (.cells news.toArray e)) hgd s x t ho base e i z size bytes ht hi hz hsize hby hzs hsz v n xs hs (hown.alloc _) ⟨w.heap.size, 0, none⟩ 1 1 news hx (by omega) ?_ hone (by unfold maxLen; omega) hbytes (by simp; omega) ?_
  · intro j u hj
    rw [plain_add', cell_of_row _ w.heap.size (0 + j) _ e (0, 0) (heap_alloc_new w _)]
    simpa using hj
  · intro v' w1 h1 h2 _ h4
    refine h v' w1 h1 ?_ (by simpa using h4)
    exact World.grownBy.trans (gb_alloc (gb_refl w _) _) h2
/-- cell j of a row of the call's own -/
theorem own_cell {w : World} {base : Nat} {e : TypeId} {size : Nat} {ao : Option Addr} {n cap : Nat} {xs : List Value} (h : w.ownsRow base e size (.slice ao n cap) n xs) {j : Nat} {u : Value} (hj : xs[j]? = some u) :
    ∃ g, ao = some ⟨g, 0, none⟩ ∧ base ≤ g ∧ g < w.heap.size ∧ w.cell? ⟨g, j, none⟩ = some u := by
  have hjl := (List.getElem?_eq_some_iff.1 hj).1
  rcases h.2 with ⟨hv, hn0⟩ | ⟨g, cap', cur, hv, hg, hh, hnc, hm, hcs, ht⟩
  · have h1 := h.1
    rw [hn0, Nat.zero_mul] at h1
    omega
  · simp only [Value.slice.injEq, true_and] at hv
    obtain ⟨rfl, rfl⟩ := hv
    refine ⟨g, rfl, hg, ?_, ?_⟩
    · exact (Array.getElem?_eq_some_iff.1 hh).1
    · rw [cell_of_row _ g j _ e (0, 0) hh]
      rw [← ht] at hj
      have h2 : cur.toList[j]? = some u := by
        rw [List.getElem?_take] at hj
        split at hj
        · exact hj
        · cases hj
      simpa using h2
end Go.Proofs.Ytmojbamloanleaa
namespace Go.Proofs.Ytmojbamloanleaa
open Go.RowKit
/-- v is a slice whose elements (sz cells each) stand in R to l -/
def IsL {α : Type} (sz : Nat) (R : World → List Value → α → Prop) (w : World) (v : Value) (l : List α) : Prop :=
  ∃ ao cap, v = .slice ao l.length cap ∧ l.length ≤ cap ∧ cap ≤ maxLen ∧ (ao = none → l = [] ∧ cap = 0) ∧
    ∀ i x, l[i]? = some x → ∃ b o cs, ao = some ⟨b, o, none⟩ ∧ b < w.heap.size ∧ cs.length = sz ∧ (∀ j u, cs[j]? = some u → w.cell? ⟨b, o + i * sz + j, none⟩ = some u) ∧ R w cs x
/-- what R says stays where all that was there stays -/
def Stays {α : Type} (R : World → List Value → α → Prop) : Prop := ∀ w w' cs x, Below w.heap.size w w' → R w cs x → R w' cs x
section
variable {α : Type} {sz : Nat} {R : World → List Value → α → Prop} {w w' : World} {v : Value} {l : List α}
theorem IsL.below (hR : Stays R) (h : IsL sz R w v l) (hb : Below w.heap.size w w') : IsL sz R w' v l := by
  obtain ⟨ao, cap, h1, h2, h3, h4, h5⟩ := h
  refine ⟨ao, cap, h1, h2, h3, h4, fun i x hx => ?_⟩
  obtain ⟨b, o, cs, k1, k2, k3, k4, k5⟩ := h5 i x hx
  exact ⟨b, o, cs, k1, Nat.lt_of_lt_of_le k2 hb.size, k3, fun j u hu => (hb.cell (p := ⟨b, o + i * sz + j, none⟩) k2).trans (k4 j u hu), hR w w' cs x hb k5⟩
theorem IsL.alloc (hR : Stays R) (h : IsL sz R w v l) (o : Obj) : IsL sz R (w.alloc o) v l := h.below hR ((Below.refl _ _).alloc (Nat.le_refl _) o)
theorem IsL.form (h : IsL sz R w v l) : ∃ ao cap, v = .slice ao l.length cap ∧ l.length ≤ cap ∧ cap ≤ 9223372036854775807 ∧ (l = [] ∨ ∃ b o, ao = some ⟨b, o, none⟩ ∧ b < w.heap.size) := by
  obtain ⟨ao, cap, h1, h2, h3, h4, h5⟩ := h
  refine ⟨ao, cap, h1, h2, by unfold maxLen at h3; omega, ?_⟩
  cases l with
  | nil => exact .inl rfl
  | cons x l =>
    obtain ⟨b, o, cs, k1, k2, -⟩ := h5 0 x rfl
    exact .inr ⟨b, o, k1, k2⟩
theorem IsL.max (h : IsL sz R w v l) : l.length ≤ 9223372036854775807 := by
  obtain ⟨ao, cap, h1, h2, h3, -⟩ := h
  unfold maxLen at h3
  omega
theorem IsL.at_ {ao : Option Addr} {n cap k : Nat} (h : IsL sz R w (.slice ao n cap) l) (hk : k < l.length) :
    ∃ b o x cs, ao = some ⟨b, o, none⟩ ∧ b < w.heap.size ∧ Hid (l[k]? = some x) ∧ cs.length = sz ∧ Hid (∀ j u, cs[j]? = some u → w.cell? ⟨b, o + k * sz + j, none⟩ = some u) ∧ Hid (R w cs x) := by
  obtain ⟨ao', cap', h1, h2, h3, h4, h5⟩ := h
  simp only [Value.slice.injEq] at h1
  obtain ⟨rfl, rfl, rfl⟩ := h1
  have hx : l[k]? = some (l[k]'hk) := List.getElem?_eq_getElem hk
  obtain ⟨b, o, cs, k1, k2, k3, k4, k5⟩ := h5 k _ hx
  exact ⟨b, o, _, cs, k1, k2, hx, k3, k4, k5⟩
theorem IsL.nil (w : World) : IsL sz R w (.slice none 0 0) ([] : List α) := ⟨none, 0, rfl, by simp, by simp [maxLen], fun _ => ⟨rfl, rfl⟩, fun i x h => by simp at h⟩
end
end Go.Proofs.Ytmojbamloanleaa
namespace Go.Proofs.Ytmojbamloanleaa
open Go.RowKit
def OnlyN (K : Act → World → Prop) : Exit → Act → World → Prop := fun e a w => e = .normal ∧ K a w
section
variable {P : Program} {ops : Array Oper} {o : Oper} {a : Act} {w : World} {K : Act → World → Prop} {Q : Exit → Act → World → Prop}
theorem wp_only (h : o.wp P a w (fun a w => OnlyN K .normal a w) (OnlyN K)) : o.wp P a w K Q := by
  unfold Oper.wp at *
  generalize (execOp a.eval o).run P w = r at *
  cases r with
  | ok n w' =>
    cases n <;> simp only [Oper.upon] at h ⊢ <;>
      first
        | exact h.2
        | exact Calls.mono h (fun e w'' he => by cases e <;> first | exact he.2 | (cases he.1) | (obtain ⟨_, _, h, _⟩ := he; cases h))
        | exact Rows.mono h (fun _ _ he => he.2)
  | halt x w' => cases x <;> simp only [Oper.upon] at h ⊢ <;> first | exact h | (cases h.1)
theorem step_of_list {E : Prop} (hg : o.guard = none) (h : wpList P ops (OnlyN K) [o] a w) : if Region.wanted o (yielded ops a.tmps) = true then Oper.wp P o a w K Q else E := by
  have hw : Region.wanted o (yielded ops a.tmps) = true := by simp [Region.wanted, hg]
  rw [if_pos hw]
  unfold wpList at h
  rw [if_pos hw] at h
  rcases h with h | ⟨_, _, _, h, _⟩
  · exact wp_only h
  · cases h
theorem list_done (h : K a w) : wpList P ops (OnlyN K) [] a w := ⟨rfl, h⟩
end
end Go.Proofs.Ytmojbamloanleaa
