/- Base lemmas on worlds: no program in sight. -/
import Derived.WalkKit
import Derived.WalkSpells
import Derived.WalkLawsBesides
import Derived.Deep.RegionWith
import Derived.Deep.Draws
import Derived.StillTailTactics
import Derived.Deep.QuietTactic
import Derived.BigQuiet
import Derived.Lib.Hide
namespace Go.Proofs.YtlolgiphppbcmaaDoor
open Go.RowKit

/-- returns V; what was there stays as it was. -/
def Ret (V : Value) (w : World) (e : Ending) (w' : World) : Prop := e = .returned V ∧ Below w.heap.size w w'
theorem below_drewN {B : Nat} {a w : World} (h : Below B a w) (n : Nat) : Below B a (w.drewN n) := ⟨h.os, h.tape, h.output, h.size, h.block⟩
theorem bel_alloc {w W : World} (h : Below w.heap.size w W) (o : Obj) : Below w.heap.size w (W.alloc o) := h.alloc h.size o
/-- a callee's own frame is a caller's -/
theorem bel_call {w W w' : World} (h : Below w.heap.size w W) (hb : Below W.heap.size W w') : Below w.heap.size w w' := h.trans (hb.mono h.size)
theorem lt_step1 {n m : Nat} (h : n < m) : n < m + 1 := by omega
theorem le_step1 {n m : Nat} (h : n < m) : n ≤ m + 1 := by omega
theorem lt_step2 {n m : Nat} (h : n < m) : n < m + 1 + 1 := by omega
theorem le_step2 {n m : Nat} (h : n < m) : n ≤ m + 1 + 1 := by omega
theorem lt_step3 {n m : Nat} (h : n < m) : n < m + 1 + 1 + 1 := by omega
theorem le_step3 {n m : Nat} (h : n < m) : n ≤ m + 1 + 1 + 1 := by omega
theorem lt_step4 {n m : Nat} (h : n < m) : n < m + 1 + 1 + 1 + 1 := by omega
theorem le_step4 {n m : Nat} (h : n < m) : n ≤ m + 1 + 1 + 1 + 1 := by omega
theorem lt_step5 {n m : Nat} (h : n < m) : n < m + 1 + 1 + 1 + 1 + 1 := by omega
theorem le_step5 {n m : Nat} (h : n < m) : n ≤ m + 1 + 1 + 1 + 1 + 1 := by omega
theorem lt_step6 {n m : Nat} (h : n < m) : n < m + 1 + 1 + 1 + 1 + 1 + 1 := by omega
theorem le_step6 {n m : Nat} (h : n < m) : n ≤ m + 1 + 1 + 1 + 1 + 1 + 1 := by omega
theorem lt_step7 {n m : Nat} (h : n < m) : n < m + 1 + 1 + 1 + 1 + 1 + 1 + 1 := by omega
theorem le_step7 {n m : Nat} (h : n < m) : n ≤ m + 1 + 1 + 1 + 1 + 1 + 1 + 1 := by omega
theorem lt_step8 {n m : Nat} (h : n < m) : n < m + 1 + 1 + 1 + 1 + 1 + 1 + 1 + 1 := by omega
theorem le_step8 {n m : Nat} (h : n < m) : n ≤ m + 1 + 1 + 1 + 1 + 1 + 1 + 1 + 1 := by omega
theorem lt_step9 {n m : Nat} (h : n < m) : n < m + 1 + 1 + 1 + 1 + 1 + 1 + 1 + 1 + 1 := by omega
theorem le_step9 {n m : Nat} (h : n < m) : n ≤ m + 1 + 1 + 1 + 1 + 1 + 1 + 1 + 1 + 1 := by omega
theorem lt_step10 {n m : Nat} (h : n < m) : n < m + 1 + 1 + 1 + 1 + 1 + 1 + 1 + 1 + 1 + 1 := by omega
theorem le_step10 {n m : Nat} (h : n < m) : n ≤ m + 1 + 1 + 1 + 1 + 1 + 1 + 1 + 1 + 1 + 1 := by omega
theorem lt_step11 {n m : Nat} (h : n < m) : n < m + 1 + 1 + 1 + 1 + 1 + 1 + 1 + 1 + 1 + 1 + 1 := by omega
theorem le_step11 {n m : Nat} (h : n < m) : n ≤ m + 1 + 1 + 1 + 1 + 1 + 1 + 1 + 1 + 1 + 1 + 1 := by omega
theorem lt_step12 {n m : Nat} (h : n < m) : n < m + 1 + 1 + 1 + 1 + 1 + 1 + 1 + 1 + 1 + 1 + 1 + 1 := by omega
theorem le_step12 {n m : Nat} (h : n < m) : n ≤ m + 1 + 1 + 1 + 1 + 1 + 1 + 1 + 1 + 1 + 1 + 1 + 1 := by omega
theorem lt_step13 {n m : Nat} (h : n < m) : n < m + 1 + 1 + 1 + 1 + 1 + 1 + 1 + 1 + 1 + 1 + 1 + 1 + 1 := by omega
theorem le_step13 {n m : Nat} (h : n < m) : n ≤ m + 1 + 1 + 1 + 1 + 1 + 1 + 1 + 1 + 1 + 1 + 1 + 1 + 1 := by omega
theorem lt_step14 {n m : Nat} (h : n < m) : n < m + 1 + 1 + 1 + 1 + 1 + 1 + 1 + 1 + 1 + 1 + 1 + 1 + 1 + 1 := by omega
theorem le_step14 {n m : Nat} (h : n < m) : n ≤ m + 1 + 1 + 1 + 1 + 1 + 1 + 1 + 1 + 1 + 1 + 1 + 1 + 1 + 1 := by omega
theorem lt_step15 {n m : Nat} (h : n < m) : n < m + 1 + 1 + 1 + 1 + 1 + 1 + 1 + 1 + 1 + 1 + 1 + 1 + 1 + 1 + 1 := by omega
theorem le_step15 {n m : Nat} (h : n < m) : n ≤ m + 1 + 1 + 1 + 1 + 1 + 1 + 1 + 1 + 1 + 1 + 1 + 1 + 1 + 1 + 1 := by omega
theorem lt_step16 {n m : Nat} (h : n < m) : n < m + 1 + 1 + 1 + 1 + 1 + 1 + 1 + 1 + 1 + 1 + 1 + 1 + 1 + 1 + 1 + 1 := by omega
theorem le_step16 {n m : Nat} (h : n < m) : n ≤ m + 1 + 1 + 1 + 1 + 1 + 1 + 1 + 1 + 1 + 1 + 1 + 1 + 1 + 1 + 1 + 1 := by omega
theorem lt_step17 {n m : Nat} (h : n < m) : n < m + 1 + 1 + 1 + 1 + 1 + 1 + 1 + 1 + 1 + 1 + 1 + 1 + 1 + 1 + 1 + 1 + 1 := by omega
theorem le_step17 {n m : Nat} (h : n < m) : n ≤ m + 1 + 1 + 1 + 1 + 1 + 1 + 1 + 1 + 1 + 1 + 1 + 1 + 1 + 1 + 1 + 1 + 1 := by omega
theorem lt_step18 {n m : Nat} (h : n < m) : n < m + 1 + 1 + 1 + 1 + 1 + 1 + 1 + 1 + 1 + 1 + 1 + 1 + 1 + 1 + 1 + 1 + 1 + 1 := by omega
theorem le_step18 {n m : Nat} (h : n < m) : n ≤ m + 1 + 1 + 1 + 1 + 1 + 1 + 1 + 1 + 1 + 1 + 1 + 1 + 1 + 1 + 1 + 1 + 1 + 1 := by omega
theorem lt_step19 {n m : Nat} (h : n < m) : n < m + 1 + 1 + 1 + 1 + 1 + 1 + 1 + 1 + 1 + 1 + 1 + 1 + 1 + 1 + 1 + 1 + 1 + 1 + 1 := by omega
theorem le_step19 {n m : Nat} (h : n < m) : n ≤ m + 1 + 1 + 1 + 1 + 1 + 1 + 1 + 1 + 1 + 1 + 1 + 1 + 1 + 1 + 1 + 1 + 1 + 1 + 1 := by omega
theorem lt_step20 {n m : Nat} (h : n < m) : n < m + 1 + 1 + 1 + 1 + 1 + 1 + 1 + 1 + 1 + 1 + 1 + 1 + 1 + 1 + 1 + 1 + 1 + 1 + 1 + 1 := by omega
theorem le_step20 {n m : Nat} (h : n < m) : n ≤ m + 1 + 1 + 1 + 1 + 1 + 1 + 1 + 1 + 1 + 1 + 1 + 1 + 1 + 1 + 1 + 1 + 1 + 1 + 1 + 1 := by omega
theorem lt_step21 {n m : Nat} (h : n < m) : n < m + 1 + 1 + 1 + 1 + 1 + 1 + 1 + 1 + 1 + 1 + 1 + 1 + 1 + 1 + 1 + 1 + 1 + 1 + 1 + 1 + 1 := by omega
theorem le_step21 {n m : Nat} (h : n < m) : n ≤ m + 1 + 1 + 1 + 1 + 1 + 1 + 1 + 1 + 1 + 1 + 1 + 1 + 1 + 1 + 1 + 1 + 1 + 1 + 1 + 1 + 1 := by omega
theorem lt_step22 {n m : Nat} (h : n < m) : n < m + 1 + 1 + 1 + 1 + 1 + 1 + 1 + 1 + 1 + 1 + 1 + 1 + 1 + 1 + 1 + 1 + 1 + 1 + 1 + 1 + 1 + 1 := by omega
theorem le_step22 {n m : Nat} (h : n < m) : n ≤ m + 1 + 1 + 1 + 1 + 1 + 1 + 1 + 1 + 1 + 1 + 1 + 1 + 1 + 1 + 1 + 1 + 1 + 1 + 1 + 1 + 1 + 1 := by omega
theorem lt_step23 {n m : Nat} (h : n < m) : n < m + 1 + 1 + 1 + 1 + 1 + 1 + 1 + 1 + 1 + 1 + 1 + 1 + 1 + 1 + 1 + 1 + 1 + 1 + 1 + 1 + 1 + 1 + 1 := by omega
theorem le_step23 {n m : Nat} (h : n < m) : n ≤ m + 1 + 1 + 1 + 1 + 1 + 1 + 1 + 1 + 1 + 1 + 1 + 1 + 1 + 1 + 1 + 1 + 1 + 1 + 1 + 1 + 1 + 1 + 1 := by omega
theorem lt_step24 {n m : Nat} (h : n < m) : n < m + 1 + 1 + 1 + 1 + 1 + 1 + 1 + 1 + 1 + 1 + 1 + 1 + 1 + 1 + 1 + 1 + 1 + 1 + 1 + 1 + 1 + 1 + 1 + 1 := by omega
theorem le_step24 {n m : Nat} (h : n < m) : n ≤ m + 1 + 1 + 1 + 1 + 1 + 1 + 1 + 1 + 1 + 1 + 1 + 1 + 1 + 1 + 1 + 1 + 1 + 1 + 1 + 1 + 1 + 1 + 1 + 1 := by omega
theorem le_of_step {n m : Nat} (h : n < m) : n ≤ m := by omega
attribute [go_sem] lt_step1 le_step1 lt_step2 le_step2 lt_step3 le_step3 lt_step4 le_step4 lt_step5 le_step5 lt_step6 le_step6 lt_step7 le_step7 lt_step8 le_step8 lt_step9 le_step9 lt_step10 le_step10 lt_step11 le_step11 lt_step12 le_step12 lt_step13 le_step13 lt_step14 le_step14 lt_step15 le_step15 lt_step16 le_step16 lt_step17 le_step17 lt_step18 le_step18 lt_step19 le_step19 lt_step20 le_step20 lt_step21 le_step21 lt_step22 le_step22 lt_step23 le_step23 lt_step24 le_step24 le_of_step
/-- frames that let one block turn -/
theorem gb_refl (w : World) (row : Option Nat) : w.grownBy w row := ⟨rfl, rfl, rfl, Nat.le_refl _, fun _ _ _ => rfl⟩
theorem gb_call {w W W' : World} {row : Option Nat} (h : w.grownBy W row) (hb : Below W.heap.size W W') : w.grownBy W' row :=
  ⟨hb.os.trans h.os, hb.tape.trans h.tape, hb.output.trans h.output, Nat.le_trans h.size hb.size, fun i hi hn => (hb.block i (Nat.lt_of_lt_of_le hi h.size)).trans (h.block i hi hn)⟩
theorem gb_alloc {w W : World} {row : Option Nat} (h : w.grownBy W row) (o : Obj) : w.grownBy (W.alloc o) row :=
  ⟨h.os, h.tape, h.output, Nat.le_trans h.size (by simp), fun i hi hn => (Below.heap_alloc W o i (Nat.lt_of_lt_of_le hi h.size)).trans (h.block i hi hn)⟩
theorem gb_drew {w W : World} {row : Option Nat} (h : w.grownBy W row) : w.grownBy W.drew row := ⟨h.os, h.tape, h.output, h.size, h.block⟩
theorem gb_set {w W : World} {g : Nat} (h : w.grownBy W (some g)) {p : Addr} (hp : p.block = g ∨ w.heap.size ≤ p.block) (u : Value) : w.grownBy (W.setCell p u) (some g) :=
  ⟨h.os, h.tape, h.output, by simpa [World.setCell] using h.size, fun i hi hn => (Below.heap_setCell W p u i (by
    rintro rfl
    rcases hp with hp | hp
    · exact hn (by rw [hp])
    · omega)).trans (h.block i hi hn)⟩
theorem gb_trans {a b c : World} {g : Nat} (h : a.grownBy b (some g)) (k : b.grownBy c (some g)) : a.grownBy c (some g) :=
  ⟨k.os.trans h.os, k.tape.trans h.tape, k.output.trans h.output, Nat.le_trans h.size k.size, fun i hi hn => (k.block i (Nat.lt_of_lt_of_le hi h.size) hn).trans (h.block i hi hn)⟩
theorem bcell {W w1 : World} (hb : Below W.heap.size W w1) : (∀ b o, b < W.heap.size → w1.cell? ⟨b, o, none⟩ = W.cell? ⟨b, o, none⟩) ∧ (∀ b o, b < W.heap.size → w1.frozen? ⟨b, o, none⟩ = W.frozen? ⟨b, o, none⟩) :=
  ⟨fun b o h => hb.cell (p := ⟨b, o, none⟩) h, fun b o h => hb.frozen (p := ⟨b, o, none⟩) h⟩

end Go.Proofs.YtlolgiphppbcmaaDoor
