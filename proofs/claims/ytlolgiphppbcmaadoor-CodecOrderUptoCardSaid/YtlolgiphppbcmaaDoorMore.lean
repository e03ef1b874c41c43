/- More on worlds: frames that let one block turn. No program in sight. -/
import Derived.Test.YtlolgiphppbcmaaDoorBase
namespace Go.Proofs.YtlolgiphppbcmaaDoor
open Go.RowKit
theorem gb_cell {W W' : World} {g b o : Nat} (h : W.grownBy W' (some g)) (hlt : b < W.heap.size) (hne : b ≠ g) : W'.cell? ⟨b, o, none⟩ = W.cell? ⟨b, o, none⟩ :=
  World.cell?_of_block (h.block b hlt (fun e => hne (by cases e; rfl)))
theorem gb_frozen {W W' : World} {g b o : Nat} (h : W.grownBy W' (some g)) (hlt : b < W.heap.size) (hne : b ≠ g) : W'.frozen? ⟨b, o, none⟩ = W.frozen? ⟨b, o, none⟩ := by
  have := h.block b hlt (fun e => hne (by cases e; rfl))
  simp [World.frozen?, this]
theorem bel_grown {w W W' : World} {g : Nat} (h : Below w.heap.size w W) (hg : W.grownBy W' (some g)) (hge : w.heap.size ≤ g) : Below w.heap.size w W' :=
  h.trans ((Below.refl _ _).grown hg h.size (fun k e => by cases e; exact hge))
theorem bel_set {w W : World} (h : Below w.heap.size w W) {p : Addr} (hp : w.heap.size ≤ p.block) (u : Value) : Below w.heap.size w (W.setCell p u) := h.setCell hp u
end Go.Proofs.YtlolgiphppbcmaaDoor
