/- A law on a list of operations, used for one operation of a region that draws its order. No program in sight. -/
import Derived.Test.YtlolgiphppbcmaaDoorBase
import Derived.Deep.RegionHeld3
namespace Go.Proofs.YtlolgiphppbcmaaDoor
open Go.RowKit
def OnlyN (K : Act → World → Prop) : Exit → Act → World → Prop := fun e a w => e = .normal ∧ K a w
section
variable {P : Program} {ops : Array Oper} {o : Oper} {a : Act} {w : World} {K : Act → World → Prop} {Q : Exit → Act → World → Prop}
theorem wp_only (h : o.wp P a w (fun a w => OnlyN K .normal a w) (OnlyN K)) : o.wp P a w K Q := by
  unfold Oper.wp at *
  generalize (execOp a.eval o).run P w = r at *
  cases r with
  | ok n w' =>
    cases n <;> simp only [Oper.upon] at h ⊢ <;>
      first
        | exact h.2
        | exact Calls.mono h (fun e w'' he => by cases e <;> first | exact he.2 | (cases he.1) | (obtain ⟨_, _, h, _⟩ := he; cases h))
        | exact Rows.mono h (fun _ _ he => he.2)
  | halt x w' => cases x <;> simp only [Oper.upon] at h ⊢ <;> first | exact h | (cases h.1)
theorem step_of_list {E : Prop} (hg : o.guard = none) (h : wpList P ops (OnlyN K) [o] a w) : if Region.wanted o (yielded ops a.tmps) = true then Oper.wp P o a w K Q else E := by
  have hw : Region.wanted o (yielded ops a.tmps) = true := by simp [Region.wanted, hg]
  rw [if_pos hw]
  unfold wpList at h
  rw [if_pos hw] at h
  rcases h with h | ⟨_, _, _, h, _⟩
  · exact wp_only h
  · cases h
theorem list_done (h : K a w) : wpList P ops (OnlyN K) [] a w := ⟨rfl, h⟩
end
end Go.Proofs.YtlolgiphppbcmaaDoor
