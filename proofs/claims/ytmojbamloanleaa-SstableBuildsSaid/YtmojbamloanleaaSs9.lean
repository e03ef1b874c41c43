/- sstable: the reference's bytes: the rows of one block (walk). -/
import Derived.Test.YtmojbamloanleaaSs8
import Derived.Deep.CutBlock
set_option linter.unusedVariables false
set_option linter.unusedSimpArgs false
namespace Go.Proofs.Ytmojbamloanleaa
open Go.RowKit
namespace Ss
open Mt Codec
/-- where a row's block is none of another's -/
def Apart (v u : Value) : Prop := v.ownBlock = none ∨ v.ownBlock ≠ u.ownBlock
theorem Apart.symm {v u : Value} (h : Apart v u) : Apart u v := by
  unfold Apart at *
  cases hu : u.ownBlock with
  | none => exact .inl rfl
  | some b =>
    refine .inr fun e => ?_
    rw [hu] at h
    rcases h with h | h
    · rw [h] at e; cases e
    · exact h e.symm
theorem apart_new {v v' u : Value} {n : Nat} (h : Apart v u) (hv : v'.ownBlock = v.ownBlock ∨ ∃ b, v'.ownBlock = some b ∧ n ≤ b) (hu : ∀ b, u.ownBlock = some b → b < n) : Apart v' u := by
  rcases hv with e | ⟨b, e, hb⟩
  · unfold Apart
    rw [e]
    exact h
  · refine .inr fun e2 => ?_
    rw [e] at e2
    have := hu b e2.symm
    omega
theorem bodyF_take {bl : List En} {j : Nat} {x : En} (h : bl[j]? = some x) : bodyF (bl.take (j + 1)) = ((bodyF (bl.take j)).1 ++ layS (bodyF (bl.take j)).2 x, x.1) := by
  rw [take_snoc' h, bodyF_snoc]
theorem body_len : ∀ (bl : List En) (p : List Int × List Int), (∀ x ∈ bl, mayB x = true) → (bl.foldl (fun p e => (p.1 ++ layS p.2 e, e.1)) p).1.length ≤ p.1.length + 66000 * bl.length
  | [], p, _ => by simp
  | e :: bl, p, h => by
    have ih := body_len bl (p.1 ++ layS p.2 e, e.1) (fun x hx => h x (List.mem_cons_of_mem _ hx))
    have := lay_le (a := p.2) (h e (List.mem_cons_self ..))
    simp only [List.foldl_cons, List.length_cons, List.length_append] at *
    omega
/-- the sums of the first blocks' lengths -/
def atF (d : List (List En)) : Nat := (d.map List.length).sum
theorem atF_snoc (d : List (List En)) (b : List En) : atF (d ++ [b]) = atF d + b.length := by simp [atF]
theorem flat_at : ∀ (d : List (List En)) (i : Nat) (b : List En), d[i]? = some b → ∀ j x, b[j]? = some x → d.flatten[atF (d.take i) + j]? = some x
  | [], i, b, h, _, _, _ => by simp at h
  | c :: d, 0, b, h, j, x, hx => by
    simp only [List.getElem?_cons_zero, Option.some.injEq] at h
    subst h
    simp only [List.take_zero, List.flatten_cons]
    rw [show atF [] = 0 from rfl, Nat.zero_add, List.getElem?_append_left (List.getElem?_eq_some_iff.1 hx).1]
    exact hx
  | c :: d, i + 1, b, h, j, x, hx => by
    rw [List.getElem?_cons_succ] at h
    have ih := flat_at d i b h j x hx
    rw [List.take_succ_cons, List.flatten_cons, List.getElem?_append_right (by simp [atF]; omega)]
    rw [← ih]
    congr 1
    simp [atF]
    omega
/-- all blocks, one behind the other, are the list -/
theorem fold_flat (bb : Int) : ∀ (l : List En) (p : List (List En) × List En), (l.foldl (stepP bb) p).1.flatten ++ (l.foldl (stepP bb) p).2 = p.1.flatten ++ p.2 ++ l
  | [], p => by simp
  | e :: l, p => by
    rw [List.foldl_cons, fold_flat bb l (stepP bb p e)]
    unfold stepP
    split <;> simp
theorem part_flat (bb : Int) (l : List En) : ((partF bb l).1 ++ [(partF bb l).2]).flatten = l := by
  have := fold_flat bb l ([], [])
  simpa [partF] using this
theorem doneF_take {d : List (List En)} {i : Nat} {b : List En} (h : d[i]? = some b) : doneF (d.take (i + 1)) = blkF (doneF (d.take i)) b := by
  rw [take_snoc' h, doneF_snoc]
end Ss
end Go.Proofs.Ytmojbamloanleaa
