/- What stands in a cell, stored there, changes nothing. No program in sight. -/
import Derived.Test.YtbeniogffhihlaaKit
set_option linter.unusedVariables false
set_option linter.unusedSimpArgs false
namespace Go.Proofs.Ytbeniogffhihlaa
open Go.RowKit
theorem modify_same {α : Type} (a : Array α) (i : Nat) (f : α → α) (h : ∀ x, a[i]? = some x → f x = x) : a.modify i f = a := by
  refine Array.ext_getElem? fun j => ?_
  rw [Array.getElem?_modify]
  by_cases hj : i = j
  · subst hj
    rw [if_pos rfl]
    cases hx : a[i]? with
    | none => rfl
    | some x => simp [h x hx]
  · rw [if_neg hj]
theorem setIf_same {α : Type} (a : Array α) (i : Nat) (v : α) (h : a[i]? = some v) : a.setIfInBounds i v = a := by
  refine Array.ext_getElem? fun j => ?_
  rw [Array.getElem?_setIfInBounds]
  by_cases hj : i = j
  · subst hj
    have := (Array.getElem?_eq_some_iff.1 h).1
    rw [if_pos rfl, if_pos this, h]
  · rw [if_neg hj]
theorem setCell_same {w : World} {b o : Nat} {v : Value} (h : w.cell? ⟨b, o, none⟩ = some v) : w.setCell ⟨b, o, none⟩ v = w := by
  have e : w.setCell ⟨b, o, none⟩ v = { w with heap := (w.setCell ⟨b, o, none⟩ v).heap } := rfl
  have hh : (w.setCell ⟨b, o, none⟩ v).heap = w.heap := by
    unfold World.setCell
    simp only
    refine modify_same _ _ _ fun x hx => ?_
    unfold World.cell? at h
    simp only [hx] at h
    cases x with
    | cells cs t fr =>
      simp only at h ⊢
      rw [setIf_same _ _ _ (by simpa using h), ite_self]
    | map es c => rfl
    | _ => rfl
  rw [e, hh]
end Go.Proofs.Ytbeniogffhihlaa
