/- A region that draws its order: what only reads is taken first, in every world that meets S. Behind an operation that waits for all that was taken first (freeB) S need not hold. No program in sight. -/
import Derived.Test.YthaekefdadccaaaDoorKit
namespace Go.Proofs.YthaekefdadccaaaDoor
open Go.RowKit
section
variable {P : Program} {ops : Array Oper} {l : List Oper} {Q : Exit → Act → World → Prop} {md : Region.Mode} {S : World → Prop} {F : List Nat}
/-- does j wait for i, at whatever remove? -/
def reachB (md : Region.Mode) (ops : Array Oper) (i : Nat) : Nat → Nat → Bool
  | 0, _ => false
  | f + 1, j => match ops[j]? with
    | none => false
    | some o => o.after.any fun e => Region.binds md e && (e.on == i || reachB md ops i f e.on)
def shutB (md : Region.Mode) (ops : Array Oper) (listed : Array Bool) : Bool := (List.range ops.size).all fun j => !listed.getD j true || match ops[j]? with
  | none => true
  | some o => o.after.all fun e => !Region.binds md e || listed.getD e.on false
def ShutL (md : Region.Mode) (ops : Array Oper) (listed : Array Bool) : Prop := ∀ j o, ops[j]? = some o → listed.getD j true = true → ∀ e ∈ o.after, Region.binds md e = true → listed.getD e.on false = true
theorem shutB_spec {listed : Array Bool} (h : shutB md ops listed = true) : ShutL md ops listed := by
  intro j o ho hj e he hb
  unfold shutB at h
  rw [List.all_eq_true] at h
  have h1 := h j (List.mem_range.2 (Array.getElem?_eq_some_iff.1 ho).1)
  rw [hj, ho] at h1
  simp only [Bool.not_true, Bool.false_or, Array.all_eq_true_iff_forall_mem] at h1
  have h2 := h1 e he
  rw [hb] at h2
  simpa using h2
theorem reach_listed {listed : Array Bool} (hs : ShutL md ops listed) {i : Nat} : ∀ (f j : Nat) (o : Oper), ops[j]? = some o → (∀ e ∈ o.after, Region.binds md e = true → listed.getD e.on false = true) → reachB md ops i f j = true → listed.getD i false = true
  | 0, _, _, _, _, h => by cases h
  | f + 1, j, o, ho, ha, h => by
    unfold reachB at h
    rw [ho] at h
    simp only [Array.any_eq_true', Bool.and_eq_true, Bool.or_eq_true, beq_iff_eq] at h
    obtain ⟨e, he, hb, h1 | h1⟩ := h
    · rw [← h1]; exact ha e he hb
    · have hl := ha e he hb
      cases ho' : ops[e.on]? with
      | none =>
        cases f with
        | zero => cases h1
        | succ f => unfold reachB at h1; rw [ho'] at h1; cases h1
      | some o' =>
        refine reach_listed hs f e.on o' ho' (fun e' he' hb' => hs e.on o' ho' ?_ e' he' hb') h1
        rcases Nat.lt_or_ge e.on listed.size with h' | h'
        · simpa [h'] using hl
        · simp [Array.getElem?_eq_none h'] at hl
theorem shutL_set {listed : Array Bool} {j : Nat} {o : Oper} (h : ShutL md ops listed) (ho : ops[j]? = some o) (hall : ∀ e ∈ o.after, Region.binds md e = true → listed.getD e.on false = true) : ShutL md ops (listed.setIfInBounds j true) := by
  have up : ∀ k, listed.getD k false = true → (listed.setIfInBounds j true).getD k false = true := fun k hk => by
    by_cases hkj : j = k
    · subst hkj
      rcases Nat.lt_or_ge j listed.size with h' | h'
      · simp [h']
      · simp [Array.getElem?_eq_none h'] at hk
    · rw [getD_set_ne false hkj]; exact hk
  intro k o' ho' hk e he hb
  by_cases hkj : j = k
  · subst hkj
    rw [ho] at ho'
    cases ho'
    exact up _ (hall e he hb)
  · rw [getD_set_ne true hkj] at hk
    exact up _ (h k o' ho' hk e he hb)
end
end Go.Proofs.YthaekefdadccaaaDoor
