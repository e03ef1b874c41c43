/- What the bound of the second form gives. -/
import Derived.Test.YthaekefdadccaaaDoorRows
set_option linter.unusedVariables false
set_option linter.unusedSimpArgs false
namespace Go.Proofs.YthaekefdadccaaaDoor
theorem upto_one {H : Type} (d : DataW H) : 1 ≤ Rows.uptoBulk d := by
  cases d with
  | lit l => cases l <;> simp [Rows.uptoBulk]
  | nil => simp [Rows.uptoBulk]
  | ptr d => simp [Rows.uptoBulk]
  | slice elems spare => simp [Rows.uptoBulk]
  | agg parts => simp [Rows.uptoBulk]
  | iface t d => simp [Rows.uptoBulk]
  | map entries => simp [Rows.uptoBulk]
  | held h => simp [Rows.uptoBulk]
theorem upto_length {H : Type} : ∀ l : List (DataW H), l.length ≤ Rows.uptoBulkAll l
  | [] => Nat.zero_le _
  | d :: l => by
    have h1 := upto_one d
    have h2 := upto_length l
    simp only [Rows.uptoBulkAll, List.length_cons]
    omega
theorem upto_mem {H : Type} {d : DataW H} : ∀ {l : List (DataW H)}, d ∈ l → Rows.uptoBulk d ≤ Rows.uptoBulkAll l
  | x :: l, h => by
    simp only [Rows.uptoBulkAll]
    rcases List.mem_cons.1 h with e | e
    · subst e; omega
    · have := upto_mem e; omega
theorem upto_part {H : Type} {d : DataW H} {l : List (DataW H)} (hk : Rows.uptoSmall H l = true) (h : d ∈ l) : Rows.uptoBulk d ≤ 1048576 :=
  Nat.le_trans (upto_mem h) (of_decide_eq_true hk)
theorem upto_bytes {H : Type} {d : DataW H} {ds : List (DataW H)} {l : List Int} (hk : Rows.uptoSmall H ds = true) (h : d ∈ ds) (D : l = [] ∨ ∃ elems sp, d = .slice elems sp ∧ elems.length = l.length) : l.length ≤ 1048575 := by
  rcases D with rfl | ⟨elems, sp, rfl, he⟩
  · simp
  · have h1 := upto_part hk h
    have h2 := upto_length elems
    simp only [Rows.uptoBulk] at h1
    omega
theorem upto_two {H : Type} {dx dy d : DataW H} {ds : List (DataW H)} {l : List Int} (hk : Rows.uptoSmall H ds = true) (h : DataW.agg [dx, dy] ∈ ds) (hd : d = dx ∨ d = dy) (D : l = [] ∨ ∃ elems sp, d = .slice elems sp ∧ elems.length = l.length) : l.length ≤ 1048575 := by
  rcases D with rfl | ⟨elems, sp, he, hl⟩
  · simp
  · have h1 := upto_part hk h
    have h2 := upto_length elems
    simp only [Rows.uptoBulk, Rows.uptoBulkAll] at h1
    rcases hd with e | e
    · rw [← e, he] at h1
      simp only [Rows.uptoBulk] at h1
      omega
    · rw [← e, he] at h1
      simp only [Rows.uptoBulk] at h1
      omega
end Go.Proofs.YthaekefdadccaaaDoor
