/- sstable: how long a table is, plain. -/
import Derived.Test.YtmojbamloanleaaSs11
set_option linter.unusedVariables false
set_option linter.unusedSimpArgs false
namespace Go.Proofs.Ytmojbamloanleaa
open Go.RowKit
namespace Ss
open Mt Codec
theorem lay_val (a : List Int) (e : En) : e.2.2.2.length ≤ (layS a e).length := by
  unfold layS
  simp only [List.length_append]
  omega
theorem body_val : ∀ (bl : List En) (p : List Int × List Int), p.1.length + valF bl ≤ (bl.foldl (fun p e => (p.1 ++ layS p.2 e, e.1)) p).1.length
  | [], p => by simp [valF]
  | e :: r, p => by
    have h1 := body_val r (p.1 ++ layS p.2 e, e.1)
    have h2 := lay_val p.2 e
    simp only [List.foldl_cons]
    simp only [List.length_append] at h1
    have h3 : valF (e :: r) = e.2.2.2.length + valF r := by simp [valF]
    omega
theorem frame_ge (k : Int) (l : List Int) : l.length ≤ (frameF k l).length := by
  unfold frameF
  simp only [List.length_append]
  omega
theorem done_val : ∀ (d : List (List En)) (p : List Int × List Int), p.1.length + (d.map valF).sum ≤ (d.foldl blkF p).1.length
  | [], p => by simp
  | b :: r, p => by
    have h1 := done_val r (blkF p b)
    have h2 := frame_ge 68 (bodyF b).1
    have h3 := body_val b ([], [])
    have h4 : (blkF p b).1.length = p.1.length + (frameF 68 (bodyF b).1).length := by simp [blkF]
    have h5 : valF b ≤ (bodyF b).1.length := by unfold bodyF; simpa using h3
    simp only [List.foldl_cons, List.map_cons, List.sum_cons]
    omega
theorem val_append (a b : List En) : valF (a ++ b) = valF a + valF b := by simp [valF]
theorem val_flat : ∀ d : List (List En), valF d.flatten = (d.map valF).sum
  | [] => rfl
  | b :: r => by rw [List.flatten_cons, val_append, val_flat r]; rfl
theorem done_tab (l : List En) (D : List (List En)) (bn pn : Nat) : (doneF D).1.length ≤ (tableF l D bn pn).length := by
  unfold tableF out2 out1
  simp only [List.length_append]
  omega
theorem val_tab (l : List En) (bb : Int) (bn pn : Nat) : valF l ≤ (tableF l (blksF l bb) bn pn).length := by
  have h1 := done_val (blksF l bb) ([], [])
  have h2 := val_flat (blksF l bb)
  have h3 : (blksF l bb).flatten = l := part_flat bb l
  have h4 := done_tab l (blksF l bb) bn pn
  rw [h3] at h2
  unfold doneF at h4
  simp only [List.length_nil] at h1
  omega
theorem part_pre (bb : Int) : ∀ (l : List En) (p : List (List En) × List En), ∃ R, (l.foldl (stepP bb) p).1 = p.1 ++ R
  | [], p => ⟨[], by simp⟩
  | e :: r, p => by
    obtain ⟨R, h⟩ := part_pre bb r (stepP bb p e)
    rw [List.foldl_cons, h]
    unfold stepP
    split
    · exact ⟨[p.2] ++ R, by simp⟩
    · exact ⟨R, rfl⟩
theorem part_take (bb : Int) (l : List En) (k : Nat) : ∃ R, blksF l bb = (partF bb (l.take k)).1 ++ R := by
  obtain ⟨R, h⟩ := part_pre bb (l.drop k) (partF bb (l.take k))
  refine ⟨R ++ [(partF bb l).2], ?_⟩
  have h2 : partF bb l = (l.drop k).foldl (stepP bb) (partF bb (l.take k)) := by
    unfold partF
    rw [← List.foldl_append, List.take_append_drop]
  unfold blksF
  rw [← List.append_assoc, ← h, ← h2]
theorem done_pre (D R : List (List En)) : (doneF D).1.length ≤ (doneF (D ++ R)).1.length := by
  have h := done_val R (doneF D)
  unfold doneF at h ⊢
  rw [List.foldl_append]
  omega
theorem out_le (l : List En) (bb : Int) (k bn pn : Nat) : (doneF (partF bb (l.take k)).1).1.length ≤ (tableF l (blksF l bb) bn pn).length := by
  obtain ⟨R, h⟩ := part_take bb l k
  have h1 := done_pre (partF bb (l.take k)).1 R
  have h2 := done_tab l (blksF l bb) bn pn
  rw [← h] at h1
  omega
theorem code_end {l : List En} {bb pk : Int} (h : codeF l bb pk = if 4194304 < valF l ∨ 2097152 < (idxF (blksF l bb)).length ∨ 4194304 < (tableF l (blksF l bb) bb.toNat pk.toNat).length then 43 else 0) :
    codeF l bb pk = if 2097152 < (idxF (blksF l bb)).length ∨ 4194304 < (tableF l (blksF l bb) bb.toNat pk.toNat).length then 43 else 0 := by
  rw [h]
  have h1 := val_tab l bb bb.toNat pk.toNat
  by_cases h2 : 4194304 < valF l
  · rw [if_pos (Or.inl h2), if_pos (Or.inr (by omega))]
  · simp [h2]
theorem code_long {l : List En} {bb pk : Int} (h : codeF l bb pk = if 4194304 < valF l ∨ 2097152 < (idxF (blksF l bb)).length ∨ 4194304 < (tableF l (blksF l bb) bb.toNat pk.toNat).length then 43 else 0)
    (k : Nat) (hk : 4194304 < (doneF (partF bb (l.take k)).1).1.length) : codeF l bb pk = 43 := by
  have h1 := out_le l bb k bb.toNat pk.toNat
  rw [h, if_pos (Or.inr (Or.inr (by omega)))]
end Ss
end Go.Proofs.Ytmojbamloanleaa
