/- sstable: what a table's bytes are, plain. -/
import Derived.Test.YtmojbamloanleaaCodecFr
import Derived.Test.YtmojbamloanleaaBloomMake
import Derived.Test.YtmojbamloanleaaMt1
set_option linter.unusedVariables false
set_option linter.unusedSimpArgs false
namespace Go.Proofs.Ytmojbamloanleaa
open Go.RowKit
namespace Ss
open Mt (En)
open Codec
/-- how many bytes are alike, from the front -/
def comL : List Int → List Int → Nat
  | x :: a, y :: b => if x = y then comL a b + 1 else 0
  | _, _ => 0
theorem comL_le : ∀ a b, comL a b ≤ a.length ∧ comL a b ≤ b.length
  | x :: a, y :: b => by
    have := comL_le a b
    unfold comL
    split
    · simp only [List.length_cons]; omega
    · simp
  | [], _ => by simp [comL]
  | _ :: _, [] => by simp [comL]
theorem comL_at : ∀ a b k, k < comL a b → ∃ x, a[k]? = some x ∧ b[k]? = some x
  | x :: a, y :: b, k, h => by
    unfold comL at h
    split at h
    · rename_i e
      subst e
      cases k with
      | zero => exact ⟨x, rfl, rfl⟩
      | succ k => exact comL_at a b k (by omega)
    · omega
  | [], _, k, h => by simp [comL] at h
  | _ :: _, [], k, h => by simp [comL] at h
theorem comL_stop : ∀ a b, comL a b < a.length → comL a b < b.length → ∃ x y, a[comL a b]? = some x ∧ b[comL a b]? = some y ∧ x ≠ y
  | x :: a, y :: b, h1, h2 => by
    unfold comL at h1 h2 ⊢
    split
    · rename_i e
      rw [if_pos e] at h1 h2
      simp only [List.length_cons] at h1 h2
      obtain ⟨u, v, k1, k2, k3⟩ := comL_stop a b (by omega) (by omega)
      exact ⟨u, v, by rw [List.getElem?_cons_succ]; exact k1, by rw [List.getElem?_cons_succ]; exact k2, k3⟩
    · rename_i e
      exact ⟨x, y, rfl, rfl, e⟩
  | [], _, h1, h2 => by simp [comL] at h1
  | _ :: _, [], h1, h2 => by simp [comL] at h2
/-- an entry's bytes behind a key -/
def layS (a : List Int) (e : En) : List Int :=
  numN (comL a e.1) ++ numN (e.1.length - comL a e.1) ++ numN e.2.1.toNat ++ [if e.2.2.1 then 1 else 0] ++ numN e.2.2.2.length ++ e.1.drop (comL a e.1) ++ e.2.2.2
/-- a block's body, and its last key -/
def bodyF (l : List En) : List Int × List Int := l.foldl (fun p e => (p.1 ++ layS p.2 e, e.1)) ([], [])
theorem bodyF_snoc (l : List En) (e : En) : bodyF (l ++ [e]) = ((bodyF l).1 ++ layS (bodyF l).2 e, e.1) := by
  unfold bodyF
  rw [List.foldl_append]
  rfl
def stepP (bb : Int) (p : List (List En) × List En) (e : En) : List (List En) × List En :=
  if p.2 ≠ [] ∧ bb < ((bodyF (p.2 ++ [e])).1.length : Int) then (p.1 ++ [p.2], [e]) else (p.1, p.2 ++ [e])
/-- the blocks that are done, and the one at hand -/
def partF (bb : Int) (l : List En) : List (List En) × List En := l.foldl (stepP bb) ([], [])
theorem partF_snoc (bb : Int) (l : List En) (e : En) : partF bb (l ++ [e]) = stepP bb (partF bb l) e := by
  unfold partF
  rw [List.foldl_append]
  rfl
def blkF (p : List Int × List Int) (b : List En) : List Int × List Int :=
  (p.1 ++ frameF 68 (bodyF b).1, p.2 ++ numN p.1.length ++ numN (frameF 68 (bodyF b).1).length ++ numN b.length ++ (numN (bodyF b).2.length ++ (bodyF b).2))
/-- the bytes of blocks, and what the index says of them -/
def doneF (d : List (List En)) : List Int × List Int := d.foldl blkF ([], [])
theorem doneF_snoc (d : List (List En)) (b : List En) : doneF (d ++ [b]) = blkF (doneF d) b := by
  unfold doneF
  rw [List.foldl_append]
  rfl
def keyStep (ks : List (List Int)) (e : En) : List (List Int) := if ks.getLast? = some e.1 then ks else ks ++ [e.1]
/-- each key once -/
def keysF (l : List En) : List (List Int) := l.foldl keyStep []
theorem keysF_snoc (l : List En) (e : En) : keysF (l ++ [e]) = keyStep (keysF l) e := by
  unfold keysF
  rw [List.foldl_append]
  rfl
/-- a number in so many bytes, the highest first -/
def hiB (n : Nat) : Nat → List Int
  | 0 => []
  | k + 1 => (((n / 256 ^ k) % 256 : Nat) : Int) :: hiB n k
theorem hiB_len (n : Nat) : ∀ k, (hiB n k).length = k
  | 0 => rfl
  | k + 1 => by rw [hiB, List.length_cons, hiB_len n k]
def indexF (bb : Int) (l : List En) : List Int := numN ((partF bb l).1 ++ [(partF bb l).2]).length ++ (doneF ((partF bb l).1 ++ [(partF bb l).2])).2
def footF (fa ia many bb pk : Nat) : List Int := hiB fa 8 ++ hiB ia 8 ++ hiB many 8 ++ hiB bb 4 ++ hiB pk 4 ++ [67, 79, 82, 77]
end Ss
end Go.Proofs.Ytmojbamloanleaa
