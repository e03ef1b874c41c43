/- wal: what reading operations off a body's bytes gives (plain). -/
import Derived.Test.YtlfelpbcnpjneaaWalRd
namespace Go.Proofs.Ytlfelpbcnpjneaa
open Go.RowKit
namespace Wal
open Codec
def stDel (l : List Int) : Bool := decide (l.getD 0 0 = 1)
def stL2 (l : List Int) : List Int := textRest (l.drop 1)
def stB2 (l : List Int) : Bool := textBad (l.drop 1) (byteBad l false)
/-- the operation that is read, what is left behind it, whether it went wrong -/
def stOp (l : List Int) : Opr := (stDel l, (takeTextF (l.drop 1)).1, if stDel l then [] else (takeTextF (stL2 l)).1)
def stL (l : List Int) : List Int := if stDel l then stL2 l else textRest (stL2 l)
def stB (l : List Int) : Bool := if stDel l then stB2 l else textBad (stL2 l) (stB2 l)
theorem textRest_len (l : List Int) : (textRest l).length ≤ l.length := by
  unfold textRest
  split
  · rw [List.length_drop]; omega
  · exact Nat.le_refl _
theorem textBad_true {l : List Int} : textBad l true = true := by unfold textBad; split <;> rfl
theorem stL_lt {l : List Int} (h : stB l = false) : (stL l).length < l.length := by
  have hl : l ≠ [] := by
    rintro rfl
    have h1 : stB2 [] = true := textBad_true
    unfold stB at h
    split at h
    · rw [h1] at h; cases h
    · rw [h1, textBad_true] at h; cases h
  have h0 : 0 < l.length := List.length_pos_iff.2 hl
  have h1 := textRest_len (l.drop 1)
  rw [List.length_drop] at h1
  unfold stL
  split
  · unfold stL2; omega
  · have h2 := textRest_len (stL2 l)
    unfold stL2 at h2 ⊢
    omega
/-- reading so many operations, as long as none goes wrong: them, whether one went wrong -/
def rdOps : Nat → Nat → List Int → List Opr × Bool
  | 0, _, _ => ([], true)
  | _ + 1, 0, _ => ([], false)
  | f + 1, m + 1, l => if stB l then ([stOp l], true) else (stOp l :: (rdOps f m (stL l)).1, (rdOps f m (stL l)).2)
/-- more fuel than bytes turns nothing -/
theorem rdOps_fuel : ∀ (f g m : Nat) (l : List Int), l.length < f → l.length < g → rdOps f m l = rdOps g m l
  | 0, _, _, _, h, _ => absurd h (by omega)
  | _ + 1, 0, _, _, _, h => absurd h (by omega)
  | f + 1, g + 1, 0, l, _, _ => rfl
  | f + 1, g + 1, m + 1, l, hf, hg => by
    rw [rdOps, rdOps]
    by_cases h : stB l = true
    · rw [if_pos h, if_pos h]
    · have h' : stB l = false := by simpa using h
      have hlt := stL_lt h'
      rw [if_neg h, if_neg h, rdOps_fuel f g m (stL l) (by omega) (by omega)]
end Wal
end Go.Proofs.Ytlfelpbcnpjneaa
