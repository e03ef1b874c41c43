/- The walk of CodecTexts. -/
import Derived.Test.YtlolgiphppbcmaaDoorCodecTT
import Derived.Test.YtlolgiphppbcmaaDoorCodecRTT
import Derived.Test.YtlolgiphppbcmaaDoorCodecLent
import Derived.Test.YtlolgiphppbcmaaDoorCodecLaws
namespace Go.Proofs.YtlolgiphppbcmaaDoor
open Go.RowKit
namespace Codec
theorem lenF_num {n : Nat} (hn : n ≤ 2097152) (r : List Int) (more : Nat) (h : n + more ≤ r.length) : lenF (numN n ++ r) more = ((n : Int), ((numN n).length : Int), 0) := by
  unfold lenF
  rw [takeN_num (by omega)]
  simp only [List.length_append]
  rw [if_neg (by simp), if_neg (by omega), if_neg (by omega)]
theorem takeTextF_num (l m : List Int) (hl : l.length ≤ 2097152) : takeTextF (numN l.length ++ l ++ m) = (l, ((numN l.length).length : Int) + l.length, 0) := by
  unfold takeTextF
  have e := lenF_num hl (l ++ m) 0 (by rw [List.length_append]; omega)
  rw [List.append_assoc]
  have e' : lenF (numN l.length ++ (l ++ m)) 0 = ((l.length : Int), ((numN l.length).length : Int), 0) := e
  rw [e']
  simp
theorem apart_lt {w : World} {b2 : Nat} {e1 : TypeId} {v u : Value} {l : List Int} (h : OwnS w b2 e1 v l) (k : ∀ k, u.ownBlock = some k → k < b2) : v.ownBlock = none ∨ v.ownBlock ≠ u.ownBlock := by
  cases hv : v.ownBlock with
  | none => exact .inl rfl
  | some a =>
    refine .inr fun he => ?_
    have h1 := h.lt a hv
    have h2 := k a he.symm
    omega
end Codec
end Go.Proofs.YtlolgiphppbcmaaDoor
