/- pgwire, plainly: what is written. No program in sight. -/
import Derived.Test.YthaekefdadccaaaDoorPgP
import Derived.Test.YthaekefdadccaaaDoorBytesFn
namespace Go.Proofs.YthaekefdadccaaaDoor
open Go.RowKit
namespace PM
def big4 (n : Int) : List Int := [n / 16777216 % 256, n / 65536 % 256, n / 256 % 256, n % 256]
def big2 (n : Int) : List Int := [n / 256 % 256, n % 256]
def has0 (s : List Int) : Bool := decide (0 ≤ idxI s 0)
def i32ok (n : Int) : Bool := decide (-2147483648 ≤ n) && decide (n ≤ 2147483647)
theorem wrap_u8 (n : Int) : IntKind.u8.wrap n = n % 256 := by
  simp [IntKind.wrap, IntKind.bits, IntKind.signed]
theorem has0_iff (s : List Int) : has0 s = true ↔ (0 : Int) ∈ s := by
  unfold has0
  rw [decide_eq_true_eq]
  induction s with
  | nil => simp [idxI]
  | cons x s ih =>
    have := (idxI_rng s 0).1
    unfold idxI
    by_cases hx : x = 0
    · simp [hx]
    · rw [if_neg hx, List.mem_cons]
      have hx' : ¬ (0 : Int) = x := fun h => hx h.symm
      simp only [hx', false_or, ← ih]
      split <;> omega
end PM
end Go.Proofs.YthaekefdadccaaaDoor
