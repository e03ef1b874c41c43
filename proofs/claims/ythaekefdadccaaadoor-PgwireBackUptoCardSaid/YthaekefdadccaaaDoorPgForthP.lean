/- pgwire, plainly: a client's message that was laid is read again; a beginning of it is short. No program in sight. -/
import Derived.Test.YthaekefdadccaaaDoorPgB
import Derived.Test.YthaekefdadccaaaDoorPgPieces
namespace Go.Proofs.YthaekefdadccaaaDoor
open Go.RowKit
namespace PM
theorem i32v_big4 {n : Int} (h : i32ok n = true) (r : List Int) : i32v (big4 n ++ r) = n := by
  unfold i32ok at h
  simp only [Bool.and_eq_true, decide_eq_true_eq] at h
  have e : i32v (big4 n ++ r) = (let m := ((n / 16777216 % 256 * 256 + n / 65536 % 256) * 256 + n / 256 % 256) * 256 + n % 256; if 2147483648 ≤ m then m - 4294967296 else m) := rfl
  rw [e]
  simp only
  split <;> omega
theorem ok32 {n : Int} (h0 : -2147483648 ≤ n) (h1 : n ≤ 2147483647) : i32ok n = true := by
  unfold i32ok
  simp [h0, h1]
theorem drop4_big4 (n : Int) (r : List Int) : (big4 n ++ r).drop 4 = r := rfl
end PM
end Go.Proofs.YthaekefdadccaaaDoor
