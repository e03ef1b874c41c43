/- rangemeta: New. -/
import Derived.Test.YtbeniogffhihlaaRmSplit
set_option linter.unusedVariables false
set_option linter.unusedSimpArgs false
namespace Go.Proofs.Ytbeniogffhihlaa
open Go.RowKit
namespace Rm
/-- the world behind New -/
abbrev newW (w : World) : World := (w.alloc (.cells #[.int .i64 1, .slice none 0 0, .slice none 0 0, .int .i64 1] 39)).alloc (.cells #[.slice (some ⟨w.heap.size, 0, none⟩) 1 1] 80)
set_option maxRecDepth 100000 in
set_option maxHeartbeats 1000000 in
theorem new_any (w : World) : Calls Try.prog 11 #[] w fun e w' => e = .returned (.pointer (some ⟨w.heap.size + 1, 0, none⟩)) ∧ newW w = w' := by
  go_enter Try.func11, Try.ntmps11
  go_wp2_with fail
  go_ret
  exact ⟨rfl, rfl⟩
end Rm
end Go.Proofs.Ytbeniogffhihlaa
