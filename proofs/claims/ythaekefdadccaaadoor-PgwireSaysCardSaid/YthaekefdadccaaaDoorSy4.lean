/- pgwire: what the reference says of an error. -/
import Derived.Test.YthaekefdadccaaaDoorSy2
set_option linter.unusedVariables false
set_option linter.unusedSimpArgs false
namespace Go.Proofs.YthaekefdadccaaaDoor
open Go.RowKit
namespace Sy
set_option maxRecDepth 100000 in
set_option maxHeartbeats 8000000 in
theorem rsaid_any (e : Int) (w : World) : Calls Tryd.prog 53 #[.int .i64 e] w (Ret (.tuple #[.string (saidB e).1, .string (saidB e).2]) w) := by
  go_enter Tryd.func53, Tryd.ntmps53
  go_wp2_with fail
  all_goals
    (simp only [beq_iff_eq, beq_eq_false_iff_ne, ne_eq] at *; have hW := Below.refl w.heap.size w; refine bodyPost_ret (v := .tuple #[.string (saidB e).1, .string (saidB e).2]) (by simp [results, Tryd.results53, go_sem, saidB, worseB, *]) rfl ⟨rfl, ?_⟩; exact (by repeat' (first | (with_reducible exact Below.refl _ _) | (with_reducible assumption) | (with_reducible refine Below.drew ?_) | (with_reducible refine below_drewN ?_ _) | (with_reducible refine bel_alloc ?_ _) | (with_reducible refine Below.setCell ?_ ?_ _) | (with_reducible refine bel_call ?_ (by assumption)) | (simp <;> omega))))
theorem rstate_any (e : Int) (w : World) : Calls Tryd.prog 25 #[.int .i64 e] w (Ret (.string (saidB e).1) w) := by
  have HC := Lib.hid (rsaid_any e w)
  go_enter Tryd.func25, Tryd.ntmps25
  go_wp2_with fail
  refine HC.out.mono ?_
  rintro _ w1 ⟨rfl, hb⟩
  go_wp2_with fail
  go_ret
  exact ⟨rfl, hb⟩
theorem rwords_any (e : Int) (w : World) : Calls Tryd.prog 26 #[.int .i64 e] w (Ret (.string (saidB e).2) w) := by
  have HC := Lib.hid (rsaid_any e w)
  go_enter Tryd.func26, Tryd.ntmps26
  go_wp2_with fail
  refine HC.out.mono ?_
  rintro _ w1 ⟨rfl, hb⟩
  go_wp2_with fail
  go_ret
  exact ⟨rfl, hb⟩
end Sy
end Go.Proofs.YthaekefdadccaaaDoor
