/- bytes.Equal, by its contract. -/
import Derived.Test.YtmojbamloanleaaKit
import Derived.Test.YtmojbamloanleaaRows
set_option linter.unusedVariables false
set_option linter.unusedSimpArgs false
namespace Go.Proofs.Ytmojbamloanleaa
open Go.RowKit
set_option maxHeartbeats 400000 in
theorem bytesEqual_any (v u : Value) (l m : List Int) (w : World) (hv : IsB w v l) (hu : IsB w u m) :
    Calls Try.prog 35 #[v, u] w fun e w' => e = .returned (.bool (decide (l = m))) ∧ w = w' := by
  have h1 := hv.conv Try.underlying25 Try.underlying5 Try.underlying9
  have h2 := hu.conv Try.underlying25 Try.underlying5 Try.underlying9
  have H := Lib.hid (str_beq hv.rng hu.rng)
  clear hv hu
  go_enter Try.func35, Try.ntmps35
  go_wp2_with fail
  go_ret
  rw [← H.out]
  exact ⟨rfl, rfl⟩
end Go.Proofs.Ytmojbamloanleaa
