/- bytes.Equal, by its contract. -/
import Derived.Test.YtlolgiphppbcmaaDoorBytes
import Derived.Test.YtlolgiphppbcmaaDoorRows
namespace Go.Proofs.YtlolgiphppbcmaaDoor
open Go.RowKit
set_option maxHeartbeats 400000 in
theorem bytesEqual_any (v u : Value) (l m : List Int) (w : World) (hv : IsB w v l) (hu : IsB w u m) :
    Calls Tryd.prog 32 #[v, u] w fun e w' => e = .returned (.bool (decide (l = m))) ∧ w = w' := by
  have h1 := hv.conv Tryd.underlying23 Tryd.underlying5 Tryd.underlying9
  have h2 := hu.conv Tryd.underlying23 Tryd.underlying5 Tryd.underlying9
  have H := Lib.hid (str_beq hv.rng hu.rng)
  clear hv hu
  go_enter Tryd.func32, Tryd.ntmps32
  go_wp2_with fail
  go_ret
  rw [← H.out]
  exact ⟨rfl, rfl⟩
end Go.Proofs.YtlolgiphppbcmaaDoor
