/- pgwire: the walk of PgwirePuts. -/
import Derived.Test.YthaekefdadccaaaDoorPgPutsP
import Derived.Test.YthaekefdadccaaaDoorPgFOpen
namespace Go.Proofs.YthaekefdadccaaaDoor
open Go.RowKit
open PM
set_option maxRecDepth 100000 in
/-- the walk of PgwirePuts -/
theorem puts_walk (v : Value) (f : Front) (w : World) (h : RelA G0 nom w f.v v) (hz : (prmB f.params).length ≤ 100000000000 ∧ f.text.length ≤ 100000000000) : Calls Tryd.prog 6 #[v] w (Ret (.bool true) w) := by
  have hc := calls_of_pure (vs := [v]) Tryd.func6 rfl rfl (pPuts f hz.1 hz.2) (.cons h .nil)
  refine hc.mono fun e w' ⟨v', G', h1, h2, h3, h4⟩ => ⟨?_, h2⟩
  rw [h1, bool_ret h4]
end Go.Proofs.YthaekefdadccaaaDoor
