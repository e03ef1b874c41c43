/- expr: the walks of ExprOrders and ExprSorts. -/
import Derived.Test.YtndomnknjlihhaaDoorExLaw
import Derived.Test.YtndomnknjlihhaaDoorExOpen
set_option linter.unusedVariables false
set_option linter.unusedSimpArgs false
namespace Go.Proofs.YtndomnknjlihhaaDoor
open Go.RowKit
open PM
set_option maxRecDepth 100000 in
/-- the walk of ExprOrders -/
theorem orders_walk (v u : Value) (a b : XV) (w : World) (ha : RelA G0 nom w a.v v) (hb : RelA G0 nom w b.v u) : Calls Tryd.prog 3 #[v, u] w (Ret (.bool true) w) := by
  have hc := calls_of_pure (vs := [v, u]) Tryd.func3 rfl rfl (pOrders a b) (.cons ha (.cons hb .nil))
  refine hc.mono fun e w' ⟨v', G', h1, h2, h3, h4⟩ => ⟨?_, h2⟩
  rw [h1, h4.bool]
set_option maxRecDepth 100000 in
/-- the walk of ExprSorts -/
theorem sorts_walk (v u x : Value) (a b c : XV) (w : World) (ha : RelA G0 nom w a.v v) (hb : RelA G0 nom w b.v u) (hc : RelA G0 nom w c.v x) : Calls Tryd.prog 6 #[v, u, x] w (Ret (.bool true) w) := by
  have hc := calls_of_pure (vs := [v, u, x]) Tryd.func6 rfl rfl (pSorts a b c) (.cons ha (.cons hb (.cons hc .nil)))
  refine hc.mono fun e w' ⟨v', G', h1, h2, h3, h4⟩ => ⟨?_, h2⟩
  rw [h1, h4.bool]
end Go.Proofs.YtndomnknjlihhaaDoor
