/- rowkey: the walk of RowkeyOrder. -/
import Derived.Test.YtfkemeamimcnjaaDoorRkd
import Derived.Test.YtfkemeamimcnjaaDoorRkOpen
set_option linter.unusedVariables false
set_option linter.unusedSimpArgs false
namespace Go.Proofs.YtfkemeamimcnjaaDoor
open Go.RowKit
open PM
set_option maxRecDepth 100000 in
/-- the walk of RowkeyOrder -/
theorem order_walk (v0 v1 v2 : Value) (T : Tb) (A B : List XV) (w : World) (h0 : RelA G0 nom w T.v v0) (h1 : RelA G0 nom w (vl A) v1) (h2 : RelA G0 nom w (vl B) v2) (hT : tbSmall T) (hA : A.length ≤ 1048576) (hB : B.length ≤ 1048576) :
    Calls Tryd.prog 7 #[v0, v1, v2] w (Ret (.bool true) w) := by
  have hc := calls_of_pure (vs := [v0, v1, v2]) Tryd.func7 rfl rfl (pRowkeyOrder T A B hA hB hT.2.1 hT.2.2) (.cons h0 (.cons h1 (.cons h2 .nil)))
  refine hc.mono fun e w' ⟨v', G', k1, k2, k3, k4⟩ => ⟨?_, k2⟩
  rw [k1, k4.bool]
end Go.Proofs.YtfkemeamimcnjaaDoor
