/- codec: the walk of TakeKeyText. -/
import Derived.Test.YtlfelpbcnpjneaaCodecX
namespace Go.Proofs.Ytlfelpbcnpjneaa
open Go.RowKit
namespace Codec
def TkPost (l : List Int) (w : World) (e : Ending) (w' : World) : Prop :=
  ∃ v, e = .returned (.tuple #[v, .int .i64 (tkL l).2.1, .int .i64 (tkL l).2.2]) ∧ OwnS w' w.heap.size 5 v (tkL l).1 ∧ Below w.heap.size w w'
theorem ret_tk {v : Value} {t : List Int × Int × Int} {a : List Int} {b c : Int} (h : t = (a, b, c)) : Ending.returned (.tuple #[v, .int .i64 b, .int .i64 c]) = .returned (.tuple #[v, .int .i64 t.2.1, .int .i64 t.2.2]) := by subst h; rfl
end Codec
end Go.Proofs.Ytlfelpbcnpjneaa
