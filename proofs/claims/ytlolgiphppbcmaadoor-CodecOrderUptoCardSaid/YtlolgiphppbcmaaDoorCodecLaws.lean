/- The walks of CodecSums, CodecCompares, CodecNumbers. -/
import Derived.Test.YtlolgiphppbcmaaDoorCodecShown
namespace Go.Proofs.YtlolgiphppbcmaaDoor
open Go.RowKit
namespace Codec
theorem bel_row {w0 w w' : World} {row : Option Nat} (h : Below w0.heap.size w0 w) (hg : w.grownBy w' row) (hr : ∀ k, row = some k → w0.heap.size ≤ k) : Below w0.heap.size w0 w' :=
  h.trans ((Below.refl _ _).grown hg h.size hr)
end Codec
end Go.Proofs.YtlolgiphppbcmaaDoor
