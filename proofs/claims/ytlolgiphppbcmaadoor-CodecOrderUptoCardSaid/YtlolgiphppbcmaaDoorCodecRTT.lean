/- codec: the document's TakeText. -/
import Derived.Test.YtlolgiphppbcmaaDoorCodecTT
namespace Go.Proofs.YtlolgiphppbcmaaDoor
open Go.RowKit
namespace Codec
end Codec
end Go.Proofs.YtlolgiphppbcmaaDoor
