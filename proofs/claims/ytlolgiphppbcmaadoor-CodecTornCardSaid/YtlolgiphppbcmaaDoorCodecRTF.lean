/- codec: the document's TakeFrame. -/
import Derived.Test.YtlolgiphppbcmaaDoorCodecTF
namespace Go.Proofs.YtlolgiphppbcmaaDoor
open Go.RowKit
namespace Codec
end Codec
end Go.Proofs.YtlolgiphppbcmaaDoor
