/- pgwire in the abstract: the document's reading of a client's message. -/
import Derived.Test.YthaekefdadccaaaDoorPg7
namespace Go.Proofs.YthaekefdadccaaaDoor
open Go.RowKit
namespace PM
end PM
end Go.Proofs.YthaekefdadccaaaDoor
