/- pgwire in the abstract: the document's reading of a first message. -/
import Derived.Test.YthaekefdadccaaaDoorPg3
import Derived.Test.YthaekefdadccaaaDoorPg5
import Derived.Test.YthaekefdadccaaaDoorPmD
namespace Go.Proofs.YthaekefdadccaaaDoor
open Go.RowKit
namespace PM
end PM
end Go.Proofs.YthaekefdadccaaaDoor
