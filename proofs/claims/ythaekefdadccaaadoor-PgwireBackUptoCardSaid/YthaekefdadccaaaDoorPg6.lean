/- pgwire in the abstract: two messages of a client's. -/
import Derived.Test.YthaekefdadccaaaDoorPg2
import Derived.Test.YthaekefdadccaaaDoorPmD
namespace Go.Proofs.YthaekefdadccaaaDoor
open Go.RowKit
namespace PM
end PM
end Go.Proofs.YthaekefdadccaaaDoor
