/- pgwire, plainly: what is said of a beginning is said of all. No program in sight. -/
import Derived.Test.YthaekefdadccaaaDoorPgP
namespace Go.Proofs.YthaekefdadccaaaDoor
open Go.RowKit
namespace PM
end PM
end Go.Proofs.YthaekefdadccaaaDoor
