/- pgwire in the abstract: any message of the server's as bytes. -/
import Derived.Test.YthaekefdadccaaaDoorPgB2
import Derived.Test.YthaekefdadccaaaDoorPgB3
import Derived.Test.YthaekefdadccaaaDoorPgB6
namespace Go.Proofs.YthaekefdadccaaaDoor
open Go.RowKit
namespace PM
set_option maxRecDepth 100000 in
theorem pPut4 (m : Back) (hk : m.kind = 4) : Pure Tryd.prog 16 [m.v] (putV (putBackS m)) := by
  have e0 : putBackS m = putEnd m (statusOk m.status) 0 [m.status] := by simp only [putBackS, backMay, backLong, backBody, hk, Int.reduceEq, ↓reduceIte]
  rw [e0]
  exact pPutReady m hk
set_option maxRecDepth 100000 in
theorem pPut (m : Back) (hz : backSmall m) : Pure Tryd.prog 16 [m.v] (putV (putBackS m)) := by
  obtain ⟨z1, z2, z3, z4, z5⟩ := hz
  by_cases h0 : m.kind < 1 ∨ 10 < m.kind
  · exact pPut0 m h0
  have hk : m.kind = 1 ∨ m.kind = 2 ∨ m.kind = 3 ∨ m.kind = 4 ∨ m.kind = 5 ∨ m.kind = 6 ∨ m.kind = 7 ∨ m.kind = 8 ∨ m.kind = 9 ∨ m.kind = 10 := by omega
  rcases hk with h | h | h | h | h | h | h | h | h | h
  · exact pPut1 m h
  · exact pPut2 m h ⟨z3, z4⟩
  · exact pPut3 m h
  · exact pPut4 m h
  · exact pPut5 m h z1
  · exact pPut6 m h z2
  · exact pPut7 m h z4
  · exact pPut8 m h
  · exact pPut9 m h ⟨z5, z4⟩
  · exact pPut10 m h
end PM
end Go.Proofs.YthaekefdadccaaaDoor
