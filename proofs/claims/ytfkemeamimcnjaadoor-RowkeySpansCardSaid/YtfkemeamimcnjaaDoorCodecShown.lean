/- codec: the document's examples. -/
import Derived.Test.YtfkemeamimcnjaaDoorCodecRX
import Derived.Test.YtfkemeamimcnjaaDoorCodecK
import Derived.Test.YtfkemeamimcnjaaDoorCodecRT
import Derived.Test.YtfkemeamimcnjaaDoorCodecS
import Derived.Test.YtfkemeamimcnjaaDoorCodecC
set_option linter.unusedVariables false
set_option linter.unusedSimpArgs false
namespace Go.Proofs.YtfkemeamimcnjaaDoor
open Go.RowKit
namespace Codec
theorem num300 : numN 300 = [172, 2] := by rw [numN_hi (by decide), numN_lo (by decide)]; rfl
theorem isB_lit_on (w : World) (o : Obj) (l : List Int) (hr : Rng l) (hl : l.length ≤ 9223372036854775807) (e : TypeId) : IsB ((w.alloc o).alloc (.cells (l.map (Value.int .u8)).toArray e)) (.slice (some ⟨w.heap.size + 1, 0, none⟩) l.length l.length) l := by
  have h := isB_const (w.alloc o) l hr hl e (0, 0)
  have e : (w.alloc o).heap.size = w.heap.size + 1 := by simp
  rw [e] at h
  exact h
end Codec
end Go.Proofs.YtfkemeamimcnjaaDoor
