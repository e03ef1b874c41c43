/-
  No cell of these rows narrows 'for every input' (looked for: loops, veiled, ifaces, maps, wideKeys, modest, calm, conditions, laid).
  DERIVED. THE GIVEN ROWS OF THIS SEAT. 7 by the template 'for every input the law returns true; each argument reads behind the call as it read before'; 0 by the template 'total and deterministic' (their statements: YtbeniogffhihlaaTotals.lean).
  GIVEN WITH THE SEED: the statements are not yours to turn. If you find one false, say at which input.
  Laid BY PROGRAM, IN A SANDBOX (cutbox-rows.mjs): the forced cells as the released guide's own fill.sh prints them over the translation 95eeaa414b5b3eaa… (all of the seat's roots in one cut). By AI agents, Wed Nov 11 2026. No macro, syntax, notation, axiom, sorry.
-/
import Derived.Test.YtbeniogffhihlaaChecked
import GoSem.Claim
import GoSem.ClaimJoined
import GoSem.ClaimMapViews
import Derived.JoinedTies
import Derived.KernelRfl
namespace Go.Proofs.Ytbeniogffhihlaa
/- THE CELL 'sum', in the pinned program and in every row, IS THE sha256 OF THE DUMP (.gsa) THAT YtbeniogffhihlaaProg.lean LOADS. Nothing in Lean hashes anything: it is a label: what it is worth is what the hold of that sum in a sandbox is worth. -/
noncomputable def Try.pinned : Pinned := { name := "ytbeniogffhihlaa", sum := "95eeaa414b5b3eaa1e9b2a6ffc833b4a436e3c657930ddb0c0207ddb2c3fdb1b", checked := Try.checked }
namespace Rows
def none {H : Type} : Left H := { results := [], args := [] }

/-- 'cormorantlaw15.RangemetaSplits': WHATEVER THE INPUT: true; the input reads as it did. -/
def rangemetaSplitsSpec : ChangeSpec := { name := "rangemetaSplits", fn := fun _ => fun
  | [d1, d2, d3] => { results := [.lit (.bool true)], args := [d1, d2, d3] }
  | _ => none }
def rangemetaSplitsRow : OpenClaim := { program := "ytbeniogffhihlaa", sum := "95eeaa414b5b3eaa1e9b2a6ffc833b4a436e3c657930ddb0c0207ddb2c3fdb1b", func := "cormorant/cormorantlaw15.RangemetaSplits", spec := "rangemetaSplits", inPlace := ["internal/bytealg.Compare", "slices.overlaps[cormorant/api.Range]"], unfollowed := true, recurses := true, apart := false }
def RangemetaSplitsSaid : Prop := rangemetaSplitsRow.holds Try.pinned (OpenSpec.ofChange rangemetaSplitsSpec)

/-- ITS FALSE NEIGHBOUR: 'it returns false'. Refute it at one input. -/
def rangemetaSplitsWrong : ChangeSpec := { name := "rangemetaSplits", fn := fun _ => fun
  | [d1, d2, d3] => { results := [.lit (.bool false)], args := [d1, d2, d3] }
  | _ => none }
def RangemetaSplitsWrongFalsely : Prop := rangemetaSplitsRow.holds Try.pinned (OpenSpec.ofChange rangemetaSplitsWrong)

/-- 'cormorantlaw15.RangemetaHolds': WHATEVER THE INPUT: true; the input reads as it did. -/
def rangemetaHoldsSpec : ChangeSpec := { name := "rangemetaHolds", fn := fun _ => fun
  | [d1, d2, d3] => { results := [.lit (.bool true)], args := [d1, d2, d3] }
  | _ => none }
def rangemetaHoldsRow : OpenClaim := { program := "ytbeniogffhihlaa", sum := "95eeaa414b5b3eaa1e9b2a6ffc833b4a436e3c657930ddb0c0207ddb2c3fdb1b", func := "cormorant/cormorantlaw15.RangemetaHolds", spec := "rangemetaHolds", inPlace := ["internal/bytealg.Compare", "slices.overlaps[cormorant/api.Range]"], unfollowed := true, recurses := true, apart := false }
def RangemetaHoldsSaid : Prop := rangemetaHoldsRow.holds Try.pinned (OpenSpec.ofChange rangemetaHoldsSpec)

/-- ITS FALSE NEIGHBOUR: 'it returns false'. Refute it at one input. -/
def rangemetaHoldsWrong : ChangeSpec := { name := "rangemetaHolds", fn := fun _ => fun
  | [d1, d2, d3] => { results := [.lit (.bool false)], args := [d1, d2, d3] }
  | _ => none }
def RangemetaHoldsWrongFalsely : Prop := rangemetaHoldsRow.holds Try.pinned (OpenSpec.ofChange rangemetaHoldsWrong)

/-- 'cormorantlaw15.RangemetaLoads': WHATEVER THE INPUT: true; the input reads as it did. -/
def rangemetaLoadsSpec : ChangeSpec := { name := "rangemetaLoads", fn := fun _ => fun
  | [d] => { results := [.lit (.bool true)], args := [d] }
  | _ => none }
def rangemetaLoadsRow : OpenClaim := { program := "ytbeniogffhihlaa", sum := "95eeaa414b5b3eaa1e9b2a6ffc833b4a436e3c657930ddb0c0207ddb2c3fdb1b", func := "cormorant/cormorantlaw15.RangemetaLoads", spec := "rangemetaLoads", inPlace := ["internal/bytealg.Compare", "slices.overlaps[cormorant/api.Range]"], unfollowed := true, recurses := true, apart := false }
def RangemetaLoadsSaid : Prop := rangemetaLoadsRow.holds Try.pinned (OpenSpec.ofChange rangemetaLoadsSpec)

/-- ITS FALSE NEIGHBOUR: 'it returns false'. Refute it at one input. -/
def rangemetaLoadsWrong : ChangeSpec := { name := "rangemetaLoads", fn := fun _ => fun
  | [d] => { results := [.lit (.bool false)], args := [d] }
  | _ => none }
def RangemetaLoadsWrongFalsely : Prop := rangemetaLoadsRow.holds Try.pinned (OpenSpec.ofChange rangemetaLoadsWrong)

/-- 'cormorantlaw15.RangemetaLearns': WHATEVER THE INPUT: true; the input reads as it did. -/
def rangemetaLearnsSpec : ChangeSpec := { name := "rangemetaLearns", fn := fun _ => fun
  | [d1, d2, d3] => { results := [.lit (.bool true)], args := [d1, d2, d3] }
  | _ => none }
def rangemetaLearnsRow : OpenClaim := { program := "ytbeniogffhihlaa", sum := "95eeaa414b5b3eaa1e9b2a6ffc833b4a436e3c657930ddb0c0207ddb2c3fdb1b", func := "cormorant/cormorantlaw15.RangemetaLearns", spec := "rangemetaLearns", inPlace := ["internal/bytealg.Compare", "slices.overlaps[cormorant/api.Range]"], unfollowed := true, recurses := true, apart := false }
def RangemetaLearnsSaid : Prop := rangemetaLearnsRow.holds Try.pinned (OpenSpec.ofChange rangemetaLearnsSpec)

/-- ITS FALSE NEIGHBOUR: 'it returns false'. Refute it at one input. -/
def rangemetaLearnsWrong : ChangeSpec := { name := "rangemetaLearns", fn := fun _ => fun
  | [d1, d2, d3] => { results := [.lit (.bool false)], args := [d1, d2, d3] }
  | _ => none }
def RangemetaLearnsWrongFalsely : Prop := rangemetaLearnsRow.holds Try.pinned (OpenSpec.ofChange rangemetaLearnsWrong)

/-- 'cormorantlaw15.RangemetaWrites': WHATEVER THE INPUT: true; the input reads as it did. -/
def rangemetaWritesSpec : ChangeSpec := { name := "rangemetaWrites", fn := fun _ => fun
  | [d] => { results := [.lit (.bool true)], args := [d] }
  | _ => none }
def rangemetaWritesRow : OpenClaim := { program := "ytbeniogffhihlaa", sum := "95eeaa414b5b3eaa1e9b2a6ffc833b4a436e3c657930ddb0c0207ddb2c3fdb1b", func := "cormorant/cormorantlaw15.RangemetaWrites", spec := "rangemetaWrites", inPlace := ["internal/bytealg.Compare", "slices.overlaps[cormorant/api.Range]"], unfollowed := true, recurses := true, apart := false }
def RangemetaWritesSaid : Prop := rangemetaWritesRow.holds Try.pinned (OpenSpec.ofChange rangemetaWritesSpec)

/-- ITS FALSE NEIGHBOUR: 'it returns false'. Refute it at one input. -/
def rangemetaWritesWrong : ChangeSpec := { name := "rangemetaWrites", fn := fun _ => fun
  | [d] => { results := [.lit (.bool false)], args := [d] }
  | _ => none }
def RangemetaWritesWrongFalsely : Prop := rangemetaWritesRow.holds Try.pinned (OpenSpec.ofChange rangemetaWritesWrong)

/-- 'cormorantlaw15.RangemetaReads': WHATEVER THE INPUT: true; the input reads as it did. -/
def rangemetaReadsSpec : ChangeSpec := { name := "rangemetaReads", fn := fun _ => fun
  | [d] => { results := [.lit (.bool true)], args := [d] }
  | _ => none }
def rangemetaReadsRow : OpenClaim := { program := "ytbeniogffhihlaa", sum := "95eeaa414b5b3eaa1e9b2a6ffc833b4a436e3c657930ddb0c0207ddb2c3fdb1b", func := "cormorant/cormorantlaw15.RangemetaReads", spec := "rangemetaReads", inPlace := ["internal/bytealg.Compare", "slices.overlaps[cormorant/api.Range]"], unfollowed := true, recurses := true, apart := false }
def RangemetaReadsSaid : Prop := rangemetaReadsRow.holds Try.pinned (OpenSpec.ofChange rangemetaReadsSpec)

/-- ITS FALSE NEIGHBOUR: 'it returns false'. Refute it at one input. -/
def rangemetaReadsWrong : ChangeSpec := { name := "rangemetaReads", fn := fun _ => fun
  | [d] => { results := [.lit (.bool false)], args := [d] }
  | _ => none }
def RangemetaReadsWrongFalsely : Prop := rangemetaReadsRow.holds Try.pinned (OpenSpec.ofChange rangemetaReadsWrong)

/-- 'cormorantlaw15.RangemetaCaches': WHATEVER THE INPUT: true; the input reads as it did. -/
def rangemetaCachesSpec : ChangeSpec := { name := "rangemetaCaches", fn := fun _ => fun
  | [d] => { results := [.lit (.bool true)], args := [d] }
  | _ => none }
def rangemetaCachesRow : OpenClaim := { program := "ytbeniogffhihlaa", sum := "95eeaa414b5b3eaa1e9b2a6ffc833b4a436e3c657930ddb0c0207ddb2c3fdb1b", func := "cormorant/cormorantlaw15.RangemetaCaches", spec := "rangemetaCaches", inPlace := ["internal/bytealg.Compare", "slices.overlaps[cormorant/api.Range]"], unfollowed := true, recurses := true, apart := false }
def RangemetaCachesSaid : Prop := rangemetaCachesRow.holds Try.pinned (OpenSpec.ofChange rangemetaCachesSpec)

/-- ITS FALSE NEIGHBOUR: 'it returns false'. Refute it at one input. -/
def rangemetaCachesWrong : ChangeSpec := { name := "rangemetaCaches", fn := fun _ => fun
  | [d] => { results := [.lit (.bool false)], args := [d] }
  | _ => none }
def RangemetaCachesWrongFalsely : Prop := rangemetaCachesRow.holds Try.pinned (OpenSpec.ofChange rangemetaCachesWrong)

/- THE SECOND FORM. 'bulk': how many values and letters a reading holds, each counted each time it is reached (what is shared counts as often as it is met; a slice's spare places count too). A statement '..UptoSaid' is the law's where the arguments, and the package variables that the reading takes, are together of bulk at most 1048576: NARROWER than '..Said'. Prove '..Said' where nothing that the law and all that it calls make is longer than what came in: it says more and counts as full. Else prove '..UptoSaid'. A law counts once. -/
mutual
def uptoBulk {H : Type} : DataW H → Nat
  | .lit (.string bytes) => bytes.length + 1
  | .lit _ => 1
  | .nil => 1
  | .ptr d => uptoBulk d + 1
  | .slice elems spare => uptoBulkAll elems + uptoBulkAll spare + 1
  | .agg parts => uptoBulkAll parts + 1
  | .iface _ d => uptoBulk d + 1
  | .map entries => uptoBulkEntries entries + 1
  | .held _ => 1
def uptoBulkAll {H : Type} : List (DataW H) → Nat
  | [] => 0
  | d :: r => uptoBulk d + uptoBulkAll r
def uptoBulkEntries {H : Type} : List (Lit × DataW H) → Nat
  | [] => 0
  | x :: r => uptoBulkEntry x + uptoBulkEntries r
def uptoBulkEntry {H : Type} : Lit × DataW H → Nat
  | (.string bytes, d) => bytes.length + uptoBulk d + 1
  | (_, d) => uptoBulk d + 1
 end
def uptoSmall : (H : Type) → List (DataW H) → Bool := fun _ ds => decide (uptoBulkAll ds ≤ 1048576)
def OpenSpec.upto (s : _root_.Go.ChangeSpec) : _root_.Go.OpenSpec := { _root_.Go.OpenSpec.ofChange s with cond := some uptoSmall }

/-- 'cormorantlaw15.RangemetaSplits', WHERE WHAT IT READS IS OF BULK AT MOST 1048576: true; the input reads as it did. -/
def rangemetaSplitsUptoRow : OpenClaim := { program := "ytbeniogffhihlaa", sum := "95eeaa414b5b3eaa1e9b2a6ffc833b4a436e3c657930ddb0c0207ddb2c3fdb1b", func := "cormorant/cormorantlaw15.RangemetaSplits", spec := "rangemetaSplits", inPlace := ["internal/bytealg.Compare", "slices.overlaps[cormorant/api.Range]"], unfollowed := true, recurses := true, apart := false, narrowed := true }
def RangemetaSplitsUptoSaid : Prop := rangemetaSplitsUptoRow.holds Try.pinned (OpenSpec.upto rangemetaSplitsSpec)

/-- 'cormorantlaw15.RangemetaHolds', WHERE WHAT IT READS IS OF BULK AT MOST 1048576: true; the input reads as it did. -/
def rangemetaHoldsUptoRow : OpenClaim := { program := "ytbeniogffhihlaa", sum := "95eeaa414b5b3eaa1e9b2a6ffc833b4a436e3c657930ddb0c0207ddb2c3fdb1b", func := "cormorant/cormorantlaw15.RangemetaHolds", spec := "rangemetaHolds", inPlace := ["internal/bytealg.Compare", "slices.overlaps[cormorant/api.Range]"], unfollowed := true, recurses := true, apart := false, narrowed := true }
def RangemetaHoldsUptoSaid : Prop := rangemetaHoldsUptoRow.holds Try.pinned (OpenSpec.upto rangemetaHoldsSpec)

/-- 'cormorantlaw15.RangemetaLoads', WHERE WHAT IT READS IS OF BULK AT MOST 1048576: true; the input reads as it did. -/
def rangemetaLoadsUptoRow : OpenClaim := { program := "ytbeniogffhihlaa", sum := "95eeaa414b5b3eaa1e9b2a6ffc833b4a436e3c657930ddb0c0207ddb2c3fdb1b", func := "cormorant/cormorantlaw15.RangemetaLoads", spec := "rangemetaLoads", inPlace := ["internal/bytealg.Compare", "slices.overlaps[cormorant/api.Range]"], unfollowed := true, recurses := true, apart := false, narrowed := true }
def RangemetaLoadsUptoSaid : Prop := rangemetaLoadsUptoRow.holds Try.pinned (OpenSpec.upto rangemetaLoadsSpec)

/-- 'cormorantlaw15.RangemetaLearns', WHERE WHAT IT READS IS OF BULK AT MOST 1048576: true; the input reads as it did. -/
def rangemetaLearnsUptoRow : OpenClaim := { program := "ytbeniogffhihlaa", sum := "95eeaa414b5b3eaa1e9b2a6ffc833b4a436e3c657930ddb0c0207ddb2c3fdb1b", func := "cormorant/cormorantlaw15.RangemetaLearns", spec := "rangemetaLearns", inPlace := ["internal/bytealg.Compare", "slices.overlaps[cormorant/api.Range]"], unfollowed := true, recurses := true, apart := false, narrowed := true }
def RangemetaLearnsUptoSaid : Prop := rangemetaLearnsUptoRow.holds Try.pinned (OpenSpec.upto rangemetaLearnsSpec)

/-- 'cormorantlaw15.RangemetaWrites', WHERE WHAT IT READS IS OF BULK AT MOST 1048576: true; the input reads as it did. -/
def rangemetaWritesUptoRow : OpenClaim := { program := "ytbeniogffhihlaa", sum := "95eeaa414b5b3eaa1e9b2a6ffc833b4a436e3c657930ddb0c0207ddb2c3fdb1b", func := "cormorant/cormorantlaw15.RangemetaWrites", spec := "rangemetaWrites", inPlace := ["internal/bytealg.Compare", "slices.overlaps[cormorant/api.Range]"], unfollowed := true, recurses := true, apart := false, narrowed := true }
def RangemetaWritesUptoSaid : Prop := rangemetaWritesUptoRow.holds Try.pinned (OpenSpec.upto rangemetaWritesSpec)

/-- 'cormorantlaw15.RangemetaReads', WHERE WHAT IT READS IS OF BULK AT MOST 1048576: true; the input reads as it did. -/
def rangemetaReadsUptoRow : OpenClaim := { program := "ytbeniogffhihlaa", sum := "95eeaa414b5b3eaa1e9b2a6ffc833b4a436e3c657930ddb0c0207ddb2c3fdb1b", func := "cormorant/cormorantlaw15.RangemetaReads", spec := "rangemetaReads", inPlace := ["internal/bytealg.Compare", "slices.overlaps[cormorant/api.Range]"], unfollowed := true, recurses := true, apart := false, narrowed := true }
def RangemetaReadsUptoSaid : Prop := rangemetaReadsUptoRow.holds Try.pinned (OpenSpec.upto rangemetaReadsSpec)

/-- 'cormorantlaw15.RangemetaCaches', WHERE WHAT IT READS IS OF BULK AT MOST 1048576: true; the input reads as it did. -/
def rangemetaCachesUptoRow : OpenClaim := { program := "ytbeniogffhihlaa", sum := "95eeaa414b5b3eaa1e9b2a6ffc833b4a436e3c657930ddb0c0207ddb2c3fdb1b", func := "cormorant/cormorantlaw15.RangemetaCaches", spec := "rangemetaCaches", inPlace := ["internal/bytealg.Compare", "slices.overlaps[cormorant/api.Range]"], unfollowed := true, recurses := true, apart := false, narrowed := true }
def RangemetaCachesUptoSaid : Prop := rangemetaCachesUptoRow.holds Try.pinned (OpenSpec.upto rangemetaCachesSpec)

end Rows
end Go.Proofs.Ytbeniogffhihlaa
