/-
  No cell of these rows narrows 'for every input' (looked for: loops, veiled, ifaces, maps, wideKeys, modest, calm, conditions, laid).
  DERIVED. THE GIVEN ROWS OF THIS SEAT. 7 by the template 'for every input the law returns true; each argument reads behind the call as it read before'; 0 by the template 'total and deterministic' (their statements: YtlolgiphppbcmaaTotals.lean).
  GIVEN WITH THE SEED: the statements are not yours to turn. If you find one false, say at which input.
  Laid BY PROGRAM, IN A SANDBOX (cutbox-rows.mjs): the forced cells as the released guide's own fill.sh prints them over the translation 16bf59248952e76f… (all of the seat's roots in one cut). By AI agents, Wed Nov 11 2026. No macro, syntax, notation, axiom, sorry.
-/
import Derived.Test.YtlolgiphppbcmaaChecked
import GoSem.Claim
import GoSem.ClaimJoined
import GoSem.ClaimMapViews
import Derived.JoinedTies
import Derived.KernelRfl
namespace Go.Proofs.Ytlolgiphppbcmaa
/- THE CELL 'sum', in the pinned program and in every row, IS THE sha256 OF THE DUMP (.gsa) THAT YtlolgiphppbcmaaProg.lean LOADS. Nothing in Lean hashes anything: it is a label: what it is worth is what the hold of that sum in a sandbox is worth. -/
noncomputable def Try.pinned : Pinned := { name := "ytlolgiphppbcmaa", sum := "16bf59248952e76f1203a05208205102c0d04991e2706f83ac2459252e9385a6", checked := Try.checked }
namespace Rows
def none {H : Type} : Left H := { results := [], args := [] }

/-- 'cormorantlaw01.CodecNumbers': WHATEVER THE INPUT: true; the input reads as it did. -/
def codecNumbersSpec : ChangeSpec := { name := "codecNumbers", fn := fun _ => fun
  | [d1, d2] => { results := [.lit (.bool true)], args := [d1, d2] }
  | _ => none }
def codecNumbersRow : OpenClaim := { program := "ytlolgiphppbcmaa", sum := "16bf59248952e76f1203a05208205102c0d04991e2706f83ac2459252e9385a6", func := "cormorant/cormorantlaw01.CodecNumbers", spec := "codecNumbers", inPlace := ["internal/bytealg.IndexByte"], apart := false }
def CodecNumbersSaid : Prop := codecNumbersRow.holds Try.pinned (OpenSpec.ofChange codecNumbersSpec)

/-- ITS FALSE NEIGHBOUR: 'it returns false'. Refute it at one input. -/
def codecNumbersWrong : ChangeSpec := { name := "codecNumbers", fn := fun _ => fun
  | [d1, d2] => { results := [.lit (.bool false)], args := [d1, d2] }
  | _ => none }
def CodecNumbersWrongFalsely : Prop := codecNumbersRow.holds Try.pinned (OpenSpec.ofChange codecNumbersWrong)

/-- 'cormorantlaw01.CodecSums': WHATEVER THE INPUT: true; the input reads as it did. -/
def codecSumsSpec : ChangeSpec := { name := "codecSums", fn := fun _ => fun
  | [d] => { results := [.lit (.bool true)], args := [d] }
  | _ => none }
def codecSumsRow : OpenClaim := { program := "ytlolgiphppbcmaa", sum := "16bf59248952e76f1203a05208205102c0d04991e2706f83ac2459252e9385a6", func := "cormorant/cormorantlaw01.CodecSums", spec := "codecSums", inPlace := ["internal/bytealg.IndexByte"], apart := false }
def CodecSumsSaid : Prop := codecSumsRow.holds Try.pinned (OpenSpec.ofChange codecSumsSpec)

/-- ITS FALSE NEIGHBOUR: 'it returns false'. Refute it at one input. -/
def codecSumsWrong : ChangeSpec := { name := "codecSums", fn := fun _ => fun
  | [d] => { results := [.lit (.bool false)], args := [d] }
  | _ => none }
def CodecSumsWrongFalsely : Prop := codecSumsRow.holds Try.pinned (OpenSpec.ofChange codecSumsWrong)

/-- 'cormorantlaw01.CodecCompares': WHATEVER THE INPUT: true; the input reads as it did. -/
def codecComparesSpec : ChangeSpec := { name := "codecCompares", fn := fun _ => fun
  | [d1, d2] => { results := [.lit (.bool true)], args := [d1, d2] }
  | _ => none }
def codecComparesRow : OpenClaim := { program := "ytlolgiphppbcmaa", sum := "16bf59248952e76f1203a05208205102c0d04991e2706f83ac2459252e9385a6", func := "cormorant/cormorantlaw01.CodecCompares", spec := "codecCompares", inPlace := ["internal/bytealg.IndexByte", "internal/bytealg.Compare"], apart := false }
def CodecComparesSaid : Prop := codecComparesRow.holds Try.pinned (OpenSpec.ofChange codecComparesSpec)

/-- ITS FALSE NEIGHBOUR: 'it returns false'. Refute it at one input. -/
def codecComparesWrong : ChangeSpec := { name := "codecCompares", fn := fun _ => fun
  | [d1, d2] => { results := [.lit (.bool false)], args := [d1, d2] }
  | _ => none }
def CodecComparesWrongFalsely : Prop := codecComparesRow.holds Try.pinned (OpenSpec.ofChange codecComparesWrong)

/-- 'cormorantlaw01.CodecTakes': WHATEVER THE INPUT: true; the input reads as it did. -/
def codecTakesSpec : ChangeSpec := { name := "codecTakes", fn := fun _ => fun
  | [d] => { results := [.lit (.bool true)], args := [d] }
  | _ => none }
def codecTakesRow : OpenClaim := { program := "ytlolgiphppbcmaa", sum := "16bf59248952e76f1203a05208205102c0d04991e2706f83ac2459252e9385a6", func := "cormorant/cormorantlaw01.CodecTakes", spec := "codecTakes", inPlace := ["internal/bytealg.IndexByte"], apart := false }
def CodecTakesSaid : Prop := codecTakesRow.holds Try.pinned (OpenSpec.ofChange codecTakesSpec)

/-- ITS FALSE NEIGHBOUR: 'it returns false'. Refute it at one input. -/
def codecTakesWrong : ChangeSpec := { name := "codecTakes", fn := fun _ => fun
  | [d] => { results := [.lit (.bool false)], args := [d] }
  | _ => none }
def CodecTakesWrongFalsely : Prop := codecTakesRow.holds Try.pinned (OpenSpec.ofChange codecTakesWrong)

/-- 'cormorantlaw01.CodecTexts': WHATEVER THE INPUT: true; the input reads as it did. -/
def codecTextsSpec : ChangeSpec := { name := "codecTexts", fn := fun _ => fun
  | [d1, d2] => { results := [.lit (.bool true)], args := [d1, d2] }
  | _ => none }
def codecTextsRow : OpenClaim := { program := "ytlolgiphppbcmaa", sum := "16bf59248952e76f1203a05208205102c0d04991e2706f83ac2459252e9385a6", func := "cormorant/cormorantlaw01.CodecTexts", spec := "codecTexts", inPlace := ["internal/bytealg.IndexByte"], apart := false }
def CodecTextsSaid : Prop := codecTextsRow.holds Try.pinned (OpenSpec.ofChange codecTextsSpec)

/-- ITS FALSE NEIGHBOUR: 'it returns false'. Refute it at one input. -/
def codecTextsWrong : ChangeSpec := { name := "codecTexts", fn := fun _ => fun
  | [d1, d2] => { results := [.lit (.bool false)], args := [d1, d2] }
  | _ => none }
def CodecTextsWrongFalsely : Prop := codecTextsRow.holds Try.pinned (OpenSpec.ofChange codecTextsWrong)

/-- 'cormorantlaw01.CodecFrames': WHATEVER THE INPUT: true; the input reads as it did. -/
def codecFramesSpec : ChangeSpec := { name := "codecFrames", fn := fun _ => fun
  | [d1, d2, d3] => { results := [.lit (.bool true)], args := [d1, d2, d3] }
  | _ => none }
def codecFramesRow : OpenClaim := { program := "ytlolgiphppbcmaa", sum := "16bf59248952e76f1203a05208205102c0d04991e2706f83ac2459252e9385a6", func := "cormorant/cormorantlaw01.CodecFrames", spec := "codecFrames", inPlace := ["internal/bytealg.IndexByte"], apart := false }
def CodecFramesSaid : Prop := codecFramesRow.holds Try.pinned (OpenSpec.ofChange codecFramesSpec)

/-- ITS FALSE NEIGHBOUR: 'it returns false'. Refute it at one input. -/
def codecFramesWrong : ChangeSpec := { name := "codecFrames", fn := fun _ => fun
  | [d1, d2, d3] => { results := [.lit (.bool false)], args := [d1, d2, d3] }
  | _ => none }
def CodecFramesWrongFalsely : Prop := codecFramesRow.holds Try.pinned (OpenSpec.ofChange codecFramesWrong)

/-- 'cormorantlaw01.CodecTurned': WHATEVER THE INPUT: true; the input reads as it did. -/
def codecTurnedSpec : ChangeSpec := { name := "codecTurned", fn := fun _ => fun
  | [d1, d2, d3, d4] => { results := [.lit (.bool true)], args := [d1, d2, d3, d4] }
  | _ => none }
def codecTurnedRow : OpenClaim := { program := "ytlolgiphppbcmaa", sum := "16bf59248952e76f1203a05208205102c0d04991e2706f83ac2459252e9385a6", func := "cormorant/cormorantlaw01.CodecTurned", spec := "codecTurned", inPlace := ["internal/bytealg.IndexByte"], apart := false }
def CodecTurnedSaid : Prop := codecTurnedRow.holds Try.pinned (OpenSpec.ofChange codecTurnedSpec)

/-- ITS FALSE NEIGHBOUR: 'it returns false'. Refute it at one input. -/
def codecTurnedWrong : ChangeSpec := { name := "codecTurned", fn := fun _ => fun
  | [d1, d2, d3, d4] => { results := [.lit (.bool false)], args := [d1, d2, d3, d4] }
  | _ => none }
def CodecTurnedWrongFalsely : Prop := codecTurnedRow.holds Try.pinned (OpenSpec.ofChange codecTurnedWrong)

/- THE SECOND FORM. 'bulk': how many values and letters a reading holds, each counted each time it is reached (what is shared counts as often as it is met; a slice's spare places count too). A statement '..UptoSaid' is the law's where the arguments, and the package variables that the reading takes, are together of bulk at most 1048576: NARROWER than '..Said'. Prove '..Said' where nothing that the law and all that it calls make is longer than what came in: it says more and counts as full. Else prove '..UptoSaid'. A law counts once. -/
mutual
def uptoBulk {H : Type} : DataW H → Nat
  | .lit (.string bytes) => bytes.length + 1
  | .lit _ => 1
  | .nil => 1
  | .ptr d => uptoBulk d + 1
  | .slice elems spare => uptoBulkAll elems + uptoBulkAll spare + 1
  | .agg parts => uptoBulkAll parts + 1
  | .iface _ d => uptoBulk d + 1
  | .map entries => uptoBulkEntries entries + 1
  | .held _ => 1
def uptoBulkAll {H : Type} : List (DataW H) → Nat
  | [] => 0
  | d :: r => uptoBulk d + uptoBulkAll r
def uptoBulkEntries {H : Type} : List (Lit × DataW H) → Nat
  | [] => 0
  | x :: r => uptoBulkEntry x + uptoBulkEntries r
def uptoBulkEntry {H : Type} : Lit × DataW H → Nat
  | (.string bytes, d) => bytes.length + uptoBulk d + 1
  | (_, d) => uptoBulk d + 1
 end
def uptoSmall : (H : Type) → List (DataW H) → Bool := fun _ ds => decide (uptoBulkAll ds ≤ 1048576)
def OpenSpec.upto (s : _root_.Go.ChangeSpec) : _root_.Go.OpenSpec := { _root_.Go.OpenSpec.ofChange s with cond := some uptoSmall }

/-- 'cormorantlaw01.CodecNumbers', WHERE WHAT IT READS IS OF BULK AT MOST 1048576: true; the input reads as it did. -/
def codecNumbersUptoRow : OpenClaim := { program := "ytlolgiphppbcmaa", sum := "16bf59248952e76f1203a05208205102c0d04991e2706f83ac2459252e9385a6", func := "cormorant/cormorantlaw01.CodecNumbers", spec := "codecNumbers", inPlace := ["internal/bytealg.IndexByte"], apart := false, narrowed := true }
def CodecNumbersUptoSaid : Prop := codecNumbersUptoRow.holds Try.pinned (OpenSpec.upto codecNumbersSpec)

/-- 'cormorantlaw01.CodecSums', WHERE WHAT IT READS IS OF BULK AT MOST 1048576: true; the input reads as it did. -/
def codecSumsUptoRow : OpenClaim := { program := "ytlolgiphppbcmaa", sum := "16bf59248952e76f1203a05208205102c0d04991e2706f83ac2459252e9385a6", func := "cormorant/cormorantlaw01.CodecSums", spec := "codecSums", inPlace := ["internal/bytealg.IndexByte"], apart := false, narrowed := true }
def CodecSumsUptoSaid : Prop := codecSumsUptoRow.holds Try.pinned (OpenSpec.upto codecSumsSpec)

/-- 'cormorantlaw01.CodecCompares', WHERE WHAT IT READS IS OF BULK AT MOST 1048576: true; the input reads as it did. -/
def codecComparesUptoRow : OpenClaim := { program := "ytlolgiphppbcmaa", sum := "16bf59248952e76f1203a05208205102c0d04991e2706f83ac2459252e9385a6", func := "cormorant/cormorantlaw01.CodecCompares", spec := "codecCompares", inPlace := ["internal/bytealg.IndexByte", "internal/bytealg.Compare"], apart := false, narrowed := true }
def CodecComparesUptoSaid : Prop := codecComparesUptoRow.holds Try.pinned (OpenSpec.upto codecComparesSpec)

/-- 'cormorantlaw01.CodecTakes', WHERE WHAT IT READS IS OF BULK AT MOST 1048576: true; the input reads as it did. -/
def codecTakesUptoRow : OpenClaim := { program := "ytlolgiphppbcmaa", sum := "16bf59248952e76f1203a05208205102c0d04991e2706f83ac2459252e9385a6", func := "cormorant/cormorantlaw01.CodecTakes", spec := "codecTakes", inPlace := ["internal/bytealg.IndexByte"], apart := false, narrowed := true }
def CodecTakesUptoSaid : Prop := codecTakesUptoRow.holds Try.pinned (OpenSpec.upto codecTakesSpec)

/-- 'cormorantlaw01.CodecTexts', WHERE WHAT IT READS IS OF BULK AT MOST 1048576: true; the input reads as it did. -/
def codecTextsUptoRow : OpenClaim := { program := "ytlolgiphppbcmaa", sum := "16bf59248952e76f1203a05208205102c0d04991e2706f83ac2459252e9385a6", func := "cormorant/cormorantlaw01.CodecTexts", spec := "codecTexts", inPlace := ["internal/bytealg.IndexByte"], apart := false, narrowed := true }
def CodecTextsUptoSaid : Prop := codecTextsUptoRow.holds Try.pinned (OpenSpec.upto codecTextsSpec)

/-- 'cormorantlaw01.CodecFrames', WHERE WHAT IT READS IS OF BULK AT MOST 1048576: true; the input reads as it did. -/
def codecFramesUptoRow : OpenClaim := { program := "ytlolgiphppbcmaa", sum := "16bf59248952e76f1203a05208205102c0d04991e2706f83ac2459252e9385a6", func := "cormorant/cormorantlaw01.CodecFrames", spec := "codecFrames", inPlace := ["internal/bytealg.IndexByte"], apart := false, narrowed := true }
def CodecFramesUptoSaid : Prop := codecFramesUptoRow.holds Try.pinned (OpenSpec.upto codecFramesSpec)

/-- 'cormorantlaw01.CodecTurned', WHERE WHAT IT READS IS OF BULK AT MOST 1048576: true; the input reads as it did. -/
def codecTurnedUptoRow : OpenClaim := { program := "ytlolgiphppbcmaa", sum := "16bf59248952e76f1203a05208205102c0d04991e2706f83ac2459252e9385a6", func := "cormorant/cormorantlaw01.CodecTurned", spec := "codecTurned", inPlace := ["internal/bytealg.IndexByte"], apart := false, narrowed := true }
def CodecTurnedUptoSaid : Prop := codecTurnedUptoRow.holds Try.pinned (OpenSpec.upto codecTurnedSpec)

end Rows
end Go.Proofs.Ytlolgiphppbcmaa
