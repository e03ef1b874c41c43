/-
  No cell of these rows narrows 'for every input' (looked for: loops, veiled, ifaces, maps, wideKeys, modest, calm, conditions, laid).
  DERIVED. THE GIVEN ROWS OF THIS SEAT. 6 by the template 'for every input the law returns true; each argument reads behind the call as it read before'; 0 by the template 'total and deterministic' (their statements: YtogooghigeemaaaTotals.lean).
  GIVEN WITH THE SEED: the statements are not yours to turn. If you find one false, say at which input.
  Laid BY PROGRAM, IN A SANDBOX (cutbox-rows.mjs): the forced cells as the released guide's own fill.sh prints them over the translation 872ba0b03219a890… (all of the seat's roots in one cut). By AI agents, Wed Nov 11 2026. No macro, syntax, notation, axiom, sorry.
-/
import Derived.Test.YtogooghigeemaaaChecked
import GoSem.Claim
import GoSem.ClaimJoined
import GoSem.ClaimMapViews
import Derived.JoinedTies
import Derived.KernelRfl
namespace Go.Proofs.Ytogooghigeemaaa
/- THE CELL 'sum', in the pinned program and in every row, IS THE sha256 OF THE DUMP (.gsa) THAT YtogooghigeemaaaProg.lean LOADS. Nothing in Lean hashes anything: it is a label: what it is worth is what the hold of that sum in a sandbox is worth. -/
noncomputable def Try.pinned : Pinned := { name := "ytogooghigeemaaa", sum := "872ba0b03219a890a7183d4eec29e97ea96adc6a46fe7bc532268babb1beb270", checked := Try.checked }
namespace Rows
def none {H : Type} : Left H := { results := [], args := [] }

/-- 'cormorantlaw08.HlcBytes': WHATEVER THE INPUT: true; the input reads as it did. -/
def hlcBytesSpec : ChangeSpec := { name := "hlcBytes", fn := fun _ => fun
  | [d1, d2] => { results := [.lit (.bool true)], args := [d1, d2] }
  | _ => none }
def hlcBytesRow : OpenClaim := { program := "ytogooghigeemaaa", sum := "872ba0b03219a890a7183d4eec29e97ea96adc6a46fe7bc532268babb1beb270", func := "cormorant/cormorantlaw08.HlcBytes", spec := "hlcBytes", apart := false }
def HlcBytesSaid : Prop := hlcBytesRow.holds Try.pinned (OpenSpec.ofChange hlcBytesSpec)

/-- ITS FALSE NEIGHBOUR: 'it returns false'. Refute it at one input. -/
def hlcBytesWrong : ChangeSpec := { name := "hlcBytes", fn := fun _ => fun
  | [d1, d2] => { results := [.lit (.bool false)], args := [d1, d2] }
  | _ => none }
def HlcBytesWrongFalsely : Prop := hlcBytesRow.holds Try.pinned (OpenSpec.ofChange hlcBytesWrong)

/-- 'cormorantlaw08.HlcStamps': WHATEVER THE INPUT: true; the input reads as it did. -/
def hlcStampsSpec : ChangeSpec := { name := "hlcStamps", fn := fun _ => fun
  | [d1, d2] => { results := [.lit (.bool true)], args := [d1, d2] }
  | _ => none }
def hlcStampsRow : OpenClaim := { program := "ytogooghigeemaaa", sum := "872ba0b03219a890a7183d4eec29e97ea96adc6a46fe7bc532268babb1beb270", func := "cormorant/cormorantlaw08.HlcStamps", spec := "hlcStamps", apart := false }
def HlcStampsSaid : Prop := hlcStampsRow.holds Try.pinned (OpenSpec.ofChange hlcStampsSpec)

/-- ITS FALSE NEIGHBOUR: 'it returns false'. Refute it at one input. -/
def hlcStampsWrong : ChangeSpec := { name := "hlcStamps", fn := fun _ => fun
  | [d1, d2] => { results := [.lit (.bool false)], args := [d1, d2] }
  | _ => none }
def HlcStampsWrongFalsely : Prop := hlcStampsRow.holds Try.pinned (OpenSpec.ofChange hlcStampsWrong)

/-- 'cormorantlaw08.HlcPasses': WHATEVER THE INPUT: true; the input reads as it did. -/
def hlcPassesSpec : ChangeSpec := { name := "hlcPasses", fn := fun _ => fun
  | [d1, d2, d3] => { results := [.lit (.bool true)], args := [d1, d2, d3] }
  | _ => none }
def hlcPassesRow : OpenClaim := { program := "ytogooghigeemaaa", sum := "872ba0b03219a890a7183d4eec29e97ea96adc6a46fe7bc532268babb1beb270", func := "cormorant/cormorantlaw08.HlcPasses", spec := "hlcPasses", apart := false }
def HlcPassesSaid : Prop := hlcPassesRow.holds Try.pinned (OpenSpec.ofChange hlcPassesSpec)

/-- ITS FALSE NEIGHBOUR: 'it returns false'. Refute it at one input. -/
def hlcPassesWrong : ChangeSpec := { name := "hlcPasses", fn := fun _ => fun
  | [d1, d2, d3] => { results := [.lit (.bool false)], args := [d1, d2, d3] }
  | _ => none }
def HlcPassesWrongFalsely : Prop := hlcPassesRow.holds Try.pinned (OpenSpec.ofChange hlcPassesWrong)

/-- 'cormorantlaw08.HlcRises': WHATEVER THE INPUT: true; the input reads as it did. -/
def hlcRisesSpec : ChangeSpec := { name := "hlcRises", fn := fun _ => fun
  | [d1, d2] => { results := [.lit (.bool true)], args := [d1, d2] }
  | _ => none }
def hlcRisesRow : OpenClaim := { program := "ytogooghigeemaaa", sum := "872ba0b03219a890a7183d4eec29e97ea96adc6a46fe7bc532268babb1beb270", func := "cormorant/cormorantlaw08.HlcRises", spec := "hlcRises", apart := false }
def HlcRisesSaid : Prop := hlcRisesRow.holds Try.pinned (OpenSpec.ofChange hlcRisesSpec)

/-- ITS FALSE NEIGHBOUR: 'it returns false'. Refute it at one input. -/
def hlcRisesWrong : ChangeSpec := { name := "hlcRises", fn := fun _ => fun
  | [d1, d2] => { results := [.lit (.bool false)], args := [d1, d2] }
  | _ => none }
def HlcRisesWrongFalsely : Prop := hlcRisesRow.holds Try.pinned (OpenSpec.ofChange hlcRisesWrong)

/-- 'cormorantlaw08.HlcScripts': WHATEVER THE INPUT: true; the input reads as it did. -/
def hlcScriptsSpec : ChangeSpec := { name := "hlcScripts", fn := fun _ => fun
  | [d1, d2] => { results := [.lit (.bool true)], args := [d1, d2] }
  | _ => none }
def hlcScriptsRow : OpenClaim := { program := "ytogooghigeemaaa", sum := "872ba0b03219a890a7183d4eec29e97ea96adc6a46fe7bc532268babb1beb270", func := "cormorant/cormorantlaw08.HlcScripts", spec := "hlcScripts", apart := false }
def HlcScriptsSaid : Prop := hlcScriptsRow.holds Try.pinned (OpenSpec.ofChange hlcScriptsSpec)

/-- ITS FALSE NEIGHBOUR: 'it returns false'. Refute it at one input. -/
def hlcScriptsWrong : ChangeSpec := { name := "hlcScripts", fn := fun _ => fun
  | [d1, d2] => { results := [.lit (.bool false)], args := [d1, d2] }
  | _ => none }
def HlcScriptsWrongFalsely : Prop := hlcScriptsRow.holds Try.pinned (OpenSpec.ofChange hlcScriptsWrong)

/-- 'cormorantlaw08.HlcSorts': WHATEVER THE INPUT: true; the input reads as it did. -/
def hlcSortsSpec : ChangeSpec := { name := "hlcSorts", fn := fun _ => fun
  | [d1, d2] => { results := [.lit (.bool true)], args := [d1, d2] }
  | _ => none }
def hlcSortsRow : OpenClaim := { program := "ytogooghigeemaaa", sum := "872ba0b03219a890a7183d4eec29e97ea96adc6a46fe7bc532268babb1beb270", func := "cormorant/cormorantlaw08.HlcSorts", spec := "hlcSorts", apart := false }
def HlcSortsSaid : Prop := hlcSortsRow.holds Try.pinned (OpenSpec.ofChange hlcSortsSpec)

/-- ITS FALSE NEIGHBOUR: 'it returns false'. Refute it at one input. -/
def hlcSortsWrong : ChangeSpec := { name := "hlcSorts", fn := fun _ => fun
  | [d1, d2] => { results := [.lit (.bool false)], args := [d1, d2] }
  | _ => none }
def HlcSortsWrongFalsely : Prop := hlcSortsRow.holds Try.pinned (OpenSpec.ofChange hlcSortsWrong)

/- THE SECOND FORM. 'bulk': how many values and letters a reading holds, each counted each time it is reached (what is shared counts as often as it is met; a slice's spare places count too). A statement '..UptoSaid' is the law's where the arguments, and the package variables that the reading takes, are together of bulk at most 1048576: NARROWER than '..Said'. Prove '..Said' where nothing that the law and all that it calls make is longer than what came in: it says more and counts as full. Else prove '..UptoSaid'. A law counts once. -/
mutual
def uptoBulk {H : Type} : DataW H → Nat
  | .lit (.string bytes) => bytes.length + 1
  | .lit _ => 1
  | .nil => 1
  | .ptr d => uptoBulk d + 1
  | .slice elems spare => uptoBulkAll elems + uptoBulkAll spare + 1
  | .agg parts => uptoBulkAll parts + 1
  | .iface _ d => uptoBulk d + 1
  | .map entries => uptoBulkEntries entries + 1
  | .held _ => 1
def uptoBulkAll {H : Type} : List (DataW H) → Nat
  | [] => 0
  | d :: r => uptoBulk d + uptoBulkAll r
def uptoBulkEntries {H : Type} : List (Lit × DataW H) → Nat
  | [] => 0
  | x :: r => uptoBulkEntry x + uptoBulkEntries r
def uptoBulkEntry {H : Type} : Lit × DataW H → Nat
  | (.string bytes, d) => bytes.length + uptoBulk d + 1
  | (_, d) => uptoBulk d + 1
 end
def uptoSmall : (H : Type) → List (DataW H) → Bool := fun _ ds => decide (uptoBulkAll ds ≤ 1048576)
def OpenSpec.upto (s : _root_.Go.ChangeSpec) : _root_.Go.OpenSpec := { _root_.Go.OpenSpec.ofChange s with cond := some uptoSmall }

/-- 'cormorantlaw08.HlcBytes', WHERE WHAT IT READS IS OF BULK AT MOST 1048576: true; the input reads as it did. -/
def hlcBytesUptoRow : OpenClaim := { program := "ytogooghigeemaaa", sum := "872ba0b03219a890a7183d4eec29e97ea96adc6a46fe7bc532268babb1beb270", func := "cormorant/cormorantlaw08.HlcBytes", spec := "hlcBytes", apart := false, narrowed := true }
def HlcBytesUptoSaid : Prop := hlcBytesUptoRow.holds Try.pinned (OpenSpec.upto hlcBytesSpec)

/-- 'cormorantlaw08.HlcStamps', WHERE WHAT IT READS IS OF BULK AT MOST 1048576: true; the input reads as it did. -/
def hlcStampsUptoRow : OpenClaim := { program := "ytogooghigeemaaa", sum := "872ba0b03219a890a7183d4eec29e97ea96adc6a46fe7bc532268babb1beb270", func := "cormorant/cormorantlaw08.HlcStamps", spec := "hlcStamps", apart := false, narrowed := true }
def HlcStampsUptoSaid : Prop := hlcStampsUptoRow.holds Try.pinned (OpenSpec.upto hlcStampsSpec)

/-- 'cormorantlaw08.HlcPasses', WHERE WHAT IT READS IS OF BULK AT MOST 1048576: true; the input reads as it did. -/
def hlcPassesUptoRow : OpenClaim := { program := "ytogooghigeemaaa", sum := "872ba0b03219a890a7183d4eec29e97ea96adc6a46fe7bc532268babb1beb270", func := "cormorant/cormorantlaw08.HlcPasses", spec := "hlcPasses", apart := false, narrowed := true }
def HlcPassesUptoSaid : Prop := hlcPassesUptoRow.holds Try.pinned (OpenSpec.upto hlcPassesSpec)

/-- 'cormorantlaw08.HlcRises', WHERE WHAT IT READS IS OF BULK AT MOST 1048576: true; the input reads as it did. -/
def hlcRisesUptoRow : OpenClaim := { program := "ytogooghigeemaaa", sum := "872ba0b03219a890a7183d4eec29e97ea96adc6a46fe7bc532268babb1beb270", func := "cormorant/cormorantlaw08.HlcRises", spec := "hlcRises", apart := false, narrowed := true }
def HlcRisesUptoSaid : Prop := hlcRisesUptoRow.holds Try.pinned (OpenSpec.upto hlcRisesSpec)

/-- 'cormorantlaw08.HlcScripts', WHERE WHAT IT READS IS OF BULK AT MOST 1048576: true; the input reads as it did. -/
def hlcScriptsUptoRow : OpenClaim := { program := "ytogooghigeemaaa", sum := "872ba0b03219a890a7183d4eec29e97ea96adc6a46fe7bc532268babb1beb270", func := "cormorant/cormorantlaw08.HlcScripts", spec := "hlcScripts", apart := false, narrowed := true }
def HlcScriptsUptoSaid : Prop := hlcScriptsUptoRow.holds Try.pinned (OpenSpec.upto hlcScriptsSpec)

/-- 'cormorantlaw08.HlcSorts', WHERE WHAT IT READS IS OF BULK AT MOST 1048576: true; the input reads as it did. -/
def hlcSortsUptoRow : OpenClaim := { program := "ytogooghigeemaaa", sum := "872ba0b03219a890a7183d4eec29e97ea96adc6a46fe7bc532268babb1beb270", func := "cormorant/cormorantlaw08.HlcSorts", spec := "hlcSorts", apart := false, narrowed := true }
def HlcSortsUptoSaid : Prop := hlcSortsUptoRow.holds Try.pinned (OpenSpec.upto hlcSortsSpec)

end Rows
end Go.Proofs.Ytogooghigeemaaa
