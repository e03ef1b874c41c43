/-
  No cell of these rows narrows 'for every input' (looked for: loops, veiled, ifaces, maps, wideKeys, modest, calm, conditions, laid).
  DERIVED. THE GIVEN ROWS OF THIS SEAT. 5 by the template 'for every input the law returns true; each argument reads behind the call as it read before'; 0 by the template 'total and deterministic' (their statements: YtmojbamloanleaaTotals.lean).
  GIVEN WITH THE SEED: the statements are not yours to turn. If you find one false, say at which input.
  Laid BY PROGRAM, IN A SANDBOX (cutbox-rows.mjs): the forced cells as the released guide's own fill.sh prints them over the translation efc645ce95adc9ba… (all of the seat's roots in one cut). By AI agents, Wed Nov 11 2026. No macro, syntax, notation, axiom, sorry.
-/
import Derived.Test.YtmojbamloanleaaChecked
import GoSem.Claim
import GoSem.ClaimJoined
import GoSem.ClaimMapViews
import Derived.JoinedTies
import Derived.KernelRfl
namespace Go.Proofs.Ytmojbamloanleaa
/- THE CELL 'sum', in the pinned program and in every row, IS THE sha256 OF THE DUMP (.gsa) THAT YtmojbamloanleaaProg.lean LOADS. Nothing in Lean hashes anything: it is a label: what it is worth is what the hold of that sum in a sandbox is worth. -/
noncomputable def Try.pinned : Pinned := { name := "ytmojbamloanleaa", sum := "efc645ce95adc9ba64390d284a4931965772659403e5eac0543029f2f93cfd47", checked := Try.checked }
namespace Rows
def none {H : Type} : Left H := { results := [], args := [] }

/-- 'cormorantlaw04.SstableBuilds': WHATEVER THE INPUT: true; the input reads as it did. -/
def sstableBuildsSpec : ChangeSpec := { name := "sstableBuilds", fn := fun _ => fun
  | [d1, d2, d3] => { results := [.lit (.bool true)], args := [d1, d2, d3] }
  | _ => none }
def sstableBuildsRow : OpenClaim := { program := "ytmojbamloanleaa", sum := "efc645ce95adc9ba64390d284a4931965772659403e5eac0543029f2f93cfd47", func := "cormorant/cormorantlaw04.SstableBuilds", spec := "sstableBuilds", inPlace := ["internal/bytealg.Compare"], unfollowed := true, recurses := true, apart := false }
def SstableBuildsSaid : Prop := sstableBuildsRow.holds Try.pinned (OpenSpec.ofChange sstableBuildsSpec)

/-- ITS FALSE NEIGHBOUR: 'it returns false'. Refute it at one input. -/
def sstableBuildsWrong : ChangeSpec := { name := "sstableBuilds", fn := fun _ => fun
  | [d1, d2, d3] => { results := [.lit (.bool false)], args := [d1, d2, d3] }
  | _ => none }
def SstableBuildsWrongFalsely : Prop := sstableBuildsRow.holds Try.pinned (OpenSpec.ofChange sstableBuildsWrong)

/-- 'cormorantlaw04.SstableSpoilt': WHATEVER THE INPUT: true; the input reads as it did. -/
def sstableSpoiltSpec : ChangeSpec := { name := "sstableSpoilt", fn := fun _ => fun
  | [d1, d2, d3] => { results := [.lit (.bool true)], args := [d1, d2, d3] }
  | _ => none }
def sstableSpoiltRow : OpenClaim := { program := "ytmojbamloanleaa", sum := "efc645ce95adc9ba64390d284a4931965772659403e5eac0543029f2f93cfd47", func := "cormorant/cormorantlaw04.SstableSpoilt", spec := "sstableSpoilt", inPlace := ["internal/bytealg.Compare"], unfollowed := true, recurses := true, apart := false }
def SstableSpoiltSaid : Prop := sstableSpoiltRow.holds Try.pinned (OpenSpec.ofChange sstableSpoiltSpec)

/-- ITS FALSE NEIGHBOUR: 'it returns false'. Refute it at one input. -/
def sstableSpoiltWrong : ChangeSpec := { name := "sstableSpoilt", fn := fun _ => fun
  | [d1, d2, d3] => { results := [.lit (.bool false)], args := [d1, d2, d3] }
  | _ => none }
def SstableSpoiltWrongFalsely : Prop := sstableSpoiltRow.holds Try.pinned (OpenSpec.ofChange sstableSpoiltWrong)

/-- 'cormorantlaw04.SstableOpens': WHATEVER THE INPUT: true; the input reads as it did. -/
def sstableOpensSpec : ChangeSpec := { name := "sstableOpens", fn := fun _ => fun
  | [d] => { results := [.lit (.bool true)], args := [d] }
  | _ => none }
def sstableOpensRow : OpenClaim := { program := "ytmojbamloanleaa", sum := "efc645ce95adc9ba64390d284a4931965772659403e5eac0543029f2f93cfd47", func := "cormorant/cormorantlaw04.SstableOpens", spec := "sstableOpens", inPlace := ["internal/bytealg.Compare"], unfollowed := true, recurses := true, apart := false }
def SstableOpensSaid : Prop := sstableOpensRow.holds Try.pinned (OpenSpec.ofChange sstableOpensSpec)

/-- ITS FALSE NEIGHBOUR: 'it returns false'. Refute it at one input. -/
def sstableOpensWrong : ChangeSpec := { name := "sstableOpens", fn := fun _ => fun
  | [d] => { results := [.lit (.bool false)], args := [d] }
  | _ => none }
def SstableOpensWrongFalsely : Prop := sstableOpensRow.holds Try.pinned (OpenSpec.ofChange sstableOpensWrong)

/-- 'cormorantlaw04.SstableBack': WHATEVER THE INPUT: true; the input reads as it did. -/
def sstableBackSpec : ChangeSpec := { name := "sstableBack", fn := fun _ => fun
  | [d1, d2, d3] => { results := [.lit (.bool true)], args := [d1, d2, d3] }
  | _ => none }
def sstableBackRow : OpenClaim := { program := "ytmojbamloanleaa", sum := "efc645ce95adc9ba64390d284a4931965772659403e5eac0543029f2f93cfd47", func := "cormorant/cormorantlaw04.SstableBack", spec := "sstableBack", inPlace := ["internal/bytealg.Compare"], unfollowed := true, recurses := true, apart := false }
def SstableBackSaid : Prop := sstableBackRow.holds Try.pinned (OpenSpec.ofChange sstableBackSpec)

/-- ITS FALSE NEIGHBOUR: 'it returns false'. Refute it at one input. -/
def sstableBackWrong : ChangeSpec := { name := "sstableBack", fn := fun _ => fun
  | [d1, d2, d3] => { results := [.lit (.bool false)], args := [d1, d2, d3] }
  | _ => none }
def SstableBackWrongFalsely : Prop := sstableBackRow.holds Try.pinned (OpenSpec.ofChange sstableBackWrong)

/-- 'cormorantlaw04.SstableFinds': WHATEVER THE INPUT: true; the input reads as it did. -/
def sstableFindsSpec : ChangeSpec := { name := "sstableFinds", fn := fun _ => fun
  | [d1, d2, d3] => { results := [.lit (.bool true)], args := [d1, d2, d3] }
  | _ => none }
def sstableFindsRow : OpenClaim := { program := "ytmojbamloanleaa", sum := "efc645ce95adc9ba64390d284a4931965772659403e5eac0543029f2f93cfd47", func := "cormorant/cormorantlaw04.SstableFinds", spec := "sstableFinds", inPlace := ["internal/bytealg.Compare"], unfollowed := true, recurses := true, apart := false }
def SstableFindsSaid : Prop := sstableFindsRow.holds Try.pinned (OpenSpec.ofChange sstableFindsSpec)

/-- ITS FALSE NEIGHBOUR: 'it returns false'. Refute it at one input. -/
def sstableFindsWrong : ChangeSpec := { name := "sstableFinds", fn := fun _ => fun
  | [d1, d2, d3] => { results := [.lit (.bool false)], args := [d1, d2, d3] }
  | _ => none }
def SstableFindsWrongFalsely : Prop := sstableFindsRow.holds Try.pinned (OpenSpec.ofChange sstableFindsWrong)

/- THE SECOND FORM. 'bulk': how many values and letters a reading holds, each counted each time it is reached (what is shared counts as often as it is met; a slice's spare places count too). A statement '..UptoSaid' is the law's where the arguments, and the package variables that the reading takes, are together of bulk at most 1048576: NARROWER than '..Said'. Prove '..Said' where nothing that the law and all that it calls make is longer than what came in: it says more and counts as full. Else prove '..UptoSaid'. A law counts once. -/
mutual
def uptoBulk {H : Type} : DataW H → Nat
  | .lit (.string bytes) => bytes.length + 1
  | .lit _ => 1
  | .nil => 1
  | .ptr d => uptoBulk d + 1
  | .slice elems spare => uptoBulkAll elems + uptoBulkAll spare + 1
  | .agg parts => uptoBulkAll parts + 1
  | .iface _ d => uptoBulk d + 1
  | .map entries => uptoBulkEntries entries + 1
  | .held _ => 1
def uptoBulkAll {H : Type} : List (DataW H) → Nat
  | [] => 0
  | d :: r => uptoBulk d + uptoBulkAll r
def uptoBulkEntries {H : Type} : List (Lit × DataW H) → Nat
  | [] => 0
  | x :: r => uptoBulkEntry x + uptoBulkEntries r
def uptoBulkEntry {H : Type} : Lit × DataW H → Nat
  | (.string bytes, d) => bytes.length + uptoBulk d + 1
  | (_, d) => uptoBulk d + 1
 end
def uptoSmall : (H : Type) → List (DataW H) → Bool := fun _ ds => decide (uptoBulkAll ds ≤ 1048576)
def OpenSpec.upto (s : _root_.Go.ChangeSpec) : _root_.Go.OpenSpec := { _root_.Go.OpenSpec.ofChange s with cond := some uptoSmall }

/-- 'cormorantlaw04.SstableBuilds', WHERE WHAT IT READS IS OF BULK AT MOST 1048576: true; the input reads as it did. -/
def sstableBuildsUptoRow : OpenClaim := { program := "ytmojbamloanleaa", sum := "efc645ce95adc9ba64390d284a4931965772659403e5eac0543029f2f93cfd47", func := "cormorant/cormorantlaw04.SstableBuilds", spec := "sstableBuilds", inPlace := ["internal/bytealg.Compare"], unfollowed := true, recurses := true, apart := false, narrowed := true }
def SstableBuildsUptoSaid : Prop := sstableBuildsUptoRow.holds Try.pinned (OpenSpec.upto sstableBuildsSpec)

/-- 'cormorantlaw04.SstableSpoilt', WHERE WHAT IT READS IS OF BULK AT MOST 1048576: true; the input reads as it did. -/
def sstableSpoiltUptoRow : OpenClaim := { program := "ytmojbamloanleaa", sum := "efc645ce95adc9ba64390d284a4931965772659403e5eac0543029f2f93cfd47", func := "cormorant/cormorantlaw04.SstableSpoilt", spec := "sstableSpoilt", inPlace := ["internal/bytealg.Compare"], unfollowed := true, recurses := true, apart := false, narrowed := true }
def SstableSpoiltUptoSaid : Prop := sstableSpoiltUptoRow.holds Try.pinned (OpenSpec.upto sstableSpoiltSpec)

/-- 'cormorantlaw04.SstableOpens', WHERE WHAT IT READS IS OF BULK AT MOST 1048576: true; the input reads as it did. -/
def sstableOpensUptoRow : OpenClaim := { program := "ytmojbamloanleaa", sum := "efc645ce95adc9ba64390d284a4931965772659403e5eac0543029f2f93cfd47", func := "cormorant/cormorantlaw04.SstableOpens", spec := "sstableOpens", inPlace := ["internal/bytealg.Compare"], unfollowed := true, recurses := true, apart := false, narrowed := true }
def SstableOpensUptoSaid : Prop := sstableOpensUptoRow.holds Try.pinned (OpenSpec.upto sstableOpensSpec)

/-- 'cormorantlaw04.SstableBack', WHERE WHAT IT READS IS OF BULK AT MOST 1048576: true; the input reads as it did. -/
def sstableBackUptoRow : OpenClaim := { program := "ytmojbamloanleaa", sum := "efc645ce95adc9ba64390d284a4931965772659403e5eac0543029f2f93cfd47", func := "cormorant/cormorantlaw04.SstableBack", spec := "sstableBack", inPlace := ["internal/bytealg.Compare"], unfollowed := true, recurses := true, apart := false, narrowed := true }
def SstableBackUptoSaid : Prop := sstableBackUptoRow.holds Try.pinned (OpenSpec.upto sstableBackSpec)

/-- 'cormorantlaw04.SstableFinds', WHERE WHAT IT READS IS OF BULK AT MOST 1048576: true; the input reads as it did. -/
def sstableFindsUptoRow : OpenClaim := { program := "ytmojbamloanleaa", sum := "efc645ce95adc9ba64390d284a4931965772659403e5eac0543029f2f93cfd47", func := "cormorant/cormorantlaw04.SstableFinds", spec := "sstableFinds", inPlace := ["internal/bytealg.Compare"], unfollowed := true, recurses := true, apart := false, narrowed := true }
def SstableFindsUptoSaid : Prop := sstableFindsUptoRow.holds Try.pinned (OpenSpec.upto sstableFindsSpec)

end Rows
end Go.Proofs.Ytmojbamloanleaa
