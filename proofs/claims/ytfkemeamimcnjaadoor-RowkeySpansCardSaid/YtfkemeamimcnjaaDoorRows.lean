/-
  NARROWER THAN 'FOR EVERY INPUT', by the rows' own cells (each row's printed sentence says how): RowkeyRows: laid · RowkeyTakes: laid · RowkeyEntries: laid · RowkeyTaken: laid · RowkeyOrder: laid · RowkeySpans: laid.
  DERIVED. THE GIVEN ROWS OF THIS SEAT. 6 by the template 'for every input the law returns true; each argument reads behind the call as it read before'; 0 by the template 'total and deterministic' (their statements: YtfkemeamimcnjaaDoorTotals.lean).
  GIVEN WITH THE SEED: the statements are not yours to turn. If you find one false, say at which input.
  Laid BY PROGRAM, IN A SANDBOX (cutbox-rows.mjs): the forced cells as the released guide's own fill.sh prints them over the translation 6b48b9c906d06cbd… (all of the seat's roots in one cut). By AI agents, Wed Nov 11 2026. No macro, syntax, notation, axiom, sorry.
-/
import Derived.Test.YtfkemeamimcnjaaDoorChecked
import GoSem.PinnedTables
import GoSem.Claim
import GoSem.ClaimJoined
import GoSem.ClaimMapViews
import Derived.JoinedTies
import Derived.KernelRfl
namespace Go.Proofs.YtfkemeamimcnjaaDoor
/- THE CELL 'sum', in the pinned program and in every row, IS THE sha256 OF THE DUMP (.gsa) THAT YtfkemeamimcnjaaDoorProg.lean LOADS. Nothing in Lean hashes anything: it is a label: what it is worth is what the hold of that sum in a sandbox is worth. -/
noncomputable def Tryd.pinned : Pinned := { name := "ytfkemeamimcnjaadoor", sum := "6b48b9c906d06cbdc36e4e3e45ce59e66ba41d5b94b89185b2b0e4fb7f149feb", checked := Tryd.checked }
namespace Rows
def none {H : Type} : Left H := { results := [], args := [] }

/- WHAT THE LISTED PACKAGE-LEVEL VARIABLES READ AS WHEN THE CALL BEGINS. Each datum BY PROGRAM (the guide's laid-datum.mjs) off the statement by which the dump's own 'gosem.cut.vars' lays the variable. In a bare row this is a premise. The card (YtfkemeamimcnjaaDoorCards.lean) ties it to the program's text. -/
def laid_unicode_utf8_acceptRanges {H : Type} : DataW H := .agg [.agg [.lit (.int .u8 128), .lit (.int .u8 191)], .agg [.lit (.int .u8 160), .lit (.int .u8 191)], .agg [.lit (.int .u8 128), .lit (.int .u8 159)], .agg [.lit (.int .u8 144), .lit (.int .u8 191)], .agg [.lit (.int .u8 128), .lit (.int .u8 143)], .agg [.lit (.int .u8 0), .lit (.int .u8 0)], .agg [.lit (.int .u8 0), .lit (.int .u8 0)], .agg [.lit (.int .u8 0), .lit (.int .u8 0)], .agg [.lit (.int .u8 0), .lit (.int .u8 0)], .agg [.lit (.int .u8 0), .lit (.int .u8 0)], .agg [.lit (.int .u8 0), .lit (.int .u8 0)], .agg [.lit (.int .u8 0), .lit (.int .u8 0)], .agg [.lit (.int .u8 0), .lit (.int .u8 0)], .agg [.lit (.int .u8 0), .lit (.int .u8 0)], .agg [.lit (.int .u8 0), .lit (.int .u8 0)], .agg [.lit (.int .u8 0), .lit (.int .u8 0)]]
/-- One of Go's own tables, pinned by name: the form's constant. -/
def laid_unicode_utf8_first : DataW Unit := Go.Pinned.utf8First

/-- 'cormorantlaw20.RowkeyRows': WHATEVER THE INPUT: true; the input reads as it did. -/
def rowkeyRowsSpec : ChangeSpec := { name := "rowkeyRows", fn := fun _ => fun
  | [d1, d2] => { results := [.lit (.bool true)], args := [d1, d2] }
  | _ => none }
def rowkeyRowsRow : OpenClaim := { program := "ytfkemeamimcnjaadoor", sum := "6b48b9c906d06cbdc36e4e3e45ce59e66ba41d5b94b89185b2b0e4fb7f149feb", func := "cormorant/cormorantlaw20.RowkeyRows", spec := "rowkeyRows", inPlace := ["internal/bytealg.IndexByteString", "internal/bytealg.Count", "internal/bytealg.IndexByte", "internal/bytealg.Index"], unfollowed := true, recurses := true, named := ["internal/bytealg.MaxLen", "unicode/utf8.first", "unicode/utf8.acceptRanges"], apart := false, laid := [("unicode/utf8.acceptRanges", laid_unicode_utf8_acceptRanges), ("unicode/utf8.first", laid_unicode_utf8_first)] }
def RowkeyRowsSaid : Prop := rowkeyRowsRow.holds Tryd.pinned (OpenSpec.ofChange rowkeyRowsSpec)

/-- ITS FALSE NEIGHBOUR: 'it returns false'. Refute it at one input. -/
def rowkeyRowsWrong : ChangeSpec := { name := "rowkeyRows", fn := fun _ => fun
  | [d1, d2] => { results := [.lit (.bool false)], args := [d1, d2] }
  | _ => none }
def RowkeyRowsWrongFalsely : Prop := rowkeyRowsRow.holds Tryd.pinned (OpenSpec.ofChange rowkeyRowsWrong)

/-- 'cormorantlaw20.RowkeyTakes': WHATEVER THE INPUT: true; the input reads as it did. -/
def rowkeyTakesSpec : ChangeSpec := { name := "rowkeyTakes", fn := fun _ => fun
  | [d1, d2] => { results := [.lit (.bool true)], args := [d1, d2] }
  | _ => none }
def rowkeyTakesRow : OpenClaim := { program := "ytfkemeamimcnjaadoor", sum := "6b48b9c906d06cbdc36e4e3e45ce59e66ba41d5b94b89185b2b0e4fb7f149feb", func := "cormorant/cormorantlaw20.RowkeyTakes", spec := "rowkeyTakes", inPlace := ["internal/bytealg.IndexByteString", "internal/bytealg.Count", "internal/bytealg.IndexByte", "internal/bytealg.Index"], unfollowed := true, recurses := true, named := ["internal/bytealg.MaxLen", "unicode/utf8.first", "unicode/utf8.acceptRanges"], apart := false, laid := [("unicode/utf8.acceptRanges", laid_unicode_utf8_acceptRanges), ("unicode/utf8.first", laid_unicode_utf8_first)] }
def RowkeyTakesSaid : Prop := rowkeyTakesRow.holds Tryd.pinned (OpenSpec.ofChange rowkeyTakesSpec)

/-- ITS FALSE NEIGHBOUR: 'it returns false'. Refute it at one input. -/
def rowkeyTakesWrong : ChangeSpec := { name := "rowkeyTakes", fn := fun _ => fun
  | [d1, d2] => { results := [.lit (.bool false)], args := [d1, d2] }
  | _ => none }
def RowkeyTakesWrongFalsely : Prop := rowkeyTakesRow.holds Tryd.pinned (OpenSpec.ofChange rowkeyTakesWrong)

/-- 'cormorantlaw20.RowkeyEntries': WHATEVER THE INPUT: true; the input reads as it did. -/
def rowkeyEntriesSpec : ChangeSpec := { name := "rowkeyEntries", fn := fun _ => fun
  | [d1, d2, d3] => { results := [.lit (.bool true)], args := [d1, d2, d3] }
  | _ => none }
def rowkeyEntriesRow : OpenClaim := { program := "ytfkemeamimcnjaadoor", sum := "6b48b9c906d06cbdc36e4e3e45ce59e66ba41d5b94b89185b2b0e4fb7f149feb", func := "cormorant/cormorantlaw20.RowkeyEntries", spec := "rowkeyEntries", inPlace := ["internal/bytealg.IndexByteString", "internal/bytealg.Count", "internal/bytealg.IndexByte", "internal/bytealg.Index"], unfollowed := true, recurses := true, named := ["internal/bytealg.MaxLen", "unicode/utf8.first", "unicode/utf8.acceptRanges"], apart := false, laid := [("unicode/utf8.acceptRanges", laid_unicode_utf8_acceptRanges), ("unicode/utf8.first", laid_unicode_utf8_first)] }
def RowkeyEntriesSaid : Prop := rowkeyEntriesRow.holds Tryd.pinned (OpenSpec.ofChange rowkeyEntriesSpec)

/-- ITS FALSE NEIGHBOUR: 'it returns false'. Refute it at one input. -/
def rowkeyEntriesWrong : ChangeSpec := { name := "rowkeyEntries", fn := fun _ => fun
  | [d1, d2, d3] => { results := [.lit (.bool false)], args := [d1, d2, d3] }
  | _ => none }
def RowkeyEntriesWrongFalsely : Prop := rowkeyEntriesRow.holds Tryd.pinned (OpenSpec.ofChange rowkeyEntriesWrong)

/-- 'cormorantlaw20.RowkeyTaken': WHATEVER THE INPUT: true; the input reads as it did. -/
def rowkeyTakenSpec : ChangeSpec := { name := "rowkeyTaken", fn := fun _ => fun
  | [d1, d2, d3] => { results := [.lit (.bool true)], args := [d1, d2, d3] }
  | _ => none }
def rowkeyTakenRow : OpenClaim := { program := "ytfkemeamimcnjaadoor", sum := "6b48b9c906d06cbdc36e4e3e45ce59e66ba41d5b94b89185b2b0e4fb7f149feb", func := "cormorant/cormorantlaw20.RowkeyTaken", spec := "rowkeyTaken", inPlace := ["internal/bytealg.IndexByteString", "internal/bytealg.Count", "internal/bytealg.IndexByte", "internal/bytealg.Index"], unfollowed := true, recurses := true, named := ["internal/bytealg.MaxLen", "unicode/utf8.first", "unicode/utf8.acceptRanges"], apart := false, laid := [("unicode/utf8.acceptRanges", laid_unicode_utf8_acceptRanges), ("unicode/utf8.first", laid_unicode_utf8_first)] }
def RowkeyTakenSaid : Prop := rowkeyTakenRow.holds Tryd.pinned (OpenSpec.ofChange rowkeyTakenSpec)

/-- ITS FALSE NEIGHBOUR: 'it returns false'. Refute it at one input. -/
def rowkeyTakenWrong : ChangeSpec := { name := "rowkeyTaken", fn := fun _ => fun
  | [d1, d2, d3] => { results := [.lit (.bool false)], args := [d1, d2, d3] }
  | _ => none }
def RowkeyTakenWrongFalsely : Prop := rowkeyTakenRow.holds Tryd.pinned (OpenSpec.ofChange rowkeyTakenWrong)

/-- 'cormorantlaw20.RowkeyOrder': WHATEVER THE INPUT: true; the input reads as it did. -/
def rowkeyOrderSpec : ChangeSpec := { name := "rowkeyOrder", fn := fun _ => fun
  | [d1, d2, d3] => { results := [.lit (.bool true)], args := [d1, d2, d3] }
  | _ => none }
def rowkeyOrderRow : OpenClaim := { program := "ytfkemeamimcnjaadoor", sum := "6b48b9c906d06cbdc36e4e3e45ce59e66ba41d5b94b89185b2b0e4fb7f149feb", func := "cormorant/cormorantlaw20.RowkeyOrder", spec := "rowkeyOrder", inPlace := ["internal/bytealg.IndexByteString", "internal/bytealg.Count", "internal/bytealg.IndexByte", "internal/bytealg.Index"], unfollowed := true, recurses := true, named := ["internal/bytealg.MaxLen", "unicode/utf8.first", "unicode/utf8.acceptRanges"], apart := false, laid := [("unicode/utf8.acceptRanges", laid_unicode_utf8_acceptRanges), ("unicode/utf8.first", laid_unicode_utf8_first)] }
def RowkeyOrderSaid : Prop := rowkeyOrderRow.holds Tryd.pinned (OpenSpec.ofChange rowkeyOrderSpec)

/-- ITS FALSE NEIGHBOUR: 'it returns false'. Refute it at one input. -/
def rowkeyOrderWrong : ChangeSpec := { name := "rowkeyOrder", fn := fun _ => fun
  | [d1, d2, d3] => { results := [.lit (.bool false)], args := [d1, d2, d3] }
  | _ => none }
def RowkeyOrderWrongFalsely : Prop := rowkeyOrderRow.holds Tryd.pinned (OpenSpec.ofChange rowkeyOrderWrong)

/-- 'cormorantlaw20.RowkeySpans': WHATEVER THE INPUT: true; the input reads as it did. -/
def rowkeySpansSpec : ChangeSpec := { name := "rowkeySpans", fn := fun _ => fun
  | [d1, d2] => { results := [.lit (.bool true)], args := [d1, d2] }
  | _ => none }
def rowkeySpansRow : OpenClaim := { program := "ytfkemeamimcnjaadoor", sum := "6b48b9c906d06cbdc36e4e3e45ce59e66ba41d5b94b89185b2b0e4fb7f149feb", func := "cormorant/cormorantlaw20.RowkeySpans", spec := "rowkeySpans", inPlace := ["internal/bytealg.IndexByteString", "internal/bytealg.Count", "internal/bytealg.IndexByte", "internal/bytealg.Index"], unfollowed := true, recurses := true, named := ["internal/bytealg.MaxLen", "unicode/utf8.first", "unicode/utf8.acceptRanges"], apart := false, laid := [("unicode/utf8.acceptRanges", laid_unicode_utf8_acceptRanges), ("unicode/utf8.first", laid_unicode_utf8_first)] }
def RowkeySpansSaid : Prop := rowkeySpansRow.holds Tryd.pinned (OpenSpec.ofChange rowkeySpansSpec)

/-- ITS FALSE NEIGHBOUR: 'it returns false'. Refute it at one input. -/
def rowkeySpansWrong : ChangeSpec := { name := "rowkeySpans", fn := fun _ => fun
  | [d1, d2] => { results := [.lit (.bool false)], args := [d1, d2] }
  | _ => none }
def RowkeySpansWrongFalsely : Prop := rowkeySpansRow.holds Tryd.pinned (OpenSpec.ofChange rowkeySpansWrong)

/- THE SECOND FORM. 'bulk': how many values and letters a reading holds, each counted each time it is reached (what is shared counts as often as it is met; a slice's spare places count too). A statement '..UptoSaid' is the law's where the arguments, and the package variables that the reading takes, are together of bulk at most 1048576: NARROWER than '..Said'. Prove '..Said' where nothing that the law and all that it calls make is longer than what came in: it says more and counts as full. Else prove '..UptoSaid'. A law counts once. -/
mutual
def uptoBulk {H : Type} : DataW H → Nat
  | .lit (.string bytes) => bytes.length + 1
  | .lit _ => 1
  | .nil => 1
  | .ptr d => uptoBulk d + 1
  | .slice elems spare => uptoBulkAll elems + uptoBulkAll spare + 1
  | .agg parts => uptoBulkAll parts + 1
  | .iface _ d => uptoBulk d + 1
  | .map entries => uptoBulkEntries entries + 1
  | .held _ => 1
def uptoBulkAll {H : Type} : List (DataW H) → Nat
  | [] => 0
  | d :: r => uptoBulk d + uptoBulkAll r
def uptoBulkEntries {H : Type} : List (Lit × DataW H) → Nat
  | [] => 0
  | x :: r => uptoBulkEntry x + uptoBulkEntries r
def uptoBulkEntry {H : Type} : Lit × DataW H → Nat
  | (.string bytes, d) => bytes.length + uptoBulk d + 1
  | (_, d) => uptoBulk d + 1
 end
def uptoSmall : (H : Type) → List (DataW H) → Bool := fun _ ds => decide (uptoBulkAll ds ≤ 1048576)
def OpenSpec.upto (s : _root_.Go.ChangeSpec) : _root_.Go.OpenSpec := { _root_.Go.OpenSpec.ofChange s with cond := some uptoSmall }

/-- 'cormorantlaw20.RowkeyRows', WHERE WHAT IT READS IS OF BULK AT MOST 1048576: true; the input reads as it did. -/
def rowkeyRowsUptoRow : OpenClaim := { program := "ytfkemeamimcnjaadoor", sum := "6b48b9c906d06cbdc36e4e3e45ce59e66ba41d5b94b89185b2b0e4fb7f149feb", func := "cormorant/cormorantlaw20.RowkeyRows", spec := "rowkeyRows", inPlace := ["internal/bytealg.IndexByteString", "internal/bytealg.Count", "internal/bytealg.IndexByte", "internal/bytealg.Index"], unfollowed := true, recurses := true, named := ["internal/bytealg.MaxLen", "unicode/utf8.first", "unicode/utf8.acceptRanges"], apart := false, laid := [("unicode/utf8.acceptRanges", laid_unicode_utf8_acceptRanges), ("unicode/utf8.first", laid_unicode_utf8_first)], narrowed := true }
def RowkeyRowsUptoSaid : Prop := rowkeyRowsUptoRow.holds Tryd.pinned (OpenSpec.upto rowkeyRowsSpec)

/-- 'cormorantlaw20.RowkeyTakes', WHERE WHAT IT READS IS OF BULK AT MOST 1048576: true; the input reads as it did. -/
def rowkeyTakesUptoRow : OpenClaim := { program := "ytfkemeamimcnjaadoor", sum := "6b48b9c906d06cbdc36e4e3e45ce59e66ba41d5b94b89185b2b0e4fb7f149feb", func := "cormorant/cormorantlaw20.RowkeyTakes", spec := "rowkeyTakes", inPlace := ["internal/bytealg.IndexByteString", "internal/bytealg.Count", "internal/bytealg.IndexByte", "internal/bytealg.Index"], unfollowed := true, recurses := true, named := ["internal/bytealg.MaxLen", "unicode/utf8.first", "unicode/utf8.acceptRanges"], apart := false, laid := [("unicode/utf8.acceptRanges", laid_unicode_utf8_acceptRanges), ("unicode/utf8.first", laid_unicode_utf8_first)], narrowed := true }
def RowkeyTakesUptoSaid : Prop := rowkeyTakesUptoRow.holds Tryd.pinned (OpenSpec.upto rowkeyTakesSpec)

/-- 'cormorantlaw20.RowkeyEntries', WHERE WHAT IT READS IS OF BULK AT MOST 1048576: true; the input reads as it did. -/
def rowkeyEntriesUptoRow : OpenClaim := { program := "ytfkemeamimcnjaadoor", sum := "6b48b9c906d06cbdc36e4e3e45ce59e66ba41d5b94b89185b2b0e4fb7f149feb", func := "cormorant/cormorantlaw20.RowkeyEntries", spec := "rowkeyEntries", inPlace := ["internal/bytealg.IndexByteString", "internal/bytealg.Count", "internal/bytealg.IndexByte", "internal/bytealg.Index"], unfollowed := true, recurses := true, named := ["internal/bytealg.MaxLen", "unicode/utf8.first", "unicode/utf8.acceptRanges"], apart := false, laid := [("unicode/utf8.acceptRanges", laid_unicode_utf8_acceptRanges), ("unicode/utf8.first", laid_unicode_utf8_first)], narrowed := true }
def RowkeyEntriesUptoSaid : Prop := rowkeyEntriesUptoRow.holds Tryd.pinned (OpenSpec.upto rowkeyEntriesSpec)

/-- 'cormorantlaw20.RowkeyTaken', WHERE WHAT IT READS IS OF BULK AT MOST 1048576: true; the input reads as it did. -/
def rowkeyTakenUptoRow : OpenClaim := { program := "ytfkemeamimcnjaadoor", sum := "6b48b9c906d06cbdc36e4e3e45ce59e66ba41d5b94b89185b2b0e4fb7f149feb", func := "cormorant/cormorantlaw20.RowkeyTaken", spec := "rowkeyTaken", inPlace := ["internal/bytealg.IndexByteString", "internal/bytealg.Count", "internal/bytealg.IndexByte", "internal/bytealg.Index"], unfollowed := true, recurses := true, named := ["internal/bytealg.MaxLen", "unicode/utf8.first", "unicode/utf8.acceptRanges"], apart := false, laid := [("unicode/utf8.acceptRanges", laid_unicode_utf8_acceptRanges), ("unicode/utf8.first", laid_unicode_utf8_first)], narrowed := true }
def RowkeyTakenUptoSaid : Prop := rowkeyTakenUptoRow.holds Tryd.pinned (OpenSpec.upto rowkeyTakenSpec)

/-- 'cormorantlaw20.RowkeyOrder', WHERE WHAT IT READS IS OF BULK AT MOST 1048576: true; the input reads as it did. -/
def rowkeyOrderUptoRow : OpenClaim := { program := "ytfkemeamimcnjaadoor", sum := "6b48b9c906d06cbdc36e4e3e45ce59e66ba41d5b94b89185b2b0e4fb7f149feb", func := "cormorant/cormorantlaw20.RowkeyOrder", spec := "rowkeyOrder", inPlace := ["internal/bytealg.IndexByteString", "internal/bytealg.Count", "internal/bytealg.IndexByte", "internal/bytealg.Index"], unfollowed := true, recurses := true, named := ["internal/bytealg.MaxLen", "unicode/utf8.first", "unicode/utf8.acceptRanges"], apart := false, laid := [("unicode/utf8.acceptRanges", laid_unicode_utf8_acceptRanges), ("unicode/utf8.first", laid_unicode_utf8_first)], narrowed := true }
def RowkeyOrderUptoSaid : Prop := rowkeyOrderUptoRow.holds Tryd.pinned (OpenSpec.upto rowkeyOrderSpec)

/-- 'cormorantlaw20.RowkeySpans', WHERE WHAT IT READS IS OF BULK AT MOST 1048576: true; the input reads as it did. -/
def rowkeySpansUptoRow : OpenClaim := { program := "ytfkemeamimcnjaadoor", sum := "6b48b9c906d06cbdc36e4e3e45ce59e66ba41d5b94b89185b2b0e4fb7f149feb", func := "cormorant/cormorantlaw20.RowkeySpans", spec := "rowkeySpans", inPlace := ["internal/bytealg.IndexByteString", "internal/bytealg.Count", "internal/bytealg.IndexByte", "internal/bytealg.Index"], unfollowed := true, recurses := true, named := ["internal/bytealg.MaxLen", "unicode/utf8.first", "unicode/utf8.acceptRanges"], apart := false, laid := [("unicode/utf8.acceptRanges", laid_unicode_utf8_acceptRanges), ("unicode/utf8.first", laid_unicode_utf8_first)], narrowed := true }
def RowkeySpansUptoSaid : Prop := rowkeySpansUptoRow.holds Tryd.pinned (OpenSpec.upto rowkeySpansSpec)

end Rows
end Go.Proofs.YtfkemeamimcnjaaDoor
