/-
  NARROWER THAN 'FOR EVERY INPUT', by the rows' own cells (each row's printed sentence says how): ExprOrders: laid · ExprLikes: laid · ExprEither: loops, laid · ExprSorts: laid · ExprTurns: loops, laid.
  DERIVED. THE GIVEN ROWS OF THIS SEAT. 5 by the template 'for every input the law returns true; each argument reads behind the call as it read before'; 0 by the template 'total and deterministic' (their statements: YtndomnknjlihhaaDoorTotals.lean).
  GIVEN WITH THE SEED: the statements are not yours to turn. If you find one false, say at which input.
  Laid BY PROGRAM, IN A SANDBOX (cutbox-rows.mjs): the forced cells as the released guide's own fill.sh prints them over the translation 9072af2c45ae0851… (all of the seat's roots in one cut). By AI agents, Wed Nov 11 2026. No macro, syntax, notation, axiom, sorry.
-/
import Derived.Test.YtndomnknjlihhaaDoorChecked
import GoSem.PinnedTables
import GoSem.Claim
import GoSem.ClaimJoined
import GoSem.ClaimMapViews
import Derived.JoinedTies
import Derived.KernelRfl
namespace Go.Proofs.YtndomnknjlihhaaDoor
/- THE CELL 'sum', in the pinned program and in every row, IS THE sha256 OF THE DUMP (.gsa) THAT YtndomnknjlihhaaDoorProg.lean LOADS. Nothing in Lean hashes anything: it is a label: what it is worth is what the hold of that sum in a sandbox is worth. -/
noncomputable def Tryd.pinned : Pinned := { name := "ytndomnknjlihhaadoor", sum := "9072af2c45ae08519676e5c589570a5104a9b3f91cc7bb550dc07fe430a7e413", checked := Tryd.checked }
namespace Rows
def none {H : Type} : Left H := { results := [], args := [] }

/- WHAT THE LISTED PACKAGE-LEVEL VARIABLES READ AS WHEN THE CALL BEGINS. Each datum BY PROGRAM (the guide's laid-datum.mjs) off the statement by which the dump's own 'gosem.cut.vars' lays the variable. In a bare row this is a premise. The card (YtndomnknjlihhaaDoorCards.lean) ties it to the program's text. -/
def laid_unicode_utf8_acceptRanges {H : Type} : DataW H := .agg [.agg [.lit (.int .u8 128), .lit (.int .u8 191)], .agg [.lit (.int .u8 160), .lit (.int .u8 191)], .agg [.lit (.int .u8 128), .lit (.int .u8 159)], .agg [.lit (.int .u8 144), .lit (.int .u8 191)], .agg [.lit (.int .u8 128), .lit (.int .u8 143)], .agg [.lit (.int .u8 0), .lit (.int .u8 0)], .agg [.lit (.int .u8 0), .lit (.int .u8 0)], .agg [.lit (.int .u8 0), .lit (.int .u8 0)], .agg [.lit (.int .u8 0), .lit (.int .u8 0)], .agg [.lit (.int .u8 0), .lit (.int .u8 0)], .agg [.lit (.int .u8 0), .lit (.int .u8 0)], .agg [.lit (.int .u8 0), .lit (.int .u8 0)], .agg [.lit (.int .u8 0), .lit (.int .u8 0)], .agg [.lit (.int .u8 0), .lit (.int .u8 0)], .agg [.lit (.int .u8 0), .lit (.int .u8 0)], .agg [.lit (.int .u8 0), .lit (.int .u8 0)]]
/-- One of Go's own tables, pinned by name: the form's constant. -/
def laid_unicode_utf8_first : DataW Unit := Go.Pinned.utf8First

/-- 'cormorantlaw19.ExprOrders': WHATEVER THE INPUT: true; the input reads as it did. -/
def exprOrdersSpec : ChangeSpec := { name := "exprOrders", fn := fun _ => fun
  | [d1, d2] => { results := [.lit (.bool true)], args := [d1, d2] }
  | _ => none }
def exprOrdersRow : OpenClaim := { program := "ytndomnknjlihhaadoor", sum := "9072af2c45ae08519676e5c589570a5104a9b3f91cc7bb550dc07fe430a7e413", func := "cormorant/cormorantlaw19.ExprOrders", spec := "exprOrders", inPlace := ["internal/bytealg.IndexByteString", "internal/bytealg.abigen_runtime_cmpstring", "internal/bytealg.IndexString", "math/bits.Add64", "math/bits.Sub64"], unfollowed := true, recurses := true, named := ["unicode/utf8.first", "unicode/utf8.acceptRanges", "math/bits.divideError", "math/bits.overflowError", "internal/bytealg.MaxLen"], plainKeys := false, apart := false, laid := [("unicode/utf8.acceptRanges", laid_unicode_utf8_acceptRanges), ("unicode/utf8.first", laid_unicode_utf8_first)] }
def ExprOrdersSaid : Prop := exprOrdersRow.holds Tryd.pinned (OpenSpec.ofChange exprOrdersSpec)

/-- ITS FALSE NEIGHBOUR: 'it returns false'. Refute it at one input. -/
def exprOrdersWrong : ChangeSpec := { name := "exprOrders", fn := fun _ => fun
  | [d1, d2] => { results := [.lit (.bool false)], args := [d1, d2] }
  | _ => none }
def ExprOrdersWrongFalsely : Prop := exprOrdersRow.holds Tryd.pinned (OpenSpec.ofChange exprOrdersWrong)

/-- 'cormorantlaw19.ExprLikes': WHATEVER THE INPUT: true; the input reads as it did. -/
def exprLikesSpec : ChangeSpec := { name := "exprLikes", fn := fun _ => fun
  | [d1, d2] => { results := [.lit (.bool true)], args := [d1, d2] }
  | _ => none }
def exprLikesRow : OpenClaim := { program := "ytndomnknjlihhaadoor", sum := "9072af2c45ae08519676e5c589570a5104a9b3f91cc7bb550dc07fe430a7e413", func := "cormorant/cormorantlaw19.ExprLikes", spec := "exprLikes", inPlace := ["internal/bytealg.IndexByteString", "internal/bytealg.abigen_runtime_cmpstring", "internal/bytealg.IndexString", "math/bits.Add64", "math/bits.Sub64"], unfollowed := true, recurses := true, named := ["unicode/utf8.first", "unicode/utf8.acceptRanges", "math/bits.divideError", "math/bits.overflowError", "internal/bytealg.MaxLen"], plainKeys := false, apart := false, laid := [("unicode/utf8.acceptRanges", laid_unicode_utf8_acceptRanges), ("unicode/utf8.first", laid_unicode_utf8_first)] }
def ExprLikesSaid : Prop := exprLikesRow.holds Tryd.pinned (OpenSpec.ofChange exprLikesSpec)

/-- ITS FALSE NEIGHBOUR: 'it returns false'. Refute it at one input. -/
def exprLikesWrong : ChangeSpec := { name := "exprLikes", fn := fun _ => fun
  | [d1, d2] => { results := [.lit (.bool false)], args := [d1, d2] }
  | _ => none }
def ExprLikesWrongFalsely : Prop := exprLikesRow.holds Tryd.pinned (OpenSpec.ofChange exprLikesWrong)

/-- 'cormorantlaw19.ExprEither': WHATEVER THE INPUT: true; the input reads as it did. -/
def exprEitherSpec : ChangeSpec := { name := "exprEither", fn := fun _ => fun
  | [d1, d2, d3] => { results := [.lit (.bool true)], args := [d1, d2, d3] }
  | _ => none }
def exprEitherRow : OpenClaim := { program := "ytndomnknjlihhaadoor", sum := "9072af2c45ae08519676e5c589570a5104a9b3f91cc7bb550dc07fe430a7e413", func := "cormorant/cormorantlaw19.ExprEither", spec := "exprEither", inPlace := ["internal/bytealg.IndexByteString", "internal/bytealg.abigen_runtime_cmpstring", "internal/bytealg.IndexString", "math/bits.Add64", "math/bits.Sub64"], unfollowed := true, recurses := true, named := ["unicode/utf8.first", "unicode/utf8.acceptRanges", "math/bits.divideError", "math/bits.overflowError", "internal/bytealg.MaxLen"], loops := true, plainKeys := false, apart := false, laid := [("unicode/utf8.acceptRanges", laid_unicode_utf8_acceptRanges), ("unicode/utf8.first", laid_unicode_utf8_first)] }
def ExprEitherSaid : Prop := exprEitherRow.holds Tryd.pinned (OpenSpec.ofChange exprEitherSpec)

/-- ITS FALSE NEIGHBOUR: 'it returns false'. Refute it at one input. -/
def exprEitherWrong : ChangeSpec := { name := "exprEither", fn := fun _ => fun
  | [d1, d2, d3] => { results := [.lit (.bool false)], args := [d1, d2, d3] }
  | _ => none }
def ExprEitherWrongFalsely : Prop := exprEitherRow.holds Tryd.pinned (OpenSpec.ofChange exprEitherWrong)

/-- 'cormorantlaw19.ExprSorts': WHATEVER THE INPUT: true; the input reads as it did. -/
def exprSortsSpec : ChangeSpec := { name := "exprSorts", fn := fun _ => fun
  | [d1, d2, d3] => { results := [.lit (.bool true)], args := [d1, d2, d3] }
  | _ => none }
def exprSortsRow : OpenClaim := { program := "ytndomnknjlihhaadoor", sum := "9072af2c45ae08519676e5c589570a5104a9b3f91cc7bb550dc07fe430a7e413", func := "cormorant/cormorantlaw19.ExprSorts", spec := "exprSorts", inPlace := ["internal/bytealg.IndexByteString", "internal/bytealg.abigen_runtime_cmpstring", "internal/bytealg.IndexString", "math/bits.Add64", "math/bits.Sub64"], unfollowed := true, recurses := true, named := ["unicode/utf8.first", "unicode/utf8.acceptRanges", "math/bits.divideError", "math/bits.overflowError", "internal/bytealg.MaxLen"], plainKeys := false, apart := false, laid := [("unicode/utf8.acceptRanges", laid_unicode_utf8_acceptRanges), ("unicode/utf8.first", laid_unicode_utf8_first)] }
def ExprSortsSaid : Prop := exprSortsRow.holds Tryd.pinned (OpenSpec.ofChange exprSortsSpec)

/-- ITS FALSE NEIGHBOUR: 'it returns false'. Refute it at one input. -/
def exprSortsWrong : ChangeSpec := { name := "exprSorts", fn := fun _ => fun
  | [d1, d2, d3] => { results := [.lit (.bool false)], args := [d1, d2, d3] }
  | _ => none }
def ExprSortsWrongFalsely : Prop := exprSortsRow.holds Tryd.pinned (OpenSpec.ofChange exprSortsWrong)

/-- 'cormorantlaw19.ExprTurns': WHATEVER THE INPUT: true; the input reads as it did. -/
def exprTurnsSpec : ChangeSpec := { name := "exprTurns", fn := fun _ => fun
  | [d1, d2, d3] => { results := [.lit (.bool true)], args := [d1, d2, d3] }
  | _ => none }
def exprTurnsRow : OpenClaim := { program := "ytndomnknjlihhaadoor", sum := "9072af2c45ae08519676e5c589570a5104a9b3f91cc7bb550dc07fe430a7e413", func := "cormorant/cormorantlaw19.ExprTurns", spec := "exprTurns", inPlace := ["internal/bytealg.IndexByteString", "internal/bytealg.abigen_runtime_cmpstring", "internal/bytealg.IndexString", "math/bits.Add64", "math/bits.Sub64"], unfollowed := true, recurses := true, named := ["unicode/utf8.first", "unicode/utf8.acceptRanges", "math/bits.divideError", "math/bits.overflowError", "internal/bytealg.MaxLen"], loops := true, plainKeys := false, apart := false, laid := [("unicode/utf8.acceptRanges", laid_unicode_utf8_acceptRanges), ("unicode/utf8.first", laid_unicode_utf8_first)] }
def ExprTurnsSaid : Prop := exprTurnsRow.holds Tryd.pinned (OpenSpec.ofChange exprTurnsSpec)

/-- ITS FALSE NEIGHBOUR: 'it returns false'. Refute it at one input. -/
def exprTurnsWrong : ChangeSpec := { name := "exprTurns", fn := fun _ => fun
  | [d1, d2, d3] => { results := [.lit (.bool false)], args := [d1, d2, d3] }
  | _ => none }
def ExprTurnsWrongFalsely : Prop := exprTurnsRow.holds Tryd.pinned (OpenSpec.ofChange exprTurnsWrong)

/- THE SECOND FORM. 'bulk': how many values and letters a reading holds, each counted each time it is reached (what is shared counts as often as it is met; a slice's spare places count too). A statement '..UptoSaid' is the law's where the arguments, and the package variables that the reading takes, are together of bulk at most 1048576: NARROWER than '..Said'. Prove '..Said' where nothing that the law and all that it calls make is longer than what came in: it says more and counts as full. Else prove '..UptoSaid'. A law counts once. -/
mutual
def uptoBulk {H : Type} : DataW H → Nat
  | .lit (.string bytes) => bytes.length + 1
  | .lit _ => 1
  | .nil => 1
  | .ptr d => uptoBulk d + 1
  | .slice elems spare => uptoBulkAll elems + uptoBulkAll spare + 1
  | .agg parts => uptoBulkAll parts + 1
  | .iface _ d => uptoBulk d + 1
  | .map entries => uptoBulkEntries entries + 1
  | .held _ => 1
def uptoBulkAll {H : Type} : List (DataW H) → Nat
  | [] => 0
  | d :: r => uptoBulk d + uptoBulkAll r
def uptoBulkEntries {H : Type} : List (Lit × DataW H) → Nat
  | [] => 0
  | x :: r => uptoBulkEntry x + uptoBulkEntries r
def uptoBulkEntry {H : Type} : Lit × DataW H → Nat
  | (.string bytes, d) => bytes.length + uptoBulk d + 1
  | (_, d) => uptoBulk d + 1
 end
def uptoSmall : (H : Type) → List (DataW H) → Bool := fun _ ds => decide (uptoBulkAll ds ≤ 1048576)
def OpenSpec.upto (s : _root_.Go.ChangeSpec) : _root_.Go.OpenSpec := { _root_.Go.OpenSpec.ofChange s with cond := some uptoSmall }

/-- 'cormorantlaw19.ExprOrders', WHERE WHAT IT READS IS OF BULK AT MOST 1048576: true; the input reads as it did. -/
def exprOrdersUptoRow : OpenClaim := { program := "ytndomnknjlihhaadoor", sum := "9072af2c45ae08519676e5c589570a5104a9b3f91cc7bb550dc07fe430a7e413", func := "cormorant/cormorantlaw19.ExprOrders", spec := "exprOrders", inPlace := ["internal/bytealg.IndexByteString", "internal/bytealg.abigen_runtime_cmpstring", "internal/bytealg.IndexString", "math/bits.Add64", "math/bits.Sub64"], unfollowed := true, recurses := true, named := ["unicode/utf8.first", "unicode/utf8.acceptRanges", "math/bits.divideError", "math/bits.overflowError", "internal/bytealg.MaxLen"], plainKeys := false, apart := false, laid := [("unicode/utf8.acceptRanges", laid_unicode_utf8_acceptRanges), ("unicode/utf8.first", laid_unicode_utf8_first)], narrowed := true }
def ExprOrdersUptoSaid : Prop := exprOrdersUptoRow.holds Tryd.pinned (OpenSpec.upto exprOrdersSpec)

/-- 'cormorantlaw19.ExprLikes', WHERE WHAT IT READS IS OF BULK AT MOST 1048576: true; the input reads as it did. -/
def exprLikesUptoRow : OpenClaim := { program := "ytndomnknjlihhaadoor", sum := "9072af2c45ae08519676e5c589570a5104a9b3f91cc7bb550dc07fe430a7e413", func := "cormorant/cormorantlaw19.ExprLikes", spec := "exprLikes", inPlace := ["internal/bytealg.IndexByteString", "internal/bytealg.abigen_runtime_cmpstring", "internal/bytealg.IndexString", "math/bits.Add64", "math/bits.Sub64"], unfollowed := true, recurses := true, named := ["unicode/utf8.first", "unicode/utf8.acceptRanges", "math/bits.divideError", "math/bits.overflowError", "internal/bytealg.MaxLen"], plainKeys := false, apart := false, laid := [("unicode/utf8.acceptRanges", laid_unicode_utf8_acceptRanges), ("unicode/utf8.first", laid_unicode_utf8_first)], narrowed := true }
def ExprLikesUptoSaid : Prop := exprLikesUptoRow.holds Tryd.pinned (OpenSpec.upto exprLikesSpec)

/-- 'cormorantlaw19.ExprEither', WHERE WHAT IT READS IS OF BULK AT MOST 1048576: true; the input reads as it did. -/
def exprEitherUptoRow : OpenClaim := { program := "ytndomnknjlihhaadoor", sum := "9072af2c45ae08519676e5c589570a5104a9b3f91cc7bb550dc07fe430a7e413", func := "cormorant/cormorantlaw19.ExprEither", spec := "exprEither", inPlace := ["internal/bytealg.IndexByteString", "internal/bytealg.abigen_runtime_cmpstring", "internal/bytealg.IndexString", "math/bits.Add64", "math/bits.Sub64"], unfollowed := true, recurses := true, named := ["unicode/utf8.first", "unicode/utf8.acceptRanges", "math/bits.divideError", "math/bits.overflowError", "internal/bytealg.MaxLen"], loops := true, plainKeys := false, apart := false, laid := [("unicode/utf8.acceptRanges", laid_unicode_utf8_acceptRanges), ("unicode/utf8.first", laid_unicode_utf8_first)], narrowed := true }
def ExprEitherUptoSaid : Prop := exprEitherUptoRow.holds Tryd.pinned (OpenSpec.upto exprEitherSpec)

/-- 'cormorantlaw19.ExprSorts', WHERE WHAT IT READS IS OF BULK AT MOST 1048576: true; the input reads as it did. -/
def exprSortsUptoRow : OpenClaim := { program := "ytndomnknjlihhaadoor", sum := "9072af2c45ae08519676e5c589570a5104a9b3f91cc7bb550dc07fe430a7e413", func := "cormorant/cormorantlaw19.ExprSorts", spec := "exprSorts", inPlace := ["internal/bytealg.IndexByteString", "internal/bytealg.abigen_runtime_cmpstring", "internal/bytealg.IndexString", "math/bits.Add64", "math/bits.Sub64"], unfollowed := true, recurses := true, named := ["unicode/utf8.first", "unicode/utf8.acceptRanges", "math/bits.divideError", "math/bits.overflowError", "internal/bytealg.MaxLen"], plainKeys := false, apart := false, laid := [("unicode/utf8.acceptRanges", laid_unicode_utf8_acceptRanges), ("unicode/utf8.first", laid_unicode_utf8_first)], narrowed := true }
def ExprSortsUptoSaid : Prop := exprSortsUptoRow.holds Tryd.pinned (OpenSpec.upto exprSortsSpec)

/-- 'cormorantlaw19.ExprTurns', WHERE WHAT IT READS IS OF BULK AT MOST 1048576: true; the input reads as it did. -/
def exprTurnsUptoRow : OpenClaim := { program := "ytndomnknjlihhaadoor", sum := "9072af2c45ae08519676e5c589570a5104a9b3f91cc7bb550dc07fe430a7e413", func := "cormorant/cormorantlaw19.ExprTurns", spec := "exprTurns", inPlace := ["internal/bytealg.IndexByteString", "internal/bytealg.abigen_runtime_cmpstring", "internal/bytealg.IndexString", "math/bits.Add64", "math/bits.Sub64"], unfollowed := true, recurses := true, named := ["unicode/utf8.first", "unicode/utf8.acceptRanges", "math/bits.divideError", "math/bits.overflowError", "internal/bytealg.MaxLen"], loops := true, plainKeys := false, apart := false, laid := [("unicode/utf8.acceptRanges", laid_unicode_utf8_acceptRanges), ("unicode/utf8.first", laid_unicode_utf8_first)], narrowed := true }
def ExprTurnsUptoSaid : Prop := exprTurnsUptoRow.holds Tryd.pinned (OpenSpec.upto exprTurnsSpec)

end Rows
end Go.Proofs.YtndomnknjlihhaaDoor
