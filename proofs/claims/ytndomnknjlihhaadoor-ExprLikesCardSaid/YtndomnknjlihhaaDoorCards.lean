/-
  DERIVED. GIVEN WITH THE SEED: THE CARDS: each row of YtndomnknjlihhaaDoorRows.lean that lists a variable, with what it lists TIED to the program's text (the seventh form; the later family's looks); each row that meets fmt, with fmt's text TOLD by the authors' own Lean function (tested against real Go, not proved from fmt's source: count such statements apart). THE CARD IS WHAT COUNTS. Prove the row's statement (the work); the ties are given (YtndomnknjlihhaaDoorTie.lean); close each card by the builder's one call (the guide's Derived/Test/ToyasCard.lean, 'card_holds'). Laid BY PROGRAM, IN A SANDBOX (cutbox-door.mjs). By AI agents, Wed Nov 11 2026. No macro, syntax, notation, axiom, sorry.
-/
import Derived.Test.YtndomnknjlihhaaDoorRows
import GoSem.ClaimSeven
namespace Go.Proofs.YtndomnknjlihhaaDoor
namespace Rows

/-- THE TIED CARD OF 'cormorantlaw19.ExprOrders'. -/
def exprOrdersCard : Claim7 := { stood := { row := exprOrdersRow, standIns := [], harness := (true, "0f70c0e4c1c2e8f1205d30903a93f1e06dc28d99aa9f78ffef068f014d019c09"), looks := false }, kinds := [], alts := [], laidByText := true, laidKinds := [.data, .pinned], laidTests := true, laidLooks := .later }
def ExprOrdersCardSaid : Prop := Claim7.holds Tryd.pinned (.plain (OpenSpec.ofChange exprOrdersSpec)) exprOrdersCard

/-- THE TIED CARD OF 'cormorantlaw19.ExprLikes'. -/
def exprLikesCard : Claim7 := { stood := { row := exprLikesRow, standIns := [], harness := (true, "0f70c0e4c1c2e8f1205d30903a93f1e06dc28d99aa9f78ffef068f014d019c09"), looks := false }, kinds := [], alts := [], laidByText := true, laidKinds := [.data, .pinned], laidTests := true, laidLooks := .later }
def ExprLikesCardSaid : Prop := Claim7.holds Tryd.pinned (.plain (OpenSpec.ofChange exprLikesSpec)) exprLikesCard

/-- THE TIED CARD OF 'cormorantlaw19.ExprEither'. -/
def exprEitherCard : Claim7 := { stood := { row := exprEitherRow, standIns := [], harness := (true, "0f70c0e4c1c2e8f1205d30903a93f1e06dc28d99aa9f78ffef068f014d019c09"), looks := false }, kinds := [], alts := [], laidByText := true, laidKinds := [.data, .pinned], laidTests := true, laidLooks := .later }
def ExprEitherCardSaid : Prop := Claim7.holds Tryd.pinned (.plain (OpenSpec.ofChange exprEitherSpec)) exprEitherCard

/-- THE TIED CARD OF 'cormorantlaw19.ExprSorts'. -/
def exprSortsCard : Claim7 := { stood := { row := exprSortsRow, standIns := [], harness := (true, "0f70c0e4c1c2e8f1205d30903a93f1e06dc28d99aa9f78ffef068f014d019c09"), looks := false }, kinds := [], alts := [], laidByText := true, laidKinds := [.data, .pinned], laidTests := true, laidLooks := .later }
def ExprSortsCardSaid : Prop := Claim7.holds Tryd.pinned (.plain (OpenSpec.ofChange exprSortsSpec)) exprSortsCard

/-- THE TIED CARD OF 'cormorantlaw19.ExprTurns'. -/
def exprTurnsCard : Claim7 := { stood := { row := exprTurnsRow, standIns := [], harness := (true, "0f70c0e4c1c2e8f1205d30903a93f1e06dc28d99aa9f78ffef068f014d019c09"), looks := false }, kinds := [], alts := [], laidByText := true, laidKinds := [.data, .pinned], laidTests := true, laidLooks := .later }
def ExprTurnsCardSaid : Prop := Claim7.holds Tryd.pinned (.plain (OpenSpec.ofChange exprTurnsSpec)) exprTurnsCard

/-- THE SECOND FORM's CARD OF 'cormorantlaw19.ExprOrders'. -/
def exprOrdersUptoCard : Claim7 := { stood := { row := exprOrdersUptoRow, standIns := [], harness := (true, "0f70c0e4c1c2e8f1205d30903a93f1e06dc28d99aa9f78ffef068f014d019c09"), looks := false }, kinds := [], alts := [], laidByText := true, laidKinds := [.data, .pinned], laidTests := true, laidLooks := .later }
def ExprOrdersUptoCardSaid : Prop := Claim7.holds Tryd.pinned (.plain (OpenSpec.upto exprOrdersSpec)) exprOrdersUptoCard

/-- THE SECOND FORM's CARD OF 'cormorantlaw19.ExprLikes'. -/
def exprLikesUptoCard : Claim7 := { stood := { row := exprLikesUptoRow, standIns := [], harness := (true, "0f70c0e4c1c2e8f1205d30903a93f1e06dc28d99aa9f78ffef068f014d019c09"), looks := false }, kinds := [], alts := [], laidByText := true, laidKinds := [.data, .pinned], laidTests := true, laidLooks := .later }
def ExprLikesUptoCardSaid : Prop := Claim7.holds Tryd.pinned (.plain (OpenSpec.upto exprLikesSpec)) exprLikesUptoCard

/-- THE SECOND FORM's CARD OF 'cormorantlaw19.ExprEither'. -/
def exprEitherUptoCard : Claim7 := { stood := { row := exprEitherUptoRow, standIns := [], harness := (true, "0f70c0e4c1c2e8f1205d30903a93f1e06dc28d99aa9f78ffef068f014d019c09"), looks := false }, kinds := [], alts := [], laidByText := true, laidKinds := [.data, .pinned], laidTests := true, laidLooks := .later }
def ExprEitherUptoCardSaid : Prop := Claim7.holds Tryd.pinned (.plain (OpenSpec.upto exprEitherSpec)) exprEitherUptoCard

/-- THE SECOND FORM's CARD OF 'cormorantlaw19.ExprSorts'. -/
def exprSortsUptoCard : Claim7 := { stood := { row := exprSortsUptoRow, standIns := [], harness := (true, "0f70c0e4c1c2e8f1205d30903a93f1e06dc28d99aa9f78ffef068f014d019c09"), looks := false }, kinds := [], alts := [], laidByText := true, laidKinds := [.data, .pinned], laidTests := true, laidLooks := .later }
def ExprSortsUptoCardSaid : Prop := Claim7.holds Tryd.pinned (.plain (OpenSpec.upto exprSortsSpec)) exprSortsUptoCard

/-- THE SECOND FORM's CARD OF 'cormorantlaw19.ExprTurns'. -/
def exprTurnsUptoCard : Claim7 := { stood := { row := exprTurnsUptoRow, standIns := [], harness := (true, "0f70c0e4c1c2e8f1205d30903a93f1e06dc28d99aa9f78ffef068f014d019c09"), looks := false }, kinds := [], alts := [], laidByText := true, laidKinds := [.data, .pinned], laidTests := true, laidLooks := .later }
def ExprTurnsUptoCardSaid : Prop := Claim7.holds Tryd.pinned (.plain (OpenSpec.upto exprTurnsSpec)) exprTurnsUptoCard
end Rows
end Go.Proofs.YtndomnknjlihhaaDoor
