/-
  DERIVED. GIVEN WITH THE SEED: THE CARDS: each row of YtfkemeamimcnjaaDoorRows.lean that lists a variable, with what it lists TIED to the program's text (the seventh form; the later family's looks); each row that meets fmt, with fmt's text TOLD by the authors' own Lean function (tested against real Go, not proved from fmt's source: count such statements apart). THE CARD IS WHAT COUNTS. Prove the row's statement (the work); the ties are given (YtfkemeamimcnjaaDoorTie.lean); close each card by the builder's one call (the guide's Derived/Test/ToyasCard.lean, 'card_holds'). Laid BY PROGRAM, IN A SANDBOX (cutbox-door.mjs). By AI agents, Wed Nov 11 2026. No macro, syntax, notation, axiom, sorry.
-/
import Derived.Test.YtfkemeamimcnjaaDoorRows
import GoSem.ClaimSeven
namespace Go.Proofs.YtfkemeamimcnjaaDoor
namespace Rows

/-- THE TIED CARD OF 'cormorantlaw20.RowkeyRows'. -/
def rowkeyRowsCard : Claim7 := { stood := { row := rowkeyRowsRow, standIns := [], harness := (true, "d3ffe654f5e7bae725fc1b216651da377e9c711ec52dec761ae0218b8dcb8305"), looks := false }, kinds := [], alts := [], laidByText := true, laidKinds := [.data, .pinned], laidTests := true, laidLooks := .later }
def RowkeyRowsCardSaid : Prop := Claim7.holds Tryd.pinned (.plain (OpenSpec.ofChange rowkeyRowsSpec)) rowkeyRowsCard

/-- THE TIED CARD OF 'cormorantlaw20.RowkeyTakes'. -/
def rowkeyTakesCard : Claim7 := { stood := { row := rowkeyTakesRow, standIns := [], harness := (true, "d3ffe654f5e7bae725fc1b216651da377e9c711ec52dec761ae0218b8dcb8305"), looks := false }, kinds := [], alts := [], laidByText := true, laidKinds := [.data, .pinned], laidTests := true, laidLooks := .later }
def RowkeyTakesCardSaid : Prop := Claim7.holds Tryd.pinned (.plain (OpenSpec.ofChange rowkeyTakesSpec)) rowkeyTakesCard

/-- THE TIED CARD OF 'cormorantlaw20.RowkeyEntries'. -/
def rowkeyEntriesCard : Claim7 := { stood := { row := rowkeyEntriesRow, standIns := [], harness := (true, "d3ffe654f5e7bae725fc1b216651da377e9c711ec52dec761ae0218b8dcb8305"), looks := false }, kinds := [], alts := [], laidByText := true, laidKinds := [.data, .pinned], laidTests := true, laidLooks := .later }
def RowkeyEntriesCardSaid : Prop := Claim7.holds Tryd.pinned (.plain (OpenSpec.ofChange rowkeyEntriesSpec)) rowkeyEntriesCard

/-- THE TIED CARD OF 'cormorantlaw20.RowkeyTaken'. -/
def rowkeyTakenCard : Claim7 := { stood := { row := rowkeyTakenRow, standIns := [], harness := (true, "d3ffe654f5e7bae725fc1b216651da377e9c711ec52dec761ae0218b8dcb8305"), looks := false }, kinds := [], alts := [], laidByText := true, laidKinds := [.data, .pinned], laidTests := true, laidLooks := .later }
def RowkeyTakenCardSaid : Prop := Claim7.holds Tryd.pinned (.plain (OpenSpec.ofChange rowkeyTakenSpec)) rowkeyTakenCard

/-- THE TIED CARD OF 'cormorantlaw20.RowkeyOrder'. -/
def rowkeyOrderCard : Claim7 := { stood := { row := rowkeyOrderRow, standIns := [], harness := (true, "d3ffe654f5e7bae725fc1b216651da377e9c711ec52dec761ae0218b8dcb8305"), looks := false }, kinds := [], alts := [], laidByText := true, laidKinds := [.data, .pinned], laidTests := true, laidLooks := .later }
def RowkeyOrderCardSaid : Prop := Claim7.holds Tryd.pinned (.plain (OpenSpec.ofChange rowkeyOrderSpec)) rowkeyOrderCard

/-- THE TIED CARD OF 'cormorantlaw20.RowkeySpans'. -/
def rowkeySpansCard : Claim7 := { stood := { row := rowkeySpansRow, standIns := [], harness := (true, "d3ffe654f5e7bae725fc1b216651da377e9c711ec52dec761ae0218b8dcb8305"), looks := false }, kinds := [], alts := [], laidByText := true, laidKinds := [.data, .pinned], laidTests := true, laidLooks := .later }
def RowkeySpansCardSaid : Prop := Claim7.holds Tryd.pinned (.plain (OpenSpec.ofChange rowkeySpansSpec)) rowkeySpansCard

/-- THE SECOND FORM's CARD OF 'cormorantlaw20.RowkeyRows'. -/
def rowkeyRowsUptoCard : Claim7 := { stood := { row := rowkeyRowsUptoRow, standIns := [], harness := (true, "d3ffe654f5e7bae725fc1b216651da377e9c711ec52dec761ae0218b8dcb8305"), looks := false }, kinds := [], alts := [], laidByText := true, laidKinds := [.data, .pinned], laidTests := true, laidLooks := .later }
def RowkeyRowsUptoCardSaid : Prop := Claim7.holds Tryd.pinned (.plain (OpenSpec.upto rowkeyRowsSpec)) rowkeyRowsUptoCard

/-- THE SECOND FORM's CARD OF 'cormorantlaw20.RowkeyTakes'. -/
def rowkeyTakesUptoCard : Claim7 := { stood := { row := rowkeyTakesUptoRow, standIns := [], harness := (true, "d3ffe654f5e7bae725fc1b216651da377e9c711ec52dec761ae0218b8dcb8305"), looks := false }, kinds := [], alts := [], laidByText := true, laidKinds := [.data, .pinned], laidTests := true, laidLooks := .later }
def RowkeyTakesUptoCardSaid : Prop := Claim7.holds Tryd.pinned (.plain (OpenSpec.upto rowkeyTakesSpec)) rowkeyTakesUptoCard

/-- THE SECOND FORM's CARD OF 'cormorantlaw20.RowkeyEntries'. -/
def rowkeyEntriesUptoCard : Claim7 := { stood := { row := rowkeyEntriesUptoRow, standIns := [], harness := (true, "d3ffe654f5e7bae725fc1b216651da377e9c711ec52dec761ae0218b8dcb8305"), looks := false }, kinds := [], alts := [], laidByText := true, laidKinds := [.data, .pinned], laidTests := true, laidLooks := .later }
def RowkeyEntriesUptoCardSaid : Prop := Claim7.holds Tryd.pinned (.plain (OpenSpec.upto rowkeyEntriesSpec)) rowkeyEntriesUptoCard

/-- THE SECOND FORM's CARD OF 'cormorantlaw20.RowkeyTaken'. -/
def rowkeyTakenUptoCard : Claim7 := { stood := { row := rowkeyTakenUptoRow, standIns := [], harness := (true, "d3ffe654f5e7bae725fc1b216651da377e9c711ec52dec761ae0218b8dcb8305"), looks := false }, kinds := [], alts := [], laidByText := true, laidKinds := [.data, .pinned], laidTests := true, laidLooks := .later }
def RowkeyTakenUptoCardSaid : Prop := Claim7.holds Tryd.pinned (.plain (OpenSpec.upto rowkeyTakenSpec)) rowkeyTakenUptoCard

/-- THE SECOND FORM's CARD OF 'cormorantlaw20.RowkeyOrder'. -/
def rowkeyOrderUptoCard : Claim7 := { stood := { row := rowkeyOrderUptoRow, standIns := [], harness := (true, "d3ffe654f5e7bae725fc1b216651da377e9c711ec52dec761ae0218b8dcb8305"), looks := false }, kinds := [], alts := [], laidByText := true, laidKinds := [.data, .pinned], laidTests := true, laidLooks := .later }
def RowkeyOrderUptoCardSaid : Prop := Claim7.holds Tryd.pinned (.plain (OpenSpec.upto rowkeyOrderSpec)) rowkeyOrderUptoCard

/-- THE SECOND FORM's CARD OF 'cormorantlaw20.RowkeySpans'. -/
def rowkeySpansUptoCard : Claim7 := { stood := { row := rowkeySpansUptoRow, standIns := [], harness := (true, "d3ffe654f5e7bae725fc1b216651da377e9c711ec52dec761ae0218b8dcb8305"), looks := false }, kinds := [], alts := [], laidByText := true, laidKinds := [.data, .pinned], laidTests := true, laidLooks := .later }
def RowkeySpansUptoCardSaid : Prop := Claim7.holds Tryd.pinned (.plain (OpenSpec.upto rowkeySpansSpec)) rowkeySpansUptoCard
end Rows
end Go.Proofs.YtfkemeamimcnjaaDoor
