/-
  DERIVED. GIVEN WITH THE SEED: THE CARDS: each row of YthaekefdadccaaaDoorRows.lean that lists a variable, with what it lists TIED to the program's text (the seventh form; the later family's looks); each row that meets fmt, with fmt's text TOLD by the authors' own Lean function (tested against real Go, not proved from fmt's source: count such statements apart). THE CARD IS WHAT COUNTS. Prove the row's statement (the work); the ties are given (YthaekefdadccaaaDoorTie.lean); close each card by the builder's one call (the guide's Derived/Test/ToyasCard.lean, 'card_holds'). Laid BY PROGRAM, IN A SANDBOX (cutbox-door.mjs). By AI agents, Wed Nov 11 2026. No macro, syntax, notation, axiom, sorry.
-/
import Derived.Test.YthaekefdadccaaaDoorRows
import GoSem.ClaimSeven
namespace Go.Proofs.YthaekefdadccaaaDoor
namespace Rows

/-- THE TIED CARD OF 'cormorantlaw23.PgwireFronts'. -/
def pgwireFrontsCard : Claim7 := { stood := { row := pgwireFrontsRow, standIns := [], harness := (true, "a2340d9a2e63ae2c27854a7c5d04394f27cd4356a4fecfe6108625aa87cd4ab1"), looks := false }, kinds := [], alts := [], laidByText := true, laidKinds := [.data, .pinned], laidTests := true, laidLooks := .later }
def PgwireFrontsCardSaid : Prop := Claim7.holds Tryd.pinned (.plain (OpenSpec.ofChange pgwireFrontsSpec)) pgwireFrontsCard

/-- THE TIED CARD OF 'cormorantlaw23.PgwireBacks'. -/
def pgwireBacksCard : Claim7 := { stood := { row := pgwireBacksRow, standIns := [], harness := (true, "a2340d9a2e63ae2c27854a7c5d04394f27cd4356a4fecfe6108625aa87cd4ab1"), looks := false }, kinds := [], alts := [], laidByText := true, laidKinds := [.data, .pinned], laidTests := true, laidLooks := .later }
def PgwireBacksCardSaid : Prop := Claim7.holds Tryd.pinned (.plain (OpenSpec.ofChange pgwireBacksSpec)) pgwireBacksCard

/-- THE TIED CARD OF 'cormorantlaw23.PgwirePieces'. -/
def pgwirePiecesCard : Claim7 := { stood := { row := pgwirePiecesRow, standIns := [], harness := (true, "a2340d9a2e63ae2c27854a7c5d04394f27cd4356a4fecfe6108625aa87cd4ab1"), looks := false }, kinds := [], alts := [], laidByText := true, laidKinds := [.data, .pinned], laidTests := true, laidLooks := .later }
def PgwirePiecesCardSaid : Prop := Claim7.holds Tryd.pinned (.plain (OpenSpec.ofChange pgwirePiecesSpec)) pgwirePiecesCard

/-- THE TIED CARD OF 'cormorantlaw23.PgwirePuts'. -/
def pgwirePutsCard : Claim7 := { stood := { row := pgwirePutsRow, standIns := [], harness := (true, "a2340d9a2e63ae2c27854a7c5d04394f27cd4356a4fecfe6108625aa87cd4ab1"), looks := false }, kinds := [], alts := [], laidByText := true, laidKinds := [.data, .pinned], laidTests := true, laidLooks := .later }
def PgwirePutsCardSaid : Prop := Claim7.holds Tryd.pinned (.plain (OpenSpec.ofChange pgwirePutsSpec)) pgwirePutsCard

/-- THE TIED CARD OF 'cormorantlaw23.PgwireForth'. -/
def pgwireForthCard : Claim7 := { stood := { row := pgwireForthRow, standIns := [], harness := (true, "a2340d9a2e63ae2c27854a7c5d04394f27cd4356a4fecfe6108625aa87cd4ab1"), looks := false }, kinds := [], alts := [], laidByText := true, laidKinds := [.data, .pinned], laidTests := true, laidLooks := .later }
def PgwireForthCardSaid : Prop := Claim7.holds Tryd.pinned (.plain (OpenSpec.ofChange pgwireForthSpec)) pgwireForthCard

/-- THE TIED CARD OF 'cormorantlaw23.PgwireTakes'. -/
def pgwireTakesCard : Claim7 := { stood := { row := pgwireTakesRow, standIns := [], harness := (true, "a2340d9a2e63ae2c27854a7c5d04394f27cd4356a4fecfe6108625aa87cd4ab1"), looks := false }, kinds := [], alts := [], laidByText := true, laidKinds := [.data, .pinned], laidTests := true, laidLooks := .later }
def PgwireTakesCardSaid : Prop := Claim7.holds Tryd.pinned (.plain (OpenSpec.ofChange pgwireTakesSpec)) pgwireTakesCard

/-- THE TIED CARD OF 'cormorantlaw23.PgwireBack'. -/
def pgwireBackCard : Claim7 := { stood := { row := pgwireBackRow, standIns := [], harness := (true, "a2340d9a2e63ae2c27854a7c5d04394f27cd4356a4fecfe6108625aa87cd4ab1"), looks := false }, kinds := [], alts := [], laidByText := true, laidKinds := [.data, .pinned], laidTests := true, laidLooks := .later }
def PgwireBackCardSaid : Prop := Claim7.holds Tryd.pinned (.plain (OpenSpec.ofChange pgwireBackSpec)) pgwireBackCard

/-- THE TIED CARD OF 'cormorantlaw23.PgwireSays'. -/
def pgwireSaysCard : Claim7 := { stood := { row := pgwireSaysRow, standIns := [], harness := (true, "a2340d9a2e63ae2c27854a7c5d04394f27cd4356a4fecfe6108625aa87cd4ab1"), looks := false }, kinds := [], alts := [], laidByText := true, laidKinds := [.data, .data, .data, .data, .pinned], laidTests := true, laidLooks := .later }
def PgwireSaysCardSaid : Prop := Claim7.holds Tryd.pinned (.plain (OpenSpec.ofChange pgwireSaysSpec)) pgwireSaysCard

/-- THE SECOND FORM's CARD OF 'cormorantlaw23.PgwireFronts'. -/
def pgwireFrontsUptoCard : Claim7 := { stood := { row := pgwireFrontsUptoRow, standIns := [], harness := (true, "a2340d9a2e63ae2c27854a7c5d04394f27cd4356a4fecfe6108625aa87cd4ab1"), looks := false }, kinds := [], alts := [], laidByText := true, laidKinds := [.data, .pinned], laidTests := true, laidLooks := .later }
def PgwireFrontsUptoCardSaid : Prop := Claim7.holds Tryd.pinned (.plain (OpenSpec.upto pgwireFrontsSpec)) pgwireFrontsUptoCard

/-- THE SECOND FORM's CARD OF 'cormorantlaw23.PgwireBacks'. -/
def pgwireBacksUptoCard : Claim7 := { stood := { row := pgwireBacksUptoRow, standIns := [], harness := (true, "a2340d9a2e63ae2c27854a7c5d04394f27cd4356a4fecfe6108625aa87cd4ab1"), looks := false }, kinds := [], alts := [], laidByText := true, laidKinds := [.data, .pinned], laidTests := true, laidLooks := .later }
def PgwireBacksUptoCardSaid : Prop := Claim7.holds Tryd.pinned (.plain (OpenSpec.upto pgwireBacksSpec)) pgwireBacksUptoCard

/-- THE SECOND FORM's CARD OF 'cormorantlaw23.PgwirePieces'. -/
def pgwirePiecesUptoCard : Claim7 := { stood := { row := pgwirePiecesUptoRow, standIns := [], harness := (true, "a2340d9a2e63ae2c27854a7c5d04394f27cd4356a4fecfe6108625aa87cd4ab1"), looks := false }, kinds := [], alts := [], laidByText := true, laidKinds := [.data, .pinned], laidTests := true, laidLooks := .later }
def PgwirePiecesUptoCardSaid : Prop := Claim7.holds Tryd.pinned (.plain (OpenSpec.upto pgwirePiecesSpec)) pgwirePiecesUptoCard

/-- THE SECOND FORM's CARD OF 'cormorantlaw23.PgwirePuts'. -/
def pgwirePutsUptoCard : Claim7 := { stood := { row := pgwirePutsUptoRow, standIns := [], harness := (true, "a2340d9a2e63ae2c27854a7c5d04394f27cd4356a4fecfe6108625aa87cd4ab1"), looks := false }, kinds := [], alts := [], laidByText := true, laidKinds := [.data, .pinned], laidTests := true, laidLooks := .later }
def PgwirePutsUptoCardSaid : Prop := Claim7.holds Tryd.pinned (.plain (OpenSpec.upto pgwirePutsSpec)) pgwirePutsUptoCard

/-- THE SECOND FORM's CARD OF 'cormorantlaw23.PgwireForth'. -/
def pgwireForthUptoCard : Claim7 := { stood := { row := pgwireForthUptoRow, standIns := [], harness := (true, "a2340d9a2e63ae2c27854a7c5d04394f27cd4356a4fecfe6108625aa87cd4ab1"), looks := false }, kinds := [], alts := [], laidByText := true, laidKinds := [.data, .pinned], laidTests := true, laidLooks := .later }
def PgwireForthUptoCardSaid : Prop := Claim7.holds Tryd.pinned (.plain (OpenSpec.upto pgwireForthSpec)) pgwireForthUptoCard

/-- THE SECOND FORM's CARD OF 'cormorantlaw23.PgwireTakes'. -/
def pgwireTakesUptoCard : Claim7 := { stood := { row := pgwireTakesUptoRow, standIns := [], harness := (true, "a2340d9a2e63ae2c27854a7c5d04394f27cd4356a4fecfe6108625aa87cd4ab1"), looks := false }, kinds := [], alts := [], laidByText := true, laidKinds := [.data, .pinned], laidTests := true, laidLooks := .later }
def PgwireTakesUptoCardSaid : Prop := Claim7.holds Tryd.pinned (.plain (OpenSpec.upto pgwireTakesSpec)) pgwireTakesUptoCard

/-- THE SECOND FORM's CARD OF 'cormorantlaw23.PgwireBack'. -/
def pgwireBackUptoCard : Claim7 := { stood := { row := pgwireBackUptoRow, standIns := [], harness := (true, "a2340d9a2e63ae2c27854a7c5d04394f27cd4356a4fecfe6108625aa87cd4ab1"), looks := false }, kinds := [], alts := [], laidByText := true, laidKinds := [.data, .pinned], laidTests := true, laidLooks := .later }
def PgwireBackUptoCardSaid : Prop := Claim7.holds Tryd.pinned (.plain (OpenSpec.upto pgwireBackSpec)) pgwireBackUptoCard

/-- THE SECOND FORM's CARD OF 'cormorantlaw23.PgwireSays'. -/
def pgwireSaysUptoCard : Claim7 := { stood := { row := pgwireSaysUptoRow, standIns := [], harness := (true, "a2340d9a2e63ae2c27854a7c5d04394f27cd4356a4fecfe6108625aa87cd4ab1"), looks := false }, kinds := [], alts := [], laidByText := true, laidKinds := [.data, .data, .data, .data, .pinned], laidTests := true, laidLooks := .later }
def PgwireSaysUptoCardSaid : Prop := Claim7.holds Tryd.pinned (.plain (OpenSpec.upto pgwireSaysSpec)) pgwireSaysUptoCard
end Rows
end Go.Proofs.YthaekefdadccaaaDoor
