/-
  DERIVED. GIVEN WITH THE SEED: THE CARDS: each row of YtlolgiphppbcmaaDoorRows.lean that lists a variable, with what it lists TIED to the program's text (the seventh form; the later family's looks); each row that meets fmt, with fmt's text TOLD by the authors' own Lean function (tested against real Go, not proved from fmt's source: count such statements apart). THE CARD IS WHAT COUNTS. Prove the row's statement (the work); the ties are given (YtlolgiphppbcmaaDoorTie.lean); close each card by the builder's one call (the guide's Derived/Test/ToyasCard.lean, 'card_holds'). Laid BY PROGRAM, IN A SANDBOX (cutbox-door.mjs). By AI agents, Wed Nov 11 2026. No macro, syntax, notation, axiom, sorry.
-/
import Derived.Test.YtlolgiphppbcmaaDoorRows
import GoSem.ClaimSeven
namespace Go.Proofs.YtlolgiphppbcmaaDoor
namespace Rows

/-- THE TIED CARD OF 'cormorantlaw01.CodecOrder'. -/
def codecOrderCard : Claim7 := { stood := { row := codecOrderRow, standIns := [], harness := (true, "97cccda0ddf213e21719b71d3ac6959f60e6ce5350fe48e442fe48a4d3665352"), looks := false }, kinds := [], alts := [], laidByText := true, laidKinds := [.data, .pinned], laidTests := true, laidLooks := .later }
def CodecOrderCardSaid : Prop := Claim7.holds Tryd.pinned (.plain (OpenSpec.ofChange codecOrderSpec)) codecOrderCard

/-- THE TIED CARD OF 'cormorantlaw01.CodecKeys'. -/
def codecKeysCard : Claim7 := { stood := { row := codecKeysRow, standIns := [], harness := (true, "97cccda0ddf213e21719b71d3ac6959f60e6ce5350fe48e442fe48a4d3665352"), looks := false }, kinds := [], alts := [], laidByText := true, laidKinds := [.data, .pinned], laidTests := true, laidLooks := .later }
def CodecKeysCardSaid : Prop := Claim7.holds Tryd.pinned (.plain (OpenSpec.ofChange codecKeysSpec)) codecKeysCard

/-- THE TIED CARD OF 'cormorantlaw01.CodecTorn'. -/
def codecTornCard : Claim7 := { stood := { row := codecTornRow, standIns := [], harness := (true, "97cccda0ddf213e21719b71d3ac6959f60e6ce5350fe48e442fe48a4d3665352"), looks := false }, kinds := [], alts := [], laidByText := true, laidKinds := [.data, .pinned], laidTests := true, laidLooks := .later }
def CodecTornCardSaid : Prop := Claim7.holds Tryd.pinned (.plain (OpenSpec.ofChange codecTornSpec)) codecTornCard

/-- THE SECOND FORM's CARD OF 'cormorantlaw01.CodecOrder'. -/
def codecOrderUptoCard : Claim7 := { stood := { row := codecOrderUptoRow, standIns := [], harness := (true, "97cccda0ddf213e21719b71d3ac6959f60e6ce5350fe48e442fe48a4d3665352"), looks := false }, kinds := [], alts := [], laidByText := true, laidKinds := [.data, .pinned], laidTests := true, laidLooks := .later }
def CodecOrderUptoCardSaid : Prop := Claim7.holds Tryd.pinned (.plain (OpenSpec.upto codecOrderSpec)) codecOrderUptoCard

/-- THE SECOND FORM's CARD OF 'cormorantlaw01.CodecKeys'. -/
def codecKeysUptoCard : Claim7 := { stood := { row := codecKeysUptoRow, standIns := [], harness := (true, "97cccda0ddf213e21719b71d3ac6959f60e6ce5350fe48e442fe48a4d3665352"), looks := false }, kinds := [], alts := [], laidByText := true, laidKinds := [.data, .pinned], laidTests := true, laidLooks := .later }
def CodecKeysUptoCardSaid : Prop := Claim7.holds Tryd.pinned (.plain (OpenSpec.upto codecKeysSpec)) codecKeysUptoCard

/-- THE SECOND FORM's CARD OF 'cormorantlaw01.CodecTorn'. -/
def codecTornUptoCard : Claim7 := { stood := { row := codecTornUptoRow, standIns := [], harness := (true, "97cccda0ddf213e21719b71d3ac6959f60e6ce5350fe48e442fe48a4d3665352"), looks := false }, kinds := [], alts := [], laidByText := true, laidKinds := [.data, .pinned], laidTests := true, laidLooks := .later }
def CodecTornUptoCardSaid : Prop := Claim7.holds Tryd.pinned (.plain (OpenSpec.upto codecTornSpec)) codecTornUptoCard
end Rows
end Go.Proofs.YtlolgiphppbcmaaDoor
