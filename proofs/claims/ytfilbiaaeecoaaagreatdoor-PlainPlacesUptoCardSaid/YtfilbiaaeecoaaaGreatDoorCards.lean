/-
  DERIVED. GIVEN WITH THE SEED: THE CARDS: each row of YtfilbiaaeecoaaaGreatDoorRows.lean that lists a variable, with what it lists TIED to the program's text (the seventh form; the later family's looks); each row that meets fmt, with fmt's text TOLD by the authors' own Lean function (tested against real Go, not proved from fmt's source: count such statements apart). THE CARD IS WHAT COUNTS. Prove the row's statement (the work); the ties are given (YtfilbiaaeecoaaaGreatDoorTie.lean); close each card by the builder's one call (the guide's Derived/Test/ToyasCard.lean, 'card_holds'). Laid BY PROGRAM, IN A SANDBOX (cutbox-door.mjs). By AI agents, Wed Nov 11 2026. No macro, syntax, notation, axiom, sorry.
-/
import Derived.Test.YtfilbiaaeecoaaaGreatDoorRows
import GoSem.ClaimSeven
namespace Go.Proofs.YtfilbiaaeecoaaaGreatDoor
namespace Rows

/-- THE TIED CARD OF 'halyardlaw21.PlainPlaces'. -/
def plainPlacesCard : Claim7 := { stood := { row := plainPlacesRow, standIns := [], harness := (true, "b9db3cfc746329c743c6987a6bd00858e63c1fcab0130498dc8a94bf203ab72b"), looks := true }, kinds := [], alts := [], laidByText := true, laidKinds := [.data, .data, .data, .data, .sentinel, .sentinel, .pinned], laidTests := true, laidLooks := .later }
def PlainPlacesCardSaid : Prop := Claim7.holds Tryz.pinned (.plain (OpenSpec.ofChange plainPlacesSpec)) plainPlacesCard

/-- THE SECOND FORM's CARD OF 'halyardlaw21.PlainPlaces'. -/
def plainPlacesUptoCard : Claim7 := { stood := { row := plainPlacesUptoRow, standIns := [], harness := (true, "b9db3cfc746329c743c6987a6bd00858e63c1fcab0130498dc8a94bf203ab72b"), looks := true }, kinds := [], alts := [], laidByText := true, laidKinds := [.data, .data, .data, .data, .sentinel, .sentinel, .pinned], laidTests := true, laidLooks := .later }
def PlainPlacesUptoCardSaid : Prop := Claim7.holds Tryz.pinned (.plain (OpenSpec.upto plainPlacesSpec)) plainPlacesUptoCard
end Rows
end Go.Proofs.YtfilbiaaeecoaaaGreatDoor
