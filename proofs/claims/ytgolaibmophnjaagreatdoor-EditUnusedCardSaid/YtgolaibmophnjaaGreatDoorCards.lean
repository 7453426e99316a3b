/-
  DERIVED. GIVEN WITH THE SEED: THE CARDS: each row of YtgolaibmophnjaaGreatDoorRows.lean that lists a variable, with what it lists TIED to the program's text (the seventh form; the later family's looks); each row that meets fmt, with fmt's text TOLD by the authors' own Lean function (tested against real Go, not proved from fmt's source: count such statements apart). THE CARD IS WHAT COUNTS. Prove the row's statement (the work); the ties are given (YtgolaibmophnjaaGreatDoorTie.lean); close each card by the builder's one call (the guide's Derived/Test/ToyasCard.lean, 'card_holds'). Laid BY PROGRAM, IN A SANDBOX (cutbox-door.mjs). By AI agents, Wed Nov 11 2026. No macro, syntax, notation, axiom, sorry.
-/
import Derived.Test.YtgolaibmophnjaaGreatDoorRows
import GoSem.ClaimSeven
namespace Go.Proofs.YtgolaibmophnjaaGreatDoor
namespace Rows

/-- THE TIED CARD OF 'halyardlaw19.EditOnce'. -/
def editOnceCard : Claim7 := { stood := { row := editOnceRow, standIns := [], harness := (true, "1a18c26b3313dac8cc84ced87caeac786ab7e68210a256506e638e0ebf3cb61a"), looks := true }, kinds := [], alts := [], laidByText := true, laidKinds := [.data, .data, .data, .data, .sentinel, .sentinel, .pinned], laidTests := true, laidLooks := .later }
def EditOnceCardSaid : Prop := Claim7.holds Tryz.pinned (.plain (OpenSpec.ofChange editOnceSpec)) editOnceCard

/-- THE TIED CARD OF 'halyardlaw19.EditUnused'. -/
def editUnusedCard : Claim7 := { stood := { row := editUnusedRow, standIns := [], harness := (true, "1a18c26b3313dac8cc84ced87caeac786ab7e68210a256506e638e0ebf3cb61a"), looks := true }, kinds := [], alts := [], laidByText := true, laidKinds := [.data, .data, .data, .data, .sentinel, .sentinel, .pinned], laidTests := true, laidLooks := .later }
def EditUnusedCardSaid : Prop := Claim7.holds Tryz.pinned (.plain (OpenSpec.ofChange editUnusedSpec)) editUnusedCard

/-- THE TIED CARD OF 'halyardlaw19.EditAgain'. -/
def editAgainCard : Claim7 := { stood := { row := editAgainRow, standIns := [], harness := (true, "1a18c26b3313dac8cc84ced87caeac786ab7e68210a256506e638e0ebf3cb61a"), looks := true }, kinds := [], alts := [], laidByText := true, laidKinds := [.data, .data, .data, .data, .sentinel, .sentinel, .pinned], laidTests := true, laidLooks := .later }
def EditAgainCardSaid : Prop := Claim7.holds Tryz.pinned (.plain (OpenSpec.ofChange editAgainSpec)) editAgainCard

/-- THE SECOND FORM's CARD OF 'halyardlaw19.EditOnce'. -/
def editOnceUptoCard : Claim7 := { stood := { row := editOnceUptoRow, standIns := [], harness := (true, "1a18c26b3313dac8cc84ced87caeac786ab7e68210a256506e638e0ebf3cb61a"), looks := true }, kinds := [], alts := [], laidByText := true, laidKinds := [.data, .data, .data, .data, .sentinel, .sentinel, .pinned], laidTests := true, laidLooks := .later }
def EditOnceUptoCardSaid : Prop := Claim7.holds Tryz.pinned (.plain (OpenSpec.upto editOnceSpec)) editOnceUptoCard

/-- THE SECOND FORM's CARD OF 'halyardlaw19.EditUnused'. -/
def editUnusedUptoCard : Claim7 := { stood := { row := editUnusedUptoRow, standIns := [], harness := (true, "1a18c26b3313dac8cc84ced87caeac786ab7e68210a256506e638e0ebf3cb61a"), looks := true }, kinds := [], alts := [], laidByText := true, laidKinds := [.data, .data, .data, .data, .sentinel, .sentinel, .pinned], laidTests := true, laidLooks := .later }
def EditUnusedUptoCardSaid : Prop := Claim7.holds Tryz.pinned (.plain (OpenSpec.upto editUnusedSpec)) editUnusedUptoCard

/-- THE SECOND FORM's CARD OF 'halyardlaw19.EditAgain'. -/
def editAgainUptoCard : Claim7 := { stood := { row := editAgainUptoRow, standIns := [], harness := (true, "1a18c26b3313dac8cc84ced87caeac786ab7e68210a256506e638e0ebf3cb61a"), looks := true }, kinds := [], alts := [], laidByText := true, laidKinds := [.data, .data, .data, .data, .sentinel, .sentinel, .pinned], laidTests := true, laidLooks := .later }
def EditAgainUptoCardSaid : Prop := Claim7.holds Tryz.pinned (.plain (OpenSpec.upto editAgainSpec)) editAgainUptoCard
end Rows
end Go.Proofs.YtgolaibmophnjaaGreatDoor
