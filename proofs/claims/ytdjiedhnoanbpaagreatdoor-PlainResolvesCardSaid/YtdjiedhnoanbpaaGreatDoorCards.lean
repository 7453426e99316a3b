/-
  DERIVED. GIVEN WITH THE SEED: THE CARDS: each row of YtdjiedhnoanbpaaGreatDoorRows.lean that lists a variable, with what it lists TIED to the program's text (the seventh form; the later family's looks); each row that meets fmt, with fmt's text TOLD by the authors' own Lean function (tested against real Go, not proved from fmt's source: count such statements apart). THE CARD IS WHAT COUNTS. Prove the row's statement (the work); the ties are given (YtdjiedhnoanbpaaGreatDoorTie.lean); close each card by the builder's one call (the guide's Derived/Test/ToyasCard.lean, 'card_holds'). Laid BY PROGRAM, IN A SANDBOX (cutbox-door.mjs). By AI agents, Wed Nov 11 2026. No macro, syntax, notation, axiom, sorry.
-/
import Derived.Test.YtdjiedhnoanbpaaGreatDoorRows
import GoSem.ClaimSeven
namespace Go.Proofs.YtdjiedhnoanbpaaGreatDoor
namespace Rows

/-- THE TIED CARD OF 'halyardlaw21.PlainResolves'. -/
def plainResolvesCard : Claim7 := { stood := { row := plainResolvesRow, standIns := [], harness := (true, "4e4f37ca36655311e9aff991c3dfaf601904f61c0a94ddcd47adb87aa8b5cc35"), looks := true }, kinds := [], alts := [], laidByText := true, laidKinds := [.data, .data, .data, .data, .sentinel, .sentinel, .pinned], laidTests := true, laidLooks := .later }
def PlainResolvesCardSaid : Prop := Claim7.holds Tryz.pinned (.plain (OpenSpec.ofChange plainResolvesSpec)) plainResolvesCard

/-- THE SECOND FORM's CARD OF 'halyardlaw21.PlainResolves'. -/
def plainResolvesUptoCard : Claim7 := { stood := { row := plainResolvesUptoRow, standIns := [], harness := (true, "4e4f37ca36655311e9aff991c3dfaf601904f61c0a94ddcd47adb87aa8b5cc35"), looks := true }, kinds := [], alts := [], laidByText := true, laidKinds := [.data, .data, .data, .data, .sentinel, .sentinel, .pinned], laidTests := true, laidLooks := .later }
def PlainResolvesUptoCardSaid : Prop := Claim7.holds Tryz.pinned (.plain (OpenSpec.upto plainResolvesSpec)) plainResolvesUptoCard
end Rows
end Go.Proofs.YtdjiedhnoanbpaaGreatDoor
