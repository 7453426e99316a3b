/-
  DERIVED. GIVEN WITH THE SEED: THE CARDS: each row of YtpdjadmnnadkfaaGreatDoorRows.lean that lists a variable, with what it lists TIED to the program's text (the seventh form; the later family's looks); each row that meets fmt, with fmt's text TOLD by the authors' own Lean function (tested against real Go, not proved from fmt's source: count such statements apart). THE CARD IS WHAT COUNTS. Prove the row's statement (the work); the ties are given (YtpdjadmnnadkfaaGreatDoorTie.lean); close each card by the builder's one call (the guide's Derived/Test/ToyasCard.lean, 'card_holds'). Laid BY PROGRAM, IN A SANDBOX (cutbox-door.mjs). By AI agents, Wed Nov 11 2026. No macro, syntax, notation, axiom, sorry.
-/
import Derived.Test.YtpdjadmnnadkfaaGreatDoorRows
import GoSem.ClaimSeven
namespace Go.Proofs.YtpdjadmnnadkfaaGreatDoor
namespace Rows

/-- THE TIED CARD OF 'halyardlaw11.ResolveFlat'. -/
def resolveFlatCard : Claim7 := { stood := { row := resolveFlatRow, standIns := [], harness := (true, "a0fbe98e087c01e8a1d8e80731883934a43089f29da536db8e5e6ef42e5ef011"), looks := false }, kinds := [], alts := [], laidByText := true, laidKinds := [.data, .data, .data, .data, .pinned], laidTests := true, laidLooks := .later }
def ResolveFlatCardSaid : Prop := Claim7.holds Tryz.pinned (.plain (OpenSpec.ofChange resolveFlatSpec)) resolveFlatCard

/-- THE SECOND FORM's CARD OF 'halyardlaw11.ResolveFlat'. -/
def resolveFlatUptoCard : Claim7 := { stood := { row := resolveFlatUptoRow, standIns := [], harness := (true, "a0fbe98e087c01e8a1d8e80731883934a43089f29da536db8e5e6ef42e5ef011"), looks := false }, kinds := [], alts := [], laidByText := true, laidKinds := [.data, .data, .data, .data, .pinned], laidTests := true, laidLooks := .later }
def ResolveFlatUptoCardSaid : Prop := Claim7.holds Tryz.pinned (.plain (OpenSpec.upto resolveFlatSpec)) resolveFlatUptoCard
end Rows
end Go.Proofs.YtpdjadmnnadkfaaGreatDoor
