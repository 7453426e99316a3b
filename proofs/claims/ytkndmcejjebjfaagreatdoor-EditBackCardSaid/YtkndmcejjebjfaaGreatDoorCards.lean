/-
  DERIVED. GIVEN WITH THE SEED: THE CARDS: each row of YtkndmcejjebjfaaGreatDoorRows.lean that lists a variable, with what it lists TIED to the program's text (the seventh form; the later family's looks); each row that meets fmt, with fmt's text TOLD by the authors' own Lean function (tested against real Go, not proved from fmt's source: count such statements apart). THE CARD IS WHAT COUNTS. Prove the row's statement (the work); the ties are given (YtkndmcejjebjfaaGreatDoorTie.lean); close each card by the builder's one call (the guide's Derived/Test/ToyasCard.lean, 'card_holds'). Laid BY PROGRAM, IN A SANDBOX (cutbox-door.mjs). By AI agents, Wed Nov 11 2026. No macro, syntax, notation, axiom, sorry.
-/
import Derived.Test.YtkndmcejjebjfaaGreatDoorRows
import GoSem.ClaimSeven
namespace Go.Proofs.YtkndmcejjebjfaaGreatDoor
namespace Rows

/-- THE TIED CARD OF 'halyardlaw19.EditBack'. -/
def editBackCard : Claim7 := { stood := { row := editBackRow, standIns := [], harness := (true, "05ed58feaec2d2bfcc16313d31ef96dd5606eae31dd5ce9ac7904e7ea500927c"), looks := true }, kinds := [], alts := [], laidByText := true, laidKinds := [.data, .data, .data, .data, .sentinel, .sentinel, .pinned], laidTests := true, laidLooks := .later }
def EditBackCardSaid : Prop := Claim7.holds Tryz.pinned (.plain (OpenSpec.ofChange editBackSpec)) editBackCard

/-- THE TIED CARD OF 'halyardlaw19.EditSound'. -/
def editSoundCard : Claim7 := { stood := { row := editSoundRow, standIns := [], harness := (true, "05ed58feaec2d2bfcc16313d31ef96dd5606eae31dd5ce9ac7904e7ea500927c"), looks := true }, kinds := [], alts := [], laidByText := true, laidKinds := [.data, .data, .data, .data, .sentinel, .sentinel, .pinned], laidTests := true, laidLooks := .later }
def EditSoundCardSaid : Prop := Claim7.holds Tryz.pinned (.plain (OpenSpec.ofChange editSoundSpec)) editSoundCard

/-- THE SECOND FORM's CARD OF 'halyardlaw19.EditBack'. -/
def editBackUptoCard : Claim7 := { stood := { row := editBackUptoRow, standIns := [], harness := (true, "05ed58feaec2d2bfcc16313d31ef96dd5606eae31dd5ce9ac7904e7ea500927c"), looks := true }, kinds := [], alts := [], laidByText := true, laidKinds := [.data, .data, .data, .data, .sentinel, .sentinel, .pinned], laidTests := true, laidLooks := .later }
def EditBackUptoCardSaid : Prop := Claim7.holds Tryz.pinned (.plain (OpenSpec.upto editBackSpec)) editBackUptoCard

/-- THE SECOND FORM's CARD OF 'halyardlaw19.EditSound'. -/
def editSoundUptoCard : Claim7 := { stood := { row := editSoundUptoRow, standIns := [], harness := (true, "05ed58feaec2d2bfcc16313d31ef96dd5606eae31dd5ce9ac7904e7ea500927c"), looks := true }, kinds := [], alts := [], laidByText := true, laidKinds := [.data, .data, .data, .data, .sentinel, .sentinel, .pinned], laidTests := true, laidLooks := .later }
def EditSoundUptoCardSaid : Prop := Claim7.holds Tryz.pinned (.plain (OpenSpec.upto editSoundSpec)) editSoundUptoCard
end Rows
end Go.Proofs.YtkndmcejjebjfaaGreatDoor
