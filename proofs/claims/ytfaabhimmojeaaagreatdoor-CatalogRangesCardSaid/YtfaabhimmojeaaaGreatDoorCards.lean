/-
  DERIVED. GIVEN WITH THE SEED: THE CARDS: each row of YtfaabhimmojeaaaGreatDoorRows.lean that lists a variable, with what it lists TIED to the program's text (the seventh form; the later family's looks); each row that meets fmt, with fmt's text TOLD by the authors' own Lean function (tested against real Go, not proved from fmt's source: count such statements apart). THE CARD IS WHAT COUNTS. Prove the row's statement (the work); the ties are given (YtfaabhimmojeaaaGreatDoorTie.lean); close each card by the builder's one call (the guide's Derived/Test/ToyasCard.lean, 'card_holds'). Laid BY PROGRAM, IN A SANDBOX (cutbox-door.mjs). By AI agents, Wed Nov 11 2026. No macro, syntax, notation, axiom, sorry.
-/
import Derived.Test.YtfaabhimmojeaaaGreatDoorRows
import GoSem.ClaimSeven
namespace Go.Proofs.YtfaabhimmojeaaaGreatDoor
namespace Rows

/-- THE TIED CARD OF 'halyardlaw09.WantsInside'. -/
def wantsInsideCard : Claim7 := { stood := { row := wantsInsideRow, standIns := [], harness := (true, "f1f79b7fcd64a52934969c394d0d34d6b2a06776c74282a42b935388be293031"), looks := false }, kinds := [], alts := [], laidByText := true, laidKinds := [.data, .data, .data, .data, .pinned], laidTests := true, laidLooks := .later }
def WantsInsideCardSaid : Prop := Claim7.holds Tryz.pinned (.plain (OpenSpec.ofChange wantsInsideSpec)) wantsInsideCard

/-- THE TIED CARD OF 'halyardlaw08.CatalogScript'. -/
def catalogScriptCard : Claim7 := { stood := { row := catalogScriptRow, standIns := [], harness := (true, "f1f79b7fcd64a52934969c394d0d34d6b2a06776c74282a42b935388be293031"), looks := false }, kinds := [], alts := [], laidByText := true, laidKinds := [.data, .data, .data, .data, .pinned], laidTests := true, laidLooks := .later }
def CatalogScriptCardSaid : Prop := Claim7.holds Tryz.pinned (.plain (OpenSpec.ofChange catalogScriptSpec)) catalogScriptCard

/-- THE TIED CARD OF 'halyardlaw08.CatalogTries'. -/
def catalogTriesCard : Claim7 := { stood := { row := catalogTriesRow, standIns := [], harness := (true, "f1f79b7fcd64a52934969c394d0d34d6b2a06776c74282a42b935388be293031"), looks := false }, kinds := [], alts := [], laidByText := true, laidKinds := [.data, .data, .data, .data, .pinned], laidTests := true, laidLooks := .later }
def CatalogTriesCardSaid : Prop := Claim7.holds Tryz.pinned (.plain (OpenSpec.ofChange catalogTriesSpec)) catalogTriesCard

/-- THE TIED CARD OF 'halyardlaw08.CatalogFull'. -/
def catalogFullCard : Claim7 := { stood := { row := catalogFullRow, standIns := [], harness := (true, "f1f79b7fcd64a52934969c394d0d34d6b2a06776c74282a42b935388be293031"), looks := false }, kinds := [], alts := [], laidByText := true, laidKinds := [.data, .data, .data, .data, .pinned], laidTests := true, laidLooks := .later }
def CatalogFullCardSaid : Prop := Claim7.holds Tryz.pinned (.plain (OpenSpec.ofChange catalogFullSpec)) catalogFullCard

/-- THE TIED CARD OF 'halyardlaw08.CatalogPins'. -/
def catalogPinsCard : Claim7 := { stood := { row := catalogPinsRow, standIns := [], harness := (true, "f1f79b7fcd64a52934969c394d0d34d6b2a06776c74282a42b935388be293031"), looks := false }, kinds := [], alts := [], laidByText := true, laidKinds := [.data, .data, .data, .data, .pinned], laidTests := true, laidLooks := .later }
def CatalogPinsCardSaid : Prop := Claim7.holds Tryz.pinned (.plain (OpenSpec.ofChange catalogPinsSpec)) catalogPinsCard

/-- THE TIED CARD OF 'halyardlaw09.WantsTold'. -/
def wantsToldCard : Claim7 := { stood := { row := wantsToldRow, standIns := [], harness := (true, "f1f79b7fcd64a52934969c394d0d34d6b2a06776c74282a42b935388be293031"), looks := false }, kinds := [], alts := [], laidByText := true, laidKinds := [.data, .data, .data, .data, .pinned], laidTests := true, laidLooks := .later }
def WantsToldCardSaid : Prop := Claim7.holds Tryz.pinned (.plain (OpenSpec.ofChange wantsToldSpec)) wantsToldCard

/-- THE TIED CARD OF 'halyardlaw09.WantsOverrides'. -/
def wantsOverridesCard : Claim7 := { stood := { row := wantsOverridesRow, standIns := [], harness := (true, "f1f79b7fcd64a52934969c394d0d34d6b2a06776c74282a42b935388be293031"), looks := false }, kinds := [], alts := [], laidByText := true, laidKinds := [.data, .data, .data, .data, .pinned], laidTests := true, laidLooks := .later }
def WantsOverridesCardSaid : Prop := Claim7.holds Tryz.pinned (.plain (OpenSpec.ofChange wantsOverridesSpec)) wantsOverridesCard

/-- THE TIED CARD OF 'halyardlaw08.CatalogRanges'. -/
def catalogRangesCard : Claim7 := { stood := { row := catalogRangesRow, standIns := [], harness := (true, "f1f79b7fcd64a52934969c394d0d34d6b2a06776c74282a42b935388be293031"), looks := false }, kinds := [], alts := [], laidByText := true, laidKinds := [.data, .data, .data, .data, .pinned], laidTests := true, laidLooks := .later }
def CatalogRangesCardSaid : Prop := Claim7.holds Tryz.pinned (.plain (OpenSpec.ofChange catalogRangesSpec)) catalogRangesCard

/-- THE SECOND FORM's CARD OF 'halyardlaw09.WantsInside'. -/
def wantsInsideUptoCard : Claim7 := { stood := { row := wantsInsideUptoRow, standIns := [], harness := (true, "f1f79b7fcd64a52934969c394d0d34d6b2a06776c74282a42b935388be293031"), looks := false }, kinds := [], alts := [], laidByText := true, laidKinds := [.data, .data, .data, .data, .pinned], laidTests := true, laidLooks := .later }
def WantsInsideUptoCardSaid : Prop := Claim7.holds Tryz.pinned (.plain (OpenSpec.upto wantsInsideSpec)) wantsInsideUptoCard

/-- THE SECOND FORM's CARD OF 'halyardlaw08.CatalogScript'. -/
def catalogScriptUptoCard : Claim7 := { stood := { row := catalogScriptUptoRow, standIns := [], harness := (true, "f1f79b7fcd64a52934969c394d0d34d6b2a06776c74282a42b935388be293031"), looks := false }, kinds := [], alts := [], laidByText := true, laidKinds := [.data, .data, .data, .data, .pinned], laidTests := true, laidLooks := .later }
def CatalogScriptUptoCardSaid : Prop := Claim7.holds Tryz.pinned (.plain (OpenSpec.upto catalogScriptSpec)) catalogScriptUptoCard

/-- THE SECOND FORM's CARD OF 'halyardlaw08.CatalogTries'. -/
def catalogTriesUptoCard : Claim7 := { stood := { row := catalogTriesUptoRow, standIns := [], harness := (true, "f1f79b7fcd64a52934969c394d0d34d6b2a06776c74282a42b935388be293031"), looks := false }, kinds := [], alts := [], laidByText := true, laidKinds := [.data, .data, .data, .data, .pinned], laidTests := true, laidLooks := .later }
def CatalogTriesUptoCardSaid : Prop := Claim7.holds Tryz.pinned (.plain (OpenSpec.upto catalogTriesSpec)) catalogTriesUptoCard

/-- THE SECOND FORM's CARD OF 'halyardlaw08.CatalogFull'. -/
def catalogFullUptoCard : Claim7 := { stood := { row := catalogFullUptoRow, standIns := [], harness := (true, "f1f79b7fcd64a52934969c394d0d34d6b2a06776c74282a42b935388be293031"), looks := false }, kinds := [], alts := [], laidByText := true, laidKinds := [.data, .data, .data, .data, .pinned], laidTests := true, laidLooks := .later }
def CatalogFullUptoCardSaid : Prop := Claim7.holds Tryz.pinned (.plain (OpenSpec.upto catalogFullSpec)) catalogFullUptoCard

/-- THE SECOND FORM's CARD OF 'halyardlaw08.CatalogPins'. -/
def catalogPinsUptoCard : Claim7 := { stood := { row := catalogPinsUptoRow, standIns := [], harness := (true, "f1f79b7fcd64a52934969c394d0d34d6b2a06776c74282a42b935388be293031"), looks := false }, kinds := [], alts := [], laidByText := true, laidKinds := [.data, .data, .data, .data, .pinned], laidTests := true, laidLooks := .later }
def CatalogPinsUptoCardSaid : Prop := Claim7.holds Tryz.pinned (.plain (OpenSpec.upto catalogPinsSpec)) catalogPinsUptoCard

/-- THE SECOND FORM's CARD OF 'halyardlaw09.WantsTold'. -/
def wantsToldUptoCard : Claim7 := { stood := { row := wantsToldUptoRow, standIns := [], harness := (true, "f1f79b7fcd64a52934969c394d0d34d6b2a06776c74282a42b935388be293031"), looks := false }, kinds := [], alts := [], laidByText := true, laidKinds := [.data, .data, .data, .data, .pinned], laidTests := true, laidLooks := .later }
def WantsToldUptoCardSaid : Prop := Claim7.holds Tryz.pinned (.plain (OpenSpec.upto wantsToldSpec)) wantsToldUptoCard

/-- THE SECOND FORM's CARD OF 'halyardlaw09.WantsOverrides'. -/
def wantsOverridesUptoCard : Claim7 := { stood := { row := wantsOverridesUptoRow, standIns := [], harness := (true, "f1f79b7fcd64a52934969c394d0d34d6b2a06776c74282a42b935388be293031"), looks := false }, kinds := [], alts := [], laidByText := true, laidKinds := [.data, .data, .data, .data, .pinned], laidTests := true, laidLooks := .later }
def WantsOverridesUptoCardSaid : Prop := Claim7.holds Tryz.pinned (.plain (OpenSpec.upto wantsOverridesSpec)) wantsOverridesUptoCard

/-- THE SECOND FORM's CARD OF 'halyardlaw08.CatalogRanges'. -/
def catalogRangesUptoCard : Claim7 := { stood := { row := catalogRangesUptoRow, standIns := [], harness := (true, "f1f79b7fcd64a52934969c394d0d34d6b2a06776c74282a42b935388be293031"), looks := false }, kinds := [], alts := [], laidByText := true, laidKinds := [.data, .data, .data, .data, .pinned], laidTests := true, laidLooks := .later }
def CatalogRangesUptoCardSaid : Prop := Claim7.holds Tryz.pinned (.plain (OpenSpec.upto catalogRangesSpec)) catalogRangesUptoCard
end Rows
end Go.Proofs.YtfaabhimmojeaaaGreatDoor
