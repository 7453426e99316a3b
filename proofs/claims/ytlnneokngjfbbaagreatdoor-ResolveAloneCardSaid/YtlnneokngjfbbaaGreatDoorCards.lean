/-
  DERIVED. GIVEN WITH THE SEED: THE CARDS: each row of YtlnneokngjfbbaaGreatDoorRows.lean that lists a variable, with what it lists TIED to the program's text (the seventh form; the later family's looks); each row that meets fmt, with fmt's text TOLD by the authors' own Lean function (tested against real Go, not proved from fmt's source: count such statements apart). THE CARD IS WHAT COUNTS. Prove the row's statement (the work); the ties are given (YtlnneokngjfbbaaGreatDoorTie.lean); close each card by the builder's one call (the guide's Derived/Test/ToyasCard.lean, 'card_holds'). Laid BY PROGRAM, IN A SANDBOX (cutbox-door.mjs). By AI agents, Wed Nov 11 2026. No macro, syntax, notation, axiom, sorry.
-/
import Derived.Test.YtlnneokngjfbbaaGreatDoorRows
import GoSem.ClaimSeven
namespace Go.Proofs.YtlnneokngjfbbaaGreatDoor
namespace Rows

/-- THE TIED CARD OF 'halyardlaw11.ResolveLimits'. -/
def resolveLimitsCard : Claim7 := { stood := { row := resolveLimitsRow, standIns := [], harness := (true, "dab1e78f36c1dab7a153068bb6c895740525d00db6d545d5118df1cef7c2184d"), looks := false }, kinds := [], alts := [], laidByText := true, laidKinds := [.data, .data, .data, .data, .pinned], laidTests := true, laidLooks := .later }
def ResolveLimitsCardSaid : Prop := Claim7.holds Tryz.pinned (.plain (OpenSpec.ofChange resolveLimitsSpec)) resolveLimitsCard

/-- THE TIED CARD OF 'halyardlaw11.ResolveAlone'. -/
def resolveAloneCard : Claim7 := { stood := { row := resolveAloneRow, standIns := [], harness := (true, "dab1e78f36c1dab7a153068bb6c895740525d00db6d545d5118df1cef7c2184d"), looks := false }, kinds := [], alts := [], laidByText := true, laidKinds := [.data, .data, .data, .data, .pinned], laidTests := true, laidLooks := .later }
def ResolveAloneCardSaid : Prop := Claim7.holds Tryz.pinned (.plain (OpenSpec.ofChange resolveAloneSpec)) resolveAloneCard

/-- THE TIED CARD OF 'halyardlaw11.ResolveFlat'. -/
def resolveFlatCard : Claim7 := { stood := { row := resolveFlatRow, standIns := [], harness := (true, "dab1e78f36c1dab7a153068bb6c895740525d00db6d545d5118df1cef7c2184d"), looks := false }, kinds := [], alts := [], laidByText := true, laidKinds := [.data, .data, .data, .data, .pinned], laidTests := true, laidLooks := .later }
def ResolveFlatCardSaid : Prop := Claim7.holds Tryz.pinned (.plain (OpenSpec.ofChange resolveFlatSpec)) resolveFlatCard

/-- THE TIED CARD OF 'halyardlaw11.ResolveOrder'. -/
def resolveOrderCard : Claim7 := { stood := { row := resolveOrderRow, standIns := [], harness := (true, "dab1e78f36c1dab7a153068bb6c895740525d00db6d545d5118df1cef7c2184d"), looks := false }, kinds := [], alts := [], laidByText := true, laidKinds := [.data, .data, .data, .data, .pinned], laidTests := true, laidLooks := .later }
def ResolveOrderCardSaid : Prop := Claim7.holds Tryz.pinned (.plain (OpenSpec.ofChange resolveOrderSpec)) resolveOrderCard

/-- THE TIED CARD OF 'halyardlaw10.GraphParts'. -/
def graphPartsCard : Claim7 := { stood := { row := graphPartsRow, standIns := [], harness := (true, "dab1e78f36c1dab7a153068bb6c895740525d00db6d545d5118df1cef7c2184d"), looks := false }, kinds := [], alts := [], laidByText := true, laidKinds := [.data, .data, .data, .data, .pinned], laidTests := true, laidLooks := .later }
def GraphPartsCardSaid : Prop := Claim7.holds Tryz.pinned (.plain (OpenSpec.ofChange graphPartsSpec)) graphPartsCard

/-- THE TIED CARD OF 'halyardlaw10.GraphSame'. -/
def graphSameCard : Claim7 := { stood := { row := graphSameRow, standIns := [], harness := (true, "dab1e78f36c1dab7a153068bb6c895740525d00db6d545d5118df1cef7c2184d"), looks := false }, kinds := [], alts := [], laidByText := true, laidKinds := [.data, .data, .data, .data, .pinned], laidTests := true, laidLooks := .later }
def GraphSameCardSaid : Prop := Claim7.holds Tryz.pinned (.plain (OpenSpec.ofChange graphSameSpec)) graphSameCard

/-- THE TIED CARD OF 'halyardlaw10.GraphChecks'. -/
def graphChecksCard : Claim7 := { stood := { row := graphChecksRow, standIns := [], harness := (true, "dab1e78f36c1dab7a153068bb6c895740525d00db6d545d5118df1cef7c2184d"), looks := false }, kinds := [], alts := [], laidByText := true, laidKinds := [.data, .data, .data, .data, .pinned], laidTests := true, laidLooks := .later }
def GraphChecksCardSaid : Prop := Claim7.holds Tryz.pinned (.plain (OpenSpec.ofChange graphChecksSpec)) graphChecksCard

/-- THE TIED CARD OF 'halyardlaw10.GraphInstance'. -/
def graphInstanceCard : Claim7 := { stood := { row := graphInstanceRow, standIns := [], harness := (true, "dab1e78f36c1dab7a153068bb6c895740525d00db6d545d5118df1cef7c2184d"), looks := false }, kinds := [], alts := [], laidByText := true, laidKinds := [.data, .data, .data, .data, .pinned], laidTests := true, laidLooks := .later }
def GraphInstanceCardSaid : Prop := Claim7.holds Tryz.pinned (.plain (OpenSpec.ofChange graphInstanceSpec)) graphInstanceCard

/-- THE TIED CARD OF 'halyardlaw10.GraphOwn'. -/
def graphOwnCard : Claim7 := { stood := { row := graphOwnRow, standIns := [], harness := (true, "dab1e78f36c1dab7a153068bb6c895740525d00db6d545d5118df1cef7c2184d"), looks := false }, kinds := [], alts := [], laidByText := true, laidKinds := [.data, .data, .data, .data, .pinned], laidTests := true, laidLooks := .later }
def GraphOwnCardSaid : Prop := Claim7.holds Tryz.pinned (.plain (OpenSpec.ofChange graphOwnSpec)) graphOwnCard

/-- THE SECOND FORM's CARD OF 'halyardlaw11.ResolveLimits'. -/
def resolveLimitsUptoCard : Claim7 := { stood := { row := resolveLimitsUptoRow, standIns := [], harness := (true, "dab1e78f36c1dab7a153068bb6c895740525d00db6d545d5118df1cef7c2184d"), looks := false }, kinds := [], alts := [], laidByText := true, laidKinds := [.data, .data, .data, .data, .pinned], laidTests := true, laidLooks := .later }
def ResolveLimitsUptoCardSaid : Prop := Claim7.holds Tryz.pinned (.plain (OpenSpec.upto resolveLimitsSpec)) resolveLimitsUptoCard

/-- THE SECOND FORM's CARD OF 'halyardlaw11.ResolveAlone'. -/
def resolveAloneUptoCard : Claim7 := { stood := { row := resolveAloneUptoRow, standIns := [], harness := (true, "dab1e78f36c1dab7a153068bb6c895740525d00db6d545d5118df1cef7c2184d"), looks := false }, kinds := [], alts := [], laidByText := true, laidKinds := [.data, .data, .data, .data, .pinned], laidTests := true, laidLooks := .later }
def ResolveAloneUptoCardSaid : Prop := Claim7.holds Tryz.pinned (.plain (OpenSpec.upto resolveAloneSpec)) resolveAloneUptoCard

/-- THE SECOND FORM's CARD OF 'halyardlaw11.ResolveFlat'. -/
def resolveFlatUptoCard : Claim7 := { stood := { row := resolveFlatUptoRow, standIns := [], harness := (true, "dab1e78f36c1dab7a153068bb6c895740525d00db6d545d5118df1cef7c2184d"), looks := false }, kinds := [], alts := [], laidByText := true, laidKinds := [.data, .data, .data, .data, .pinned], laidTests := true, laidLooks := .later }
def ResolveFlatUptoCardSaid : Prop := Claim7.holds Tryz.pinned (.plain (OpenSpec.upto resolveFlatSpec)) resolveFlatUptoCard

/-- THE SECOND FORM's CARD OF 'halyardlaw11.ResolveOrder'. -/
def resolveOrderUptoCard : Claim7 := { stood := { row := resolveOrderUptoRow, standIns := [], harness := (true, "dab1e78f36c1dab7a153068bb6c895740525d00db6d545d5118df1cef7c2184d"), looks := false }, kinds := [], alts := [], laidByText := true, laidKinds := [.data, .data, .data, .data, .pinned], laidTests := true, laidLooks := .later }
def ResolveOrderUptoCardSaid : Prop := Claim7.holds Tryz.pinned (.plain (OpenSpec.upto resolveOrderSpec)) resolveOrderUptoCard

/-- THE SECOND FORM's CARD OF 'halyardlaw10.GraphParts'. -/
def graphPartsUptoCard : Claim7 := { stood := { row := graphPartsUptoRow, standIns := [], harness := (true, "dab1e78f36c1dab7a153068bb6c895740525d00db6d545d5118df1cef7c2184d"), looks := false }, kinds := [], alts := [], laidByText := true, laidKinds := [.data, .data, .data, .data, .pinned], laidTests := true, laidLooks := .later }
def GraphPartsUptoCardSaid : Prop := Claim7.holds Tryz.pinned (.plain (OpenSpec.upto graphPartsSpec)) graphPartsUptoCard

/-- THE SECOND FORM's CARD OF 'halyardlaw10.GraphSame'. -/
def graphSameUptoCard : Claim7 := { stood := { row := graphSameUptoRow, standIns := [], harness := (true, "dab1e78f36c1dab7a153068bb6c895740525d00db6d545d5118df1cef7c2184d"), looks := false }, kinds := [], alts := [], laidByText := true, laidKinds := [.data, .data, .data, .data, .pinned], laidTests := true, laidLooks := .later }
def GraphSameUptoCardSaid : Prop := Claim7.holds Tryz.pinned (.plain (OpenSpec.upto graphSameSpec)) graphSameUptoCard

/-- THE SECOND FORM's CARD OF 'halyardlaw10.GraphChecks'. -/
def graphChecksUptoCard : Claim7 := { stood := { row := graphChecksUptoRow, standIns := [], harness := (true, "dab1e78f36c1dab7a153068bb6c895740525d00db6d545d5118df1cef7c2184d"), looks := false }, kinds := [], alts := [], laidByText := true, laidKinds := [.data, .data, .data, .data, .pinned], laidTests := true, laidLooks := .later }
def GraphChecksUptoCardSaid : Prop := Claim7.holds Tryz.pinned (.plain (OpenSpec.upto graphChecksSpec)) graphChecksUptoCard

/-- THE SECOND FORM's CARD OF 'halyardlaw10.GraphInstance'. -/
def graphInstanceUptoCard : Claim7 := { stood := { row := graphInstanceUptoRow, standIns := [], harness := (true, "dab1e78f36c1dab7a153068bb6c895740525d00db6d545d5118df1cef7c2184d"), looks := false }, kinds := [], alts := [], laidByText := true, laidKinds := [.data, .data, .data, .data, .pinned], laidTests := true, laidLooks := .later }
def GraphInstanceUptoCardSaid : Prop := Claim7.holds Tryz.pinned (.plain (OpenSpec.upto graphInstanceSpec)) graphInstanceUptoCard

/-- THE SECOND FORM's CARD OF 'halyardlaw10.GraphOwn'. -/
def graphOwnUptoCard : Claim7 := { stood := { row := graphOwnUptoRow, standIns := [], harness := (true, "dab1e78f36c1dab7a153068bb6c895740525d00db6d545d5118df1cef7c2184d"), looks := false }, kinds := [], alts := [], laidByText := true, laidKinds := [.data, .data, .data, .data, .pinned], laidTests := true, laidLooks := .later }
def GraphOwnUptoCardSaid : Prop := Claim7.holds Tryz.pinned (.plain (OpenSpec.upto graphOwnSpec)) graphOwnUptoCard
end Rows
end Go.Proofs.YtlnneokngjfbbaaGreatDoor
