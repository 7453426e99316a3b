/-
  DERIVED. GIVEN WITH THE SEED: THE CARDS: each row of YtcnoablfimcajaaGreatDoorRows.lean that lists a variable, with what it lists TIED to the program's text (the seventh form; the later family's looks); each row that meets fmt, with fmt's text TOLD by the authors' own Lean function (tested against real Go, not proved from fmt's source: count such statements apart). THE CARD IS WHAT COUNTS. Prove the row's statement (the work); the ties are given (YtcnoablfimcajaaGreatDoorTie.lean); close each card by the builder's one call (the guide's Derived/Test/ToyasCard.lean, 'card_holds'). Laid BY PROGRAM, IN A SANDBOX (cutbox-door.mjs). By AI agents, Wed Nov 11 2026. No macro, syntax, notation, axiom, sorry.
-/
import Derived.Test.YtcnoablfimcajaaGreatDoorRows
import GoSem.ClaimSeven
namespace Go.Proofs.YtcnoablfimcajaaGreatDoor
namespace Rows

/-- THE TIED CARD OF 'halyardlaw11.ResolveRuns'. -/
def resolveRunsCard : Claim7 := { stood := { row := resolveRunsRow, standIns := [], harness := (true, "55f108528cde258b2d02462eb54caef5d5ec8ca500036c697b117ce75417c227"), looks := false }, kinds := [], alts := [], laidByText := true, laidKinds := [.data, .data, .data, .data, .pinned], laidTests := true, laidLooks := .later }
def ResolveRunsCardSaid : Prop := Claim7.holds Tryz.pinned (.plain (OpenSpec.ofChange resolveRunsSpec)) resolveRunsCard

/-- THE TIED CARD OF 'halyardlaw11.ResolveLimits'. -/
def resolveLimitsCard : Claim7 := { stood := { row := resolveLimitsRow, standIns := [], harness := (true, "55f108528cde258b2d02462eb54caef5d5ec8ca500036c697b117ce75417c227"), looks := false }, kinds := [], alts := [], laidByText := true, laidKinds := [.data, .data, .data, .data, .pinned], laidTests := true, laidLooks := .later }
def ResolveLimitsCardSaid : Prop := Claim7.holds Tryz.pinned (.plain (OpenSpec.ofChange resolveLimitsSpec)) resolveLimitsCard

/-- THE TIED CARD OF 'halyardlaw11.ResolveAlone'. -/
def resolveAloneCard : Claim7 := { stood := { row := resolveAloneRow, standIns := [], harness := (true, "55f108528cde258b2d02462eb54caef5d5ec8ca500036c697b117ce75417c227"), looks := false }, kinds := [], alts := [], laidByText := true, laidKinds := [.data, .data, .data, .data, .pinned], laidTests := true, laidLooks := .later }
def ResolveAloneCardSaid : Prop := Claim7.holds Tryz.pinned (.plain (OpenSpec.ofChange resolveAloneSpec)) resolveAloneCard

/-- THE TIED CARD OF 'halyardlaw11.ResolveFlat'. -/
def resolveFlatCard : Claim7 := { stood := { row := resolveFlatRow, standIns := [], harness := (true, "55f108528cde258b2d02462eb54caef5d5ec8ca500036c697b117ce75417c227"), looks := false }, kinds := [], alts := [], laidByText := true, laidKinds := [.data, .data, .data, .data, .pinned], laidTests := true, laidLooks := .later }
def ResolveFlatCardSaid : Prop := Claim7.holds Tryz.pinned (.plain (OpenSpec.ofChange resolveFlatSpec)) resolveFlatCard

/-- THE TIED CARD OF 'halyardlaw11.ResolveKeeps'. -/
def resolveKeepsCard : Claim7 := { stood := { row := resolveKeepsRow, standIns := [], harness := (true, "55f108528cde258b2d02462eb54caef5d5ec8ca500036c697b117ce75417c227"), looks := false }, kinds := [], alts := [], laidByText := true, laidKinds := [.data, .data, .data, .data, .pinned], laidTests := true, laidLooks := .later }
def ResolveKeepsCardSaid : Prop := Claim7.holds Tryz.pinned (.plain (OpenSpec.ofChange resolveKeepsSpec)) resolveKeepsCard

/-- THE TIED CARD OF 'halyardlaw11.ResolveOrder'. -/
def resolveOrderCard : Claim7 := { stood := { row := resolveOrderRow, standIns := [], harness := (true, "55f108528cde258b2d02462eb54caef5d5ec8ca500036c697b117ce75417c227"), looks := false }, kinds := [], alts := [], laidByText := true, laidKinds := [.data, .data, .data, .data, .pinned], laidTests := true, laidLooks := .later }
def ResolveOrderCardSaid : Prop := Claim7.holds Tryz.pinned (.plain (OpenSpec.ofChange resolveOrderSpec)) resolveOrderCard

/-- THE TIED CARD OF 'halyardlaw11.ResolveSound'. -/
def resolveSoundCard : Claim7 := { stood := { row := resolveSoundRow, standIns := [], harness := (true, "55f108528cde258b2d02462eb54caef5d5ec8ca500036c697b117ce75417c227"), looks := false }, kinds := [], alts := [], laidByText := true, laidKinds := [.data, .data, .data, .data, .pinned], laidTests := true, laidLooks := .later }
def ResolveSoundCardSaid : Prop := Claim7.holds Tryz.pinned (.plain (OpenSpec.ofChange resolveSoundSpec)) resolveSoundCard

/-- THE TIED CARD OF 'halyardlaw11.ResolveComplete'. -/
def resolveCompleteCard : Claim7 := { stood := { row := resolveCompleteRow, standIns := [], harness := (true, "55f108528cde258b2d02462eb54caef5d5ec8ca500036c697b117ce75417c227"), looks := false }, kinds := [], alts := [], laidByText := true, laidKinds := [.data, .data, .data, .data, .pinned], laidTests := true, laidLooks := .later }
def ResolveCompleteCardSaid : Prop := Claim7.holds Tryz.pinned (.plain (OpenSpec.ofChange resolveCompleteSpec)) resolveCompleteCard

/-- THE SECOND FORM's CARD OF 'halyardlaw11.ResolveRuns'. -/
def resolveRunsUptoCard : Claim7 := { stood := { row := resolveRunsUptoRow, standIns := [], harness := (true, "55f108528cde258b2d02462eb54caef5d5ec8ca500036c697b117ce75417c227"), looks := false }, kinds := [], alts := [], laidByText := true, laidKinds := [.data, .data, .data, .data, .pinned], laidTests := true, laidLooks := .later }
def ResolveRunsUptoCardSaid : Prop := Claim7.holds Tryz.pinned (.plain (OpenSpec.upto resolveRunsSpec)) resolveRunsUptoCard

/-- THE SECOND FORM's CARD OF 'halyardlaw11.ResolveLimits'. -/
def resolveLimitsUptoCard : Claim7 := { stood := { row := resolveLimitsUptoRow, standIns := [], harness := (true, "55f108528cde258b2d02462eb54caef5d5ec8ca500036c697b117ce75417c227"), looks := false }, kinds := [], alts := [], laidByText := true, laidKinds := [.data, .data, .data, .data, .pinned], laidTests := true, laidLooks := .later }
def ResolveLimitsUptoCardSaid : Prop := Claim7.holds Tryz.pinned (.plain (OpenSpec.upto resolveLimitsSpec)) resolveLimitsUptoCard

/-- THE SECOND FORM's CARD OF 'halyardlaw11.ResolveAlone'. -/
def resolveAloneUptoCard : Claim7 := { stood := { row := resolveAloneUptoRow, standIns := [], harness := (true, "55f108528cde258b2d02462eb54caef5d5ec8ca500036c697b117ce75417c227"), looks := false }, kinds := [], alts := [], laidByText := true, laidKinds := [.data, .data, .data, .data, .pinned], laidTests := true, laidLooks := .later }
def ResolveAloneUptoCardSaid : Prop := Claim7.holds Tryz.pinned (.plain (OpenSpec.upto resolveAloneSpec)) resolveAloneUptoCard

/-- THE SECOND FORM's CARD OF 'halyardlaw11.ResolveFlat'. -/
def resolveFlatUptoCard : Claim7 := { stood := { row := resolveFlatUptoRow, standIns := [], harness := (true, "55f108528cde258b2d02462eb54caef5d5ec8ca500036c697b117ce75417c227"), looks := false }, kinds := [], alts := [], laidByText := true, laidKinds := [.data, .data, .data, .data, .pinned], laidTests := true, laidLooks := .later }
def ResolveFlatUptoCardSaid : Prop := Claim7.holds Tryz.pinned (.plain (OpenSpec.upto resolveFlatSpec)) resolveFlatUptoCard

/-- THE SECOND FORM's CARD OF 'halyardlaw11.ResolveKeeps'. -/
def resolveKeepsUptoCard : Claim7 := { stood := { row := resolveKeepsUptoRow, standIns := [], harness := (true, "55f108528cde258b2d02462eb54caef5d5ec8ca500036c697b117ce75417c227"), looks := false }, kinds := [], alts := [], laidByText := true, laidKinds := [.data, .data, .data, .data, .pinned], laidTests := true, laidLooks := .later }
def ResolveKeepsUptoCardSaid : Prop := Claim7.holds Tryz.pinned (.plain (OpenSpec.upto resolveKeepsSpec)) resolveKeepsUptoCard

/-- THE SECOND FORM's CARD OF 'halyardlaw11.ResolveOrder'. -/
def resolveOrderUptoCard : Claim7 := { stood := { row := resolveOrderUptoRow, standIns := [], harness := (true, "55f108528cde258b2d02462eb54caef5d5ec8ca500036c697b117ce75417c227"), looks := false }, kinds := [], alts := [], laidByText := true, laidKinds := [.data, .data, .data, .data, .pinned], laidTests := true, laidLooks := .later }
def ResolveOrderUptoCardSaid : Prop := Claim7.holds Tryz.pinned (.plain (OpenSpec.upto resolveOrderSpec)) resolveOrderUptoCard

/-- THE SECOND FORM's CARD OF 'halyardlaw11.ResolveSound'. -/
def resolveSoundUptoCard : Claim7 := { stood := { row := resolveSoundUptoRow, standIns := [], harness := (true, "55f108528cde258b2d02462eb54caef5d5ec8ca500036c697b117ce75417c227"), looks := false }, kinds := [], alts := [], laidByText := true, laidKinds := [.data, .data, .data, .data, .pinned], laidTests := true, laidLooks := .later }
def ResolveSoundUptoCardSaid : Prop := Claim7.holds Tryz.pinned (.plain (OpenSpec.upto resolveSoundSpec)) resolveSoundUptoCard

/-- THE SECOND FORM's CARD OF 'halyardlaw11.ResolveComplete'. -/
def resolveCompleteUptoCard : Claim7 := { stood := { row := resolveCompleteUptoRow, standIns := [], harness := (true, "55f108528cde258b2d02462eb54caef5d5ec8ca500036c697b117ce75417c227"), looks := false }, kinds := [], alts := [], laidByText := true, laidKinds := [.data, .data, .data, .data, .pinned], laidTests := true, laidLooks := .later }
def ResolveCompleteUptoCardSaid : Prop := Claim7.holds Tryz.pinned (.plain (OpenSpec.upto resolveCompleteSpec)) resolveCompleteUptoCard
end Rows
end Go.Proofs.YtcnoablfimcajaaGreatDoor
