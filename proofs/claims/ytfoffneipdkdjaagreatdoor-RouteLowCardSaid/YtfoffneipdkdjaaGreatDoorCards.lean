/-
  DERIVED. GIVEN WITH THE SEED: THE CARDS: each row of YtfoffneipdkdjaaGreatDoorRows.lean that lists a variable, with what it lists TIED to the program's text (the seventh form; the later family's looks); each row that meets fmt, with fmt's text TOLD by the authors' own Lean function (tested against real Go, not proved from fmt's source: count such statements apart). THE CARD IS WHAT COUNTS. Prove the row's statement (the work); the ties are given (YtfoffneipdkdjaaGreatDoorTie.lean); close each card by the builder's one call (the guide's Derived/Test/ToyasCard.lean, 'card_holds'). Laid BY PROGRAM, IN A SANDBOX (cutbox-door.mjs). By AI agents, Wed Nov 11 2026. No macro, syntax, notation, axiom, sorry.
-/
import Derived.Test.YtfoffneipdkdjaaGreatDoorRows
import GoSem.ClaimSeven
namespace Go.Proofs.YtfoffneipdkdjaaGreatDoor
namespace Rows

/-- THE TIED CARD OF 'lychgatelaw11.RouteKeys'. -/
def routeKeysCard : Claim7 := { stood := { row := routeKeysRow, standIns := [], harness := (true, "8d7ea326e75a5706b8becd990403c159f352f00b2be65572935f1d7cb1cb545e"), looks := false }, kinds := [], alts := [], laidByText := true, laidKinds := [.data, .data, .data], laidTests := true, laidLooks := .later }
def RouteKeysCardSaid : Prop := Claim7.holds Tryz.pinned (.plain (OpenSpec.ofChange routeKeysSpec)) routeKeysCard

/-- THE TIED CARD OF 'lychgatelaw11.RouteParts'. -/
def routePartsCard : Claim7 := { stood := { row := routePartsRow, standIns := [], harness := (true, "8d7ea326e75a5706b8becd990403c159f352f00b2be65572935f1d7cb1cb545e"), looks := false }, kinds := [], alts := [], laidByText := true, laidKinds := [.data, .data, .data], laidTests := true, laidLooks := .later }
def RoutePartsCardSaid : Prop := Claim7.holds Tryz.pinned (.plain (OpenSpec.ofChange routePartsSpec)) routePartsCard

/-- THE TIED CARD OF 'lychgatelaw11.RouteMore'. -/
def routeMoreCard : Claim7 := { stood := { row := routeMoreRow, standIns := [], harness := (true, "8d7ea326e75a5706b8becd990403c159f352f00b2be65572935f1d7cb1cb545e"), looks := false }, kinds := [], alts := [], laidByText := true, laidKinds := [.data, .data, .data], laidTests := true, laidLooks := .later }
def RouteMoreCardSaid : Prop := Claim7.holds Tryz.pinned (.plain (OpenSpec.ofChange routeMoreSpec)) routeMoreCard

/-- THE TIED CARD OF 'lychgatelaw11.RouteTimes'. -/
def routeTimesCard : Claim7 := { stood := { row := routeTimesRow, standIns := [], harness := (true, "8d7ea326e75a5706b8becd990403c159f352f00b2be65572935f1d7cb1cb545e"), looks := false }, kinds := [], alts := [], laidByText := true, laidKinds := [.data, .data, .data], laidTests := true, laidLooks := .later }
def RouteTimesCardSaid : Prop := Claim7.holds Tryz.pinned (.plain (OpenSpec.ofChange routeTimesSpec)) routeTimesCard

/-- THE TIED CARD OF 'lychgatelaw11.RouteGroups'. -/
def routeGroupsCard : Claim7 := { stood := { row := routeGroupsRow, standIns := [], harness := (true, "8d7ea326e75a5706b8becd990403c159f352f00b2be65572935f1d7cb1cb545e"), looks := false }, kinds := [], alts := [], laidByText := true, laidKinds := [.data, .data, .data], laidTests := true, laidLooks := .later }
def RouteGroupsCardSaid : Prop := Claim7.holds Tryz.pinned (.plain (OpenSpec.ofChange routeGroupsSpec)) routeGroupsCard

/-- THE TIED CARD OF 'lychgatelaw11.RouteLow'. -/
def routeLowCard : Claim7 := { stood := { row := routeLowRow, standIns := [], harness := (true, "8d7ea326e75a5706b8becd990403c159f352f00b2be65572935f1d7cb1cb545e"), looks := false }, kinds := [], alts := [], laidByText := true, laidKinds := [.data, .data, .data], laidTests := true, laidLooks := .later }
def RouteLowCardSaid : Prop := Claim7.holds Tryz.pinned (.plain (OpenSpec.ofChange routeLowSpec)) routeLowCard

/-- THE SECOND FORM's CARD OF 'lychgatelaw11.RouteKeys'. -/
def routeKeysUptoCard : Claim7 := { stood := { row := routeKeysUptoRow, standIns := [], harness := (true, "8d7ea326e75a5706b8becd990403c159f352f00b2be65572935f1d7cb1cb545e"), looks := false }, kinds := [], alts := [], laidByText := true, laidKinds := [.data, .data, .data], laidTests := true, laidLooks := .later }
def RouteKeysUptoCardSaid : Prop := Claim7.holds Tryz.pinned (.plain (OpenSpec.upto routeKeysSpec)) routeKeysUptoCard

/-- THE SECOND FORM's CARD OF 'lychgatelaw11.RouteParts'. -/
def routePartsUptoCard : Claim7 := { stood := { row := routePartsUptoRow, standIns := [], harness := (true, "8d7ea326e75a5706b8becd990403c159f352f00b2be65572935f1d7cb1cb545e"), looks := false }, kinds := [], alts := [], laidByText := true, laidKinds := [.data, .data, .data], laidTests := true, laidLooks := .later }
def RoutePartsUptoCardSaid : Prop := Claim7.holds Tryz.pinned (.plain (OpenSpec.upto routePartsSpec)) routePartsUptoCard

/-- THE SECOND FORM's CARD OF 'lychgatelaw11.RouteMore'. -/
def routeMoreUptoCard : Claim7 := { stood := { row := routeMoreUptoRow, standIns := [], harness := (true, "8d7ea326e75a5706b8becd990403c159f352f00b2be65572935f1d7cb1cb545e"), looks := false }, kinds := [], alts := [], laidByText := true, laidKinds := [.data, .data, .data], laidTests := true, laidLooks := .later }
def RouteMoreUptoCardSaid : Prop := Claim7.holds Tryz.pinned (.plain (OpenSpec.upto routeMoreSpec)) routeMoreUptoCard

/-- THE SECOND FORM's CARD OF 'lychgatelaw11.RouteTimes'. -/
def routeTimesUptoCard : Claim7 := { stood := { row := routeTimesUptoRow, standIns := [], harness := (true, "8d7ea326e75a5706b8becd990403c159f352f00b2be65572935f1d7cb1cb545e"), looks := false }, kinds := [], alts := [], laidByText := true, laidKinds := [.data, .data, .data], laidTests := true, laidLooks := .later }
def RouteTimesUptoCardSaid : Prop := Claim7.holds Tryz.pinned (.plain (OpenSpec.upto routeTimesSpec)) routeTimesUptoCard

/-- THE SECOND FORM's CARD OF 'lychgatelaw11.RouteGroups'. -/
def routeGroupsUptoCard : Claim7 := { stood := { row := routeGroupsUptoRow, standIns := [], harness := (true, "8d7ea326e75a5706b8becd990403c159f352f00b2be65572935f1d7cb1cb545e"), looks := false }, kinds := [], alts := [], laidByText := true, laidKinds := [.data, .data, .data], laidTests := true, laidLooks := .later }
def RouteGroupsUptoCardSaid : Prop := Claim7.holds Tryz.pinned (.plain (OpenSpec.upto routeGroupsSpec)) routeGroupsUptoCard

/-- THE SECOND FORM's CARD OF 'lychgatelaw11.RouteLow'. -/
def routeLowUptoCard : Claim7 := { stood := { row := routeLowUptoRow, standIns := [], harness := (true, "8d7ea326e75a5706b8becd990403c159f352f00b2be65572935f1d7cb1cb545e"), looks := false }, kinds := [], alts := [], laidByText := true, laidKinds := [.data, .data, .data], laidTests := true, laidLooks := .later }
def RouteLowUptoCardSaid : Prop := Claim7.holds Tryz.pinned (.plain (OpenSpec.upto routeLowSpec)) routeLowUptoCard
end Rows
end Go.Proofs.YtfoffneipdkdjaaGreatDoor
