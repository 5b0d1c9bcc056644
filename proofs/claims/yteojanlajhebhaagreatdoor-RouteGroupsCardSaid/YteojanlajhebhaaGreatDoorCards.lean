/-
  DERIVED. GIVEN WITH THE SEED: THE CARDS: each row of YteojanlajhebhaaGreatDoorRows.lean that lists a variable, with what it lists TIED to the program's text (the seventh form; the later family's looks); each row that meets fmt, with fmt's text TOLD by the authors' own Lean function (tested against real Go, not proved from fmt's source: count such statements apart). THE CARD IS WHAT COUNTS. Prove the row's statement (the work); the ties are given (YteojanlajhebhaaGreatDoorTie.lean); close each card by the builder's one call (the guide's Derived/Test/ToyasCard.lean, 'card_holds'). Laid BY PROGRAM, IN A SANDBOX (cutbox-door.mjs). By AI agents, Wed Nov 11 2026. No macro, syntax, notation, axiom, sorry.
-/
import Derived.Test.YteojanlajhebhaaGreatDoorRows
import GoSem.ClaimSeven
namespace Go.Proofs.YteojanlajhebhaaGreatDoor
namespace Rows

/-- THE TIED CARD OF 'lychgatelaw11.RouteGroups'. -/
def routeGroupsCard : Claim7 := { stood := { row := routeGroupsRow, standIns := [], harness := (true, "745df7333c54db78c06236ad33e5c966229ec2901ecbaa552d7eae505e0a126f"), looks := false }, kinds := [], alts := [], laidByText := true, laidKinds := [.data, .data, .data], laidTests := true, laidLooks := .later }
def RouteGroupsCardSaid : Prop := Claim7.holds Tryz.pinned (.plain (OpenSpec.ofChange routeGroupsSpec)) routeGroupsCard

/-- THE SECOND FORM's CARD OF 'lychgatelaw11.RouteGroups'. -/
def routeGroupsUptoCard : Claim7 := { stood := { row := routeGroupsUptoRow, standIns := [], harness := (true, "745df7333c54db78c06236ad33e5c966229ec2901ecbaa552d7eae505e0a126f"), looks := false }, kinds := [], alts := [], laidByText := true, laidKinds := [.data, .data, .data], laidTests := true, laidLooks := .later }
def RouteGroupsUptoCardSaid : Prop := Claim7.holds Tryz.pinned (.plain (OpenSpec.upto routeGroupsSpec)) routeGroupsUptoCard
end Rows
end Go.Proofs.YteojanlajhebhaaGreatDoor
