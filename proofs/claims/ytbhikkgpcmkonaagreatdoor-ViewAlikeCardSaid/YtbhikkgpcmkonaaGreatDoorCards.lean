/-
  DERIVED. GIVEN WITH THE SEED: THE CARDS: each row of YtbhikkgpcmkonaaGreatDoorRows.lean that lists a variable, with what it lists TIED to the program's text (the seventh form; the later family's looks); each row that meets fmt, with fmt's text TOLD by the authors' own Lean function (tested against real Go, not proved from fmt's source: count such statements apart). THE CARD IS WHAT COUNTS. Prove the row's statement (the work); the ties are given (YtbhikkgpcmkonaaGreatDoorTie.lean); close each card by the builder's one call (the guide's Derived/Test/ToyasCard.lean, 'card_holds'). Laid BY PROGRAM, IN A SANDBOX (cutbox-door.mjs). By AI agents, Wed Nov 11 2026. No macro, syntax, notation, axiom, sorry.
-/
import Derived.Test.YtbhikkgpcmkonaaGreatDoorRows
import GoSem.ClaimSeven
namespace Go.Proofs.YtbhikkgpcmkonaaGreatDoor
namespace Rows

/-- THE TIED CARD OF 'lychgatelaw18.EngineTells'. -/
def engineTellsCard : Claim7 := { stood := { row := engineTellsRow, standIns := [], harness := (true, "400318cd2d945db52d8c798cd7d609ecaf8cc0d7c9382902a125fe5292da7b0f"), looks := false }, kinds := [], alts := [], laidByText := true, laidKinds := [.data, .data, .data, .data, .pinned], laidTests := true, laidLooks := .later }
def EngineTellsCardSaid : Prop := Claim7.holds Tryz.pinned (.plain (OpenSpec.ofChange engineTellsSpec)) engineTellsCard

/-- THE TIED CARD OF 'lychgatelaw18.EngineNil'. -/
def engineNilCard : Claim7 := { stood := { row := engineNilRow, standIns := [], harness := (true, "400318cd2d945db52d8c798cd7d609ecaf8cc0d7c9382902a125fe5292da7b0f"), looks := false }, kinds := [], alts := [], laidByText := true, laidKinds := [.data, .data, .data, .data, .pinned], laidTests := true, laidLooks := .later }
def EngineNilCardSaid : Prop := Claim7.holds Tryz.pinned (.plain (OpenSpec.ofChange engineNilSpec)) engineNilCard

/-- THE TIED CARD OF 'lychgatelaw18.EngineSecret'. -/
def engineSecretCard : Claim7 := { stood := { row := engineSecretRow, standIns := [], harness := (true, "400318cd2d945db52d8c798cd7d609ecaf8cc0d7c9382902a125fe5292da7b0f"), looks := false }, kinds := [], alts := [], laidByText := true, laidKinds := [.data, .data, .data, .data, .pinned], laidTests := true, laidLooks := .later }
def EngineSecretCardSaid : Prop := Claim7.holds Tryz.pinned (.plain (OpenSpec.ofChange engineSecretSpec)) engineSecretCard

/-- THE TIED CARD OF 'lychgatelaw23.ViewSecret'. -/
def viewSecretCard : Claim7 := { stood := { row := viewSecretRow, standIns := [], harness := (true, "400318cd2d945db52d8c798cd7d609ecaf8cc0d7c9382902a125fe5292da7b0f"), looks := false }, kinds := [], alts := [], laidByText := true, laidKinds := [.data, .data, .data, .data, .pinned], laidTests := true, laidLooks := .later }
def ViewSecretCardSaid : Prop := Claim7.holds Tryz.pinned (.plain (OpenSpec.ofChange viewSecretSpec)) viewSecretCard

/-- THE TIED CARD OF 'lychgatelaw23.ViewOnce'. -/
def viewOnceCard : Claim7 := { stood := { row := viewOnceRow, standIns := [], harness := (true, "400318cd2d945db52d8c798cd7d609ecaf8cc0d7c9382902a125fe5292da7b0f"), looks := false }, kinds := [], alts := [], laidByText := true, laidKinds := [.data, .data, .data, .data, .pinned], laidTests := true, laidLooks := .later }
def ViewOnceCardSaid : Prop := Claim7.holds Tryz.pinned (.plain (OpenSpec.ofChange viewOnceSpec)) viewOnceCard

/-- THE TIED CARD OF 'lychgatelaw23.ViewAlike'. -/
def viewAlikeCard : Claim7 := { stood := { row := viewAlikeRow, standIns := [], harness := (true, "400318cd2d945db52d8c798cd7d609ecaf8cc0d7c9382902a125fe5292da7b0f"), looks := false }, kinds := [], alts := [], laidByText := true, laidKinds := [.data, .data, .data, .data, .pinned], laidTests := true, laidLooks := .later }
def ViewAlikeCardSaid : Prop := Claim7.holds Tryz.pinned (.plain (OpenSpec.ofChange viewAlikeSpec)) viewAlikeCard

/-- THE SECOND FORM's CARD OF 'lychgatelaw18.EngineTells'. -/
def engineTellsUptoCard : Claim7 := { stood := { row := engineTellsUptoRow, standIns := [], harness := (true, "400318cd2d945db52d8c798cd7d609ecaf8cc0d7c9382902a125fe5292da7b0f"), looks := false }, kinds := [], alts := [], laidByText := true, laidKinds := [.data, .data, .data, .data, .pinned], laidTests := true, laidLooks := .later }
def EngineTellsUptoCardSaid : Prop := Claim7.holds Tryz.pinned (.plain (OpenSpec.upto engineTellsSpec)) engineTellsUptoCard

/-- THE SECOND FORM's CARD OF 'lychgatelaw18.EngineNil'. -/
def engineNilUptoCard : Claim7 := { stood := { row := engineNilUptoRow, standIns := [], harness := (true, "400318cd2d945db52d8c798cd7d609ecaf8cc0d7c9382902a125fe5292da7b0f"), looks := false }, kinds := [], alts := [], laidByText := true, laidKinds := [.data, .data, .data, .data, .pinned], laidTests := true, laidLooks := .later }
def EngineNilUptoCardSaid : Prop := Claim7.holds Tryz.pinned (.plain (OpenSpec.upto engineNilSpec)) engineNilUptoCard

/-- THE SECOND FORM's CARD OF 'lychgatelaw18.EngineSecret'. -/
def engineSecretUptoCard : Claim7 := { stood := { row := engineSecretUptoRow, standIns := [], harness := (true, "400318cd2d945db52d8c798cd7d609ecaf8cc0d7c9382902a125fe5292da7b0f"), looks := false }, kinds := [], alts := [], laidByText := true, laidKinds := [.data, .data, .data, .data, .pinned], laidTests := true, laidLooks := .later }
def EngineSecretUptoCardSaid : Prop := Claim7.holds Tryz.pinned (.plain (OpenSpec.upto engineSecretSpec)) engineSecretUptoCard

/-- THE SECOND FORM's CARD OF 'lychgatelaw23.ViewSecret'. -/
def viewSecretUptoCard : Claim7 := { stood := { row := viewSecretUptoRow, standIns := [], harness := (true, "400318cd2d945db52d8c798cd7d609ecaf8cc0d7c9382902a125fe5292da7b0f"), looks := false }, kinds := [], alts := [], laidByText := true, laidKinds := [.data, .data, .data, .data, .pinned], laidTests := true, laidLooks := .later }
def ViewSecretUptoCardSaid : Prop := Claim7.holds Tryz.pinned (.plain (OpenSpec.upto viewSecretSpec)) viewSecretUptoCard

/-- THE SECOND FORM's CARD OF 'lychgatelaw23.ViewOnce'. -/
def viewOnceUptoCard : Claim7 := { stood := { row := viewOnceUptoRow, standIns := [], harness := (true, "400318cd2d945db52d8c798cd7d609ecaf8cc0d7c9382902a125fe5292da7b0f"), looks := false }, kinds := [], alts := [], laidByText := true, laidKinds := [.data, .data, .data, .data, .pinned], laidTests := true, laidLooks := .later }
def ViewOnceUptoCardSaid : Prop := Claim7.holds Tryz.pinned (.plain (OpenSpec.upto viewOnceSpec)) viewOnceUptoCard

/-- THE SECOND FORM's CARD OF 'lychgatelaw23.ViewAlike'. -/
def viewAlikeUptoCard : Claim7 := { stood := { row := viewAlikeUptoRow, standIns := [], harness := (true, "400318cd2d945db52d8c798cd7d609ecaf8cc0d7c9382902a125fe5292da7b0f"), looks := false }, kinds := [], alts := [], laidByText := true, laidKinds := [.data, .data, .data, .data, .pinned], laidTests := true, laidLooks := .later }
def ViewAlikeUptoCardSaid : Prop := Claim7.holds Tryz.pinned (.plain (OpenSpec.upto viewAlikeSpec)) viewAlikeUptoCard
end Rows
end Go.Proofs.YtbhikkgpcmkonaaGreatDoor
