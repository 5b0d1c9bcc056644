/-
  DERIVED. GIVEN WITH THE SEED: THE CARDS: each row of YtfppagcifcppaaaDoorRows.lean that lists a variable, with what it lists TIED to the program's text (the seventh form; the later family's looks); each row that meets fmt, with fmt's text TOLD by the authors' own Lean function (tested against real Go, not proved from fmt's source: count such statements apart). THE CARD IS WHAT COUNTS. Prove the row's statement (the work); the ties are given (YtfppagcifcppaaaDoorTie.lean); close each card by the builder's one call (the guide's Derived/Test/ToyasCard.lean, 'card_holds'). Laid BY PROGRAM, IN A SANDBOX (cutbox-door.mjs). By AI agents, Wed Nov 11 2026. No macro, syntax, notation, axiom, sorry.
-/
import Derived.Test.YtfppagcifcppaaaDoorRows
import GoSem.ClaimSeven
namespace Go.Proofs.YtfppagcifcppaaaDoor
namespace Rows

/-- THE TIED CARD OF 'lychgatelaw21.WindowPlans'. -/
def windowPlansCard : Claim7 := { stood := { row := windowPlansRow, standIns := [], harness := (true, "6134e00368b240ea3aaca99a2e5d3708c6be197d3eafe3c5a344d7ce08190c18"), looks := true }, kinds := [], alts := [], laidByText := true, laidKinds := [.data, .data, .data, .sentinel, .sentinel], laidTests := true, laidLooks := .later }
def WindowPlansCardSaid : Prop := Claim7.holds Tryd.pinned (.plain (OpenSpec.ofChange windowPlansSpec)) windowPlansCard

/-- THE TIED CARD OF 'lychgatelaw21.WindowNext'. -/
def windowNextCard : Claim7 := { stood := { row := windowNextRow, standIns := [], harness := (true, "6134e00368b240ea3aaca99a2e5d3708c6be197d3eafe3c5a344d7ce08190c18"), looks := true }, kinds := [], alts := [], laidByText := true, laidKinds := [.data, .data, .data, .sentinel, .sentinel], laidTests := true, laidLooks := .later }
def WindowNextCardSaid : Prop := Claim7.holds Tryd.pinned (.plain (OpenSpec.ofChange windowNextSpec)) windowNextCard

/-- THE TIED CARD OF 'lychgatelaw21.WindowBack'. -/
def windowBackCard : Claim7 := { stood := { row := windowBackRow, standIns := [], harness := (true, "6134e00368b240ea3aaca99a2e5d3708c6be197d3eafe3c5a344d7ce08190c18"), looks := true }, kinds := [], alts := [], laidByText := true, laidKinds := [.data, .data, .data, .sentinel, .sentinel], laidTests := true, laidLooks := .later }
def WindowBackCardSaid : Prop := Claim7.holds Tryd.pinned (.plain (OpenSpec.ofChange windowBackSpec)) windowBackCard

/-- THE TIED CARD OF 'lychgatelaw21.WindowOne'. -/
def windowOneCard : Claim7 := { stood := { row := windowOneRow, standIns := [], harness := (true, "6134e00368b240ea3aaca99a2e5d3708c6be197d3eafe3c5a344d7ce08190c18"), looks := true }, kinds := [], alts := [], laidByText := true, laidKinds := [.data, .data, .data, .sentinel, .sentinel], laidTests := true, laidLooks := .later }
def WindowOneCardSaid : Prop := Claim7.holds Tryd.pinned (.plain (OpenSpec.ofChange windowOneSpec)) windowOneCard

/-- THE TIED CARD OF 'lychgatelaw21.WindowCounts'. -/
def windowCountsCard : Claim7 := { stood := { row := windowCountsRow, standIns := [], harness := (true, "6134e00368b240ea3aaca99a2e5d3708c6be197d3eafe3c5a344d7ce08190c18"), looks := true }, kinds := [], alts := [], laidByText := true, laidKinds := [.data, .data, .data, .sentinel, .sentinel], laidTests := true, laidLooks := .later }
def WindowCountsCardSaid : Prop := Claim7.holds Tryd.pinned (.plain (OpenSpec.ofChange windowCountsSpec)) windowCountsCard

/-- THE TIED CARD OF 'lychgatelaw21.WindowIs'. -/
def windowIsCard : Claim7 := { stood := { row := windowIsRow, standIns := [], harness := (true, "6134e00368b240ea3aaca99a2e5d3708c6be197d3eafe3c5a344d7ce08190c18"), looks := true }, kinds := [], alts := [], laidByText := true, laidKinds := [.data, .data, .data, .sentinel, .sentinel], laidTests := true, laidLooks := .later }
def WindowIsCardSaid : Prop := Claim7.holds Tryd.pinned (.plain (OpenSpec.ofChange windowIsSpec)) windowIsCard

/-- THE TIED CARD OF 'lychgatelaw21.WindowRounds'. -/
def windowRoundsCard : Claim7 := { stood := { row := windowRoundsRow, standIns := [], harness := (true, "6134e00368b240ea3aaca99a2e5d3708c6be197d3eafe3c5a344d7ce08190c18"), looks := true }, kinds := [], alts := [], laidByText := true, laidKinds := [.data, .data, .data, .sentinel, .sentinel], laidTests := true, laidLooks := .later }
def WindowRoundsCardSaid : Prop := Claim7.holds Tryd.pinned (.plain (OpenSpec.ofChange windowRoundsSpec)) windowRoundsCard

/-- THE TIED CARD OF 'lychgatelaw01.LabelTexts'. -/
def labelTextsCard : Claim7 := { stood := { row := labelTextsRow, standIns := [], harness := (true, "6134e00368b240ea3aaca99a2e5d3708c6be197d3eafe3c5a344d7ce08190c18"), looks := true }, kinds := [], alts := [], laidByText := true, laidKinds := [.data, .data, .data, .data, .sentinel, .sentinel, .pinned], laidTests := true, laidLooks := .later }
def LabelTextsCardSaid : Prop := Claim7.holds Tryd.pinned (.plain (OpenSpec.ofChange labelTextsSpec)) labelTextsCard

/-- THE TIED CARD OF 'lychgatelaw01.LabelOrder'. -/
def labelOrderCard : Claim7 := { stood := { row := labelOrderRow, standIns := [], harness := (true, "6134e00368b240ea3aaca99a2e5d3708c6be197d3eafe3c5a344d7ce08190c18"), looks := true }, kinds := [], alts := [], laidByText := true, laidKinds := [.data, .data, .data, .data, .sentinel, .sentinel, .pinned], laidTests := true, laidLooks := .later }
def LabelOrderCardSaid : Prop := Claim7.holds Tryd.pinned (.plain (OpenSpec.ofChange labelOrderSpec)) labelOrderCard

/-- THE TIED CARD OF 'lychgatelaw01.LabelOnly'. -/
def labelOnlyCard : Claim7 := { stood := { row := labelOnlyRow, standIns := [], harness := (true, "6134e00368b240ea3aaca99a2e5d3708c6be197d3eafe3c5a344d7ce08190c18"), looks := true }, kinds := [], alts := [], laidByText := true, laidKinds := [.data, .data, .data, .data, .sentinel, .sentinel, .pinned], laidTests := true, laidLooks := .later }
def LabelOnlyCardSaid : Prop := Claim7.holds Tryd.pinned (.plain (OpenSpec.ofChange labelOnlySpec)) labelOnlyCard

/-- THE TIED CARD OF 'lychgatelaw01.LabelFlows'. -/
def labelFlowsCard : Claim7 := { stood := { row := labelFlowsRow, standIns := [], harness := (true, "6134e00368b240ea3aaca99a2e5d3708c6be197d3eafe3c5a344d7ce08190c18"), looks := true }, kinds := [], alts := [], laidByText := true, laidKinds := [.data, .data, .data, .data, .sentinel, .sentinel, .pinned], laidTests := true, laidLooks := .later }
def LabelFlowsCardSaid : Prop := Claim7.holds Tryd.pinned (.plain (OpenSpec.ofChange labelFlowsSpec)) labelFlowsCard

/-- THE TIED CARD OF 'lychgatelaw01.LabelLeast'. -/
def labelLeastCard : Claim7 := { stood := { row := labelLeastRow, standIns := [], harness := (true, "6134e00368b240ea3aaca99a2e5d3708c6be197d3eafe3c5a344d7ce08190c18"), looks := true }, kinds := [], alts := [], laidByText := true, laidKinds := [.data, .data, .data, .data, .sentinel, .sentinel, .pinned], laidTests := true, laidLooks := .later }
def LabelLeastCardSaid : Prop := Claim7.holds Tryd.pinned (.plain (OpenSpec.ofChange labelLeastSpec)) labelLeastCard

/-- THE TIED CARD OF 'lychgatelaw01.LabelTeams'. -/
def labelTeamsCard : Claim7 := { stood := { row := labelTeamsRow, standIns := [], harness := (true, "6134e00368b240ea3aaca99a2e5d3708c6be197d3eafe3c5a344d7ce08190c18"), looks := true }, kinds := [], alts := [], laidByText := true, laidKinds := [.data, .data, .data, .data, .sentinel, .sentinel, .pinned], laidTests := true, laidLooks := .later }
def LabelTeamsCardSaid : Prop := Claim7.holds Tryd.pinned (.plain (OpenSpec.ofChange labelTeamsSpec)) labelTeamsCard

/-- THE TIED CARD OF 'lychgatelaw01.LabelMixed'. -/
def labelMixedCard : Claim7 := { stood := { row := labelMixedRow, standIns := [], harness := (true, "6134e00368b240ea3aaca99a2e5d3708c6be197d3eafe3c5a344d7ce08190c18"), looks := true }, kinds := [], alts := [], laidByText := true, laidKinds := [.data, .data, .data, .data, .sentinel, .sentinel, .pinned], laidTests := true, laidLooks := .later }
def LabelMixedCardSaid : Prop := Claim7.holds Tryd.pinned (.plain (OpenSpec.ofChange labelMixedSpec)) labelMixedCard

/-- THE TIED CARD OF 'lychgatelaw01.LabelAll'. -/
def labelAllCard : Claim7 := { stood := { row := labelAllRow, standIns := [], harness := (true, "6134e00368b240ea3aaca99a2e5d3708c6be197d3eafe3c5a344d7ce08190c18"), looks := true }, kinds := [], alts := [], laidByText := true, laidKinds := [.data, .data, .data, .data, .sentinel, .sentinel, .pinned], laidTests := true, laidLooks := .later }
def LabelAllCardSaid : Prop := Claim7.holds Tryd.pinned (.plain (OpenSpec.ofChange labelAllSpec)) labelAllCard

/-- THE SECOND FORM's CARD OF 'lychgatelaw21.WindowPlans'. -/
def windowPlansUptoCard : Claim7 := { stood := { row := windowPlansUptoRow, standIns := [], harness := (true, "6134e00368b240ea3aaca99a2e5d3708c6be197d3eafe3c5a344d7ce08190c18"), looks := true }, kinds := [], alts := [], laidByText := true, laidKinds := [.data, .data, .data, .sentinel, .sentinel], laidTests := true, laidLooks := .later }
def WindowPlansUptoCardSaid : Prop := Claim7.holds Tryd.pinned (.plain (OpenSpec.upto windowPlansSpec)) windowPlansUptoCard

/-- THE SECOND FORM's CARD OF 'lychgatelaw21.WindowNext'. -/
def windowNextUptoCard : Claim7 := { stood := { row := windowNextUptoRow, standIns := [], harness := (true, "6134e00368b240ea3aaca99a2e5d3708c6be197d3eafe3c5a344d7ce08190c18"), looks := true }, kinds := [], alts := [], laidByText := true, laidKinds := [.data, .data, .data, .sentinel, .sentinel], laidTests := true, laidLooks := .later }
def WindowNextUptoCardSaid : Prop := Claim7.holds Tryd.pinned (.plain (OpenSpec.upto windowNextSpec)) windowNextUptoCard

/-- THE SECOND FORM's CARD OF 'lychgatelaw21.WindowBack'. -/
def windowBackUptoCard : Claim7 := { stood := { row := windowBackUptoRow, standIns := [], harness := (true, "6134e00368b240ea3aaca99a2e5d3708c6be197d3eafe3c5a344d7ce08190c18"), looks := true }, kinds := [], alts := [], laidByText := true, laidKinds := [.data, .data, .data, .sentinel, .sentinel], laidTests := true, laidLooks := .later }
def WindowBackUptoCardSaid : Prop := Claim7.holds Tryd.pinned (.plain (OpenSpec.upto windowBackSpec)) windowBackUptoCard

/-- THE SECOND FORM's CARD OF 'lychgatelaw21.WindowOne'. -/
def windowOneUptoCard : Claim7 := { stood := { row := windowOneUptoRow, standIns := [], harness := (true, "6134e00368b240ea3aaca99a2e5d3708c6be197d3eafe3c5a344d7ce08190c18"), looks := true }, kinds := [], alts := [], laidByText := true, laidKinds := [.data, .data, .data, .sentinel, .sentinel], laidTests := true, laidLooks := .later }
def WindowOneUptoCardSaid : Prop := Claim7.holds Tryd.pinned (.plain (OpenSpec.upto windowOneSpec)) windowOneUptoCard

/-- THE SECOND FORM's CARD OF 'lychgatelaw21.WindowCounts'. -/
def windowCountsUptoCard : Claim7 := { stood := { row := windowCountsUptoRow, standIns := [], harness := (true, "6134e00368b240ea3aaca99a2e5d3708c6be197d3eafe3c5a344d7ce08190c18"), looks := true }, kinds := [], alts := [], laidByText := true, laidKinds := [.data, .data, .data, .sentinel, .sentinel], laidTests := true, laidLooks := .later }
def WindowCountsUptoCardSaid : Prop := Claim7.holds Tryd.pinned (.plain (OpenSpec.upto windowCountsSpec)) windowCountsUptoCard

/-- THE SECOND FORM's CARD OF 'lychgatelaw21.WindowIs'. -/
def windowIsUptoCard : Claim7 := { stood := { row := windowIsUptoRow, standIns := [], harness := (true, "6134e00368b240ea3aaca99a2e5d3708c6be197d3eafe3c5a344d7ce08190c18"), looks := true }, kinds := [], alts := [], laidByText := true, laidKinds := [.data, .data, .data, .sentinel, .sentinel], laidTests := true, laidLooks := .later }
def WindowIsUptoCardSaid : Prop := Claim7.holds Tryd.pinned (.plain (OpenSpec.upto windowIsSpec)) windowIsUptoCard

/-- THE SECOND FORM's CARD OF 'lychgatelaw21.WindowRounds'. -/
def windowRoundsUptoCard : Claim7 := { stood := { row := windowRoundsUptoRow, standIns := [], harness := (true, "6134e00368b240ea3aaca99a2e5d3708c6be197d3eafe3c5a344d7ce08190c18"), looks := true }, kinds := [], alts := [], laidByText := true, laidKinds := [.data, .data, .data, .sentinel, .sentinel], laidTests := true, laidLooks := .later }
def WindowRoundsUptoCardSaid : Prop := Claim7.holds Tryd.pinned (.plain (OpenSpec.upto windowRoundsSpec)) windowRoundsUptoCard

/-- THE SECOND FORM's CARD OF 'lychgatelaw01.LabelTexts'. -/
def labelTextsUptoCard : Claim7 := { stood := { row := labelTextsUptoRow, standIns := [], harness := (true, "6134e00368b240ea3aaca99a2e5d3708c6be197d3eafe3c5a344d7ce08190c18"), looks := true }, kinds := [], alts := [], laidByText := true, laidKinds := [.data, .data, .data, .data, .sentinel, .sentinel, .pinned], laidTests := true, laidLooks := .later }
def LabelTextsUptoCardSaid : Prop := Claim7.holds Tryd.pinned (.plain (OpenSpec.upto labelTextsSpec)) labelTextsUptoCard

/-- THE SECOND FORM's CARD OF 'lychgatelaw01.LabelOrder'. -/
def labelOrderUptoCard : Claim7 := { stood := { row := labelOrderUptoRow, standIns := [], harness := (true, "6134e00368b240ea3aaca99a2e5d3708c6be197d3eafe3c5a344d7ce08190c18"), looks := true }, kinds := [], alts := [], laidByText := true, laidKinds := [.data, .data, .data, .data, .sentinel, .sentinel, .pinned], laidTests := true, laidLooks := .later }
def LabelOrderUptoCardSaid : Prop := Claim7.holds Tryd.pinned (.plain (OpenSpec.upto labelOrderSpec)) labelOrderUptoCard

/-- THE SECOND FORM's CARD OF 'lychgatelaw01.LabelOnly'. -/
def labelOnlyUptoCard : Claim7 := { stood := { row := labelOnlyUptoRow, standIns := [], harness := (true, "6134e00368b240ea3aaca99a2e5d3708c6be197d3eafe3c5a344d7ce08190c18"), looks := true }, kinds := [], alts := [], laidByText := true, laidKinds := [.data, .data, .data, .data, .sentinel, .sentinel, .pinned], laidTests := true, laidLooks := .later }
def LabelOnlyUptoCardSaid : Prop := Claim7.holds Tryd.pinned (.plain (OpenSpec.upto labelOnlySpec)) labelOnlyUptoCard

/-- THE SECOND FORM's CARD OF 'lychgatelaw01.LabelFlows'. -/
def labelFlowsUptoCard : Claim7 := { stood := { row := labelFlowsUptoRow, standIns := [], harness := (true, "6134e00368b240ea3aaca99a2e5d3708c6be197d3eafe3c5a344d7ce08190c18"), looks := true }, kinds := [], alts := [], laidByText := true, laidKinds := [.data, .data, .data, .data, .sentinel, .sentinel, .pinned], laidTests := true, laidLooks := .later }
def LabelFlowsUptoCardSaid : Prop := Claim7.holds Tryd.pinned (.plain (OpenSpec.upto labelFlowsSpec)) labelFlowsUptoCard

/-- THE SECOND FORM's CARD OF 'lychgatelaw01.LabelLeast'. -/
def labelLeastUptoCard : Claim7 := { stood := { row := labelLeastUptoRow, standIns := [], harness := (true, "6134e00368b240ea3aaca99a2e5d3708c6be197d3eafe3c5a344d7ce08190c18"), looks := true }, kinds := [], alts := [], laidByText := true, laidKinds := [.data, .data, .data, .data, .sentinel, .sentinel, .pinned], laidTests := true, laidLooks := .later }
def LabelLeastUptoCardSaid : Prop := Claim7.holds Tryd.pinned (.plain (OpenSpec.upto labelLeastSpec)) labelLeastUptoCard

/-- THE SECOND FORM's CARD OF 'lychgatelaw01.LabelTeams'. -/
def labelTeamsUptoCard : Claim7 := { stood := { row := labelTeamsUptoRow, standIns := [], harness := (true, "6134e00368b240ea3aaca99a2e5d3708c6be197d3eafe3c5a344d7ce08190c18"), looks := true }, kinds := [], alts := [], laidByText := true, laidKinds := [.data, .data, .data, .data, .sentinel, .sentinel, .pinned], laidTests := true, laidLooks := .later }
def LabelTeamsUptoCardSaid : Prop := Claim7.holds Tryd.pinned (.plain (OpenSpec.upto labelTeamsSpec)) labelTeamsUptoCard

/-- THE SECOND FORM's CARD OF 'lychgatelaw01.LabelMixed'. -/
def labelMixedUptoCard : Claim7 := { stood := { row := labelMixedUptoRow, standIns := [], harness := (true, "6134e00368b240ea3aaca99a2e5d3708c6be197d3eafe3c5a344d7ce08190c18"), looks := true }, kinds := [], alts := [], laidByText := true, laidKinds := [.data, .data, .data, .data, .sentinel, .sentinel, .pinned], laidTests := true, laidLooks := .later }
def LabelMixedUptoCardSaid : Prop := Claim7.holds Tryd.pinned (.plain (OpenSpec.upto labelMixedSpec)) labelMixedUptoCard

/-- THE SECOND FORM's CARD OF 'lychgatelaw01.LabelAll'. -/
def labelAllUptoCard : Claim7 := { stood := { row := labelAllUptoRow, standIns := [], harness := (true, "6134e00368b240ea3aaca99a2e5d3708c6be197d3eafe3c5a344d7ce08190c18"), looks := true }, kinds := [], alts := [], laidByText := true, laidKinds := [.data, .data, .data, .data, .sentinel, .sentinel, .pinned], laidTests := true, laidLooks := .later }
def LabelAllUptoCardSaid : Prop := Claim7.holds Tryd.pinned (.plain (OpenSpec.upto labelAllSpec)) labelAllUptoCard
end Rows
end Go.Proofs.YtfppagcifcppaaaDoor
