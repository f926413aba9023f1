/-
  DERIVED. GIVEN WITH THE SEED: THE CARDS: each row of YtefhlonipglboaaDoorRows.lean that lists a variable, with what it lists TIED to the program's text (the seventh form; the later family's looks); each row that meets fmt, with fmt's text TOLD by the authors' own Lean function (tested against real Go, not proved from fmt's source: count such statements apart). THE CARD IS WHAT COUNTS. Prove the row's statement (the work); the ties are given (YtefhlonipglboaaDoorTie.lean); close each card by the builder's one call (the guide's Derived/Test/ToyasCard.lean, 'card_holds'). Laid BY PROGRAM, IN A SANDBOX (cutbox-door.mjs). By AI agents, Wed Nov 11 2026. No macro, syntax, notation, axiom, sorry.
-/
import Derived.Test.YtefhlonipglboaaDoorRows
import GoSem.ClaimSeven
namespace Go.Proofs.YtefhlonipglboaaDoor
namespace Rows

/-- THE TIED CARD OF 'edenlaw08.OverBefore'. -/
def overBeforeCard : Claim7 := { stood := { row := overBeforeRow, standIns := [], harness := (true, "31daa954f3a59e1a56c9ae43fe3bf0da3223af61fe99710b3995d81e0d22735f"), looks := true }, kinds := [], alts := [], laidByText := true, laidKinds := [.handle, .sentinel, .sentinel, .sentinel, .sentinel, .sentinel, .sentinel, .sentinel, .sentinel, .sentinel, .sentinel, .sentinel, .sentinel], laidTests := true, laidLooks := .later }
def OverBeforeCardSaid : Prop := Claim7.holds Tryd.pinned (.plain (OpenSpec.ofChange overBeforeSpec)) overBeforeCard

/-- THE TIED CARD OF 'edenlaw08.OverEdges'. -/
def overEdgesCard : Claim7 := { stood := { row := overEdgesRow, standIns := [], harness := (true, "31daa954f3a59e1a56c9ae43fe3bf0da3223af61fe99710b3995d81e0d22735f"), looks := true }, kinds := [], alts := [], laidByText := true, laidKinds := [.handle, .sentinel, .sentinel, .sentinel, .sentinel, .sentinel, .sentinel, .sentinel, .sentinel, .sentinel, .sentinel, .sentinel, .sentinel], laidTests := true, laidLooks := .later }
def OverEdgesCardSaid : Prop := Claim7.holds Tryd.pinned (.plain (OpenSpec.ofChange overEdgesSpec)) overEdgesCard

/-- THE TIED CARD OF 'edenlaw08.OverPaths'. -/
def overPathsCard : Claim7 := { stood := { row := overPathsRow, standIns := [], harness := (true, "31daa954f3a59e1a56c9ae43fe3bf0da3223af61fe99710b3995d81e0d22735f"), looks := true }, kinds := [], alts := [], laidByText := true, laidKinds := [.handle, .sentinel, .sentinel, .sentinel, .sentinel, .sentinel, .sentinel, .sentinel, .sentinel, .sentinel, .sentinel, .sentinel, .sentinel], laidTests := true, laidLooks := .later }
def OverPathsCardSaid : Prop := Claim7.holds Tryd.pinned (.plain (OpenSpec.ofChange overPathsSpec)) overPathsCard

/-- THE TIED CARD OF 'edenlaw04.RuleChecks'. -/
def ruleChecksCard : Claim7 := { stood := { row := ruleChecksRow, standIns := [], harness := (true, "31daa954f3a59e1a56c9ae43fe3bf0da3223af61fe99710b3995d81e0d22735f"), looks := true }, kinds := [], alts := [], laidByText := true, laidKinds := [.handle, .sentinel, .sentinel, .sentinel, .sentinel, .sentinel, .sentinel, .sentinel, .sentinel, .sentinel, .sentinel, .sentinel, .sentinel], laidTests := true, laidLooks := .later }
def RuleChecksCardSaid : Prop := Claim7.holds Tryd.pinned (.plain (OpenSpec.ofChange ruleChecksSpec)) ruleChecksCard

/-- THE TIED CARD OF 'edenlaw04.RuleSteps'. -/
def ruleStepsCard : Claim7 := { stood := { row := ruleStepsRow, standIns := [], harness := (true, "31daa954f3a59e1a56c9ae43fe3bf0da3223af61fe99710b3995d81e0d22735f"), looks := true }, kinds := [], alts := [], laidByText := true, laidKinds := [.handle, .sentinel, .sentinel, .sentinel, .sentinel, .sentinel, .sentinel, .sentinel, .sentinel, .sentinel, .sentinel, .sentinel, .sentinel], laidTests := true, laidLooks := .later }
def RuleStepsCardSaid : Prop := Claim7.holds Tryd.pinned (.plain (OpenSpec.ofChange ruleStepsSpec)) ruleStepsCard

/-- THE TIED CARD OF 'edenlaw10.SubsetOntos'. -/
def subsetOntosCard : Claim7 := { stood := { row := subsetOntosRow, standIns := [], harness := (true, "31daa954f3a59e1a56c9ae43fe3bf0da3223af61fe99710b3995d81e0d22735f"), looks := true }, kinds := [], alts := [], laidByText := true, laidKinds := [.handle, .sentinel, .sentinel, .sentinel, .sentinel, .sentinel, .sentinel, .sentinel, .sentinel, .sentinel, .sentinel, .sentinel, .sentinel], laidTests := true, laidLooks := .later }
def SubsetOntosCardSaid : Prop := Claim7.holds Tryd.pinned (.plain (OpenSpec.ofChange subsetOntosSpec)) subsetOntosCard

/-- THE TIED CARD OF 'edenlaw04.RuleCodes'. -/
def ruleCodesCard : Claim7 := { stood := { row := ruleCodesRow, standIns := [], harness := (true, "31daa954f3a59e1a56c9ae43fe3bf0da3223af61fe99710b3995d81e0d22735f"), looks := true }, kinds := [], alts := [], laidByText := true, laidKinds := [.handle, .sentinel, .sentinel, .sentinel, .sentinel, .sentinel, .sentinel, .sentinel, .sentinel, .sentinel, .sentinel, .sentinel, .sentinel], laidTests := true, laidLooks := .later }
def RuleCodesCardSaid : Prop := Claim7.holds Tryd.pinned (.plain (OpenSpec.ofChange ruleCodesSpec)) ruleCodesCard

/-- THE TIED CARD OF 'edenlaw10.SubsetWalks'. -/
def subsetWalksCard : Claim7 := { stood := { row := subsetWalksRow, standIns := [], harness := (true, "31daa954f3a59e1a56c9ae43fe3bf0da3223af61fe99710b3995d81e0d22735f"), looks := true }, kinds := [], alts := [], laidByText := true, laidKinds := [.handle, .sentinel, .sentinel, .sentinel, .sentinel, .sentinel, .sentinel, .sentinel, .sentinel, .sentinel, .sentinel, .sentinel, .sentinel], laidTests := true, laidLooks := .later }
def SubsetWalksCardSaid : Prop := Claim7.holds Tryd.pinned (.plain (OpenSpec.ofChange subsetWalksSpec)) subsetWalksCard

/-- THE TIED CARD OF 'edenlaw03.WordAll'. -/
def wordAllCard : Claim7 := { stood := { row := wordAllRow, standIns := [], harness := (true, "31daa954f3a59e1a56c9ae43fe3bf0da3223af61fe99710b3995d81e0d22735f"), looks := true }, kinds := [], alts := [], laidByText := true, laidKinds := [.handle, .sentinel, .sentinel, .sentinel, .sentinel, .sentinel, .sentinel, .sentinel, .sentinel, .sentinel, .sentinel, .sentinel, .sentinel], laidTests := true, laidLooks := .later }
def WordAllCardSaid : Prop := Claim7.holds Tryd.pinned (.plain (OpenSpec.ofChange wordAllSpec)) wordAllCard

/-- THE SECOND FORM's CARD OF 'edenlaw08.OverBefore'. -/
def overBeforeUptoCard : Claim7 := { stood := { row := overBeforeUptoRow, standIns := [], harness := (true, "31daa954f3a59e1a56c9ae43fe3bf0da3223af61fe99710b3995d81e0d22735f"), looks := true }, kinds := [], alts := [], laidByText := true, laidKinds := [.handle, .sentinel, .sentinel, .sentinel, .sentinel, .sentinel, .sentinel, .sentinel, .sentinel, .sentinel, .sentinel, .sentinel, .sentinel], laidTests := true, laidLooks := .later }
def OverBeforeUptoCardSaid : Prop := Claim7.holds Tryd.pinned (.plain (OpenSpec.upto overBeforeSpec)) overBeforeUptoCard

/-- THE SECOND FORM's CARD OF 'edenlaw08.OverEdges'. -/
def overEdgesUptoCard : Claim7 := { stood := { row := overEdgesUptoRow, standIns := [], harness := (true, "31daa954f3a59e1a56c9ae43fe3bf0da3223af61fe99710b3995d81e0d22735f"), looks := true }, kinds := [], alts := [], laidByText := true, laidKinds := [.handle, .sentinel, .sentinel, .sentinel, .sentinel, .sentinel, .sentinel, .sentinel, .sentinel, .sentinel, .sentinel, .sentinel, .sentinel], laidTests := true, laidLooks := .later }
def OverEdgesUptoCardSaid : Prop := Claim7.holds Tryd.pinned (.plain (OpenSpec.upto overEdgesSpec)) overEdgesUptoCard

/-- THE SECOND FORM's CARD OF 'edenlaw08.OverPaths'. -/
def overPathsUptoCard : Claim7 := { stood := { row := overPathsUptoRow, standIns := [], harness := (true, "31daa954f3a59e1a56c9ae43fe3bf0da3223af61fe99710b3995d81e0d22735f"), looks := true }, kinds := [], alts := [], laidByText := true, laidKinds := [.handle, .sentinel, .sentinel, .sentinel, .sentinel, .sentinel, .sentinel, .sentinel, .sentinel, .sentinel, .sentinel, .sentinel, .sentinel], laidTests := true, laidLooks := .later }
def OverPathsUptoCardSaid : Prop := Claim7.holds Tryd.pinned (.plain (OpenSpec.upto overPathsSpec)) overPathsUptoCard

/-- THE SECOND FORM's CARD OF 'edenlaw04.RuleChecks'. -/
def ruleChecksUptoCard : Claim7 := { stood := { row := ruleChecksUptoRow, standIns := [], harness := (true, "31daa954f3a59e1a56c9ae43fe3bf0da3223af61fe99710b3995d81e0d22735f"), looks := true }, kinds := [], alts := [], laidByText := true, laidKinds := [.handle, .sentinel, .sentinel, .sentinel, .sentinel, .sentinel, .sentinel, .sentinel, .sentinel, .sentinel, .sentinel, .sentinel, .sentinel], laidTests := true, laidLooks := .later }
def RuleChecksUptoCardSaid : Prop := Claim7.holds Tryd.pinned (.plain (OpenSpec.upto ruleChecksSpec)) ruleChecksUptoCard

/-- THE SECOND FORM's CARD OF 'edenlaw04.RuleSteps'. -/
def ruleStepsUptoCard : Claim7 := { stood := { row := ruleStepsUptoRow, standIns := [], harness := (true, "31daa954f3a59e1a56c9ae43fe3bf0da3223af61fe99710b3995d81e0d22735f"), looks := true }, kinds := [], alts := [], laidByText := true, laidKinds := [.handle, .sentinel, .sentinel, .sentinel, .sentinel, .sentinel, .sentinel, .sentinel, .sentinel, .sentinel, .sentinel, .sentinel, .sentinel], laidTests := true, laidLooks := .later }
def RuleStepsUptoCardSaid : Prop := Claim7.holds Tryd.pinned (.plain (OpenSpec.upto ruleStepsSpec)) ruleStepsUptoCard

/-- THE SECOND FORM's CARD OF 'edenlaw10.SubsetOntos'. -/
def subsetOntosUptoCard : Claim7 := { stood := { row := subsetOntosUptoRow, standIns := [], harness := (true, "31daa954f3a59e1a56c9ae43fe3bf0da3223af61fe99710b3995d81e0d22735f"), looks := true }, kinds := [], alts := [], laidByText := true, laidKinds := [.handle, .sentinel, .sentinel, .sentinel, .sentinel, .sentinel, .sentinel, .sentinel, .sentinel, .sentinel, .sentinel, .sentinel, .sentinel], laidTests := true, laidLooks := .later }
def SubsetOntosUptoCardSaid : Prop := Claim7.holds Tryd.pinned (.plain (OpenSpec.upto subsetOntosSpec)) subsetOntosUptoCard

/-- THE SECOND FORM's CARD OF 'edenlaw04.RuleCodes'. -/
def ruleCodesUptoCard : Claim7 := { stood := { row := ruleCodesUptoRow, standIns := [], harness := (true, "31daa954f3a59e1a56c9ae43fe3bf0da3223af61fe99710b3995d81e0d22735f"), looks := true }, kinds := [], alts := [], laidByText := true, laidKinds := [.handle, .sentinel, .sentinel, .sentinel, .sentinel, .sentinel, .sentinel, .sentinel, .sentinel, .sentinel, .sentinel, .sentinel, .sentinel], laidTests := true, laidLooks := .later }
def RuleCodesUptoCardSaid : Prop := Claim7.holds Tryd.pinned (.plain (OpenSpec.upto ruleCodesSpec)) ruleCodesUptoCard

/-- THE SECOND FORM's CARD OF 'edenlaw10.SubsetWalks'. -/
def subsetWalksUptoCard : Claim7 := { stood := { row := subsetWalksUptoRow, standIns := [], harness := (true, "31daa954f3a59e1a56c9ae43fe3bf0da3223af61fe99710b3995d81e0d22735f"), looks := true }, kinds := [], alts := [], laidByText := true, laidKinds := [.handle, .sentinel, .sentinel, .sentinel, .sentinel, .sentinel, .sentinel, .sentinel, .sentinel, .sentinel, .sentinel, .sentinel, .sentinel], laidTests := true, laidLooks := .later }
def SubsetWalksUptoCardSaid : Prop := Claim7.holds Tryd.pinned (.plain (OpenSpec.upto subsetWalksSpec)) subsetWalksUptoCard

/-- THE SECOND FORM's CARD OF 'edenlaw03.WordAll'. -/
def wordAllUptoCard : Claim7 := { stood := { row := wordAllUptoRow, standIns := [], harness := (true, "31daa954f3a59e1a56c9ae43fe3bf0da3223af61fe99710b3995d81e0d22735f"), looks := true }, kinds := [], alts := [], laidByText := true, laidKinds := [.handle, .sentinel, .sentinel, .sentinel, .sentinel, .sentinel, .sentinel, .sentinel, .sentinel, .sentinel, .sentinel, .sentinel, .sentinel], laidTests := true, laidLooks := .later }
def WordAllUptoCardSaid : Prop := Claim7.holds Tryd.pinned (.plain (OpenSpec.upto wordAllSpec)) wordAllUptoCard
end Rows
end Go.Proofs.YtefhlonipglboaaDoor
