/-
  DERIVED. GIVEN WITH THE SEED: THE CARDS: each row of YtmnmmalffpimeaaDoorRows.lean that lists a variable, with what it lists TIED to the program's text (the seventh form; the later family's looks); each row that meets fmt, with fmt's text TOLD by the authors' own Lean function (tested against real Go, not proved from fmt's source: count such statements apart). THE CARD IS WHAT COUNTS. Prove the row's statement (the work); the ties are given (YtmnmmalffpimeaaDoorTie.lean); close each card by the builder's one call (the guide's Derived/Test/ToyasCard.lean, 'card_holds'). Laid BY PROGRAM, IN A SANDBOX (cutbox-door.mjs). By AI agents, Wed Nov 11 2026. No macro, syntax, notation, axiom, sorry.
-/
import Derived.Test.YtmnmmalffpimeaaDoorRows
import GoSem.ClaimSeven
namespace Go.Proofs.YtmnmmalffpimeaaDoor
namespace Rows

/-- THE TIED CARD OF 'edenlaw16.MatOnes'. -/
def matOnesCard : Claim7 := { stood := { row := matOnesRow, standIns := [], harness := (true, "0d29b090e05cb81b496dfc05d2e35fa459058c2dddd80630a3373447359132f3"), looks := true }, kinds := [], alts := [], laidByText := true, laidKinds := [.handle, .sentinel, .sentinel, .sentinel, .sentinel, .sentinel, .sentinel, .sentinel, .sentinel, .sentinel, .sentinel, .sentinel, .sentinel], laidTests := true, laidLooks := .later }
def MatOnesCardSaid : Prop := Claim7.holds Tryd.pinned (.plain (OpenSpec.ofChange matOnesSpec)) matOnesCard

/-- THE TIED CARD OF 'edenlaw17.CountWords'. -/
def countWordsCard : Claim7 := { stood := { row := countWordsRow, standIns := [], harness := (true, "0d29b090e05cb81b496dfc05d2e35fa459058c2dddd80630a3373447359132f3"), looks := true }, kinds := [], alts := [], laidByText := true, laidKinds := [.handle, .sentinel, .sentinel, .sentinel, .sentinel, .sentinel, .sentinel, .sentinel, .sentinel, .sentinel, .sentinel, .sentinel, .sentinel], laidTests := true, laidLooks := .later }
def CountWordsCardSaid : Prop := Claim7.holds Tryd.pinned (.plain (OpenSpec.ofChange countWordsSpec)) countWordsCard

/-- THE TIED CARD OF 'edenlaw16.MatAll'. -/
def matAllCard : Claim7 := { stood := { row := matAllRow, standIns := [], harness := (true, "0d29b090e05cb81b496dfc05d2e35fa459058c2dddd80630a3373447359132f3"), looks := true }, kinds := [], alts := [], laidByText := true, laidKinds := [.handle, .sentinel, .sentinel, .sentinel, .sentinel, .sentinel, .sentinel, .sentinel, .sentinel, .sentinel, .sentinel, .sentinel, .sentinel], laidTests := true, laidLooks := .later }
def MatAllCardSaid : Prop := Claim7.holds Tryd.pinned (.plain (OpenSpec.ofChange matAllSpec)) matAllCard

/-- THE TIED CARD OF 'edenlaw17.CountRings'. -/
def countRingsCard : Claim7 := { stood := { row := countRingsRow, standIns := [], harness := (true, "0d29b090e05cb81b496dfc05d2e35fa459058c2dddd80630a3373447359132f3"), looks := true }, kinds := [], alts := [], laidByText := true, laidKinds := [.handle, .sentinel, .sentinel, .sentinel, .sentinel, .sentinel, .sentinel, .sentinel, .sentinel, .sentinel, .sentinel, .sentinel, .sentinel], laidTests := true, laidLooks := .later }
def CountRingsCardSaid : Prop := Claim7.holds Tryd.pinned (.plain (OpenSpec.ofChange countRingsSpec)) countRingsCard

/-- THE TIED CARD OF 'edenlaw17.CountFairs'. -/
def countFairsCard : Claim7 := { stood := { row := countFairsRow, standIns := [], harness := (true, "0d29b090e05cb81b496dfc05d2e35fa459058c2dddd80630a3373447359132f3"), looks := true }, kinds := [], alts := [], laidByText := true, laidKinds := [.handle, .sentinel, .sentinel, .sentinel, .sentinel, .sentinel, .sentinel, .sentinel, .sentinel, .sentinel, .sentinel, .sentinel, .sentinel], laidTests := true, laidLooks := .later }
def CountFairsCardSaid : Prop := Claim7.holds Tryd.pinned (.plain (OpenSpec.ofChange countFairsSpec)) countFairsCard

/-- THE TIED CARD OF 'edenlaw02.NatDivides'. -/
def natDividesCard : Claim7 := { stood := { row := natDividesRow, standIns := [], harness := (true, "0d29b090e05cb81b496dfc05d2e35fa459058c2dddd80630a3373447359132f3"), looks := true }, kinds := [], alts := [], laidByText := true, laidKinds := [.data, .handle, .sentinel, .sentinel, .sentinel, .sentinel, .sentinel, .sentinel, .sentinel, .sentinel, .sentinel, .sentinel, .sentinel, .sentinel, .pinned], laidTests := true, laidLooks := .later }
def NatDividesCardSaid : Prop := Claim7.holds Tryd.pinned (.plain (OpenSpec.ofChange natDividesSpec)) natDividesCard

/-- THE TIED CARD OF 'edenlaw02.NatBack'. -/
def natBackCard : Claim7 := { stood := { row := natBackRow, standIns := [], harness := (true, "0d29b090e05cb81b496dfc05d2e35fa459058c2dddd80630a3373447359132f3"), looks := true }, kinds := [], alts := [], laidByText := true, laidKinds := [.data, .handle, .sentinel, .sentinel, .sentinel, .sentinel, .sentinel, .sentinel, .sentinel, .sentinel, .sentinel, .sentinel, .sentinel, .sentinel, .pinned], laidTests := true, laidLooks := .later }
def NatBackCardSaid : Prop := Claim7.holds Tryd.pinned (.plain (OpenSpec.ofChange natBackSpec)) natBackCard

/-- THE TIED CARD OF 'edenlaw02.NatPowers'. -/
def natPowersCard : Claim7 := { stood := { row := natPowersRow, standIns := [], harness := (true, "0d29b090e05cb81b496dfc05d2e35fa459058c2dddd80630a3373447359132f3"), looks := true }, kinds := [], alts := [], laidByText := true, laidKinds := [.data, .handle, .sentinel, .sentinel, .sentinel, .sentinel, .sentinel, .sentinel, .sentinel, .sentinel, .sentinel, .sentinel, .sentinel, .sentinel, .pinned], laidTests := true, laidLooks := .later }
def NatPowersCardSaid : Prop := Claim7.holds Tryd.pinned (.plain (OpenSpec.ofChange natPowersSpec)) natPowersCard

/-- THE TIED CARD OF 'edenlaw02.NatAll'. -/
def natAllCard : Claim7 := { stood := { row := natAllRow, standIns := [], harness := (true, "0d29b090e05cb81b496dfc05d2e35fa459058c2dddd80630a3373447359132f3"), looks := true }, kinds := [], alts := [], laidByText := true, laidKinds := [.data, .handle, .sentinel, .sentinel, .sentinel, .sentinel, .sentinel, .sentinel, .sentinel, .sentinel, .sentinel, .sentinel, .sentinel, .sentinel, .pinned], laidTests := true, laidLooks := .later }
def NatAllCardSaid : Prop := Claim7.holds Tryd.pinned (.plain (OpenSpec.ofChange natAllSpec)) natAllCard

/-- THE SECOND FORM's CARD OF 'edenlaw16.MatOnes'. -/
def matOnesUptoCard : Claim7 := { stood := { row := matOnesUptoRow, standIns := [], harness := (true, "0d29b090e05cb81b496dfc05d2e35fa459058c2dddd80630a3373447359132f3"), looks := true }, kinds := [], alts := [], laidByText := true, laidKinds := [.handle, .sentinel, .sentinel, .sentinel, .sentinel, .sentinel, .sentinel, .sentinel, .sentinel, .sentinel, .sentinel, .sentinel, .sentinel], laidTests := true, laidLooks := .later }
def MatOnesUptoCardSaid : Prop := Claim7.holds Tryd.pinned (.plain (OpenSpec.upto matOnesSpec)) matOnesUptoCard

/-- THE SECOND FORM's CARD OF 'edenlaw17.CountWords'. -/
def countWordsUptoCard : Claim7 := { stood := { row := countWordsUptoRow, standIns := [], harness := (true, "0d29b090e05cb81b496dfc05d2e35fa459058c2dddd80630a3373447359132f3"), looks := true }, kinds := [], alts := [], laidByText := true, laidKinds := [.handle, .sentinel, .sentinel, .sentinel, .sentinel, .sentinel, .sentinel, .sentinel, .sentinel, .sentinel, .sentinel, .sentinel, .sentinel], laidTests := true, laidLooks := .later }
def CountWordsUptoCardSaid : Prop := Claim7.holds Tryd.pinned (.plain (OpenSpec.upto countWordsSpec)) countWordsUptoCard

/-- THE SECOND FORM's CARD OF 'edenlaw16.MatAll'. -/
def matAllUptoCard : Claim7 := { stood := { row := matAllUptoRow, standIns := [], harness := (true, "0d29b090e05cb81b496dfc05d2e35fa459058c2dddd80630a3373447359132f3"), looks := true }, kinds := [], alts := [], laidByText := true, laidKinds := [.handle, .sentinel, .sentinel, .sentinel, .sentinel, .sentinel, .sentinel, .sentinel, .sentinel, .sentinel, .sentinel, .sentinel, .sentinel], laidTests := true, laidLooks := .later }
def MatAllUptoCardSaid : Prop := Claim7.holds Tryd.pinned (.plain (OpenSpec.upto matAllSpec)) matAllUptoCard

/-- THE SECOND FORM's CARD OF 'edenlaw17.CountRings'. -/
def countRingsUptoCard : Claim7 := { stood := { row := countRingsUptoRow, standIns := [], harness := (true, "0d29b090e05cb81b496dfc05d2e35fa459058c2dddd80630a3373447359132f3"), looks := true }, kinds := [], alts := [], laidByText := true, laidKinds := [.handle, .sentinel, .sentinel, .sentinel, .sentinel, .sentinel, .sentinel, .sentinel, .sentinel, .sentinel, .sentinel, .sentinel, .sentinel], laidTests := true, laidLooks := .later }
def CountRingsUptoCardSaid : Prop := Claim7.holds Tryd.pinned (.plain (OpenSpec.upto countRingsSpec)) countRingsUptoCard

/-- THE SECOND FORM's CARD OF 'edenlaw17.CountFairs'. -/
def countFairsUptoCard : Claim7 := { stood := { row := countFairsUptoRow, standIns := [], harness := (true, "0d29b090e05cb81b496dfc05d2e35fa459058c2dddd80630a3373447359132f3"), looks := true }, kinds := [], alts := [], laidByText := true, laidKinds := [.handle, .sentinel, .sentinel, .sentinel, .sentinel, .sentinel, .sentinel, .sentinel, .sentinel, .sentinel, .sentinel, .sentinel, .sentinel], laidTests := true, laidLooks := .later }
def CountFairsUptoCardSaid : Prop := Claim7.holds Tryd.pinned (.plain (OpenSpec.upto countFairsSpec)) countFairsUptoCard

/-- THE SECOND FORM's CARD OF 'edenlaw02.NatDivides'. -/
def natDividesUptoCard : Claim7 := { stood := { row := natDividesUptoRow, standIns := [], harness := (true, "0d29b090e05cb81b496dfc05d2e35fa459058c2dddd80630a3373447359132f3"), looks := true }, kinds := [], alts := [], laidByText := true, laidKinds := [.data, .handle, .sentinel, .sentinel, .sentinel, .sentinel, .sentinel, .sentinel, .sentinel, .sentinel, .sentinel, .sentinel, .sentinel, .sentinel, .pinned], laidTests := true, laidLooks := .later }
def NatDividesUptoCardSaid : Prop := Claim7.holds Tryd.pinned (.plain (OpenSpec.upto natDividesSpec)) natDividesUptoCard

/-- THE SECOND FORM's CARD OF 'edenlaw02.NatBack'. -/
def natBackUptoCard : Claim7 := { stood := { row := natBackUptoRow, standIns := [], harness := (true, "0d29b090e05cb81b496dfc05d2e35fa459058c2dddd80630a3373447359132f3"), looks := true }, kinds := [], alts := [], laidByText := true, laidKinds := [.data, .handle, .sentinel, .sentinel, .sentinel, .sentinel, .sentinel, .sentinel, .sentinel, .sentinel, .sentinel, .sentinel, .sentinel, .sentinel, .pinned], laidTests := true, laidLooks := .later }
def NatBackUptoCardSaid : Prop := Claim7.holds Tryd.pinned (.plain (OpenSpec.upto natBackSpec)) natBackUptoCard

/-- THE SECOND FORM's CARD OF 'edenlaw02.NatPowers'. -/
def natPowersUptoCard : Claim7 := { stood := { row := natPowersUptoRow, standIns := [], harness := (true, "0d29b090e05cb81b496dfc05d2e35fa459058c2dddd80630a3373447359132f3"), looks := true }, kinds := [], alts := [], laidByText := true, laidKinds := [.data, .handle, .sentinel, .sentinel, .sentinel, .sentinel, .sentinel, .sentinel, .sentinel, .sentinel, .sentinel, .sentinel, .sentinel, .sentinel, .pinned], laidTests := true, laidLooks := .later }
def NatPowersUptoCardSaid : Prop := Claim7.holds Tryd.pinned (.plain (OpenSpec.upto natPowersSpec)) natPowersUptoCard

/-- THE SECOND FORM's CARD OF 'edenlaw02.NatAll'. -/
def natAllUptoCard : Claim7 := { stood := { row := natAllUptoRow, standIns := [], harness := (true, "0d29b090e05cb81b496dfc05d2e35fa459058c2dddd80630a3373447359132f3"), looks := true }, kinds := [], alts := [], laidByText := true, laidKinds := [.data, .handle, .sentinel, .sentinel, .sentinel, .sentinel, .sentinel, .sentinel, .sentinel, .sentinel, .sentinel, .sentinel, .sentinel, .sentinel, .pinned], laidTests := true, laidLooks := .later }
def NatAllUptoCardSaid : Prop := Claim7.holds Tryd.pinned (.plain (OpenSpec.upto natAllSpec)) natAllUptoCard
end Rows
end Go.Proofs.YtmnmmalffpimeaaDoor
