/-
  DERIVED. GIVEN WITH THE SEED: THE CARDS: each row of YtgnaemcalomkdaaDoorRows.lean that lists a variable, with what it lists TIED to the program's text (the seventh form; the later family's looks); each row that meets fmt, with fmt's text TOLD by the authors' own Lean function (tested against real Go, not proved from fmt's source: count such statements apart). THE CARD IS WHAT COUNTS. Prove the row's statement (the work); the ties are given (YtgnaemcalomkdaaDoorTie.lean); close each card by the builder's one call (the guide's Derived/Test/ToyasCard.lean, 'card_holds'). Laid BY PROGRAM, IN A SANDBOX (cutbox-door.mjs). By AI agents, Wed Nov 11 2026. No macro, syntax, notation, axiom, sorry.
-/
import Derived.Test.YtgnaemcalomkdaaDoorRows
import GoSem.ClaimSeven
namespace Go.Proofs.YtgnaemcalomkdaaDoor
namespace Rows

/-- THE TIED CARD OF 'edenlaw07.RowSames'. -/
def rowSamesCard : Claim7 := { stood := { row := rowSamesRow, standIns := [], harness := (true, "a9addf43f738e9985bb9e2fcbd15ff340f1e0ce4c0cc3d31ae6039dd7ed8ff78"), looks := true }, kinds := [], alts := [], laidByText := true, laidKinds := [.handle, .sentinel, .sentinel, .sentinel, .sentinel, .sentinel, .sentinel, .sentinel, .sentinel, .sentinel, .sentinel, .sentinel, .sentinel], laidTests := true, laidLooks := .later }
def RowSamesCardSaid : Prop := Claim7.holds Tryd.pinned (.plain (OpenSpec.ofChange rowSamesSpec)) rowSamesCard

/-- THE TIED CARD OF 'edenlaw07.RowCells'. -/
def rowCellsCard : Claim7 := { stood := { row := rowCellsRow, standIns := [], harness := (true, "a9addf43f738e9985bb9e2fcbd15ff340f1e0ce4c0cc3d31ae6039dd7ed8ff78"), looks := true }, kinds := [], alts := [], laidByText := true, laidKinds := [.handle, .sentinel, .sentinel, .sentinel, .sentinel, .sentinel, .sentinel, .sentinel, .sentinel, .sentinel, .sentinel, .sentinel, .sentinel], laidTests := true, laidLooks := .later }
def RowCellsCardSaid : Prop := Claim7.holds Tryd.pinned (.plain (OpenSpec.ofChange rowCellsSpec)) rowCellsCard

/-- THE TIED CARD OF 'edenlaw18.AddAll'. -/
def addAllCard : Claim7 := { stood := { row := addAllRow, standIns := [], harness := (true, "a9addf43f738e9985bb9e2fcbd15ff340f1e0ce4c0cc3d31ae6039dd7ed8ff78"), looks := true }, kinds := [], alts := [], laidByText := true, laidKinds := [.handle, .sentinel, .sentinel, .sentinel, .sentinel, .sentinel, .sentinel, .sentinel, .sentinel, .sentinel, .sentinel, .sentinel, .sentinel], laidTests := true, laidLooks := .later }
def AddAllCardSaid : Prop := Claim7.holds Tryd.pinned (.plain (OpenSpec.ofChange addAllSpec)) addAllCard

/-- THE TIED CARD OF 'edenlaw19.PermutAll'. -/
def permutAllCard : Claim7 := { stood := { row := permutAllRow, standIns := [], harness := (true, "a9addf43f738e9985bb9e2fcbd15ff340f1e0ce4c0cc3d31ae6039dd7ed8ff78"), looks := true }, kinds := [], alts := [], laidByText := true, laidKinds := [.handle, .sentinel, .sentinel, .sentinel, .sentinel, .sentinel, .sentinel, .sentinel, .sentinel, .sentinel, .sentinel, .sentinel, .sentinel], laidTests := true, laidLooks := .later }
def PermutAllCardSaid : Prop := Claim7.holds Tryd.pinned (.plain (OpenSpec.ofChange permutAllSpec)) permutAllCard

/-- THE TIED CARD OF 'edenlaw06.RingNecks'. -/
def ringNecksCard : Claim7 := { stood := { row := ringNecksRow, standIns := [], harness := (true, "a9addf43f738e9985bb9e2fcbd15ff340f1e0ce4c0cc3d31ae6039dd7ed8ff78"), looks := true }, kinds := [], alts := [], laidByText := true, laidKinds := [.data, .data, .data, .handle, .sentinel, .sentinel, .sentinel, .sentinel, .sentinel, .sentinel, .sentinel, .sentinel, .sentinel, .sentinel, .sentinel, .sentinel], laidTests := true, laidLooks := .later }
def RingNecksCardSaid : Prop := Claim7.holds Tryd.pinned (.plain (OpenSpec.ofChange ringNecksSpec)) ringNecksCard

/-- THE TIED CARD OF 'edenlaw07.RowSteps'. -/
def rowStepsCard : Claim7 := { stood := { row := rowStepsRow, standIns := [], harness := (true, "a9addf43f738e9985bb9e2fcbd15ff340f1e0ce4c0cc3d31ae6039dd7ed8ff78"), looks := true }, kinds := [], alts := [], laidByText := true, laidKinds := [.handle, .sentinel, .sentinel, .sentinel, .sentinel, .sentinel, .sentinel, .sentinel, .sentinel, .sentinel, .sentinel, .sentinel, .sentinel], laidTests := true, laidLooks := .later }
def RowStepsCardSaid : Prop := Claim7.holds Tryd.pinned (.plain (OpenSpec.ofChange rowStepsSpec)) rowStepsCard

/-- THE TIED CARD OF 'edenlaw01.FaultMakes'. -/
def faultMakesCard : Claim7 := { stood := { row := faultMakesRow, standIns := [], harness := (true, "a9addf43f738e9985bb9e2fcbd15ff340f1e0ce4c0cc3d31ae6039dd7ed8ff78"), looks := true }, kinds := [], alts := [], laidByText := true, laidKinds := [.data, .data, .data, .handle, .sentinel, .sentinel, .sentinel, .sentinel, .sentinel, .sentinel, .sentinel, .sentinel, .sentinel, .sentinel, .sentinel, .sentinel], laidTests := true, laidLooks := .later }
def FaultMakesCardSaid : Prop := Claim7.holds Tryd.pinned (.plain (OpenSpec.ofChange faultMakesSpec)) faultMakesCard

/-- THE TIED CARD OF 'edenlaw06.RingOrbits'. -/
def ringOrbitsCard : Claim7 := { stood := { row := ringOrbitsRow, standIns := [], harness := (true, "a9addf43f738e9985bb9e2fcbd15ff340f1e0ce4c0cc3d31ae6039dd7ed8ff78"), looks := true }, kinds := [], alts := [], laidByText := true, laidKinds := [.data, .data, .data, .handle, .sentinel, .sentinel, .sentinel, .sentinel, .sentinel, .sentinel, .sentinel, .sentinel, .sentinel, .sentinel, .sentinel, .sentinel], laidTests := true, laidLooks := .later }
def RingOrbitsCardSaid : Prop := Claim7.holds Tryd.pinned (.plain (OpenSpec.ofChange ringOrbitsSpec)) ringOrbitsCard

/-- THE TIED CARD OF 'edenlaw06.RingSteps'. -/
def ringStepsCard : Claim7 := { stood := { row := ringStepsRow, standIns := [], harness := (true, "a9addf43f738e9985bb9e2fcbd15ff340f1e0ce4c0cc3d31ae6039dd7ed8ff78"), looks := true }, kinds := [], alts := [], laidByText := true, laidKinds := [.data, .data, .data, .handle, .sentinel, .sentinel, .sentinel, .sentinel, .sentinel, .sentinel, .sentinel, .sentinel, .sentinel, .sentinel, .sentinel, .sentinel], laidTests := true, laidLooks := .later }
def RingStepsCardSaid : Prop := Claim7.holds Tryd.pinned (.plain (OpenSpec.ofChange ringStepsSpec)) ringStepsCard

/-- THE SECOND FORM's CARD OF 'edenlaw07.RowSames'. -/
def rowSamesUptoCard : Claim7 := { stood := { row := rowSamesUptoRow, standIns := [], harness := (true, "a9addf43f738e9985bb9e2fcbd15ff340f1e0ce4c0cc3d31ae6039dd7ed8ff78"), looks := true }, kinds := [], alts := [], laidByText := true, laidKinds := [.handle, .sentinel, .sentinel, .sentinel, .sentinel, .sentinel, .sentinel, .sentinel, .sentinel, .sentinel, .sentinel, .sentinel, .sentinel], laidTests := true, laidLooks := .later }
def RowSamesUptoCardSaid : Prop := Claim7.holds Tryd.pinned (.plain (OpenSpec.upto rowSamesSpec)) rowSamesUptoCard

/-- THE SECOND FORM's CARD OF 'edenlaw07.RowCells'. -/
def rowCellsUptoCard : Claim7 := { stood := { row := rowCellsUptoRow, standIns := [], harness := (true, "a9addf43f738e9985bb9e2fcbd15ff340f1e0ce4c0cc3d31ae6039dd7ed8ff78"), looks := true }, kinds := [], alts := [], laidByText := true, laidKinds := [.handle, .sentinel, .sentinel, .sentinel, .sentinel, .sentinel, .sentinel, .sentinel, .sentinel, .sentinel, .sentinel, .sentinel, .sentinel], laidTests := true, laidLooks := .later }
def RowCellsUptoCardSaid : Prop := Claim7.holds Tryd.pinned (.plain (OpenSpec.upto rowCellsSpec)) rowCellsUptoCard

/-- THE SECOND FORM's CARD OF 'edenlaw18.AddAll'. -/
def addAllUptoCard : Claim7 := { stood := { row := addAllUptoRow, standIns := [], harness := (true, "a9addf43f738e9985bb9e2fcbd15ff340f1e0ce4c0cc3d31ae6039dd7ed8ff78"), looks := true }, kinds := [], alts := [], laidByText := true, laidKinds := [.handle, .sentinel, .sentinel, .sentinel, .sentinel, .sentinel, .sentinel, .sentinel, .sentinel, .sentinel, .sentinel, .sentinel, .sentinel], laidTests := true, laidLooks := .later }
def AddAllUptoCardSaid : Prop := Claim7.holds Tryd.pinned (.plain (OpenSpec.upto addAllSpec)) addAllUptoCard

/-- THE SECOND FORM's CARD OF 'edenlaw19.PermutAll'. -/
def permutAllUptoCard : Claim7 := { stood := { row := permutAllUptoRow, standIns := [], harness := (true, "a9addf43f738e9985bb9e2fcbd15ff340f1e0ce4c0cc3d31ae6039dd7ed8ff78"), looks := true }, kinds := [], alts := [], laidByText := true, laidKinds := [.handle, .sentinel, .sentinel, .sentinel, .sentinel, .sentinel, .sentinel, .sentinel, .sentinel, .sentinel, .sentinel, .sentinel, .sentinel], laidTests := true, laidLooks := .later }
def PermutAllUptoCardSaid : Prop := Claim7.holds Tryd.pinned (.plain (OpenSpec.upto permutAllSpec)) permutAllUptoCard

/-- THE SECOND FORM's CARD OF 'edenlaw06.RingNecks'. -/
def ringNecksUptoCard : Claim7 := { stood := { row := ringNecksUptoRow, standIns := [], harness := (true, "a9addf43f738e9985bb9e2fcbd15ff340f1e0ce4c0cc3d31ae6039dd7ed8ff78"), looks := true }, kinds := [], alts := [], laidByText := true, laidKinds := [.data, .data, .data, .handle, .sentinel, .sentinel, .sentinel, .sentinel, .sentinel, .sentinel, .sentinel, .sentinel, .sentinel, .sentinel, .sentinel, .sentinel], laidTests := true, laidLooks := .later }
def RingNecksUptoCardSaid : Prop := Claim7.holds Tryd.pinned (.plain (OpenSpec.upto ringNecksSpec)) ringNecksUptoCard

/-- THE SECOND FORM's CARD OF 'edenlaw07.RowSteps'. -/
def rowStepsUptoCard : Claim7 := { stood := { row := rowStepsUptoRow, standIns := [], harness := (true, "a9addf43f738e9985bb9e2fcbd15ff340f1e0ce4c0cc3d31ae6039dd7ed8ff78"), looks := true }, kinds := [], alts := [], laidByText := true, laidKinds := [.handle, .sentinel, .sentinel, .sentinel, .sentinel, .sentinel, .sentinel, .sentinel, .sentinel, .sentinel, .sentinel, .sentinel, .sentinel], laidTests := true, laidLooks := .later }
def RowStepsUptoCardSaid : Prop := Claim7.holds Tryd.pinned (.plain (OpenSpec.upto rowStepsSpec)) rowStepsUptoCard

/-- THE SECOND FORM's CARD OF 'edenlaw01.FaultMakes'. -/
def faultMakesUptoCard : Claim7 := { stood := { row := faultMakesUptoRow, standIns := [], harness := (true, "a9addf43f738e9985bb9e2fcbd15ff340f1e0ce4c0cc3d31ae6039dd7ed8ff78"), looks := true }, kinds := [], alts := [], laidByText := true, laidKinds := [.data, .data, .data, .handle, .sentinel, .sentinel, .sentinel, .sentinel, .sentinel, .sentinel, .sentinel, .sentinel, .sentinel, .sentinel, .sentinel, .sentinel], laidTests := true, laidLooks := .later }
def FaultMakesUptoCardSaid : Prop := Claim7.holds Tryd.pinned (.plain (OpenSpec.upto faultMakesSpec)) faultMakesUptoCard

/-- THE SECOND FORM's CARD OF 'edenlaw06.RingOrbits'. -/
def ringOrbitsUptoCard : Claim7 := { stood := { row := ringOrbitsUptoRow, standIns := [], harness := (true, "a9addf43f738e9985bb9e2fcbd15ff340f1e0ce4c0cc3d31ae6039dd7ed8ff78"), looks := true }, kinds := [], alts := [], laidByText := true, laidKinds := [.data, .data, .data, .handle, .sentinel, .sentinel, .sentinel, .sentinel, .sentinel, .sentinel, .sentinel, .sentinel, .sentinel, .sentinel, .sentinel, .sentinel], laidTests := true, laidLooks := .later }
def RingOrbitsUptoCardSaid : Prop := Claim7.holds Tryd.pinned (.plain (OpenSpec.upto ringOrbitsSpec)) ringOrbitsUptoCard

/-- THE SECOND FORM's CARD OF 'edenlaw06.RingSteps'. -/
def ringStepsUptoCard : Claim7 := { stood := { row := ringStepsUptoRow, standIns := [], harness := (true, "a9addf43f738e9985bb9e2fcbd15ff340f1e0ce4c0cc3d31ae6039dd7ed8ff78"), looks := true }, kinds := [], alts := [], laidByText := true, laidKinds := [.data, .data, .data, .handle, .sentinel, .sentinel, .sentinel, .sentinel, .sentinel, .sentinel, .sentinel, .sentinel, .sentinel, .sentinel, .sentinel, .sentinel], laidTests := true, laidLooks := .later }
def RingStepsUptoCardSaid : Prop := Claim7.holds Tryd.pinned (.plain (OpenSpec.upto ringStepsSpec)) ringStepsUptoCard
end Rows
end Go.Proofs.YtgnaemcalomkdaaDoor
