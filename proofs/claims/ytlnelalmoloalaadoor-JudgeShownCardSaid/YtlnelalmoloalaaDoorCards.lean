/-
  DERIVED. GIVEN WITH THE SEED: THE CARDS: each row of YtlnelalmoloalaaDoorRows.lean that lists a variable, with what it lists TIED to the program's text (the seventh form; the later family's looks); each row that meets fmt, with fmt's text TOLD by the authors' own Lean function (tested against real Go, not proved from fmt's source: count such statements apart). THE CARD IS WHAT COUNTS. Prove the row's statement (the work); the ties are given (YtlnelalmoloalaaDoorTie.lean); close each card by the builder's one call (the guide's Derived/Test/ToyasCard.lean, 'card_holds'). Laid BY PROGRAM, IN A SANDBOX (cutbox-door.mjs). By AI agents, Wed Nov 11 2026. No macro, syntax, notation, axiom, sorry.
-/
import Derived.Test.YtlnelalmoloalaaDoorRows
import GoSem.ClaimSeven
namespace Go.Proofs.YtlnelalmoloalaaDoor
namespace Rows

/-- THE TIED CARD OF 'edenlaw23.CertEncodes'. -/
def certEncodesCard : Claim7 := { stood := { row := certEncodesRow, standIns := [], harness := (true, "7668bfaeba6b87e0886d205a06e0315390c777ff646b87cd4eaf7bb3551e212c"), looks := true }, kinds := [], alts := [], laidByText := true, laidKinds := [.handle, .sentinel, .sentinel, .sentinel, .sentinel, .sentinel, .sentinel, .sentinel, .sentinel, .sentinel, .sentinel, .sentinel, .sentinel], laidTests := true, laidLooks := .later }
def CertEncodesCardSaid : Prop := Claim7.holds Tryd.pinned (.plain (OpenSpec.ofChange certEncodesSpec)) certEncodesCard

/-- THE TIED CARD OF 'edenlaw23.CertDecodes'. -/
def certDecodesCard : Claim7 := { stood := { row := certDecodesRow, standIns := [], harness := (true, "7668bfaeba6b87e0886d205a06e0315390c777ff646b87cd4eaf7bb3551e212c"), looks := true }, kinds := [], alts := [], laidByText := true, laidKinds := [.handle, .sentinel, .sentinel, .sentinel, .sentinel, .sentinel, .sentinel, .sentinel, .sentinel, .sentinel, .sentinel, .sentinel, .sentinel], laidTests := true, laidLooks := .later }
def CertDecodesCardSaid : Prop := Claim7.holds Tryd.pinned (.plain (OpenSpec.ofChange certDecodesSpec)) certDecodesCard

/-- THE TIED CARD OF 'edenlaw23.CertFronts'. -/
def certFrontsCard : Claim7 := { stood := { row := certFrontsRow, standIns := [], harness := (true, "7668bfaeba6b87e0886d205a06e0315390c777ff646b87cd4eaf7bb3551e212c"), looks := true }, kinds := [], alts := [], laidByText := true, laidKinds := [.handle, .sentinel, .sentinel, .sentinel, .sentinel, .sentinel, .sentinel, .sentinel, .sentinel, .sentinel, .sentinel, .sentinel, .sentinel], laidTests := true, laidLooks := .later }
def CertFrontsCardSaid : Prop := Claim7.holds Tryd.pinned (.plain (OpenSpec.ofChange certFrontsSpec)) certFrontsCard

/-- THE TIED CARD OF 'edenlaw23.CertFull'. -/
def certFullCard : Claim7 := { stood := { row := certFullRow, standIns := [], harness := (true, "7668bfaeba6b87e0886d205a06e0315390c777ff646b87cd4eaf7bb3551e212c"), looks := true }, kinds := [], alts := [], laidByText := true, laidKinds := [.handle, .sentinel, .sentinel, .sentinel, .sentinel, .sentinel, .sentinel, .sentinel, .sentinel, .sentinel, .sentinel, .sentinel, .sentinel], laidTests := true, laidLooks := .later }
def CertFullCardSaid : Prop := Claim7.holds Tryd.pinned (.plain (OpenSpec.ofChange certFullSpec)) certFullCard

/-- THE TIED CARD OF 'edenlaw24.JudgeTells'. -/
def judgeTellsCard : Claim7 := { stood := { row := judgeTellsRow, standIns := [], harness := (true, "7668bfaeba6b87e0886d205a06e0315390c777ff646b87cd4eaf7bb3551e212c"), looks := true }, kinds := [], alts := [], laidByText := true, laidKinds := [.handle, .sentinel, .sentinel, .sentinel, .sentinel, .sentinel, .sentinel, .sentinel, .sentinel, .sentinel, .sentinel, .sentinel, .sentinel], laidTests := true, laidLooks := .later }
def JudgeTellsCardSaid : Prop := Claim7.holds Tryd.pinned (.plain (OpenSpec.ofChange judgeTellsSpec)) judgeTellsCard

/-- THE TIED CARD OF 'edenlaw24.JudgeSound'. -/
def judgeSoundCard : Claim7 := { stood := { row := judgeSoundRow, standIns := [], harness := (true, "7668bfaeba6b87e0886d205a06e0315390c777ff646b87cd4eaf7bb3551e212c"), looks := true }, kinds := [], alts := [], laidByText := true, laidKinds := [.handle, .sentinel, .sentinel, .sentinel, .sentinel, .sentinel, .sentinel, .sentinel, .sentinel, .sentinel, .sentinel, .sentinel, .sentinel], laidTests := true, laidLooks := .later }
def JudgeSoundCardSaid : Prop := Claim7.holds Tryd.pinned (.plain (OpenSpec.ofChange judgeSoundSpec)) judgeSoundCard

/-- THE TIED CARD OF 'edenlaw24.JudgeCost'. -/
def judgeCostCard : Claim7 := { stood := { row := judgeCostRow, standIns := [], harness := (true, "7668bfaeba6b87e0886d205a06e0315390c777ff646b87cd4eaf7bb3551e212c"), looks := true }, kinds := [], alts := [], laidByText := true, laidKinds := [.handle, .sentinel, .sentinel, .sentinel, .sentinel, .sentinel, .sentinel, .sentinel, .sentinel, .sentinel, .sentinel, .sentinel, .sentinel], laidTests := true, laidLooks := .later }
def JudgeCostCardSaid : Prop := Claim7.holds Tryd.pinned (.plain (OpenSpec.ofChange judgeCostSpec)) judgeCostCard

/-- THE TIED CARD OF 'edenlaw24.JudgeShown'. -/
def judgeShownCard : Claim7 := { stood := { row := judgeShownRow, standIns := [], harness := (true, "7668bfaeba6b87e0886d205a06e0315390c777ff646b87cd4eaf7bb3551e212c"), looks := true }, kinds := [], alts := [], laidByText := true, laidKinds := [.handle, .sentinel, .sentinel, .sentinel, .sentinel, .sentinel, .sentinel, .sentinel, .sentinel, .sentinel, .sentinel, .sentinel, .sentinel], laidTests := true, laidLooks := .later }
def JudgeShownCardSaid : Prop := Claim7.holds Tryd.pinned (.plain (OpenSpec.ofChange judgeShownSpec)) judgeShownCard

/-- THE TIED CARD OF 'edenlaw24.JudgeMore'. -/
def judgeMoreCard : Claim7 := { stood := { row := judgeMoreRow, standIns := [], harness := (true, "7668bfaeba6b87e0886d205a06e0315390c777ff646b87cd4eaf7bb3551e212c"), looks := true }, kinds := [], alts := [], laidByText := true, laidKinds := [.handle, .sentinel, .sentinel, .sentinel, .sentinel, .sentinel, .sentinel, .sentinel, .sentinel, .sentinel, .sentinel, .sentinel, .sentinel], laidTests := true, laidLooks := .later }
def JudgeMoreCardSaid : Prop := Claim7.holds Tryd.pinned (.plain (OpenSpec.ofChange judgeMoreSpec)) judgeMoreCard

/-- THE TIED CARD OF 'edenlaw24.JudgeColumns'. -/
def judgeColumnsCard : Claim7 := { stood := { row := judgeColumnsRow, standIns := [], harness := (true, "7668bfaeba6b87e0886d205a06e0315390c777ff646b87cd4eaf7bb3551e212c"), looks := true }, kinds := [], alts := [], laidByText := true, laidKinds := [.handle, .sentinel, .sentinel, .sentinel, .sentinel, .sentinel, .sentinel, .sentinel, .sentinel, .sentinel, .sentinel, .sentinel, .sentinel], laidTests := true, laidLooks := .later }
def JudgeColumnsCardSaid : Prop := Claim7.holds Tryd.pinned (.plain (OpenSpec.ofChange judgeColumnsSpec)) judgeColumnsCard

/-- THE SECOND FORM's CARD OF 'edenlaw23.CertEncodes'. -/
def certEncodesUptoCard : Claim7 := { stood := { row := certEncodesUptoRow, standIns := [], harness := (true, "7668bfaeba6b87e0886d205a06e0315390c777ff646b87cd4eaf7bb3551e212c"), looks := true }, kinds := [], alts := [], laidByText := true, laidKinds := [.handle, .sentinel, .sentinel, .sentinel, .sentinel, .sentinel, .sentinel, .sentinel, .sentinel, .sentinel, .sentinel, .sentinel, .sentinel], laidTests := true, laidLooks := .later }
def CertEncodesUptoCardSaid : Prop := Claim7.holds Tryd.pinned (.plain (OpenSpec.upto certEncodesSpec)) certEncodesUptoCard

/-- THE SECOND FORM's CARD OF 'edenlaw23.CertDecodes'. -/
def certDecodesUptoCard : Claim7 := { stood := { row := certDecodesUptoRow, standIns := [], harness := (true, "7668bfaeba6b87e0886d205a06e0315390c777ff646b87cd4eaf7bb3551e212c"), looks := true }, kinds := [], alts := [], laidByText := true, laidKinds := [.handle, .sentinel, .sentinel, .sentinel, .sentinel, .sentinel, .sentinel, .sentinel, .sentinel, .sentinel, .sentinel, .sentinel, .sentinel], laidTests := true, laidLooks := .later }
def CertDecodesUptoCardSaid : Prop := Claim7.holds Tryd.pinned (.plain (OpenSpec.upto certDecodesSpec)) certDecodesUptoCard

/-- THE SECOND FORM's CARD OF 'edenlaw23.CertFronts'. -/
def certFrontsUptoCard : Claim7 := { stood := { row := certFrontsUptoRow, standIns := [], harness := (true, "7668bfaeba6b87e0886d205a06e0315390c777ff646b87cd4eaf7bb3551e212c"), looks := true }, kinds := [], alts := [], laidByText := true, laidKinds := [.handle, .sentinel, .sentinel, .sentinel, .sentinel, .sentinel, .sentinel, .sentinel, .sentinel, .sentinel, .sentinel, .sentinel, .sentinel], laidTests := true, laidLooks := .later }
def CertFrontsUptoCardSaid : Prop := Claim7.holds Tryd.pinned (.plain (OpenSpec.upto certFrontsSpec)) certFrontsUptoCard

/-- THE SECOND FORM's CARD OF 'edenlaw23.CertFull'. -/
def certFullUptoCard : Claim7 := { stood := { row := certFullUptoRow, standIns := [], harness := (true, "7668bfaeba6b87e0886d205a06e0315390c777ff646b87cd4eaf7bb3551e212c"), looks := true }, kinds := [], alts := [], laidByText := true, laidKinds := [.handle, .sentinel, .sentinel, .sentinel, .sentinel, .sentinel, .sentinel, .sentinel, .sentinel, .sentinel, .sentinel, .sentinel, .sentinel], laidTests := true, laidLooks := .later }
def CertFullUptoCardSaid : Prop := Claim7.holds Tryd.pinned (.plain (OpenSpec.upto certFullSpec)) certFullUptoCard

/-- THE SECOND FORM's CARD OF 'edenlaw24.JudgeTells'. -/
def judgeTellsUptoCard : Claim7 := { stood := { row := judgeTellsUptoRow, standIns := [], harness := (true, "7668bfaeba6b87e0886d205a06e0315390c777ff646b87cd4eaf7bb3551e212c"), looks := true }, kinds := [], alts := [], laidByText := true, laidKinds := [.handle, .sentinel, .sentinel, .sentinel, .sentinel, .sentinel, .sentinel, .sentinel, .sentinel, .sentinel, .sentinel, .sentinel, .sentinel], laidTests := true, laidLooks := .later }
def JudgeTellsUptoCardSaid : Prop := Claim7.holds Tryd.pinned (.plain (OpenSpec.upto judgeTellsSpec)) judgeTellsUptoCard

/-- THE SECOND FORM's CARD OF 'edenlaw24.JudgeSound'. -/
def judgeSoundUptoCard : Claim7 := { stood := { row := judgeSoundUptoRow, standIns := [], harness := (true, "7668bfaeba6b87e0886d205a06e0315390c777ff646b87cd4eaf7bb3551e212c"), looks := true }, kinds := [], alts := [], laidByText := true, laidKinds := [.handle, .sentinel, .sentinel, .sentinel, .sentinel, .sentinel, .sentinel, .sentinel, .sentinel, .sentinel, .sentinel, .sentinel, .sentinel], laidTests := true, laidLooks := .later }
def JudgeSoundUptoCardSaid : Prop := Claim7.holds Tryd.pinned (.plain (OpenSpec.upto judgeSoundSpec)) judgeSoundUptoCard

/-- THE SECOND FORM's CARD OF 'edenlaw24.JudgeCost'. -/
def judgeCostUptoCard : Claim7 := { stood := { row := judgeCostUptoRow, standIns := [], harness := (true, "7668bfaeba6b87e0886d205a06e0315390c777ff646b87cd4eaf7bb3551e212c"), looks := true }, kinds := [], alts := [], laidByText := true, laidKinds := [.handle, .sentinel, .sentinel, .sentinel, .sentinel, .sentinel, .sentinel, .sentinel, .sentinel, .sentinel, .sentinel, .sentinel, .sentinel], laidTests := true, laidLooks := .later }
def JudgeCostUptoCardSaid : Prop := Claim7.holds Tryd.pinned (.plain (OpenSpec.upto judgeCostSpec)) judgeCostUptoCard

/-- THE SECOND FORM's CARD OF 'edenlaw24.JudgeShown'. -/
def judgeShownUptoCard : Claim7 := { stood := { row := judgeShownUptoRow, standIns := [], harness := (true, "7668bfaeba6b87e0886d205a06e0315390c777ff646b87cd4eaf7bb3551e212c"), looks := true }, kinds := [], alts := [], laidByText := true, laidKinds := [.handle, .sentinel, .sentinel, .sentinel, .sentinel, .sentinel, .sentinel, .sentinel, .sentinel, .sentinel, .sentinel, .sentinel, .sentinel], laidTests := true, laidLooks := .later }
def JudgeShownUptoCardSaid : Prop := Claim7.holds Tryd.pinned (.plain (OpenSpec.upto judgeShownSpec)) judgeShownUptoCard

/-- THE SECOND FORM's CARD OF 'edenlaw24.JudgeMore'. -/
def judgeMoreUptoCard : Claim7 := { stood := { row := judgeMoreUptoRow, standIns := [], harness := (true, "7668bfaeba6b87e0886d205a06e0315390c777ff646b87cd4eaf7bb3551e212c"), looks := true }, kinds := [], alts := [], laidByText := true, laidKinds := [.handle, .sentinel, .sentinel, .sentinel, .sentinel, .sentinel, .sentinel, .sentinel, .sentinel, .sentinel, .sentinel, .sentinel, .sentinel], laidTests := true, laidLooks := .later }
def JudgeMoreUptoCardSaid : Prop := Claim7.holds Tryd.pinned (.plain (OpenSpec.upto judgeMoreSpec)) judgeMoreUptoCard

/-- THE SECOND FORM's CARD OF 'edenlaw24.JudgeColumns'. -/
def judgeColumnsUptoCard : Claim7 := { stood := { row := judgeColumnsUptoRow, standIns := [], harness := (true, "7668bfaeba6b87e0886d205a06e0315390c777ff646b87cd4eaf7bb3551e212c"), looks := true }, kinds := [], alts := [], laidByText := true, laidKinds := [.handle, .sentinel, .sentinel, .sentinel, .sentinel, .sentinel, .sentinel, .sentinel, .sentinel, .sentinel, .sentinel, .sentinel, .sentinel], laidTests := true, laidLooks := .later }
def JudgeColumnsUptoCardSaid : Prop := Claim7.holds Tryd.pinned (.plain (OpenSpec.upto judgeColumnsSpec)) judgeColumnsUptoCard
end Rows
end Go.Proofs.YtlnelalmoloalaaDoor
