/-
  The tied card of eden/edenlaw07.RowSteps.
-/
import Derived.Test.YtgnaemcalomkdaaDoorRowRowSteps
import Derived.Test.YtgnaemcalomkdaaDoorTie
import Derived.Test.YtgnaemcalomkdaaDoorCards
import Derived.SevenTiedAt
namespace Go.Proofs.YtgnaemcalomkdaaDoor.rowSteps
open Go Go.Proofs.YtgnaemcalomkdaaDoor
set_option linter.unusedVariables false
set_option linter.unusedSimpArgs false
theorem card : Rows.RowStepsCardSaid :=
  Claim7.holds_tied_plain_at .later [] [.handle, .sentinel, .sentinel, .sentinel, .sentinel, .sentinel, .sentinel, .sentinel, .sentinel, .sentinel, .sentinel, .sentinel, .sentinel] true Rows.rowStepsCard.stood.harness true
    proved (fun _ h => by cases h) (by kernel_rfl) (fun _ h => by cases h) rowSteps_row_tie rfl ⟨rfl, rfl⟩ (by kernel_rfl) rfl
    (fun f fn hf hfn => by
      obtain rfl : f = 8 := Option.some.inj ((show Tryd.prog.funcNamed "eden/edenlaw07.RowSteps" = some 8 by kernel_rfl).symm.trans hf) |>.symm
      obtain rfl : fn = Tryd.f8 := (Option.some.inj (Tryd.func8.symm.trans hfn)).symm
      refine ⟨by kernel_rfl, fun j t ht => ?_⟩
      rw [Tryd.params8] at ht
      match j, ht with
      | 0, ht =>
        obtain rfl : 53 = t := by simpa using ht
        exact (show Tryd.prog.wantsStandIn 53 = false by kernel_rfl)
      | 1, ht =>
        obtain rfl : 24 = t := by simpa using ht
        exact (show Tryd.prog.wantsStandIn 24 = false by kernel_rfl)
      | j + 2, ht => simp at ht)
    (by kernel_rfl)
#print axioms card
end Go.Proofs.YtgnaemcalomkdaaDoor.rowSteps
