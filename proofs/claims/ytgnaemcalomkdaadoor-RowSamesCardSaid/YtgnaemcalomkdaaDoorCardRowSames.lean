/-
  The tied card of eden/edenlaw07.RowSames.
-/
import Derived.Test.YtgnaemcalomkdaaDoorRowRowSames
import Derived.Test.YtgnaemcalomkdaaDoorTie
import Derived.Test.YtgnaemcalomkdaaDoorCards
import Derived.SevenTiedAt
namespace Go.Proofs.YtgnaemcalomkdaaDoor.rowSames
open Go Go.Proofs.YtgnaemcalomkdaaDoor
set_option linter.unusedVariables false
set_option linter.unusedSimpArgs false
theorem card : Rows.RowSamesCardSaid :=
  Claim7.holds_tied_plain_at .later [] [.handle, .sentinel, .sentinel, .sentinel, .sentinel, .sentinel, .sentinel, .sentinel, .sentinel, .sentinel, .sentinel, .sentinel, .sentinel] true Rows.rowSamesCard.stood.harness true
    proved (fun _ h => by cases h) (by kernel_rfl) (fun _ h => by cases h) rowSames_row_tie rfl ⟨rfl, rfl⟩ (by kernel_rfl) rfl
    (fun f fn hf hfn => by
      obtain rfl : f = 3 := Option.some.inj ((show Tryd.prog.funcNamed "eden/edenlaw07.RowSames" = some 3 by kernel_rfl).symm.trans hf) |>.symm
      obtain rfl : fn = Tryd.f3 := (Option.some.inj (Tryd.func3.symm.trans hfn)).symm
      refine ⟨by kernel_rfl, fun j t ht => ?_⟩
      rw [Tryd.params3] at ht
      match j, ht with
      | 0, ht =>
        obtain rfl : 3 = t := by simpa using ht
        exact (show Tryd.prog.wantsStandIn 3 = false by kernel_rfl)
      | 1, ht =>
        obtain rfl : 24 = t := by simpa using ht
        exact (show Tryd.prog.wantsStandIn 24 = false by kernel_rfl)
      | 2, ht =>
        obtain rfl : 24 = t := by simpa using ht
        exact (show Tryd.prog.wantsStandIn 24 = false by kernel_rfl)
      | 3, ht =>
        obtain rfl : 3 = t := by simpa using ht
        exact (show Tryd.prog.wantsStandIn 3 = false by kernel_rfl)
      | j + 4, ht => simp at ht)
    (by kernel_rfl)
#print axioms card
end Go.Proofs.YtgnaemcalomkdaaDoor.rowSames
