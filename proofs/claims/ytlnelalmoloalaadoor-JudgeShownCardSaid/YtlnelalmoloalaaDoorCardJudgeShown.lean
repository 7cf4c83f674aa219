/-
  The tied card of eden/edenlaw24.JudgeShown.
-/
import Derived.Test.YtlnelalmoloalaaDoorRowJudgeShown
import Derived.Test.YtlnelalmoloalaaDoorTie
import Derived.Test.YtlnelalmoloalaaDoorCards
import Derived.SevenTiedAt
namespace Go.Proofs.YtlnelalmoloalaaDoor.judgeShown
open Go Go.Proofs.YtlnelalmoloalaaDoor
set_option linter.unusedVariables false
set_option linter.unusedSimpArgs false
theorem card : Rows.JudgeShownCardSaid :=
  Claim7.holds_tied_plain_at .later [] [.handle, .sentinel, .sentinel, .sentinel, .sentinel, .sentinel, .sentinel, .sentinel, .sentinel, .sentinel, .sentinel, .sentinel, .sentinel] true Rows.judgeShownCard.stood.harness true
    proved (fun _ h => by cases h) (by kernel_rfl) (fun _ h => by cases h) judgeShown_row_tie rfl ⟨rfl, rfl⟩ (by kernel_rfl) rfl
    (fun f fn hf hfn => by
      obtain rfl : f = 10 := Option.some.inj ((show Tryd.prog.funcNamed "eden/edenlaw24.JudgeShown" = some 10 by kernel_rfl).symm.trans hf) |>.symm
      obtain rfl : fn = Tryd.f10 := (Option.some.inj (Tryd.func10.symm.trans hfn)).symm
      refine ⟨by kernel_rfl, fun j t ht => ?_⟩
      rw [Tryd.params10] at ht
      match j, ht with
      | 0, ht =>
        obtain rfl : 31 = t := by simpa using ht
        exact (show Tryd.prog.wantsStandIn 31 = false by kernel_rfl)
      | 1, ht =>
        obtain rfl : 50 = t := by simpa using ht
        exact (show Tryd.prog.wantsStandIn 50 = false by kernel_rfl)
      | 2, ht =>
        obtain rfl : 25 = t := by simpa using ht
        exact (show Tryd.prog.wantsStandIn 25 = false by kernel_rfl)
      | j + 3, ht => simp at ht)
    (by kernel_rfl)
#print axioms card
end Go.Proofs.YtlnelalmoloalaaDoor.judgeShown
