/-
  The tied card of eden/edenlaw24.JudgeMore.
-/
import Derived.Test.YtlnelalmoloalaaDoorRowJudgeMore
import Derived.Test.YtlnelalmoloalaaDoorTie
import Derived.Test.YtlnelalmoloalaaDoorCards
import Derived.SevenTiedAt
namespace Go.Proofs.YtlnelalmoloalaaDoor.judgeMore
open Go Go.Proofs.YtlnelalmoloalaaDoor
set_option linter.unusedVariables false
set_option linter.unusedSimpArgs false
theorem card : Rows.JudgeMoreCardSaid :=
  Claim7.holds_tied_plain_at .later [] [.handle, .sentinel, .sentinel, .sentinel, .sentinel, .sentinel, .sentinel, .sentinel, .sentinel, .sentinel, .sentinel, .sentinel, .sentinel] true Rows.judgeMoreCard.stood.harness true
    proved (fun _ h => by cases h) (by kernel_rfl) (fun _ h => by cases h) judgeMore_row_tie rfl ⟨rfl, rfl⟩ (by kernel_rfl) rfl
    (fun f fn hf hfn => by
      obtain rfl : f = 11 := Option.some.inj ((show Tryd.prog.funcNamed "eden/edenlaw24.JudgeMore" = some 11 by kernel_rfl).symm.trans hf) |>.symm
      obtain rfl : fn = Tryd.f11 := (Option.some.inj (Tryd.func11.symm.trans hfn)).symm
      refine ⟨by kernel_rfl, fun j t ht => ?_⟩
      rw [Tryd.params11] at ht
      match j, ht with
      | 0, ht =>
        obtain rfl : 31 = t := by simpa using ht
        exact (show Tryd.prog.wantsStandIn 31 = false by kernel_rfl)
      | 1, ht =>
        obtain rfl : 50 = t := by simpa using ht
        exact (show Tryd.prog.wantsStandIn 50 = false by kernel_rfl)
      | 2, ht =>
        obtain rfl : 25 = t := by simpa using ht
        exact (show Tryd.prog.wantsStandIn 25 = false by kernel_rfl)
      | 3, ht =>
        obtain rfl : 3 = t := by simpa using ht
        exact (show Tryd.prog.wantsStandIn 3 = false by kernel_rfl)
      | j + 4, ht => simp at ht)
    (by kernel_rfl)
#print axioms card
end Go.Proofs.YtlnelalmoloalaaDoor.judgeMore
