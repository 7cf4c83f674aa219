/-
  The tied card of eden/edenlaw23.CertFull.
-/
import Derived.Test.YtlnelalmoloalaaDoorRowCertFull
import Derived.Test.YtlnelalmoloalaaDoorTie
import Derived.Test.YtlnelalmoloalaaDoorCards
import Derived.SevenTiedAt
namespace Go.Proofs.YtlnelalmoloalaaDoor.certFull
open Go Go.Proofs.YtlnelalmoloalaaDoor
set_option linter.unusedVariables false
set_option linter.unusedSimpArgs false
theorem card : Rows.CertFullCardSaid :=
  Claim7.holds_tied_plain_at .later [] [.handle, .sentinel, .sentinel, .sentinel, .sentinel, .sentinel, .sentinel, .sentinel, .sentinel, .sentinel, .sentinel, .sentinel, .sentinel] true Rows.certFullCard.stood.harness true
    proved (fun _ h => by cases h) (by kernel_rfl) (fun _ h => by cases h) certFull_row_tie rfl ⟨rfl, rfl⟩ (by kernel_rfl) rfl
    (fun f fn hf hfn => by
      obtain rfl : f = 6 := Option.some.inj ((show Tryd.prog.funcNamed "eden/edenlaw23.CertFull" = some 6 by kernel_rfl).symm.trans hf) |>.symm
      obtain rfl : fn = Tryd.f6 := (Option.some.inj (Tryd.func6.symm.trans hfn)).symm
      refine ⟨by kernel_rfl, fun j t ht => ?_⟩
      rw [Tryd.params6] at ht
      match j, ht with
      | 0, ht =>
        obtain rfl : 3 = t := by simpa using ht
        exact (show Tryd.prog.wantsStandIn 3 = false by kernel_rfl)
      | 1, ht =>
        obtain rfl : 3 = t := by simpa using ht
        exact (show Tryd.prog.wantsStandIn 3 = false by kernel_rfl)
      | 2, ht =>
        obtain rfl : 3 = t := by simpa using ht
        exact (show Tryd.prog.wantsStandIn 3 = false by kernel_rfl)
      | j + 3, ht => simp at ht)
    (by kernel_rfl)
#print axioms card
end Go.Proofs.YtlnelalmoloalaaDoor.certFull
