/-
  The tied card of eden/edenlaw23.CertDecodes.
-/
import Derived.Test.YtlnelalmoloalaaDoorRowCertDecodes
import Derived.Test.YtlnelalmoloalaaDoorTie
import Derived.Test.YtlnelalmoloalaaDoorCards
import Derived.SevenTiedAt
namespace Go.Proofs.YtlnelalmoloalaaDoor.certDecodes
open Go Go.Proofs.YtlnelalmoloalaaDoor
set_option linter.unusedVariables false
set_option linter.unusedSimpArgs false
theorem card : Rows.CertDecodesCardSaid :=
  Claim7.holds_tied_plain_at .later [] [.handle, .sentinel, .sentinel, .sentinel, .sentinel, .sentinel, .sentinel, .sentinel, .sentinel, .sentinel, .sentinel, .sentinel, .sentinel] true Rows.certDecodesCard.stood.harness true
    proved (fun _ h => by cases h) (by kernel_rfl) (fun _ h => by cases h) certDecodes_row_tie rfl ⟨rfl, rfl⟩ (by kernel_rfl) rfl
    (fun f fn hf hfn => by
      obtain rfl : f = 4 := Option.some.inj ((show Tryd.prog.funcNamed "eden/edenlaw23.CertDecodes" = some 4 by kernel_rfl).symm.trans hf) |>.symm
      obtain rfl : fn = Tryd.f4 := (Option.some.inj (Tryd.func4.symm.trans hfn)).symm
      refine ⟨by kernel_rfl, fun j t ht => ?_⟩
      rw [Tryd.params4] at ht
      match j, ht with
      | 0, ht =>
        obtain rfl : 25 = t := by simpa using ht
        exact (show Tryd.prog.wantsStandIn 25 = false by kernel_rfl)
      | j + 1, ht => simp at ht)
    (by kernel_rfl)
#print axioms card
end Go.Proofs.YtlnelalmoloalaaDoor.certDecodes
