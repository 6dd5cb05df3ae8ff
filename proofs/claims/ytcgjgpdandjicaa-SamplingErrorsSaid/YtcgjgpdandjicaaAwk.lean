/- The sanity check of the statements answers true. -/
import Derived.Test.YtcgjgpdandjicaaBW
import Derived.KernelRfl
namespace Go.Proofs.Ytcgjgpdandjicaa.B
open Go.RowKit Go.Proofs.YtcgjgpdandjicaaW.PrintWords Go.Proofs.YtcgjgpdandjicaaW.PrintLast Go.Proofs.YtcgjgpdandjicaaW.PrintMore
open Go.Proofs.Ytcgjgpdandjicaa.Smp
set_option linter.unusedVariables false
set_option linter.unusedSimpArgs false
theorem awake_true : synopticlaw39_awake.f = some true := by
  have e : cnt [1, 1, 1] = 2 := by decide
  have h : signsR [1, 1, 1] = (1, 4, 0) := by
    unfold signsR
    rw [if_neg (by decide), if_neg (by decide), e]
    kernel_rfl
  have h2 : sampling_Signs.f [1, 1, 1] = some (1, 4, 0) := by
    unfold sampling_Signs.f
    rw [if_pos (by decide), h]
  unfold synopticlaw39_awake.f
  rw [h2]
  rfl
end Go.Proofs.Ytcgjgpdandjicaa.B
