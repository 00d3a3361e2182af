/- Behind any ticks every shot is where the sum of all falls says, or it is refused, for all shots and ticks. -/
import Derived.Test.YtfcocbkfodmmbaaGAbivouaclaw16awake
import Derived.Test.YtfcocbkfodmmbaaPAx23
import Derived.Test.YtfcocbkfodmmbaaSA
import Derived.OpenShut
namespace Go.Proofs.Ytfcocbkfodmmbaa.Pure
open Go.RowKit Go.Proofs.Ytfcocbkfodmmbaa.PA Go.Proofs.YtfcocbkfodmmbaaW.PrintWords Go.Proofs.YtfcocbkfodmmbaaW.PrintLast Go.Proofs.YtfcocbkfodmmbaaW.PrintMore
open Go.Proofs.Ytfcocbkfodmmbaa.L
set_option linter.unusedVariables false
set_option linter.unusedSimpArgs false

theorem ShotAts : bivouaclaw16_ShotAts.Pure := by
  intro X Y Z U V Q n _ _ _ _ _ _ _
  refine ⟨1100, ?_⟩
  unfold bivouaclaw16_ShotAts.f
  rw [at_eq (by omega), asked_eq]
  simp only [Option.bind_some]
  by_cases h : (spot X Y Z U V Q && decide (0 ≤ n ∧ n ≤ 1024)) = true
  · rw [if_pos h, if_pos h]
    simp only [Bool.and_eq_true, decide_eq_true_eq] at h
    rw [refAt_eq h.1 h.2.1 h.2.2]
    simp [bivouaclaw16_awake.f]
  · rw [if_neg h, if_neg h]
    simp [bivouaclaw16_awake.f]

end Go.Proofs.Ytfcocbkfodmmbaa.Pure
