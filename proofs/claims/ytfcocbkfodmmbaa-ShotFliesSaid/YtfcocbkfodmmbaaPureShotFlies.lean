/- Every flight over every map ends where, when and as the reference says, or is refused, for all maps, shots and ticks. -/
import Derived.Test.YtfcocbkfodmmbaaGAbivouaclaw16awake
import Derived.Test.YtfcocbkfodmmbaaPAx27
import Derived.Test.YtfcocbkfodmmbaaSH
import Derived.OpenShut
namespace Go.Proofs.Ytfcocbkfodmmbaa.Pure
open Go.RowKit Go.Proofs.Ytfcocbkfodmmbaa.PA Go.Proofs.YtfcocbkfodmmbaaW.PrintWords Go.Proofs.YtfcocbkfodmmbaaW.PrintLast Go.Proofs.YtfcocbkfodmmbaaW.PrintMore
open Go.Proofs.Ytfcocbkfodmmbaa.L
set_option linter.unusedVariables false
set_option linter.unusedSimpArgs false

theorem ShotFlies : bivouaclaw16_ShotFlies.Pure := by
  intro W H Wt l X Y Z U V Q n m _ _ _ _ hl _ _ _ _ _ _ _ _
  have hb := take_b hl
  refine ⟨1101, ?_⟩
  unfold bivouaclaw16_ShotFlies.f
  rw [few_eq]
  simp only [Option.bind_some]
  rw [fly_eq (by omega) hb, refMay_eq (by omega) hb]
  simp only [Option.bind_some]
  by_cases hm : chk W H Wt (l.take 4300) = 0 ∧ may W H X Y Z U V Q
  · rw [if_pos (decide_eq_true hm)]
    by_cases h0 : n < 0
    · rw [if_pos h0, if_neg (by omega)]
      simp [bivouaclaw16_ShotFlies.j0, bivouaclaw16_awake.f]
    rw [if_neg h0]
    by_cases h1 : n > 1024
    · rw [decide_eq_true h1, if_neg (by omega)]
      simp [bivouaclaw16_ShotFlies.j0, bivouaclaw16_awake.f]
    rw [decide_eq_false h1, if_pos ⟨hm, by omega, by omega⟩]
    simp only [bivouaclaw16_ShotFlies.j0]
    rw [if_neg (by decide), refFly_eq (by omega) ((chk_zero hb).1 hm.1) hm.2 (by omega) (by omega)]
    simp [with0, bivouaclaw16_awake.f]
  · rw [if_neg (by rw [decide_eq_true_eq]; exact hm), if_neg (fun h => hm h.1)]
    simp [bivouaclaw16_ShotFlies.j0, bivouaclaw16_awake.f]

end Go.Proofs.Ytfcocbkfodmmbaa.Pure
