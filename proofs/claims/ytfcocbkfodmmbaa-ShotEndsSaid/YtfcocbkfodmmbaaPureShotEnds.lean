/- How a flight ends at any place of any map is as the reference says, or it is refused. -/
import Derived.Test.YtfcocbkfodmmbaaGAbivouaclaw16awake
import Derived.Test.YtfcocbkfodmmbaaPAx28
import Derived.Test.YtfcocbkfodmmbaaSH
import Derived.OpenShut
namespace Go.Proofs.Ytfcocbkfodmmbaa.Pure
open Go.RowKit Go.Proofs.Ytfcocbkfodmmbaa.PA Go.Proofs.YtfcocbkfodmmbaaW.PrintWords Go.Proofs.YtfcocbkfodmmbaaW.PrintLast Go.Proofs.YtfcocbkfodmmbaaW.PrintMore
open Go.Proofs.Ytfcocbkfodmmbaa.L
set_option linter.unusedVariables false
set_option linter.unusedSimpArgs false

theorem ShotEnds : bivouaclaw16_ShotEnds.Pure := by
  intro W H Wt l X Y Z U V Q _ _ _ _ hl _ _ _ _ _ _
  have hb := take_b hl
  refine ⟨9, ?_⟩
  unfold bivouaclaw16_ShotEnds.f
  rw [few_eq]
  simp only [Option.bind_some]
  rw [how_eq (by omega) hb, refCheck_eq (by omega)]
  simp only [Option.bind_some]
  by_cases h : chk W H Wt (l.take 4300) = 0
  · rw [if_pos h, if_pos h, refHow_eq (by omega) ((chk_zero hb).1 h)]
    simp [bivouaclaw16_awake.f]
  · rw [if_neg h, if_neg h]
    simp [bivouaclaw16_awake.f]

end Go.Proofs.Ytfcocbkfodmmbaa.Pure
