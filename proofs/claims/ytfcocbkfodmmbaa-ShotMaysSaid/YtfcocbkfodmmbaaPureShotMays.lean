/- Every shot may be on a map just if the reference says so, for all maps and shots. -/
import Derived.Test.YtfcocbkfodmmbaaGAbivouaclaw16awake
import Derived.Test.YtfcocbkfodmmbaaPAx20
import Derived.Test.YtfcocbkfodmmbaaSH
import Derived.OpenShut
namespace Go.Proofs.Ytfcocbkfodmmbaa.Pure
open Go.RowKit Go.Proofs.Ytfcocbkfodmmbaa.PA Go.Proofs.YtfcocbkfodmmbaaW.PrintWords Go.Proofs.YtfcocbkfodmmbaaW.PrintLast Go.Proofs.YtfcocbkfodmmbaaW.PrintMore
open Go.Proofs.Ytfcocbkfodmmbaa.L
set_option linter.unusedVariables false
set_option linter.unusedSimpArgs false

theorem ShotMays : bivouaclaw16_ShotMays.Pure := by
  intro W H Wt l X Y Z U V Q _ _ _ _ hl _ _ _ _ _ _
  have hb := take_b hl
  refine ⟨9, ?_⟩
  unfold bivouaclaw16_ShotMays.f
  rw [few_eq]
  simp only [Option.bind_some]
  rw [may_eq (by omega) hb, refMay_eq (by omega) hb]
  simp [bivouaclaw16_awake.f]

end Go.Proofs.Ytfcocbkfodmmbaa.Pure
