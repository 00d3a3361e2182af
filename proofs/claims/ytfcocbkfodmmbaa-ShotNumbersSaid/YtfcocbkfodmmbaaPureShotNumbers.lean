/- The limits, and how flights end, have the reference's numbers. -/
import Derived.Test.YtfcocbkfodmmbaaPAx16
import Derived.OpenShut
namespace Go.Proofs.Ytfcocbkfodmmbaa.Pure
open Go.RowKit Go.Proofs.Ytfcocbkfodmmbaa.PA Go.Proofs.YtfcocbkfodmmbaaW.PrintWords Go.Proofs.YtfcocbkfodmmbaaW.PrintLast Go.Proofs.YtfcocbkfodmmbaaW.PrintMore
set_option linter.unusedVariables false
set_option linter.unusedSimpArgs false

theorem ShotNumbers : bivouaclaw16_ShotNumbers.Pure := rfl

end Go.Proofs.Ytfcocbkfodmmbaa.Pure
