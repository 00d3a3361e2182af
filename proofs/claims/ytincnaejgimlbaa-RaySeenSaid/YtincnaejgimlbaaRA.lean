/- The chapter's examples hold. -/
import Derived.Test.YtincnaejgimlbaaPAx15
import Derived.Test.YtincnaejgimlbaaRL
namespace Go.Proofs.Ytincnaejgimlbaa.L
open Go.RowKit Go.Proofs.Ytincnaejgimlbaa.PA Go.Proofs.YtincnaejgimlbaaW.PrintWords Go.Proofs.YtincnaejgimlbaaW.PrintLast Go.Proofs.YtincnaejgimlbaaW.PrintMore
set_option linter.unusedVariables false
set_option linter.unusedSimpArgs false

theorem awake_ev : ∃ K, ∀ k, K ≤ k → bivouaclaw08_awake.f k = some true :=
  Ev.of (fun k => bivouaclaw08_awake.mono k) (k := 60) (by decide +kernel)


end Go.Proofs.Ytincnaejgimlbaa.L
