/- The chapter's examples hold. -/
import Derived.Test.YtjgemjhmkmahmaaPAx15
namespace Go.Proofs.Ytjgemjhmkmahmaa.L
open Go.RowKit Go.Proofs.Ytjgemjhmkmahmaa.PA Go.Proofs.YtjgemjhmkmahmaaW.PrintWords Go.Proofs.YtjgemjhmkmahmaaW.PrintLast Go.Proofs.YtjgemjhmkmahmaaW.PrintMore
set_option linter.unusedVariables false
set_option linter.unusedSimpArgs false

theorem awake_ev : ∃ K, ∀ k, K ≤ k → bivouaclaw06_awake.f k = some true :=
  Ev.of (fun k => bivouaclaw06_awake.mono k) (k := 40) (by decide +kernel)


end Go.Proofs.Ytjgemjhmkmahmaa.L
