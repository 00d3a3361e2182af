/- The chapter's examples hold. -/
import Derived.Test.YtnpippechogagaaGAbivouaclaw07awake
namespace Go.Proofs.Ytnpippechogagaa.L
open Go.RowKit Go.Proofs.Ytnpippechogagaa.PA Go.Proofs.YtnpippechogagaaW.PrintWords Go.Proofs.YtnpippechogagaaW.PrintLast Go.Proofs.YtnpippechogagaaW.PrintMore
set_option linter.unusedVariables false
set_option linter.unusedSimpArgs false

theorem awake_ev : ∃ K, ∀ k, K ≤ k → bivouaclaw07_awake.f k = some true :=
  Ev.of (fun k => bivouaclaw07_awake.mono k) (k := 60) (by decide +kernel)

end Go.Proofs.Ytnpippechogagaa.L
