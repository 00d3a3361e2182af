/- The classes have the document's numbers. -/
import Derived.Test.YtnpippechogagaaPAx16
import Derived.Test.YtnpippechogagaaLA
namespace Go.Proofs.Ytnpippechogagaa.Pure
open Go.RowKit Go.Proofs.Ytnpippechogagaa.PA Go.Proofs.YtnpippechogagaaW.PrintWords Go.Proofs.YtnpippechogagaaW.PrintLast Go.Proofs.YtnpippechogagaaW.PrintMore
open Go.Proofs.Ytnpippechogagaa.L
set_option linter.unusedVariables false
set_option linter.unusedSimpArgs false

theorem GroundNumbers : bivouaclaw07_GroundNumbers.Pure := by
  obtain ⟨K, hK⟩ := awake_ev
  refine ⟨K, ?_⟩
  unfold bivouaclaw07_GroundNumbers.f
  rw [hK K (Nat.le_refl _)]
  rfl

end Go.Proofs.Ytnpippechogagaa.Pure
