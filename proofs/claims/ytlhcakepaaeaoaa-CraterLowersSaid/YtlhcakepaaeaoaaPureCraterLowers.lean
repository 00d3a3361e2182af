/- Whether any hit may be, and by how much it lowers any corner, is as the reference says, for all hits and corners. -/
import Derived.Test.YtlhcakepaaeaoaaPCrx8
import Derived.Test.YtlhcakepaaeaoaaCL
namespace Go.Proofs.Ytlhcakepaaeaoaa.Pure
open Go.RowKit Go.Proofs.Ytlhcakepaaeaoaa.PCr Go.Proofs.YtlhcakepaaeaoaaW.PrintWords Go.Proofs.YtlhcakepaaeaoaaW.PrintLast Go.Proofs.YtlhcakepaaeaoaaW.PrintMore
open Go.Proofs.Ytlhcakepaaeaoaa.CL
set_option linter.unusedVariables false
set_option linter.unusedSimpArgs false

theorem CraterLowers : bivouaclaw09_CraterLowers.Pure := by
  intro I J R D i j _ _ _ _ _ _
  refine ⟨1, ?_⟩
  unfold bivouaclaw09_CraterLowers.f
  rw [may_eq, refMay_eq, lowers_eq, refLowers_eq (by omega), awake_eq]
  simp

end Go.Proofs.Ytlhcakepaaeaoaa.Pure
