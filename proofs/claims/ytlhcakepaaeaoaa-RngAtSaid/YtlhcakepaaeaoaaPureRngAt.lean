/- The n-th number of every seed is the reference's, for all seeds and places. -/
import Derived.Test.YtlhcakepaaeaoaaRngL
namespace Go.Proofs.Ytlhcakepaaeaoaa.Pure
open Go.RowKit Go.Proofs.Ytlhcakepaaeaoaa.PRng Go.Proofs.YtlhcakepaaeaoaaW.PrintWords Go.Proofs.YtlhcakepaaeaoaaW.PrintLast
set_option linter.unusedVariables false
set_option linter.unusedSimpArgs false
open Go.Proofs.Ytlhcakepaaeaoaa.RngL Go.Proofs.Ytlhcakepaaeaoaa
theorem RngAt : bivouaclaw05_RngAt.Pure := by
  intro s n _ _
  obtain ⟨v, hv, _, _⟩ := at_some s n
  refine Ev.rounds (r := true) ?_
  obtain ⟨K, hK⟩ := awake_ev
  refine ⟨max K 65, fun k hk => ?_⟩
  dsimp only
  unfold bivouaclaw05_RngAt.f
  rw [refAt_eq (by omega), hv]
  simp only [Option.bind_some]
  rw [if_pos trivial, hK k (by omega)]
  rfl

end Go.Proofs.Ytlhcakepaaeaoaa.Pure
