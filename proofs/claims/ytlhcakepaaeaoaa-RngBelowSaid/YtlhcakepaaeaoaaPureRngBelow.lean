/- Every number below another one is the reference's and is below it, for all arguments. -/
import Derived.Test.YtlhcakepaaeaoaaRngL
namespace Go.Proofs.Ytlhcakepaaeaoaa.Pure
open Go.RowKit Go.Proofs.Ytlhcakepaaeaoaa.PRng Go.Proofs.YtlhcakepaaeaoaaW.PrintWords Go.Proofs.YtlhcakepaaeaoaaW.PrintLast
set_option linter.unusedVariables false
set_option linter.unusedSimpArgs false
open Go.Proofs.Ytlhcakepaaeaoaa.RngL Go.Proofs.Ytlhcakepaaeaoaa
theorem RngBelow : bivouaclaw05_RngBelow.Pure := by
  intro s n m _ _ hm
  have hm := Go.bounds_u64 hm
  obtain ⟨v, hv, h0, h1⟩ := below_some s n m (by omega) (by omega)
  refine Ev.rounds (r := true) ?_
  obtain ⟨K, hK⟩ := awake_ev
  refine ⟨max K 65, fun k hk => ?_⟩
  dsimp only
  unfold bivouaclaw05_RngBelow.f
  rw [refBelow_eq (by omega) s n m (by omega) (by omega), hv]
  simp only [Option.bind_some]
  rw [if_pos trivial, hK k (by omega)]
  rcases h1 with h1 | ⟨h1, h2⟩
  · rw [if_pos h1]; rfl
  · rw [if_neg (by omega), if_pos h1, if_pos h2]; rfl

end Go.Proofs.Ytlhcakepaaeaoaa.Pure
