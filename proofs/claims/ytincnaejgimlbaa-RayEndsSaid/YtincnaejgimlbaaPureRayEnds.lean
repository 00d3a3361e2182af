/- Every cell's top and floor are the reference's, or it is refused. -/
import Derived.Test.YtincnaejgimlbaaPAx24
import Derived.Test.YtincnaejgimlbaaRS
import Derived.Test.YtincnaejgimlbaaRA
import Derived.OpenShut
namespace Go.Proofs.Ytincnaejgimlbaa.Pure
open Go.RowKit Go.Proofs.Ytincnaejgimlbaa.PA Go.Proofs.YtincnaejgimlbaaW.PrintWords Go.Proofs.YtincnaejgimlbaaW.PrintLast Go.Proofs.YtincnaejgimlbaaW.PrintMore
open Go.Proofs.Ytincnaejgimlbaa.L
set_option linter.unusedVariables false
set_option linter.unusedSimpArgs false

theorem RayEnds : bivouaclaw08_RayEnds.Pure := by
  intro W H Wt m i j _ _ _ _ hl _ _
  obtain ⟨KA, hA⟩ := awake_ev
  have hb := take_b hl
  refine ⟨KA + 100, ?_⟩
  unfold bivouaclaw08_RayEnds.f
  rw [few_eq]
  simp only [Option.bind_some]
  rw [top_eq (by omega) hb, rfloor_eq (by omega) hb, refCheck_eq (by omega)]
  simp only [Option.bind_some, hA _ (show KA ≤ KA + 100 by omega)]
  by_cases h : chk W H Wt (m.take 4300) = 0
  · rw [if_pos h, if_pos h, if_pos h, is_eq]
    simp only [Option.bind_some, decide_eq_true_eq]
    by_cases c : 0 ≤ i ∧ i < W ∧ 0 ≤ j ∧ j < H
    · rw [if_pos c, if_pos c, if_pos c, ends_l0 ((chk_zero hb).1 h) c.1 c.2.1 c.2.2.1 c.2.2.2 (by omega)]
      simp
    · rw [if_neg c, if_neg c, if_neg c]
      simp
  · rw [if_neg h, if_neg h, if_neg h]
    simp

end Go.Proofs.Ytincnaejgimlbaa.Pure
