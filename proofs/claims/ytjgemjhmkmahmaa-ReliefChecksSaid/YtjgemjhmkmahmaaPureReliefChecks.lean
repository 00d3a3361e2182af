/- Every map may be, or is refused with the reference's error; whether any place is on it is as the reference says. For all maps and places. -/
import Derived.Test.YtjgemjhmkmahmaaPAx16
import Derived.Test.YtjgemjhmkmahmaaLO
import Derived.Test.YtjgemjhmkmahmaaLA
namespace Go.Proofs.Ytjgemjhmkmahmaa.Pure
open Go.RowKit Go.Proofs.Ytjgemjhmkmahmaa.PA Go.Proofs.YtjgemjhmkmahmaaW.PrintWords Go.Proofs.YtjgemjhmkmahmaaW.PrintLast Go.Proofs.YtjgemjhmkmahmaaW.PrintMore
open Go.Proofs.Ytjgemjhmkmahmaa.L
set_option linter.unusedVariables false
set_option linter.unusedSimpArgs false

theorem ReliefChecks : bivouaclaw06_ReliefChecks.Pure := by
  intro W H Wt l x y _ _ _ _ hl _ _
  have hb := take_b hl
  refine Ev.rounds (r := true) ?_
  obtain ⟨K, hK⟩ := awake_ev
  refine ⟨max K 2, fun k hk => ?_⟩
  dsimp only
  unfold bivouaclaw06_ReliefChecks.f
  rw [few_eq]
  simp only [Option.bind_some]
  rw [refCheck_eq (by omega), check_eq (by omega), on_eq (by omega) hb]
  simp only [Option.bind_some]
  by_cases h : chk W H Wt (l.take 4300) = 0
  · rw [if_pos h, if_pos h, refOn_eq ((chk_zero hb).1 h)]
    simp only [Option.bind_some]
    simp [hK k (by omega)]
  · rw [if_neg h, if_neg h]
    simp [hK k (by omega)]

end Go.Proofs.Ytjgemjhmkmahmaa.Pure
