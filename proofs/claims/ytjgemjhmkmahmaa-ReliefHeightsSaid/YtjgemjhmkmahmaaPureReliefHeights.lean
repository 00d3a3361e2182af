/- Every place's height is the reference's, or the place is refused. For all maps and places. -/
import Derived.Test.YtjgemjhmkmahmaaPAx18
import Derived.Test.YtjgemjhmkmahmaaLH
import Derived.Test.YtjgemjhmkmahmaaLA
namespace Go.Proofs.Ytjgemjhmkmahmaa.Pure
open Go.RowKit Go.Proofs.Ytjgemjhmkmahmaa.PA Go.Proofs.YtjgemjhmkmahmaaW.PrintWords Go.Proofs.YtjgemjhmkmahmaaW.PrintLast Go.Proofs.YtjgemjhmkmahmaaW.PrintMore
open Go.Proofs.Ytjgemjhmkmahmaa.L
set_option linter.unusedVariables false
set_option linter.unusedSimpArgs false

theorem ReliefHeights : bivouaclaw06_ReliefHeights.Pure := by
  intro W H Wt l x y _ _ _ _ hl _ _
  have hb := take_b hl
  refine Ev.rounds (r := true) ?_
  obtain ⟨K, hK⟩ := awake_ev
  refine ⟨max K 2, fun k hk => ?_⟩
  dsimp only
  unfold bivouaclaw06_ReliefHeights.f
  rw [few_eq]
  simp only [Option.bind_some]
  rw [refCheck_eq (by omega), height_eq (by omega) hb]
  simp only [Option.bind_some]
  by_cases h : chk W H Wt (l.take 4300) = 0
  · have ok := (chk_zero hb).1 h
    rw [if_pos h, if_pos h, refOn_eq ok]
    simp only [Option.bind_some]
    by_cases hp : 0 ≤ x ∧ x < W * 65536 ∧ 0 ≤ y ∧ y < H * 65536
    · have hp2 := hp
      obtain ⟨a, b, c, d⟩ := hp2
      rw [if_pos hp, if_pos (decide_eq_true hp), refHeight_eq ok a b c d]
      simp [hK k (by omega)]
    · rw [if_neg hp, if_neg (by rw [decide_eq_true_eq]; exact hp)]
      simp [hK k (by omega)]
  · rw [if_neg h, if_neg h]
    simp [hK k (by omega)]

end Go.Proofs.Ytjgemjhmkmahmaa.Pure
