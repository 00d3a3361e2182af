/- Every cell's slope and depth are the reference's, or the cell is refused. For all maps and places. -/
import Derived.Test.YtjgemjhmkmahmaaPAx21
import Derived.Test.YtjgemjhmkmahmaaLD
import Derived.Test.YtjgemjhmkmahmaaLA
namespace Go.Proofs.Ytjgemjhmkmahmaa.Pure
open Go.RowKit Go.Proofs.Ytjgemjhmkmahmaa.PA Go.Proofs.YtjgemjhmkmahmaaW.PrintWords Go.Proofs.YtjgemjhmkmahmaaW.PrintLast Go.Proofs.YtjgemjhmkmahmaaW.PrintMore
open Go.Proofs.Ytjgemjhmkmahmaa.L
set_option linter.unusedVariables false
set_option linter.unusedSimpArgs false

theorem ReliefCells : bivouaclaw06_ReliefCells.Pure := by
  intro W H Wt l i j _ _ _ _ hl _ _
  have hb := take_b hl
  refine Ev.rounds (r := true) ?_
  obtain ⟨K, hK⟩ := awake_ev
  refine ⟨max K 9 + 1, fun k hk => ?_⟩
  dsimp only
  unfold bivouaclaw06_ReliefCells.f
  rw [few_eq]
  simp only [Option.bind_some]
  rw [refCheck_eq (by omega), slope_eq (by omega) hb, depth_eq (by omega) hb]
  simp only [Option.bind_some]
  by_cases h : chk W H Wt (l.take 4300) = 0
  · have ok := (chk_zero hb).1 h
    rw [if_pos h, if_pos h, if_pos h]
    obtain ⟨k, rfl⟩ : ∃ m, k = m + 1 := ⟨k - 1, by omega⟩
    by_cases hc : 0 ≤ i ∧ i < W ∧ 0 ≤ j ∧ j < H
    · have hc2 := hc
      obtain ⟨a, b, c, d⟩ := hc2
      rw [if_pos hc, if_pos hc, if_neg (by omega), if_neg (by omega), if_neg (by omega), decide_eq_false (by omega)]
      simp only [bivouaclaw06_ReliefCells.j0]
      have g := lo_hi ok i j
      rw [if_neg (by simp), ends_l0 ok a b c d (by omega), refDepth_eq ok a b c d (by omega)]
      simp only [Option.bind_some]
      rw [w64 (by omega) (by omega)]
      simp [hK k (by omega)]
    · rw [if_neg hc, if_neg hc]
      have e : bivouaclaw06_ReliefCells.j0 (k + 1) i j 0 4 0 4 true W H Wt (l.take 4300) = some true := by
        simp only [bivouaclaw06_ReliefCells.j0]
        simp [hK k (by omega)]
      dsimp only
      by_cases h1 : i < 0
      · rw [if_pos h1]; exact e
      rw [if_neg h1]
      by_cases h2 : i ≥ W
      · rw [if_pos h2]; exact e
      rw [if_neg h2]
      by_cases h3 : j < 0
      · rw [if_pos h3]; exact e
      rw [if_neg h3, decide_eq_true (by omega)]; exact e
  · rw [if_neg h, if_neg h, if_neg h]
    simp [hK k (by omega)]

end Go.Proofs.Ytjgemjhmkmahmaa.Pure
