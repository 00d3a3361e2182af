/- Every cell is open to a class just as the reference says, or is refused. For all maps, classes and cells. -/
import Derived.Test.YtnpippechogagaaPAx22
import Derived.Test.YtnpippechogagaaLG
import Derived.Test.YtnpippechogagaaLA
namespace Go.Proofs.Ytnpippechogagaa.Pure
open Go.RowKit Go.Proofs.Ytnpippechogagaa.PA Go.Proofs.YtnpippechogagaaW.PrintWords Go.Proofs.YtnpippechogagaaW.PrintLast Go.Proofs.YtnpippechogagaaW.PrintMore
open Go.Proofs.Ytnpippechogagaa.L
set_option linter.unusedVariables false
set_option linter.unusedSimpArgs false

theorem GroundCells : bivouaclaw07_GroundCells.Pure := by
  intro W H Wt l c i j _ _ _ _ hl _ _ _
  have hb := take_b hl
  refine Ev.rounds (r := true) ?_
  obtain ⟨K, hK⟩ := awake_ev
  refine ⟨max K 9 + 1, fun k hk => ?_⟩
  dsimp only
  unfold bivouaclaw07_GroundCells.f
  rw [few_eq]
  simp only [Option.bind_some]
  rw [open_eq (by omega) hb, lawRight_eq (by omega)]
  simp only [Option.bind_some]
  by_cases h : 0 ≤ c ∧ c ≤ 5 ∧ chk W H Wt (l.take 4300) = 0
  · have ok := (chk_zero hb).1 h.2.2
    rw [if_pos (decide_eq_true h), if_pos h]
    obtain ⟨k, rfl⟩ : ∃ m, k = m + 1 := ⟨k - 1, by omega⟩
    by_cases hc : 0 ≤ i ∧ i < W ∧ 0 ≤ j ∧ j < H
    · have hc2 := hc
      obtain ⟨a, b, e, d⟩ := hc2
      rw [if_pos hc, if_neg (by omega), if_neg (by omega), if_neg (by omega), decide_eq_false (by omega)]
      simp only [bivouaclaw07_GroundCells.j0]
      rw [if_neg (by simp), refOpen_eq (by omega) ok a b e d]
      simp [hK k (by omega)]
    · rw [if_neg hc]
      have e : bivouaclaw07_GroundCells.j0 (k + 1) c i j false 4 true W H Wt (l.take 4300) = some true := by
        simp only [bivouaclaw07_GroundCells.j0]
        simp [hK k (by omega)]
      dsimp only
      by_cases h1 : i < 0
      · rw [if_pos h1]; exact e
      rw [if_neg h1]
      by_cases h2 : i ≥ W
      · rw [if_pos h2]; exact e
      rw [if_neg h2]
      by_cases h3 : j < 0
      · rw [if_pos h3]; exact e
      rw [if_neg h3, decide_eq_true (by omega)]; exact e
  · rw [if_neg (by simpa using h), if_neg h]
    simp [hK k (by omega)]

end Go.Proofs.Ytnpippechogagaa.Pure
