/- What is open to a submarine is open to a ship and to a hover, what is open to a ship is not to tracks, and all is open to the air. For all maps, classes and cells. -/
import Derived.Test.YtnpippechogagaaGAbivouaclaw07GroundOrder
import Derived.Test.YtnpippechogagaaGAbivouacref07Open
import Derived.Test.YtnpippechogagaaLG
import Derived.Test.YtnpippechogagaaLA
namespace Go.Proofs.Ytnpippechogagaa.Pure
open Go.RowKit Go.Proofs.Ytnpippechogagaa.PA Go.Proofs.YtnpippechogagaaW.PrintWords Go.Proofs.YtnpippechogagaaW.PrintLast Go.Proofs.YtnpippechogagaaW.PrintMore
open Go.Proofs.Ytnpippechogagaa.L
set_option linter.unusedVariables false
set_option linter.unusedSimpArgs false

theorem GroundOrder : bivouaclaw07_GroundOrder.Pure := by
  intro W H Wt l c i j _ _ _ _ hl _ _ _
  have hb := take_b hl
  obtain ⟨K, hK⟩ := awake_ev
  refine ⟨K + 10, ?_⟩
  unfold bivouaclaw07_GroundOrder.f
  rw [few_eq]
  simp only [Option.bind_some]
  rw [open_eq (by omega) hb, open_eq (by omega) hb, open_eq (by omega) hb, open_eq (by omega) hb, open_eq (by omega) hb, open_eq (by omega) hb]
  simp only [Option.bind_some]
  rw [if_pos ?_]
  · exact hK _ (by omega)
  by_cases h : chk W H Wt (l.take 4300) = 0
  · by_cases hc : 0 ≤ i ∧ i < W ∧ 0 ≤ j ∧ j < H
    · have g := lo_hi ((chk_zero hb).1 h) i j
      by_cases c0 : 0 ≤ c ∧ c ≤ 5
      · simp only [h, hc, c0, and_self, if_true, Int.le_refl, show (0 : Int) ≤ 5 from by decide, show (0 : Int) ≤ 3 from by decide, show (3 : Int) ≤ 5 from by decide, show (0 : Int) ≤ 2 from by decide, show (2 : Int) ≤ 5 from by decide, show (0 : Int) ≤ 1 from by decide, show (1 : Int) ≤ 5 from by decide]
        unfold bivouaclaw07_GroundOrder.ok isO bivouacref07_Open.o
        simp
        omega
      · rw [if_neg (fun e => c0 ⟨e.1, e.2.1⟩), if_pos (show (0 : Int) ≤ 5 ∧ (5 : Int) ≤ 5 ∧ chk W H Wt (l.take 4300) = 0 from ⟨by decide, by decide, h⟩), if_pos hc]
        unfold bivouaclaw07_GroundOrder.ok isO bivouacref07_Open.o
        simp
        omega
    · rw [if_pos (show (0 : Int) ≤ 5 ∧ (5 : Int) ≤ 5 ∧ chk W H Wt (l.take 4300) = 0 from ⟨by decide, by decide, h⟩), if_neg hc, if_neg hc]
      unfold bivouaclaw07_GroundOrder.ok
      by_cases c0 : 0 ≤ c ∧ c ≤ 5 ∧ chk W H Wt (l.take 4300) = 0
      · rw [if_pos c0]; simp
      · rw [if_neg c0]; simp
  · unfold bivouaclaw07_GroundOrder.ok
    simp [h]

end Go.Proofs.Ytnpippechogagaa.Pure
