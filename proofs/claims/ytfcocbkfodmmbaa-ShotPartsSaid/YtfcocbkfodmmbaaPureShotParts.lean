/- Behind as many ticks as one number and another one together a shot is where it is behind the one and then the other. -/
import Derived.Test.YtfcocbkfodmmbaaGAbivouaclaw16awake
import Derived.Test.YtfcocbkfodmmbaaPAx29
import Derived.Test.YtfcocbkfodmmbaaSA
import Derived.OpenShut
namespace Go.Proofs.Ytfcocbkfodmmbaa.Pure
open Go.RowKit Go.Proofs.Ytfcocbkfodmmbaa.PA Go.Proofs.YtfcocbkfodmmbaaW.PrintWords Go.Proofs.YtfcocbkfodmmbaaW.PrintLast Go.Proofs.YtfcocbkfodmmbaaW.PrintMore
open Go.Proofs.Ytfcocbkfodmmbaa.L
set_option linter.unusedVariables false
set_option linter.unusedSimpArgs false

theorem a_add (X U Z Q a b : Int) : aX (aX X U a) U b = aX X U (a + b) ∧ aZ (aZ Z Q a) (aQ Q a) b = aZ Z Q (a + b) ∧ aQ (aQ Q a) b = aQ Q (a + b) := by
  unfold aX aZ aQ
  refine ⟨by grind, by grind, by omega⟩

theorem ShotParts : bivouaclaw16_ShotParts.Pure := by
  intro X Y Z U V Q a b _ _ _ _ _ _ ha hb
  have ha := Go.bounds_u8 ha
  have hb := Go.bounds_u8 hb
  refine ⟨1100, ?_⟩
  unfold bivouaclaw16_ShotParts.f
  rw [w64 (i := a) (by omega) (by omega), w64 (i := b) (by omega) (by omega), w64 (i := a + b) (by omega) (by omega)]
  rw [at_eq (by omega), at_eq (by omega)]
  simp only [Option.bind_some]
  rw [show decide (0 ≤ a + b ∧ a + b ≤ 1024) = true by simp; omega, show decide (0 ≤ a ∧ a ≤ 1024) = true by simp; omega, Bool.and_true]
  by_cases h : spot X Y Z U V Q = true
  · rw [if_pos h, if_pos h]
    simp only [at_eq (show 1100 ≤ 1100 by omega), asked_eq, Option.bind_some]
    rw [show decide (0 ≤ b ∧ b ≤ 1024) = true by simp; omega, Bool.and_true]
    obtain ⟨e1, e2, e3⟩ := a_add X U Z Q a b
    obtain ⟨e4, _, _⟩ := a_add Y V Z Q a b
    by_cases g : spot (aX X U a) (aX Y V a) (aZ Z Q a) U V (aQ Q a) = true
    · rw [if_pos g, e1, e2, e3, e4]
      simp [bivouaclaw16_awake.f]
    · rw [if_neg g]
      simp [bivouaclaw16_awake.f, g]
  · rw [if_neg h, if_neg h]
    simp [bivouaclaw16_awake.f]

end Go.Proofs.Ytfcocbkfodmmbaa.Pure
