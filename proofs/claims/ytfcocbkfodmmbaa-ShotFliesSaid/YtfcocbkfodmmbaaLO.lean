/- Whether a place is on the map. -/
import Derived.Test.YtfcocbkfodmmbaaPAx18
import Derived.Test.YtfcocbkfodmmbaaPAx7
import Derived.Test.YtfcocbkfodmmbaaL
namespace Go.Proofs.Ytfcocbkfodmmbaa.L
open Go.RowKit Go.Proofs.Ytfcocbkfodmmbaa.PA Go.Proofs.YtfcocbkfodmmbaaW.PrintWords Go.Proofs.YtfcocbkfodmmbaaW.PrintLast Go.Proofs.YtfcocbkfodmmbaaW.PrintMore
set_option linter.unusedVariables false
set_option linter.unusedSimpArgs false

theorem refOn_eq {W H Wt : Int} {l : List Int} (h : Ok W H Wt l) (x y : Int) : bivouacref06_On.f W H Wt l x y = some (decide (0 ≤ x ∧ x < W * 65536 ∧ 0 ≤ y ∧ y < H * 65536)) := by
  unfold bivouacref06_On.f
  have := h.w0
  have := h.w1
  have := h.h0
  have := h.h1
  rw [w64 (i := W * 65536) (by omega) (by omega), w64 (i := H * 65536) (by omega) (by omega)]
  by_cases a : 0 ≤ x
  · rw [if_pos a]
    by_cases b : x < W * 65536
    · rw [if_pos b]
      by_cases c : 0 ≤ y
      · rw [if_pos c]; simp [a, b, c]
      · rw [if_neg c]; simp [c]
    · rw [if_neg b]; simp [b]
  · rw [if_neg a]; simp [a]

theorem on_eq {k : Nat} (hk : 1 ≤ k) {W H Wt : Int} {l : List Int} (hb : ∀ x ∈ l, 0 ≤ x ∧ x ≤ 255) (x y : Int) :
    relief_On.f k W H Wt l x y = some (if chk W H Wt l = 0 then decide (0 ≤ x ∧ x < W * 65536 ∧ 0 ≤ y ∧ y < H * 65536) else false) := by
  unfold relief_On.f
  rw [check_eq hk]
  simp only [Option.bind_some]
  by_cases hc : chk W H Wt l = 0
  · have h := (chk_zero hb).1 hc
    rw [if_pos hc, if_pos hc]
    have := h.w0
    have := h.w1
    have := h.h0
    have := h.h1
    rw [w64 (i := W * 65536) (by omega) (by omega), w64 (i := H * 65536) (by omega) (by omega)]
    by_cases a : 0 ≤ x
    · rw [if_pos a]
      by_cases b : x < W * 65536
      · rw [if_pos b]
        by_cases c : 0 ≤ y
        · rw [if_pos c]; simp [a, b, c]
        · rw [if_neg c]; simp [c]
      · rw [if_neg b]; simp [b]
    · rw [if_neg a]; simp [a]
  · rw [if_neg hc, if_neg hc]


end Go.Proofs.Ytfcocbkfodmmbaa.L
