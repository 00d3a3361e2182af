/- A cell's corners, slope and depth. -/
import Derived.Test.YtnpippechogagaaGAreliefDepth
import Derived.Test.YtnpippechogagaaGAreliefSlope
import Derived.Test.YtnpippechogagaaPAx6
import Derived.Test.YtnpippechogagaaL
namespace Go.Proofs.Ytnpippechogagaa.L
open Go.RowKit Go.Proofs.Ytnpippechogagaa.PA Go.Proofs.YtnpippechogagaaW.PrintWords Go.Proofs.YtnpippechogagaaW.PrintLast Go.Proofs.YtnpippechogagaaW.PrintMore
set_option linter.unusedVariables false
set_option linter.unusedSimpArgs false

theorem cell_eq {k : Nat} (hk : 1 ≤ k) {W H Wt : Int} {l : List Int} (hb : ∀ x ∈ l, 0 ≤ x ∧ x ≤ 255) (i j : Int) :
    relief_cell.f k W H Wt l i j = some (if chk W H Wt l = 0 then if 0 ≤ i ∧ i < W ∧ 0 ≤ j ∧ j < H then (cor W l i j, cor W l (i + 1) j, cor W l i (j + 1), cor W l (i + 1) (j + 1), 0) else (0, 0, 0, 0, 4) else (0, 0, 0, 0, 1)) := by
  unfold relief_cell.f
  rw [check_eq hk]
  simp only [Option.bind_some]
  by_cases h : chk W H Wt l = 0
  · have ok := (chk_zero hb).1 h
    rw [if_pos h, if_pos h]
    by_cases hc : 0 ≤ i ∧ i < W ∧ 0 ≤ j ∧ j < H
    · have hc2 := hc
      obtain ⟨a, b, c, d⟩ := hc2
      rw [if_pos hc, if_neg (by omega), if_neg (by omega), if_neg (by omega), if_neg (by omega), corners_eq ok a b c d]
      rfl
    · rw [if_neg hc]
      by_cases h1 : i < 0
      · rw [if_pos h1]
      rw [if_neg h1]
      by_cases h2 : i ≥ W
      · rw [if_pos h2]
      rw [if_neg h2]
      by_cases h3 : j < 0
      · rw [if_pos h3]
      rw [if_neg h3, if_pos (by omega)]
  · rw [if_neg h, if_neg h]

/-- The least and the greatest of a cell's corners. -/
def lo (W : Int) (l : List Int) (i j : Int) : Int := mn (mn (mn (cor W l i j) (cor W l (i + 1) j)) (cor W l i (j + 1))) (cor W l (i + 1) (j + 1))
def hi (W : Int) (l : List Int) (i j : Int) : Int := mx (mx (mx (cor W l i j) (cor W l (i + 1) j)) (cor W l i (j + 1))) (cor W l (i + 1) (j + 1))
theorem lo_hi {W H Wt : Int} {l : List Int} (h : Ok W H Wt l) (i j : Int) : 0 ≤ lo W l i j ∧ lo W l i j ≤ hi W l i j ∧ hi W l i j ≤ 255 ∧
    lo W l i j ≤ cor W l i j ∧ cor W l i j ≤ hi W l i j ∧ lo W l i j ≤ cor W l (i + 1) j ∧ cor W l (i + 1) j ≤ hi W l i j ∧
    lo W l i j ≤ cor W l i (j + 1) ∧ cor W l i (j + 1) ≤ hi W l i j ∧ lo W l i j ≤ cor W l (i + 1) (j + 1) ∧ cor W l (i + 1) (j + 1) ≤ hi W l i j := by
  have q0 := h.cor_b i j
  have q1 := h.cor_b (i + 1) j
  have q2 := h.cor_b i (j + 1)
  have q3 := h.cor_b (i + 1) (j + 1)
  unfold lo hi
  generalize cor W l i j = a at *
  generalize cor W l (i + 1) j = b at *
  generalize cor W l i (j + 1) = c at *
  generalize cor W l (i + 1) (j + 1) = d at *
  have m1 := mn_le a b
  have m2 := mn_le (mn a b) c
  have m3 := mn_le (mn (mn a b) c) d
  have n1 := mx_ge a b
  have n2 := mx_ge (mx a b) c
  have n3 := mx_ge (mx (mx a b) c) d
  omega

theorem slope_eq {k : Nat} (hk : 1 ≤ k) {W H Wt : Int} {l : List Int} (hb : ∀ x ∈ l, 0 ≤ x ∧ x ≤ 255) (i j : Int) :
    relief_Slope.f k W H Wt l i j = some (if chk W H Wt l = 0 then if 0 ≤ i ∧ i < W ∧ 0 ≤ j ∧ j < H then (hi W l i j - lo W l i j, 0) else (0, 4) else (0, 1)) := by
  unfold relief_Slope.f
  rw [cell_eq hk hb]
  simp only [Option.bind_some]
  by_cases h : chk W H Wt l = 0
  · rw [if_pos h, if_pos h]
    by_cases hc : 0 ≤ i ∧ i < W ∧ 0 ≤ j ∧ j < H
    · rw [if_pos hc, if_pos hc]
      have g := lo_hi ((chk_zero hb).1 h) i j
      simp only [mn_self, mx_self]
      unfold lo hi at *
      rw [w64 (by omega) (by omega)]
    · rw [if_neg hc, if_neg hc]; simp only [mn_self, mx_self]; decide +kernel
  · rw [if_neg h, if_neg h]; simp only [mn_self, mx_self]; decide +kernel

theorem depth_eq {k : Nat} (hk : 1 ≤ k) {W H Wt : Int} {l : List Int} (hb : ∀ x ∈ l, 0 ≤ x ∧ x ≤ 255) (i j : Int) :
    relief_Depth.f k W H Wt l i j = some (if chk W H Wt l = 0 then if 0 ≤ i ∧ i < W ∧ 0 ≤ j ∧ j < H then (mx 0 (Wt - lo W l i j), 0) else (0, 4) else (0, 1)) := by
  unfold relief_Depth.f
  rw [cell_eq hk hb]
  simp only [Option.bind_some]
  by_cases h : chk W H Wt l = 0
  · rw [if_pos h, if_pos h]
    by_cases hc : 0 ≤ i ∧ i < W ∧ 0 ≤ j ∧ j < H
    · rw [if_pos hc, if_pos hc]
      have ok := (chk_zero hb).1 h
      have g := lo_hi ok i j
      have t0 := ok.t0
      have t1 := ok.t1
      simp only [mn_self, if_true]
      unfold lo hi at *
      rw [w64 (by omega) (by omega)]
    · rw [if_neg hc, if_neg hc]; rfl
  · rw [if_neg h, if_neg h]; rfl


end Go.Proofs.Ytnpippechogagaa.L
