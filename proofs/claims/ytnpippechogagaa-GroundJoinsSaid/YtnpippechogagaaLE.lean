/- The least and the greatest of a cell's corners, by the reference. -/
import Derived.Test.YtnpippechogagaaPAx18
import Derived.Test.YtnpippechogagaaPAx19
import Derived.Test.YtnpippechogagaaLC
namespace Go.Proofs.Ytnpippechogagaa.L
open Go.RowKit Go.Proofs.Ytnpippechogagaa.PA Go.Proofs.YtnpippechogagaaW.PrintWords Go.Proofs.YtnpippechogagaaW.PrintLast Go.Proofs.YtnpippechogagaaW.PrintMore
set_option linter.unusedVariables false
set_option linter.unusedSimpArgs false

theorem ends_l0 {W H Wt : Int} {l : List Int} (h : Ok W H Wt l) {i j : Int} (i0 : 0 ≤ i) (i1 : i < W) (j0 : 0 ≤ j) (j1 : j < H) {k : Nat} (hk : 5 ≤ k) :
    bivouacref06_Ends.f k W H Wt l i j = some (lo W l i j, hi W l i j) := by
  obtain ⟨k, rfl⟩ : ∃ m, k = m + 5 := ⟨k - 5, by omega⟩
  have q0 := h.cor_b i j
  have q1 := h.cor_b (i + 1) j
  have q2 := h.cor_b i (j + 1)
  have q3 := h.cor_b (i + 1) (j + 1)
  have w1 := h.w1
  have h1 := h.h1
  have step : ∀ (k : Nat) (n a b : Int), bivouacref06_Ends.l0 (k + 1) i j a b n W H Wt l = if n < 4 then (bivouacref06_Corner.f W H Wt l (wrap64 (i + Int.tmod n 2)) (wrap64 (j + wrap64 (Int.tdiv n 2)))).bind fun t => bivouacref06_Ends.l0 k i j (mn a t) (mx b t) (wrap64 (n + 1)) W H Wt l else some (a, b) := by
    intro k n a b
    simp only [bivouacref06_Ends.l0]
    split
    · congr 1
      funext t
      unfold mn mx
      by_cases ha : t < a
      · rw [if_pos ha, if_pos ha]
        by_cases hb : t > b
        · rw [if_pos hb, if_pos (by omega)]
        · rw [if_neg hb, if_neg (by omega)]
      · rw [if_neg ha, if_neg ha]
        by_cases hb : t > b
        · rw [if_pos hb, if_pos (by omega)]
        · rw [if_neg hb, if_neg (by omega)]
    · rfl
  unfold bivouacref06_Ends.f
  rw [step, if_pos (by decide), show wrap64 (i + Int.tmod 0 2) = i from w64 (by simp; omega) (by simp; omega) |>.trans (by simp), show wrap64 (j + wrap64 (Int.tdiv 0 2)) = j by rw [show wrap64 (Int.tdiv 0 2) = 0 from by decide +kernel]; rw [w64 (by omega) (by omega)]; omega,
    refCorner_eq h i0 (by omega) j0 (by omega)]
  simp only [Option.bind_some]
  rw [show wrap64 ((0 : Int) + 1) = 1 from by decide +kernel, step, if_pos (by decide), show wrap64 (i + Int.tmod 1 2) = i + 1 from by rw [show Int.tmod 1 2 = 1 from by decide]; exact w64 (by omega) (by omega), show wrap64 (j + wrap64 (Int.tdiv 1 2)) = j by rw [show wrap64 (Int.tdiv 1 2) = 0 from by decide +kernel]; rw [w64 (by omega) (by omega)]; omega,
    refCorner_eq h (by omega) (by omega) j0 (by omega)]
  simp only [Option.bind_some]
  rw [show wrap64 ((1 : Int) + 1) = 2 from by decide +kernel, step, if_pos (by decide), show wrap64 (i + Int.tmod 2 2) = i from by rw [show Int.tmod 2 2 = 0 from by decide]; rw [w64 (by omega) (by omega)]; omega, show wrap64 (j + wrap64 (Int.tdiv 2 2)) = j + 1 by rw [show wrap64 (Int.tdiv 2 2) = 1 from by decide +kernel]; exact w64 (by omega) (by omega),
    refCorner_eq h i0 (by omega) (by omega) (by omega)]
  simp only [Option.bind_some]
  rw [show wrap64 ((2 : Int) + 1) = 3 from by decide +kernel, step, if_pos (by decide), show wrap64 (i + Int.tmod 3 2) = i + 1 from by rw [show Int.tmod 3 2 = 1 from by decide]; exact w64 (by omega) (by omega), show wrap64 (j + wrap64 (Int.tdiv 3 2)) = j + 1 by rw [show wrap64 (Int.tdiv 3 2) = 1 from by decide +kernel]; exact w64 (by omega) (by omega),
    refCorner_eq h (by omega) (by omega) (by omega) (by omega)]
  simp only [Option.bind_some]
  rw [show wrap64 ((3 : Int) + 1) = 4 from by decide +kernel, step, if_neg (by decide)]
  have z : mn 255 (cor W l i j) = cor W l i j := by unfold mn; split <;> omega
  have z' : mx 0 (cor W l i j) = cor W l i j := by unfold mx; split <;> omega
  rw [z, z']
  rfl

end Go.Proofs.Ytnpippechogagaa.L
