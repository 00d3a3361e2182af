/- A cell's depth, by the reference. -/
import Derived.Test.YtnpippechogagaaPAx20
import Derived.Test.YtnpippechogagaaLE
namespace Go.Proofs.Ytnpippechogagaa.L
open Go.RowKit Go.Proofs.Ytnpippechogagaa.PA Go.Proofs.YtnpippechogagaaW.PrintWords Go.Proofs.YtnpippechogagaaW.PrintLast Go.Proofs.YtnpippechogagaaW.PrintMore
set_option linter.unusedVariables false
set_option linter.unusedSimpArgs false

theorem refDepth_eq {W H Wt : Int} {l : List Int} (h : Ok W H Wt l) {i j : Int} (i0 : 0 ≤ i) (i1 : i < W) (j0 : 0 ≤ j) (j1 : j < H) {k : Nat} (hk : 5 ≤ k) :
    bivouacref06_Depth.f k W H Wt l i j = some (mx 0 (Wt - lo W l i j)) := by
  have g := lo_hi h i j
  have t0 := h.t0
  have t1 := h.t1
  unfold bivouacref06_Depth.f
  rw [ends_l0 h i0 i1 j0 j1 hk]
  simp only [Option.bind_some]
  unfold mx
  by_cases a : lo W l i j ≥ Wt
  · rw [if_pos a, if_neg (by omega)]
  · rw [if_neg a, if_pos (by omega), w64 (by omega) (by omega)]


end Go.Proofs.Ytnpippechogagaa.L
