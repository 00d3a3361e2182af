-- WRITTEN BY A PROGRAM OF THIS SESSION (a turned copy of the kit's printer), for this claim. Nothing here is trusted: Lean checks it.
import Derived.Test.YteihieihoeijdaaPAx0
namespace Go.Proofs.Yteihieihoeijdaa.PA
open Go.RowKit Go.Proofs.YteihieihoeijdaaW.PrintWords Go.Proofs.YteihieihoeijdaaW.PrintLast Go.Proofs.YteihieihoeijdaaW.PrintMore
attribute [local go_sem] max2_int min2_int max_two min_two max_three min_three max_four min_four   -- for this text's walks alone
set_option linter.unusedVariables false
set_option linter.unusedSimpArgs false

theorem eqA57 (d : Nat) (w : World) (x0 y0 : Int) (x1 y1 : Int) :
  (Op.equalIn (d + 2) 57 (.agg #[.int .i64 x0, .int .i64 x1]) (.agg #[.int .i64 y0, .int .i64 y1])).run Try.prog w = .ok (x0 == y0 && (x1 == y1)) w := by
 obtain ⟨i, hi⟩ : ∃ i, Try.prog.info? 3 = some i := ⟨_, rfl⟩
 rw [run_equalIn_array (i := i) _ _ _ _ Try.underlying57 hi]
 have hc : Try.prog.cellsOf 3 = 1 := by kernel_rfl
 rw [hc]
 have hu := Try.underlying3
 simp only [List.range_succ, List.range_zero, List.nil_append, List.cons_append, Op.eqItems]
 cases hb0 : x0 == y0 <;> cases hb1 : x1 == y1 <;> go_simp
end Go.Proofs.Yteihieihoeijdaa.PA
