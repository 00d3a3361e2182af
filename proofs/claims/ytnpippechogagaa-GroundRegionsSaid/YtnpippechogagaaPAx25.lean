-- WRITTEN BY A PROGRAM OF THIS SESSION (a turned copy of the kit's printer), for this claim. Nothing here is trusted: Lean checks it.
import Derived.Test.YtnpippechogagaaPAx0
namespace Go.Proofs.Ytnpippechogagaa.PA
open Go.RowKit Go.Proofs.YtnpippechogagaaW.PrintWords Go.Proofs.YtnpippechogagaaW.PrintLast Go.Proofs.YtnpippechogagaaW.PrintMore
attribute [local go_sem] max2_int min2_int max_two min_two max_three min_three max_four min_four   -- for this text's walks alone
set_option linter.unusedVariables false
set_option linter.unusedSimpArgs false

/-! ### bivouacref07_Beside: function 27 -/
def bivouacref07_Beside.f (a0 : Int) (a1 : Int) (a2 : Int) : Option (Bool) := if a2 = 0 then (none) else (some ((wrap64 ((wrap64 ((wrap64 ((Int.tmod a0 a2) - (Int.tmod a1 a2))) * (wrap64 ((Int.tmod a0 a2) - (Int.tmod a1 a2))))) + (wrap64 ((wrap64 ((wrap64 (Int.tdiv a0 a2)) - (wrap64 (Int.tdiv a1 a2)))) * (wrap64 ((wrap64 (Int.tdiv a0 a2)) - (wrap64 (Int.tdiv a1 a2)))))))) == 1))
set_option maxHeartbeats 8000000 in
set_option maxRecDepth 100000 in
theorem bivouacref07_Beside.calls (a0 : Int) (a1 : Int) (a2 : Int) (r : Bool) (w : World) (h : bivouacref07_Beside.f a0 a1 a2 = some r) :
  Calls Try.prog 27 #[.int .i64 a0, .int .i64 a1, .int .i64 a2] w fun e w' => e = .returned (.bool r) ∧ Drawn0 w w' := by
 have H : (if a2 = 0 then (none) else (some ((wrap64 ((wrap64 ((wrap64 ((Int.tmod a0 a2) - (Int.tmod a1 a2))) * (wrap64 ((Int.tmod a0 a2) - (Int.tmod a1 a2))))) + (wrap64 ((wrap64 ((wrap64 (Int.tdiv a0 a2)) - (wrap64 (Int.tdiv a1 a2)))) * (wrap64 ((wrap64 (Int.tdiv a0 a2)) - (wrap64 (Int.tdiv a1 a2)))))))) == 1))) = some r := h
 clear h
 by_cases c4 : a2 = 0
 ·
  rw [if_pos c4] at H
  exact absurd H (by simp)
 ·
  rw [if_neg c4] at H
  have c4b0 : (a2 == 0) = false := beq_eq_false_iff_ne.mpr c4
  have c4b1 : (a2 != 0) = true := bne_iff_ne.mpr c4
  obtain rfl := Option.some.inj H
  go_enter Try.func27, Try.ntmps27
  go_wp2
  repeat (go_quiet (fail); try go_wp2)
  go_ret
  exact ⟨by first | rfl | (simp; done) | (simp [*]; done), by repeat (first | exact Drawn0.refl _ | apply Drawn0.step)⟩

end Go.Proofs.Ytnpippechogagaa.PA
