-- WRITTEN BY A PROGRAM OF THIS SESSION (a turned copy of the kit's printer), for this claim. Nothing here is trusted: Lean checks it.
import Derived.Test.YtdmmlidgipedaaaPAx0
namespace Go.Proofs.Ytdmmlidgipedaaa.PA
open Go.RowKit Go.Proofs.YtdmmlidgipedaaaW.PrintWords Go.Proofs.YtdmmlidgipedaaaW.PrintLast Go.Proofs.YtdmmlidgipedaaaW.PrintMore
attribute [local go_sem] max2_int min2_int max_two min_two max_three min_three max_four min_four   -- for this text's walks alone
set_option linter.unusedVariables false
set_option linter.unusedSimpArgs false

/-! ### ground_open: function 17 -/
def ground_open.f (a0 : Int) (a1 : Int) (a2 : Int) : Option (Bool) := if a0 = 0 then (if a1 ≤ 24 then (some (decide (a2 ≤ 12))) else (some false)) else (if a0 = 1 then (if a2 > 0 then (some true) else (some (decide (a1 ≤ 16)))) else (if a0 = 2 then (some (decide (a2 ≥ 16))) else (if a0 = 3 then (some (decide (a2 ≥ 24))) else (if a0 = 4 then (some (decide (a1 ≤ 20))) else (some true)))))
set_option maxHeartbeats 8000000 in
set_option maxRecDepth 100000 in
theorem ground_open.calls (a0 : Int) (a1 : Int) (a2 : Int) (r : Bool) (w : World) (h : ground_open.f a0 a1 a2 = some r) :
  Calls Try.prog 17 #[.int .i64 a0, .int .i64 a1, .int .i64 a2] w fun e w' => e = .returned (.bool r) ∧ Drawn0 w w' := by
 have H : (if a0 = 0 then (if a1 ≤ 24 then (some (decide (a2 ≤ 12))) else (some false)) else (if a0 = 1 then (if a2 > 0 then (some true) else (some (decide (a1 ≤ 16)))) else (if a0 = 2 then (some (decide (a2 ≥ 16))) else (if a0 = 3 then (some (decide (a2 ≥ 24))) else (if a0 = 4 then (some (decide (a1 ≤ 20))) else (some true)))))) = some r := h
 clear h
 by_cases c4 : a0 = 0
 ·
  rw [if_pos c4] at H
  have c4b0 : (a0 == 0) = true := beq_iff_eq.mpr c4
  have c4b1 : (a0 != 0) = false := bne_eq_false_iff_eq.mpr c4
  clear c4
  by_cases c5 : a1 ≤ 24
  ·
   rw [if_pos c5] at H
   have c5b0 : decide (a1 ≤ 24) = true := decide_eq_true c5
   clear c5
   obtain rfl := Option.some.inj H
   go_enter Try.func17, Try.ntmps17
   go_wp2
   go_ret
   exact ⟨by first | rfl | (simp; done) | (simp [*]; done), by repeat (first | exact Drawn0.refl _ | apply Drawn0.step)⟩
  ·
   rw [if_neg c5] at H
   have c5b0 : decide (a1 ≤ 24) = false := decide_eq_false c5
   clear c5
   obtain rfl := Option.some.inj H
   go_enter Try.func17, Try.ntmps17
   go_wp2
   go_ret
   exact ⟨by first | rfl | (simp; done) | (simp [*]; done), by repeat (first | exact Drawn0.refl _ | apply Drawn0.step)⟩
 ·
  rw [if_neg c4] at H
  have c4b0 : (a0 == 0) = false := beq_eq_false_iff_ne.mpr c4
  have c4b1 : (a0 != 0) = true := bne_iff_ne.mpr c4
  by_cases c6 : a0 = 1
  ·
   rw [if_pos c6] at H
   have c6b0 : (a0 == 1) = true := beq_iff_eq.mpr c6
   have c6b1 : (a0 != 1) = false := bne_eq_false_iff_eq.mpr c6
   clear c6
   by_cases c7 : a2 > 0
   ·
    rw [if_pos c7] at H
    have c7b0 : decide (0 < a2) = true := decide_eq_true c7
    clear c7
    obtain rfl := Option.some.inj H
    go_enter Try.func17, Try.ntmps17
    go_wp2
    go_ret
    exact ⟨by first | rfl | (simp; done) | (simp [*]; done), by repeat (first | exact Drawn0.refl _ | apply Drawn0.step)⟩
   ·
    rw [if_neg c7] at H
    have c7b0 : decide (0 < a2) = false := decide_eq_false c7
    clear c7
    obtain rfl := Option.some.inj H
    go_enter Try.func17, Try.ntmps17
    go_wp2
    go_ret
    exact ⟨by first | rfl | (simp; done) | (simp [*]; done), by repeat (first | exact Drawn0.refl _ | apply Drawn0.step)⟩
  ·
   rw [if_neg c6] at H
   have c6b0 : (a0 == 1) = false := beq_eq_false_iff_ne.mpr c6
   have c6b1 : (a0 != 1) = true := bne_iff_ne.mpr c6
   by_cases c8 : a0 = 2
   ·
    rw [if_pos c8] at H
    have c8b0 : (a0 == 2) = true := beq_iff_eq.mpr c8
    have c8b1 : (a0 != 2) = false := bne_eq_false_iff_eq.mpr c8
    clear c8
    obtain rfl := Option.some.inj H
    go_enter Try.func17, Try.ntmps17
    go_wp2
    go_ret
    exact ⟨by first | rfl | (simp; done) | (simp [*]; done), by repeat (first | exact Drawn0.refl _ | apply Drawn0.step)⟩
   ·
    rw [if_neg c8] at H
    have c8b0 : (a0 == 2) = false := beq_eq_false_iff_ne.mpr c8
    have c8b1 : (a0 != 2) = true := bne_iff_ne.mpr c8
    by_cases c9 : a0 = 3
    ·
     rw [if_pos c9] at H
     have c9b0 : (a0 == 3) = true := beq_iff_eq.mpr c9
     have c9b1 : (a0 != 3) = false := bne_eq_false_iff_eq.mpr c9
     clear c9
     obtain rfl := Option.some.inj H
     go_enter Try.func17, Try.ntmps17
     go_wp2
     go_ret
     exact ⟨by first | rfl | (simp; done) | (simp [*]; done), by repeat (first | exact Drawn0.refl _ | apply Drawn0.step)⟩
    ·
     rw [if_neg c9] at H
     have c9b0 : (a0 == 3) = false := beq_eq_false_iff_ne.mpr c9
     have c9b1 : (a0 != 3) = true := bne_iff_ne.mpr c9
     by_cases c10 : a0 = 4
     ·
      rw [if_pos c10] at H
      have c10b0 : (a0 == 4) = true := beq_iff_eq.mpr c10
      have c10b1 : (a0 != 4) = false := bne_eq_false_iff_eq.mpr c10
      clear c10
      obtain rfl := Option.some.inj H
      go_enter Try.func17, Try.ntmps17
      go_wp2
      go_ret
      exact ⟨by first | rfl | (simp; done) | (simp [*]; done), by repeat (first | exact Drawn0.refl _ | apply Drawn0.step)⟩
     ·
      rw [if_neg c10] at H
      have c10b0 : (a0 == 4) = false := beq_eq_false_iff_ne.mpr c10
      have c10b1 : (a0 != 4) = true := bne_iff_ne.mpr c10
      obtain rfl := Option.some.inj H
      go_enter Try.func17, Try.ntmps17
      go_wp2
      go_ret
      exact ⟨by first | rfl | (simp; done) | (simp [*]; done), by repeat (first | exact Drawn0.refl _ | apply Drawn0.step)⟩

end Go.Proofs.Ytdmmlidgipedaaa.PA
