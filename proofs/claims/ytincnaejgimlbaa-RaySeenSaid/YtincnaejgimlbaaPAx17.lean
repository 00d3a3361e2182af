-- WRITTEN BY A PROGRAM OF THIS SESSION (a turned copy of the kit's printer), for this claim. Nothing here is trusted: Lean checks it.
import Derived.Test.YtincnaejgimlbaaPAx0
import Derived.Test.YtincnaejgimlbaaPAx16
namespace Go.Proofs.Ytincnaejgimlbaa.PA
open Go.RowKit Go.Proofs.YtincnaejgimlbaaW.PrintWords Go.Proofs.YtincnaejgimlbaaW.PrintLast Go.Proofs.YtincnaejgimlbaaW.PrintMore
attribute [local go_sem] max2_int min2_int max_two min_two max_three min_three max_four min_four   -- for this text's walks alone
set_option linter.unusedVariables false
set_option linter.unusedSimpArgs false

/-! ### bivouacref08_floor: function 27 -/
def bivouacref08_floor.f (a0 : Int) (a1 : Int) : Option (Int) := if a1 = 0 then (none) else (if (wrap64 ((wrap64 (Int.tdiv a0 a1)) * a1)) > a0 then (some (wrap64 ((wrap64 (Int.tdiv a0 a1)) - 1))) else (some (wrap64 (Int.tdiv a0 a1))))
set_option maxHeartbeats 8000000 in
set_option maxRecDepth 100000 in
theorem bivouacref08_floor.calls (a0 : Int) (a1 : Int) (r : Int) (w : World) (h : bivouacref08_floor.f a0 a1 = some r) :
  Calls Try.prog 27 #[.int .i64 a0, .int .i64 a1] w fun e w' => e = .returned (.int .i64 r) ∧ Drawn0 w w' := by
 have H : (if a1 = 0 then (none) else (if (wrap64 ((wrap64 (Int.tdiv a0 a1)) * a1)) > a0 then (some (wrap64 ((wrap64 (Int.tdiv a0 a1)) - 1))) else (some (wrap64 (Int.tdiv a0 a1))))) = some r := h
 clear h
 by_cases c3 : a1 = 0
 ·
  rw [if_pos c3] at H
  exact absurd H (by simp)
 ·
  rw [if_neg c3] at H
  have c3b0 : (a1 == 0) = false := beq_eq_false_iff_ne.mpr c3
  have c3b1 : (a1 != 0) = true := bne_iff_ne.mpr c3
  by_cases c4 : (wrap64 ((wrap64 (Int.tdiv a0 a1)) * a1)) > a0
  ·
   rw [if_pos c4] at H
   have c4b0 : decide (a0 < (wrap64 ((wrap64 (Int.tdiv a0 a1)) * a1))) = true := decide_eq_true c4
   clear c4
   obtain rfl := Option.some.inj H
   go_enter Try.func27, Try.ntmps27
   go_wp2
   go_ret
   exact ⟨by first | rfl | (simp; done) | (simp [*]; done), by repeat (first | exact Drawn0.refl _ | apply Drawn0.step)⟩
  ·
   rw [if_neg c4] at H
   have c4b0 : decide (a0 < (wrap64 ((wrap64 (Int.tdiv a0 a1)) * a1))) = false := decide_eq_false c4
   clear c4
   obtain rfl := Option.some.inj H
   go_enter Try.func27, Try.ntmps27
   go_wp2
   go_ret
   exact ⟨by first | rfl | (simp; done) | (simp [*]; done), by repeat (first | exact Drawn0.refl _ | apply Drawn0.step)⟩

/-! ### bivouacref08_Cell: function 13 -/
def bivouacref08_Cell.f (a0 : Int) (a1 : Int) (a2 : Int) (a3 : Int) (a4 : Int) : Option (Int × Int) := (bivouacref08_Long.f a0 a1 a2 a3).bind fun t167 => (if t167 = 0 then (some (a0, a1)) else ((bivouacref08_floor.f (wrap64 ((wrap64 ((wrap64 (2 * a4)) * (wrap64 (a2 - a0)))) + t167)) (wrap64 (2 * t167))).bind fun t168 => ((bivouacref08_floor.f (wrap64 ((wrap64 ((wrap64 (2 * a4)) * (wrap64 (a3 - a1)))) + t167)) (wrap64 (2 * t167))).bind fun t169 => (some (wrap64 (a0 + t168), wrap64 (a1 + t169))))))
set_option maxHeartbeats 8000000 in
set_option maxRecDepth 100000 in
theorem bivouacref08_Cell.calls (a0 : Int) (a1 : Int) (a2 : Int) (a3 : Int) (a4 : Int) (r1 : Int) (r2 : Int) (w : World) (h : bivouacref08_Cell.f a0 a1 a2 a3 a4 = some (r1, r2)) :
  Calls Try.prog 13 #[.int .i64 a0, .int .i64 a1, .int .i64 a2, .int .i64 a3, .int .i64 a4] w fun e w' => e = .returned (.tuple #[.int .i64 r1, .int .i64 r2]) ∧ Drawn0 w w' := by
 have H : ((bivouacref08_Long.f a0 a1 a2 a3).bind fun t167 => (if t167 = 0 then (some (a0, a1)) else ((bivouacref08_floor.f (wrap64 ((wrap64 ((wrap64 (2 * a4)) * (wrap64 (a2 - a0)))) + t167)) (wrap64 (2 * t167))).bind fun t168 => ((bivouacref08_floor.f (wrap64 ((wrap64 ((wrap64 (2 * a4)) * (wrap64 (a3 - a1)))) + t167)) (wrap64 (2 * t167))).bind fun t169 => (some (wrap64 (a0 + t168), wrap64 (a1 + t169))))))) = some (r1, r2) := h
 clear h
 replace H := Option.bind_eq_some_iff.mp H
 obtain ⟨t167, A60, H⟩ := H
 replace H : (if t167 = 0 then (some (a0, a1)) else ((bivouacref08_floor.f (wrap64 ((wrap64 ((wrap64 (2 * a4)) * (wrap64 (a2 - a0)))) + t167)) (wrap64 (2 * t167))).bind fun t168 => ((bivouacref08_floor.f (wrap64 ((wrap64 ((wrap64 (2 * a4)) * (wrap64 (a3 - a1)))) + t167)) (wrap64 (2 * t167))).bind fun t169 => (some (wrap64 (a0 + t168), wrap64 (a1 + t169)))))) = some (r1, r2) := H
 have A6 := Aside0.mk A60
 clear A60
 by_cases c7 : t167 = 0
 ·
  rw [if_pos c7] at H
  have c7b0 : (t167 == 0) = true := beq_iff_eq.mpr c7
  have c7b1 : (t167 != 0) = false := bne_eq_false_iff_eq.mpr c7
  clear c7
  simp only [Option.some.injEq, Prod.mk.injEq] at H
  obtain ⟨rfl, rfl⟩ := H
  go_enter Try.func13, Try.ntmps13
  go_wp2_with (first | ((with_reducible refine gate_callee (f := 12) rfl ?_); refine goesL_ (some 17) rfl rfl Try.func12 (by kernel_rfl) rfl #[.int .i64 a0, .int .i64 a1, .int .i64 a2, .int .i64 a3] rfl (by (try simp only [List.map_toArray, List.map_cons, List.map_nil]); first | done | rfl | (simp only [List.length_drop, List.length_take]; rfl)) ?_; (with_reducible refine (bivouacref08_Long.calls a0 a1 a2 a3 t167 _ A6.out).mono ?_); rintro e w' ⟨rfl, ⟨nd, rfl⟩⟩; refine ⟨_, rfl, ?_⟩))
  go_ret2
  exact ⟨by first | rfl | (simp; done) | (simp [*]; done), by repeat (first | exact Drawn0.refl _ | apply Drawn0.step)⟩
 ·
  rw [if_neg c7] at H
  have c7b0 : (t167 == 0) = false := beq_eq_false_iff_ne.mpr c7
  have c7b1 : (t167 != 0) = true := bne_iff_ne.mpr c7
  replace H := Option.bind_eq_some_iff.mp H
  obtain ⟨t168, A80, H⟩ := H
  replace H : ((bivouacref08_floor.f (wrap64 ((wrap64 ((wrap64 (2 * a4)) * (wrap64 (a3 - a1)))) + t167)) (wrap64 (2 * t167))).bind fun t169 => (some (wrap64 (a0 + t168), wrap64 (a1 + t169)))) = some (r1, r2) := H
  have A8 := Aside0.mk A80
  clear A80
  replace H := Option.bind_eq_some_iff.mp H
  obtain ⟨t169, A90, H⟩ := H
  replace H : (some (wrap64 (a0 + t168), wrap64 (a1 + t169))) = some (r1, r2) := H
  have A9 := Aside0.mk A90
  clear A90
  simp only [Option.some.injEq, Prod.mk.injEq] at H
  obtain ⟨rfl, rfl⟩ := H
  go_enter Try.func13, Try.ntmps13
  go_wp2_with (first | ((with_reducible refine gate_callee (f := 12) rfl ?_); refine goesL_ (some 17) rfl rfl Try.func12 (by kernel_rfl) rfl #[.int .i64 a0, .int .i64 a1, .int .i64 a2, .int .i64 a3] rfl (by (try simp only [List.map_toArray, List.map_cons, List.map_nil]); first | done | rfl | (simp only [List.length_drop, List.length_take]; rfl)) ?_; (with_reducible refine (bivouacref08_Long.calls a0 a1 a2 a3 t167 _ A6.out).mono ?_); rintro e w' ⟨rfl, ⟨nd, rfl⟩⟩; refine ⟨_, rfl, ?_⟩) | ((with_reducible refine gate_callee (f := 27) rfl ?_); refine goesL_ (some 33) rfl rfl Try.func27 (by kernel_rfl) rfl #[.int .i64 (wrap64 ((wrap64 ((wrap64 (2 * a4)) * (wrap64 (a2 - a0)))) + t167)), .int .i64 (wrap64 (2 * t167))] rfl (by (try simp only [List.map_toArray, List.map_cons, List.map_nil]); first | done | rfl | (simp only [List.length_drop, List.length_take]; rfl)) ?_; (with_reducible refine (bivouacref08_floor.calls (wrap64 ((wrap64 ((wrap64 (2 * a4)) * (wrap64 (a2 - a0)))) + t167)) (wrap64 (2 * t167)) t168 _ A8.out).mono ?_); rintro e w' ⟨rfl, ⟨nd, rfl⟩⟩; refine ⟨_, rfl, ?_⟩) | ((with_reducible refine gate_callee (f := 27) rfl ?_); refine goesL_ (some 46) rfl rfl Try.func27 (by kernel_rfl) rfl #[.int .i64 (wrap64 ((wrap64 ((wrap64 (2 * a4)) * (wrap64 (a3 - a1)))) + t167)), .int .i64 (wrap64 (2 * t167))] rfl (by (try simp only [List.map_toArray, List.map_cons, List.map_nil]); first | done | rfl | (simp only [List.length_drop, List.length_take]; rfl)) ?_; (with_reducible refine (bivouacref08_floor.calls (wrap64 ((wrap64 ((wrap64 (2 * a4)) * (wrap64 (a3 - a1)))) + t167)) (wrap64 (2 * t167)) t169 _ A9.out).mono ?_); rintro e w' ⟨rfl, ⟨nd, rfl⟩⟩; refine ⟨_, rfl, ?_⟩))
  go_ret2
  exact ⟨by first | rfl | (simp; done) | (simp [*]; done), by repeat (first | exact Drawn0.refl _ | apply Drawn0.step)⟩

end Go.Proofs.Ytincnaejgimlbaa.PA
