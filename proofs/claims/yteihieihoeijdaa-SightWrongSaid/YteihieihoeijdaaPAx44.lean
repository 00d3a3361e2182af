-- WRITTEN BY A PROGRAM OF THIS SESSION (a turned copy of the kit's printer), for this claim. Nothing here is trusted: Lean checks it.
import Derived.Test.YteihieihoeijdaaPAx0
import Derived.Test.YteihieihoeijdaaPAx43
namespace Go.Proofs.Yteihieihoeijdaa.PA
open Go.RowKit Go.Proofs.YteihieihoeijdaaW.PrintWords Go.Proofs.YteihieihoeijdaaW.PrintLast Go.Proofs.YteihieihoeijdaaW.PrintMore
attribute [local go_sem] max2_int min2_int max_two min_two max_three min_three max_four min_four   -- for this text's walks alone
set_option linter.unusedVariables false
set_option linter.unusedSimpArgs false

/-! ### rng_Between: function 34 -/
def rng_Between.f (a0 : Int) (a1 : Int) (a2 : Int) (a3 : Int) : Option (Int × Int) := if a2 > a3 then (some (0, 1)) else (if (IntKind.u64.wrap ((IntKind.u64.wrap ((IntKind.u64.wrap (a3)) - (IntKind.u64.wrap (a2)))) + 1)) = 0 then ((rng_At.f a0 a1).bind fun t438 => (some (wrap64 (t438), 0))) else ((rng_Below.f a0 a1 (IntKind.u64.wrap ((IntKind.u64.wrap ((IntKind.u64.wrap (a3)) - (IntKind.u64.wrap (a2)))) + 1))).bind fun t439 => (some (wrap64 (a2 + (wrap64 (t439))), 0))))
set_option maxHeartbeats 8000000 in
set_option maxRecDepth 100000 in
theorem rng_Between.calls (a0 : Int) (a1 : Int) (a2 : Int) (a3 : Int) (r1 : Int) (r2 : Int) (w : World) (h : rng_Between.f a0 a1 a2 a3 = some (r1, r2)) :
  Calls Try.prog 34 #[.int .u64 a0, .int .u64 a1, .int .i64 a2, .int .i64 a3] w fun e w' => e = .returned (.tuple #[.int .i64 r1, .int .i64 r2]) ∧ Drawn0 w w' := by
 have H : (if a2 > a3 then (some (0, 1)) else (if (IntKind.u64.wrap ((IntKind.u64.wrap ((IntKind.u64.wrap (a3)) - (IntKind.u64.wrap (a2)))) + 1)) = 0 then ((rng_At.f a0 a1).bind fun t438 => (some (wrap64 (t438), 0))) else ((rng_Below.f a0 a1 (IntKind.u64.wrap ((IntKind.u64.wrap ((IntKind.u64.wrap (a3)) - (IntKind.u64.wrap (a2)))) + 1))).bind fun t439 => (some (wrap64 (a2 + (wrap64 (t439))), 0))))) = some (r1, r2) := h
 clear h
 by_cases c5 : a2 > a3
 ·
  rw [if_pos c5] at H
  have c5b0 : decide (a3 < a2) = true := decide_eq_true c5
  clear c5
  simp only [Option.some.injEq, Prod.mk.injEq] at H
  obtain ⟨rfl, rfl⟩ := H
  go_enter Try.func34, Try.ntmps34
  go_wp2
  go_ret2
  exact ⟨by first | rfl | (simp; done) | (simp [*]; done), by repeat (first | exact Drawn0.refl _ | apply Drawn0.step)⟩
 ·
  rw [if_neg c5] at H
  have c5b0 : decide (a3 < a2) = false := decide_eq_false c5
  clear c5
  by_cases c6 : (IntKind.u64.wrap ((IntKind.u64.wrap ((IntKind.u64.wrap (a3)) - (IntKind.u64.wrap (a2)))) + 1)) = 0
  ·
   rw [if_pos c6] at H
   have c6b0 : ((IntKind.u64.wrap ((IntKind.u64.wrap ((IntKind.u64.wrap (a3)) - (IntKind.u64.wrap (a2)))) + 1)) == 0) = true := beq_iff_eq.mpr c6
   have c6b1 : ((IntKind.u64.wrap ((IntKind.u64.wrap ((IntKind.u64.wrap (a3)) - (IntKind.u64.wrap (a2)))) + 1)) != 0) = false := bne_eq_false_iff_eq.mpr c6
   clear c6
   replace H := Option.bind_eq_some_iff.mp H
   obtain ⟨t438, A70, H⟩ := H
   replace H : (some (wrap64 (t438), 0)) = some (r1, r2) := H
   have A7 := Aside0.mk A70
   clear A70
   simp only [Option.some.injEq, Prod.mk.injEq] at H
   obtain ⟨rfl, rfl⟩ := H
   go_enter Try.func34, Try.ntmps34
   go_wp2_with (first | ((with_reducible refine gate_callee (f := 44) rfl ?_); refine goesL_ (some 24) rfl rfl Try.func44 (by kernel_rfl) rfl #[.int .u64 a0, .int .u64 a1] rfl (by (try simp only [List.map_toArray, List.map_cons, List.map_nil]); first | done | rfl | (simp only [List.length_drop, List.length_take]; rfl)) ?_; (with_reducible refine (rng_At.calls a0 a1 t438 _ A7.out).mono ?_); rintro e w' ⟨rfl, ⟨nd, rfl⟩⟩; refine ⟨_, rfl, ?_⟩))
   go_ret2
   exact ⟨by first | rfl | (simp; done) | (simp [*]; done), by repeat (first | exact Drawn0.refl _ | apply Drawn0.step)⟩
  ·
   rw [if_neg c6] at H
   have c6b0 : ((IntKind.u64.wrap ((IntKind.u64.wrap ((IntKind.u64.wrap (a3)) - (IntKind.u64.wrap (a2)))) + 1)) == 0) = false := beq_eq_false_iff_ne.mpr c6
   have c6b1 : ((IntKind.u64.wrap ((IntKind.u64.wrap ((IntKind.u64.wrap (a3)) - (IntKind.u64.wrap (a2)))) + 1)) != 0) = true := bne_iff_ne.mpr c6
   replace H := Option.bind_eq_some_iff.mp H
   obtain ⟨t439, A80, H⟩ := H
   replace H : (some (wrap64 (a2 + (wrap64 (t439))), 0)) = some (r1, r2) := H
   have A8 := Aside0.mk A80
   clear A80
   simp only [Option.some.injEq, Prod.mk.injEq] at H
   obtain ⟨rfl, rfl⟩ := H
   go_enter Try.func34, Try.ntmps34
   go_wp2_with (first | ((with_reducible refine gate_callee (f := 45) rfl ?_); refine goesL_ (some 30) rfl rfl Try.func45 (by kernel_rfl) rfl #[.int .u64 a0, .int .u64 a1, .int .u64 (IntKind.u64.wrap ((IntKind.u64.wrap ((IntKind.u64.wrap (a3)) - (IntKind.u64.wrap (a2)))) + 1))] rfl (by (try simp only [List.map_toArray, List.map_cons, List.map_nil]); first | done | rfl | (simp only [List.length_drop, List.length_take]; rfl)) ?_; (with_reducible refine (rng_Below.calls a0 a1 (IntKind.u64.wrap ((IntKind.u64.wrap ((IntKind.u64.wrap (a3)) - (IntKind.u64.wrap (a2)))) + 1)) t439 _ A8.out).mono ?_); rintro e w' ⟨rfl, ⟨nd, rfl⟩⟩; refine ⟨_, rfl, ?_⟩))
   go_ret2
   exact ⟨by first | rfl | (simp; done) | (simp [*]; done), by repeat (first | exact Drawn0.refl _ | apply Drawn0.step)⟩

/-! ### sight_Wrong: function 17 -/
def sight_Wrong.f (a0 : Int) (a1 : Int) (a2 : Int) : Option (Int × Int) := (rng_Between.f a0 (IntKind.u64.wrap (2 * (IntKind.u64.wrap ((IntKind.u64.wrap ((IntKind.u64.wrap (a1)) * 1024)) + (Go.bits .and .u64 (IntKind.u64.wrap (a2)) 1023))))) (-65536) 65536).bind fun bt440 => ((rng_Between.f a0 (IntKind.u64.wrap ((IntKind.u64.wrap (2 * (IntKind.u64.wrap ((IntKind.u64.wrap ((IntKind.u64.wrap (a1)) * 1024)) + (Go.bits .and .u64 (IntKind.u64.wrap (a2)) 1023))))) + 1)) (-65536) 65536).bind fun bt442 => (some (bt440.1, bt442.1)))
set_option maxHeartbeats 8000000 in
set_option maxRecDepth 100000 in
theorem sight_Wrong.calls (a0 : Int) (a1 : Int) (a2 : Int) (r1 : Int) (r2 : Int) (w : World) (h : sight_Wrong.f a0 a1 a2 = some (r1, r2)) :
  Calls Try.prog 17 #[.int .u64 a0, .int .i64 a1, .int .i64 a2] w fun e w' => e = .returned (.tuple #[.int .i64 r1, .int .i64 r2]) ∧ Drawn0 w w' := by
 have H : ((rng_Between.f a0 (IntKind.u64.wrap (2 * (IntKind.u64.wrap ((IntKind.u64.wrap ((IntKind.u64.wrap (a1)) * 1024)) + (Go.bits .and .u64 (IntKind.u64.wrap (a2)) 1023))))) (-65536) 65536).bind fun bt440 => ((rng_Between.f a0 (IntKind.u64.wrap ((IntKind.u64.wrap (2 * (IntKind.u64.wrap ((IntKind.u64.wrap ((IntKind.u64.wrap (a1)) * 1024)) + (Go.bits .and .u64 (IntKind.u64.wrap (a2)) 1023))))) + 1)) (-65536) 65536).bind fun bt442 => (some (bt440.1, bt442.1)))) = some (r1, r2) := h
 clear h
 replace H := Option.bind_eq_some_iff.mp H
 obtain ⟨⟨t440, t441⟩, A40, H⟩ := H
 replace H : ((rng_Between.f a0 (IntKind.u64.wrap ((IntKind.u64.wrap (2 * (IntKind.u64.wrap ((IntKind.u64.wrap ((IntKind.u64.wrap (a1)) * 1024)) + (Go.bits .and .u64 (IntKind.u64.wrap (a2)) 1023))))) + 1)) (-65536) 65536).bind fun bt442 => (some (t440, bt442.1))) = some (r1, r2) := H
 have A4 := Aside0.mk A40
 clear A40
 replace H := Option.bind_eq_some_iff.mp H
 obtain ⟨⟨t442, t443⟩, A50, H⟩ := H
 replace H : (some (t440, t442)) = some (r1, r2) := H
 have A5 := Aside0.mk A50
 clear A50
 simp only [Option.some.injEq, Prod.mk.injEq] at H
 obtain ⟨rfl, rfl⟩ := H
 go_enter Try.func17, Try.ntmps17
 go_wp2_with (first | ((with_reducible refine gate_callee (f := 34) rfl ?_); refine goesL_ (some 24) rfl rfl Try.func34 (by kernel_rfl) rfl #[.int .u64 a0, .int .u64 (IntKind.u64.wrap (2 * (IntKind.u64.wrap ((IntKind.u64.wrap ((IntKind.u64.wrap (a1)) * 1024)) + (Go.bits .and .u64 (IntKind.u64.wrap (a2)) 1023))))), .int .i64 (-65536), .int .i64 65536] rfl (by (try simp only [List.map_toArray, List.map_cons, List.map_nil]); first | done | rfl | (simp only [List.length_drop, List.length_take]; rfl)) ?_; (with_reducible refine (rng_Between.calls a0 (IntKind.u64.wrap (2 * (IntKind.u64.wrap ((IntKind.u64.wrap ((IntKind.u64.wrap (a1)) * 1024)) + (Go.bits .and .u64 (IntKind.u64.wrap (a2)) 1023))))) (-65536) 65536 t440 t441 _ A4.out).mono ?_); rintro e w' ⟨rfl, ⟨nd, rfl⟩⟩; refine ⟨_, rfl, ?_⟩) | ((with_reducible refine gate_callee (f := 34) rfl ?_); refine goesL_ (some 31) rfl rfl Try.func34 (by kernel_rfl) rfl #[.int .u64 a0, .int .u64 (IntKind.u64.wrap ((IntKind.u64.wrap (2 * (IntKind.u64.wrap ((IntKind.u64.wrap ((IntKind.u64.wrap (a1)) * 1024)) + (Go.bits .and .u64 (IntKind.u64.wrap (a2)) 1023))))) + 1)), .int .i64 (-65536), .int .i64 65536] rfl (by (try simp only [List.map_toArray, List.map_cons, List.map_nil]); first | done | rfl | (simp only [List.length_drop, List.length_take]; rfl)) ?_; (with_reducible refine (rng_Between.calls a0 (IntKind.u64.wrap ((IntKind.u64.wrap (2 * (IntKind.u64.wrap ((IntKind.u64.wrap ((IntKind.u64.wrap (a1)) * 1024)) + (Go.bits .and .u64 (IntKind.u64.wrap (a2)) 1023))))) + 1)) (-65536) 65536 t442 t443 _ A5.out).mono ?_); rintro e w' ⟨rfl, ⟨nd, rfl⟩⟩; refine ⟨_, rfl, ?_⟩))
 go_ret2
 exact ⟨by first | rfl | (simp; done) | (simp [*]; done), by repeat (first | exact Drawn0.refl _ | apply Drawn0.step)⟩

/-! ### bivouacref21_Place: function 18 -/
def bivouacref21_Place.f (a0 : Int) (a1 : Int) : Option (Int) := if (Int.tmod a1 1024) < 0 then (some (IntKind.u64.wrap (2 * (IntKind.u64.wrap ((IntKind.u64.wrap ((IntKind.u64.wrap (a0)) * 1024)) + (IntKind.u64.wrap (wrap64 ((Int.tmod a1 1024) + 1024)))))))) else (some (IntKind.u64.wrap (2 * (IntKind.u64.wrap ((IntKind.u64.wrap ((IntKind.u64.wrap (a0)) * 1024)) + (IntKind.u64.wrap (Int.tmod a1 1024)))))))
set_option maxHeartbeats 8000000 in
set_option maxRecDepth 100000 in
theorem bivouacref21_Place.calls (a0 : Int) (a1 : Int) (r : Int) (w : World) (h : bivouacref21_Place.f a0 a1 = some r) :
  Calls Try.prog 18 #[.int .i64 a0, .int .i64 a1] w fun e w' => e = .returned (.int .u64 r) ∧ Drawn0 w w' := by
 have H : (if (Int.tmod a1 1024) < 0 then (some (IntKind.u64.wrap (2 * (IntKind.u64.wrap ((IntKind.u64.wrap ((IntKind.u64.wrap (a0)) * 1024)) + (IntKind.u64.wrap (wrap64 ((Int.tmod a1 1024) + 1024)))))))) else (some (IntKind.u64.wrap (2 * (IntKind.u64.wrap ((IntKind.u64.wrap ((IntKind.u64.wrap (a0)) * 1024)) + (IntKind.u64.wrap (Int.tmod a1 1024)))))))) = some r := h
 clear h
 by_cases c3 : (Int.tmod a1 1024) < 0
 ·
  rw [if_pos c3] at H
  have c3b0 : decide ((Int.tmod a1 1024) < 0) = true := decide_eq_true c3
  clear c3
  obtain rfl := Option.some.inj H
  go_enter Try.func18, Try.ntmps18
  go_wp2
  go_ret
  exact ⟨by first | rfl | (simp; done) | (simp [*]; done), by repeat (first | exact Drawn0.refl _ | apply Drawn0.step)⟩
 ·
  rw [if_neg c3] at H
  have c3b0 : decide ((Int.tmod a1 1024) < 0) = false := decide_eq_false c3
  clear c3
  obtain rfl := Option.some.inj H
  go_enter Try.func18, Try.ntmps18
  go_wp2
  go_ret
  exact ⟨by first | rfl | (simp; done) | (simp [*]; done), by repeat (first | exact Drawn0.refl _ | apply Drawn0.step)⟩

end Go.Proofs.Yteihieihoeijdaa.PA
