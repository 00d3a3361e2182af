-- WRITTEN BY A PROGRAM OF THIS SESSION (a turned copy of the kit's printer), for this claim. Nothing here is trusted: Lean checks it.
import Derived.Test.YtincnaejgimlbaaPAx0
namespace Go.Proofs.Ytincnaejgimlbaa.PA
open Go.RowKit Go.Proofs.YtincnaejgimlbaaW.PrintWords Go.Proofs.YtincnaejgimlbaaW.PrintLast Go.Proofs.YtincnaejgimlbaaW.PrintMore
attribute [local go_sem] max2_int min2_int max_two min_two max_three min_three max_four min_four   -- for this text's walks alone
set_option linter.unusedVariables false
set_option linter.unusedSimpArgs false

/-! ### bivouacref08_abs: function 26 -/
def bivouacref08_abs.f (a0 : Int) : Option (Int) := if a0 < 0 then (some (wrap64 (-a0))) else (some a0)
set_option maxHeartbeats 8000000 in
set_option maxRecDepth 100000 in
theorem bivouacref08_abs.calls (a0 : Int) (r : Int) (w : World) (h : bivouacref08_abs.f a0 = some r) :
  Calls Try.prog 26 #[.int .i64 a0] w fun e w' => e = .returned (.int .i64 r) ∧ Drawn0 w w' := by
 have H : (if a0 < 0 then (some (wrap64 (-a0))) else (some a0)) = some r := h
 clear h
 by_cases c2 : a0 < 0
 ·
  rw [if_pos c2] at H
  have c2b0 : decide (a0 < 0) = true := decide_eq_true c2
  clear c2
  obtain rfl := Option.some.inj H
  go_enter Try.func26, Try.ntmps26
  go_wp2
  go_ret
  exact ⟨by first | rfl | (simp; done) | (simp [*]; done), by repeat (first | exact Drawn0.refl _ | apply Drawn0.step)⟩
 ·
  rw [if_neg c2] at H
  have c2b0 : decide (a0 < 0) = false := decide_eq_false c2
  clear c2
  obtain rfl := Option.some.inj H
  go_enter Try.func26, Try.ntmps26
  go_wp2
  go_ret
  exact ⟨by first | rfl | (simp; done) | (simp [*]; done), by repeat (first | exact Drawn0.refl _ | apply Drawn0.step)⟩

/-! ### bivouacref08_Long: function 12 -/
def bivouacref08_Long.f (a0 : Int) (a1 : Int) (a2 : Int) (a3 : Int) : Option (Int) := (bivouacref08_abs.f (wrap64 (a2 - a0))).bind fun t163 => ((bivouacref08_abs.f (wrap64 (a3 - a1))).bind fun t164 => (if t163 > t164 then ((bivouacref08_abs.f (wrap64 (a2 - a0))).bind fun t165 => (some t165)) else ((bivouacref08_abs.f (wrap64 (a3 - a1))).bind fun t166 => (some t166))))
set_option maxHeartbeats 8000000 in
set_option maxRecDepth 100000 in
theorem bivouacref08_Long.calls (a0 : Int) (a1 : Int) (a2 : Int) (a3 : Int) (r : Int) (w : World) (h : bivouacref08_Long.f a0 a1 a2 a3 = some r) :
  Calls Try.prog 12 #[.int .i64 a0, .int .i64 a1, .int .i64 a2, .int .i64 a3] w fun e w' => e = .returned (.int .i64 r) ∧ Drawn0 w w' := by
 have H : ((bivouacref08_abs.f (wrap64 (a2 - a0))).bind fun t163 => ((bivouacref08_abs.f (wrap64 (a3 - a1))).bind fun t164 => (if t163 > t164 then ((bivouacref08_abs.f (wrap64 (a2 - a0))).bind fun t165 => (some t165)) else ((bivouacref08_abs.f (wrap64 (a3 - a1))).bind fun t166 => (some t166))))) = some r := h
 clear h
 replace H := Option.bind_eq_some_iff.mp H
 obtain ⟨t163, A50, H⟩ := H
 replace H : ((bivouacref08_abs.f (wrap64 (a3 - a1))).bind fun t164 => (if t163 > t164 then ((bivouacref08_abs.f (wrap64 (a2 - a0))).bind fun t165 => (some t165)) else ((bivouacref08_abs.f (wrap64 (a3 - a1))).bind fun t166 => (some t166)))) = some r := H
 have A5 := Aside0.mk A50
 clear A50
 replace H := Option.bind_eq_some_iff.mp H
 obtain ⟨t164, A60, H⟩ := H
 replace H : (if t163 > t164 then ((bivouacref08_abs.f (wrap64 (a2 - a0))).bind fun t165 => (some t165)) else ((bivouacref08_abs.f (wrap64 (a3 - a1))).bind fun t166 => (some t166))) = some r := H
 have A6 := Aside0.mk A60
 clear A60
 by_cases c7 : t163 > t164
 ·
  rw [if_pos c7] at H
  have c7b0 : decide (t164 < t163) = true := decide_eq_true c7
  clear c7
  replace H := Option.bind_eq_some_iff.mp H
  obtain ⟨t165, A80, H⟩ := H
  replace H : (some t165) = some r := H
  have A8 := Aside0.mk A80
  clear A80
  obtain rfl := Option.some.inj H
  go_enter Try.func12, Try.ntmps12
  go_wp2_with (first | ((with_reducible refine gate_callee (f := 26) rfl ?_); refine goesL_ (some 12) rfl rfl Try.func26 (by kernel_rfl) rfl #[.int .i64 (wrap64 (a2 - a0))] rfl (by (try simp only [List.map_toArray, List.map_cons, List.map_nil]); first | done | rfl | (simp only [List.length_drop, List.length_take]; rfl)) ?_; (with_reducible refine (bivouacref08_abs.calls (wrap64 (a2 - a0)) t163 _ A5.out).mono ?_); rintro e w' ⟨rfl, ⟨nd, rfl⟩⟩; refine ⟨_, rfl, ?_⟩) | ((with_reducible refine gate_callee (f := 26) rfl ?_); refine goesL_ (some 16) rfl rfl Try.func26 (by kernel_rfl) rfl #[.int .i64 (wrap64 (a3 - a1))] rfl (by (try simp only [List.map_toArray, List.map_cons, List.map_nil]); first | done | rfl | (simp only [List.length_drop, List.length_take]; rfl)) ?_; (with_reducible refine (bivouacref08_abs.calls (wrap64 (a3 - a1)) t164 _ A6.out).mono ?_); rintro e w' ⟨rfl, ⟨nd, rfl⟩⟩; refine ⟨_, rfl, ?_⟩) | ((with_reducible refine gate_callee (f := 26) rfl ?_); refine goesL_ (some 21) rfl rfl Try.func26 (by kernel_rfl) rfl #[.int .i64 (wrap64 (a2 - a0))] rfl (by (try simp only [List.map_toArray, List.map_cons, List.map_nil]); first | done | rfl | (simp only [List.length_drop, List.length_take]; rfl)) ?_; (with_reducible refine (bivouacref08_abs.calls (wrap64 (a2 - a0)) t165 _ A8.out).mono ?_); rintro e w' ⟨rfl, ⟨nd, rfl⟩⟩; refine ⟨_, rfl, ?_⟩))
  go_ret
  exact ⟨by first | rfl | (simp; done) | (simp [*]; done), by repeat (first | exact Drawn0.refl _ | apply Drawn0.step)⟩
 ·
  rw [if_neg c7] at H
  have c7b0 : decide (t164 < t163) = false := decide_eq_false c7
  clear c7
  replace H := Option.bind_eq_some_iff.mp H
  obtain ⟨t166, A90, H⟩ := H
  replace H : (some t166) = some r := H
  have A9 := Aside0.mk A90
  clear A90
  obtain rfl := Option.some.inj H
  go_enter Try.func12, Try.ntmps12
  go_wp2_with (first | ((with_reducible refine gate_callee (f := 26) rfl ?_); refine goesL_ (some 12) rfl rfl Try.func26 (by kernel_rfl) rfl #[.int .i64 (wrap64 (a2 - a0))] rfl (by (try simp only [List.map_toArray, List.map_cons, List.map_nil]); first | done | rfl | (simp only [List.length_drop, List.length_take]; rfl)) ?_; (with_reducible refine (bivouacref08_abs.calls (wrap64 (a2 - a0)) t163 _ A5.out).mono ?_); rintro e w' ⟨rfl, ⟨nd, rfl⟩⟩; refine ⟨_, rfl, ?_⟩) | ((with_reducible refine gate_callee (f := 26) rfl ?_); refine goesL_ (some 16) rfl rfl Try.func26 (by kernel_rfl) rfl #[.int .i64 (wrap64 (a3 - a1))] rfl (by (try simp only [List.map_toArray, List.map_cons, List.map_nil]); first | done | rfl | (simp only [List.length_drop, List.length_take]; rfl)) ?_; (with_reducible refine (bivouacref08_abs.calls (wrap64 (a3 - a1)) t164 _ A6.out).mono ?_); rintro e w' ⟨rfl, ⟨nd, rfl⟩⟩; refine ⟨_, rfl, ?_⟩) | ((with_reducible refine gate_callee (f := 26) rfl ?_); refine goesL_ (some 25) rfl rfl Try.func26 (by kernel_rfl) rfl #[.int .i64 (wrap64 (a3 - a1))] rfl (by (try simp only [List.map_toArray, List.map_cons, List.map_nil]); first | done | rfl | (simp only [List.length_drop, List.length_take]; rfl)) ?_; (with_reducible refine (bivouacref08_abs.calls (wrap64 (a3 - a1)) t166 _ A9.out).mono ?_); rintro e w' ⟨rfl, ⟨nd, rfl⟩⟩; refine ⟨_, rfl, ?_⟩))
  go_ret
  exact ⟨by first | rfl | (simp; done) | (simp [*]; done), by repeat (first | exact Drawn0.refl _ | apply Drawn0.step)⟩

end Go.Proofs.Ytincnaejgimlbaa.PA
