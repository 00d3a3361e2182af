-- WRITTEN BY A PROGRAM OF THIS SESSION (a turned copy of the kit's printer), for this claim. Nothing here is trusted: Lean checks it.
import Derived.Test.YteihieihoeijdaaPAx0
import Derived.Test.YteihieihoeijdaaPAx45
import Derived.Test.YteihieihoeijdaaPAx46
namespace Go.Proofs.Yteihieihoeijdaa.PA
open Go.RowKit Go.Proofs.YteihieihoeijdaaW.PrintWords Go.Proofs.YteihieihoeijdaaW.PrintLast Go.Proofs.YteihieihoeijdaaW.PrintMore
attribute [local go_sem] max2_int min2_int max_two min_two max_three min_three max_four min_four   -- for this text's walks alone
set_option linter.unusedVariables false
set_option linter.unusedSimpArgs false

/-! ### bivouacref05_At: function 47 -/
def bivouacref05_At.f (k : Nat) (a0 : Int) (a1 : Int) : Option (Int) := (bivouacref05_times.f k (IntKind.u64.wrap (a1 + 1)) 11400714819323198485).bind fun t444 => ((bivouacref05_times.f k (Go.bits .xor .u64 (IntKind.u64.wrap (a0 + t444)) (IntKind.u64.wrap (Int.tdiv (IntKind.u64.wrap (a0 + t444)) 1073741824))) 13787848793156543929).bind fun t445 => ((bivouacref05_times.f k (Go.bits .xor .u64 t445 (IntKind.u64.wrap (Int.tdiv t445 134217728))) 10723151780598845931).bind fun t446 => (some (Go.bits .xor .u64 t446 (IntKind.u64.wrap (Int.tdiv t446 2147483648))))))
theorem bivouacref05_At.mono : ∀ a0 a1 k, LeO (bivouacref05_At.f k a0 a1) (bivouacref05_At.f (k + 1) a0 a1) := by
 intro a0 a1 k
 unfold bivouacref05_At.f
 repeat' first
   | (with_reducible exact bivouacref05_times.mono _ _ _)
   | (with_reducible exact LeO.refl _)
   | (with_reducible exact LeO.none _)
   | (with_reducible refine LeO.ite ?_ ?_)
   | (with_reducible refine LeO.bind ?_ (fun _ => ?_))
   | exact bivouacref05_times.mono _ _ _
   | exact LeO.none _
   | refine LeO.ite ?_ ?_
   | refine LeO.bind ?_ (fun _ => ?_)
set_option maxHeartbeats 8000000 in
set_option maxRecDepth 100000 in
theorem bivouacref05_At.calls (k : Nat) (a0 : Int) (a1 : Int) (r : Int) (w : World) (h : bivouacref05_At.f k a0 a1 = some r) :
  Calls Try.prog 47 #[.int .u64 a0, .int .u64 a1] w fun e w' => e = .returned (.int .u64 r) ∧ Drawn0 w w' := by
 have H : ((bivouacref05_times.f k (IntKind.u64.wrap (a1 + 1)) 11400714819323198485).bind fun t444 => ((bivouacref05_times.f k (Go.bits .xor .u64 (IntKind.u64.wrap (a0 + t444)) (IntKind.u64.wrap (Int.tdiv (IntKind.u64.wrap (a0 + t444)) 1073741824))) 13787848793156543929).bind fun t445 => ((bivouacref05_times.f k (Go.bits .xor .u64 t445 (IntKind.u64.wrap (Int.tdiv t445 134217728))) 10723151780598845931).bind fun t446 => (some (Go.bits .xor .u64 t446 (IntKind.u64.wrap (Int.tdiv t446 2147483648))))))) = some r := h
 clear h
 replace H := Option.bind_eq_some_iff.mp H
 obtain ⟨t444, A30, H⟩ := H
 replace H : ((bivouacref05_times.f k (Go.bits .xor .u64 (IntKind.u64.wrap (a0 + t444)) (IntKind.u64.wrap (Int.tdiv (IntKind.u64.wrap (a0 + t444)) 1073741824))) 13787848793156543929).bind fun t445 => ((bivouacref05_times.f k (Go.bits .xor .u64 t445 (IntKind.u64.wrap (Int.tdiv t445 134217728))) 10723151780598845931).bind fun t446 => (some (Go.bits .xor .u64 t446 (IntKind.u64.wrap (Int.tdiv t446 2147483648)))))) = some r := H
 have A3 := Aside0.mk A30
 clear A30
 replace H := Option.bind_eq_some_iff.mp H
 obtain ⟨t445, A40, H⟩ := H
 replace H : ((bivouacref05_times.f k (Go.bits .xor .u64 t445 (IntKind.u64.wrap (Int.tdiv t445 134217728))) 10723151780598845931).bind fun t446 => (some (Go.bits .xor .u64 t446 (IntKind.u64.wrap (Int.tdiv t446 2147483648))))) = some r := H
 have A4 := Aside0.mk A40
 clear A40
 replace H := Option.bind_eq_some_iff.mp H
 obtain ⟨t446, A50, H⟩ := H
 replace H : (some (Go.bits .xor .u64 t446 (IntKind.u64.wrap (Int.tdiv t446 2147483648)))) = some r := H
 have A5 := Aside0.mk A50
 clear A50
 obtain rfl := Option.some.inj H
 go_enter Try.func47, Try.ntmps47
 go_wp2_with (first | ((with_reducible refine gate_callee (f := 57) rfl ?_); refine goesL_ (some 9) rfl rfl Try.func57 (by kernel_rfl) rfl #[.int .u64 (IntKind.u64.wrap (a1 + 1)), .int .u64 11400714819323198485] rfl (by (try simp only [List.map_toArray, List.map_cons, List.map_nil]); first | done | rfl | (simp only [List.length_drop, List.length_take]; rfl)) ?_; (with_reducible refine (bivouacref05_times.calls k (IntKind.u64.wrap (a1 + 1)) 11400714819323198485 t444 _ A3.out).mono ?_); rintro e w' ⟨rfl, ⟨nd, rfl⟩⟩; refine ⟨_, rfl, ?_⟩) | ((with_reducible refine gate_callee (f := 57) rfl ?_); refine goesL_ (some 15) rfl rfl Try.func57 (by kernel_rfl) rfl #[.int .u64 (Go.bits .xor .u64 (IntKind.u64.wrap (a0 + t444)) (IntKind.u64.wrap (Int.tdiv (IntKind.u64.wrap (a0 + t444)) 1073741824))), .int .u64 13787848793156543929] rfl (by (try simp only [List.map_toArray, List.map_cons, List.map_nil]); first | done | rfl | (simp only [List.length_drop, List.length_take]; rfl)) ?_; (with_reducible refine (bivouacref05_times.calls k (Go.bits .xor .u64 (IntKind.u64.wrap (a0 + t444)) (IntKind.u64.wrap (Int.tdiv (IntKind.u64.wrap (a0 + t444)) 1073741824))) 13787848793156543929 t445 _ A4.out).mono ?_); rintro e w' ⟨rfl, ⟨nd, rfl⟩⟩; refine ⟨_, rfl, ?_⟩) | ((with_reducible refine gate_callee (f := 57) rfl ?_); refine goesL_ (some 20) rfl rfl Try.func57 (by kernel_rfl) rfl #[.int .u64 (Go.bits .xor .u64 t445 (IntKind.u64.wrap (Int.tdiv t445 134217728))), .int .u64 10723151780598845931] rfl (by (try simp only [List.map_toArray, List.map_cons, List.map_nil]); first | done | rfl | (simp only [List.length_drop, List.length_take]; rfl)) ?_; (with_reducible refine (bivouacref05_times.calls k (Go.bits .xor .u64 t445 (IntKind.u64.wrap (Int.tdiv t445 134217728))) 10723151780598845931 t446 _ A5.out).mono ?_); rintro e w' ⟨rfl, ⟨nd, rfl⟩⟩; refine ⟨_, rfl, ?_⟩))
 go_ret
 exact ⟨by first | rfl | (simp; done) | (simp [*]; done), by repeat (first | exact Drawn0.refl _ | apply Drawn0.step)⟩

/-! ### bivouacref05_Below: function 35 -/
def bivouacref05_Below.f (k : Nat) (a0 : Int) (a1 : Int) (a2 : Int) : Option (Int) := (bivouacref05_At.f k a0 a1).bind fun t447 => ((bivouacref05_High.f t447 a2).bind fun t448 => (some t448))
theorem bivouacref05_Below.mono : ∀ a0 a1 a2 k, LeO (bivouacref05_Below.f k a0 a1 a2) (bivouacref05_Below.f (k + 1) a0 a1 a2) := by
 intro a0 a1 a2 k
 unfold bivouacref05_Below.f
 repeat' first
   | (with_reducible exact bivouacref05_At.mono _ _ _)
   | (with_reducible exact LeO.refl _)
   | (with_reducible exact LeO.none _)
   | (with_reducible refine LeO.ite ?_ ?_)
   | (with_reducible refine LeO.bind ?_ (fun _ => ?_))
   | exact bivouacref05_At.mono _ _ _
   | exact LeO.none _
   | refine LeO.ite ?_ ?_
   | refine LeO.bind ?_ (fun _ => ?_)
set_option maxHeartbeats 8000000 in
set_option maxRecDepth 100000 in
theorem bivouacref05_Below.calls (k : Nat) (a0 : Int) (a1 : Int) (a2 : Int) (r : Int) (w : World) (h : bivouacref05_Below.f k a0 a1 a2 = some r) :
  Calls Try.prog 35 #[.int .u64 a0, .int .u64 a1, .int .u64 a2] w fun e w' => e = .returned (.int .u64 r) ∧ Drawn0 w w' := by
 have H : ((bivouacref05_At.f k a0 a1).bind fun t447 => ((bivouacref05_High.f t447 a2).bind fun t448 => (some t448))) = some r := h
 clear h
 replace H := Option.bind_eq_some_iff.mp H
 obtain ⟨t447, A40, H⟩ := H
 replace H : ((bivouacref05_High.f t447 a2).bind fun t448 => (some t448)) = some r := H
 have A4 := Aside0.mk A40
 clear A40
 replace H := Option.bind_eq_some_iff.mp H
 obtain ⟨t448, A50, H⟩ := H
 replace H : (some t448) = some r := H
 have A5 := Aside0.mk A50
 clear A50
 obtain rfl := Option.some.inj H
 go_enter Try.func35, Try.ntmps35
 go_wp2_with (first | ((with_reducible refine gate_callee (f := 47) rfl ?_); refine goesL_ (some 9) rfl rfl Try.func47 (by kernel_rfl) rfl #[.int .u64 a0, .int .u64 a1] rfl (by (try simp only [List.map_toArray, List.map_cons, List.map_nil]); first | done | rfl | (simp only [List.length_drop, List.length_take]; rfl)) ?_; (with_reducible refine (bivouacref05_At.calls k a0 a1 t447 _ A4.out).mono ?_); rintro e w' ⟨rfl, ⟨nd, rfl⟩⟩; refine ⟨_, rfl, ?_⟩) | ((with_reducible refine gate_callee (f := 46) rfl ?_); refine goesL_ (some 11) rfl rfl Try.func46 (by kernel_rfl) rfl #[.int .u64 t447, .int .u64 a2] rfl (by (try simp only [List.map_toArray, List.map_cons, List.map_nil]); first | done | rfl | (simp only [List.length_drop, List.length_take]; rfl)) ?_; (with_reducible refine (bivouacref05_High.calls t447 a2 t448 _ A5.out).mono ?_); rintro e w' ⟨rfl, ⟨nd, rfl⟩⟩; refine ⟨_, rfl, ?_⟩))
 go_ret
 exact ⟨by first | rfl | (simp; done) | (simp [*]; done), by repeat (first | exact Drawn0.refl _ | apply Drawn0.step)⟩

end Go.Proofs.Yteihieihoeijdaa.PA
