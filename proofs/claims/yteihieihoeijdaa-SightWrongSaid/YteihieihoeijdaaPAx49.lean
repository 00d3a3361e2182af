-- WRITTEN BY A PROGRAM OF THIS SESSION (a turned copy of the kit's printer), for this claim. Nothing here is trusted: Lean checks it.
import Derived.Test.YteihieihoeijdaaPAx0
import Derived.Test.YteihieihoeijdaaPAx30
import Derived.Test.YteihieihoeijdaaPAx44
import Derived.Test.YteihieihoeijdaaPAx48
namespace Go.Proofs.Yteihieihoeijdaa.PA
open Go.RowKit Go.Proofs.YteihieihoeijdaaW.PrintWords Go.Proofs.YteihieihoeijdaaW.PrintLast Go.Proofs.YteihieihoeijdaaW.PrintMore
attribute [local go_sem] max2_int min2_int max_two min_two max_three min_three max_four min_four   -- for this text's walks alone
set_option linter.unusedVariables false
set_option linter.unusedSimpArgs false

/-! ### bivouaclaw21_SightWrong: function 7 -/
def bivouaclaw21_SightWrong.f (k : Nat) (a0 : Int) (a1 : Int) (a2 : Int) : Option (Bool) := (sight_Wrong.f a0 a1 a2).bind fun bt450 => ((bivouacref21_Place.f a1 a2).bind fun t452 => ((bivouacref21_Off.f k a0 t452).bind fun t453 => (if bt450.1 = t453 then ((bivouacref21_Off.f k a0 (IntKind.u64.wrap (t452 + 1))).bind fun t454 => (if bt450.2 = t454 then (if bt450.1 ≥ (-65536) then (if bt450.1 ≤ 65536 then (if bt450.2 ≥ (-65536) then (if bt450.2 ≤ 65536 then ((bivouaclaw21_awake.f k).bind fun t455 => (some t455)) else (none)) else (none)) else (none)) else (none)) else (none))) else (none))))
theorem bivouaclaw21_SightWrong.mono : ∀ a0 a1 a2 k, LeO (bivouaclaw21_SightWrong.f k a0 a1 a2) (bivouaclaw21_SightWrong.f (k + 1) a0 a1 a2) := by
 intro a0 a1 a2 k
 unfold bivouaclaw21_SightWrong.f
 repeat' first
   | (with_reducible exact bivouaclaw21_awake.mono _)
   | (with_reducible exact bivouacref21_Off.mono _ _ _)
   | (with_reducible exact LeO.refl _)
   | (with_reducible exact LeO.none _)
   | (with_reducible refine LeO.ite ?_ ?_)
   | (with_reducible refine LeO.bind ?_ (fun _ => ?_))
   | exact bivouaclaw21_awake.mono _
   | exact bivouacref21_Off.mono _ _ _
   | exact LeO.none _
   | refine LeO.ite ?_ ?_
   | refine LeO.bind ?_ (fun _ => ?_)
set_option maxHeartbeats 8000000 in
set_option maxRecDepth 100000 in
theorem bivouaclaw21_SightWrong.calls (k : Nat) (a0 : Int) (a1 : Int) (a2 : Int) (r : Bool) (w : World) (h : bivouaclaw21_SightWrong.f k a0 a1 a2 = some r) :
  Calls Try.prog 7 #[.int .u64 a0, .int .i64 a1, .int .i64 a2] w fun e w' => e = .returned (.bool r) ∧ Below w.heap.size w w' := by
 have HB := Aside0.mk (Below.refl w.heap.size w)
 have H : ((sight_Wrong.f a0 a1 a2).bind fun bt450 => ((bivouacref21_Place.f a1 a2).bind fun t452 => ((bivouacref21_Off.f k a0 t452).bind fun t453 => (if bt450.1 = t453 then ((bivouacref21_Off.f k a0 (IntKind.u64.wrap (t452 + 1))).bind fun t454 => (if bt450.2 = t454 then (if bt450.1 ≥ (-65536) then (if bt450.1 ≤ 65536 then (if bt450.2 ≥ (-65536) then (if bt450.2 ≤ 65536 then ((bivouaclaw21_awake.f k).bind fun t455 => (some t455)) else (none)) else (none)) else (none)) else (none)) else (none))) else (none))))) = some r := h
 clear h
 replace H := Option.bind_eq_some_iff.mp H
 obtain ⟨⟨t450, t451⟩, A40, H⟩ := H
 replace H : ((bivouacref21_Place.f a1 a2).bind fun t452 => ((bivouacref21_Off.f k a0 t452).bind fun t453 => (if t450 = t453 then ((bivouacref21_Off.f k a0 (IntKind.u64.wrap (t452 + 1))).bind fun t454 => (if t451 = t454 then (if t450 ≥ (-65536) then (if t450 ≤ 65536 then (if t451 ≥ (-65536) then (if t451 ≤ 65536 then ((bivouaclaw21_awake.f k).bind fun t455 => (some t455)) else (none)) else (none)) else (none)) else (none)) else (none))) else (none)))) = some r := H
 have A4 := Aside0.mk A40
 clear A40
 replace H := Option.bind_eq_some_iff.mp H
 obtain ⟨t452, A50, H⟩ := H
 replace H : ((bivouacref21_Off.f k a0 t452).bind fun t453 => (if t450 = t453 then ((bivouacref21_Off.f k a0 (IntKind.u64.wrap (t452 + 1))).bind fun t454 => (if t451 = t454 then (if t450 ≥ (-65536) then (if t450 ≤ 65536 then (if t451 ≥ (-65536) then (if t451 ≤ 65536 then ((bivouaclaw21_awake.f k).bind fun t455 => (some t455)) else (none)) else (none)) else (none)) else (none)) else (none))) else (none))) = some r := H
 have A5 := Aside0.mk A50
 clear A50
 replace H := Option.bind_eq_some_iff.mp H
 obtain ⟨t453, A60, H⟩ := H
 replace H : (if t450 = t453 then ((bivouacref21_Off.f k a0 (IntKind.u64.wrap (t452 + 1))).bind fun t454 => (if t451 = t454 then (if t450 ≥ (-65536) then (if t450 ≤ 65536 then (if t451 ≥ (-65536) then (if t451 ≤ 65536 then ((bivouaclaw21_awake.f k).bind fun t455 => (some t455)) else (none)) else (none)) else (none)) else (none)) else (none))) else (none)) = some r := H
 have A6 := Aside0.mk A60
 clear A60
 by_cases c7 : t450 = t453
 ·
  rw [if_pos c7] at H
  have c7b0 : (t450 == t453) = true := beq_iff_eq.mpr c7
  have c7b1 : (t450 != t453) = false := bne_eq_false_iff_eq.mpr c7
  clear c7
  replace H := Option.bind_eq_some_iff.mp H
  obtain ⟨t454, A80, H⟩ := H
  replace H : (if t451 = t454 then (if t450 ≥ (-65536) then (if t450 ≤ 65536 then (if t451 ≥ (-65536) then (if t451 ≤ 65536 then ((bivouaclaw21_awake.f k).bind fun t455 => (some t455)) else (none)) else (none)) else (none)) else (none)) else (none)) = some r := H
  have A8 := Aside0.mk A80
  clear A80
  by_cases c9 : t451 = t454
  ·
   rw [if_pos c9] at H
   have c9b0 : (t451 == t454) = true := beq_iff_eq.mpr c9
   have c9b1 : (t451 != t454) = false := bne_eq_false_iff_eq.mpr c9
   clear c9
   by_cases c10 : t450 ≥ (-65536)
   ·
    rw [if_pos c10] at H
    have c10b0 : decide ((-65536) ≤ t450) = true := decide_eq_true c10
    clear c10
    by_cases c11 : t450 ≤ 65536
    ·
     rw [if_pos c11] at H
     have c11b0 : decide (t450 ≤ 65536) = true := decide_eq_true c11
     clear c11
     by_cases c12 : t451 ≥ (-65536)
     ·
      rw [if_pos c12] at H
      have c12b0 : decide ((-65536) ≤ t451) = true := decide_eq_true c12
      clear c12
      by_cases c13 : t451 ≤ 65536
      ·
       rw [if_pos c13] at H
       have c13b0 : decide (t451 ≤ 65536) = true := decide_eq_true c13
       clear c13
       replace H := Option.bind_eq_some_iff.mp H
       obtain ⟨t455, A140, H⟩ := H
       replace H : (some t455) = some r := H
       have A14 := Aside0.mk A140
       clear A140
       obtain rfl := Option.some.inj H
       go_enter Try.func7, Try.ntmps7
       go_wp2_with (first | ((with_reducible refine gate_callee (f := 17) rfl ?_); refine goesL_ (some 14) rfl rfl Try.func17 (by kernel_rfl) rfl #[.int .u64 a0, .int .i64 a1, .int .i64 a2] rfl (by (try simp only [List.map_toArray, List.map_cons, List.map_nil]); first | done | rfl | (simp only [List.length_drop, List.length_take]; rfl)) ?_; (with_reducible refine (sight_Wrong.calls a0 a1 a2 t450 t451 _ A4.out).mono ?_); rintro e w' ⟨rfl, ⟨nd, rfl⟩⟩; refine ⟨_, rfl, ?_⟩) | ((with_reducible refine gate_callee (f := 18) rfl ?_); refine goesL_ (some 19) rfl rfl Try.func18 (by kernel_rfl) rfl #[.int .i64 a1, .int .i64 a2] rfl (by (try simp only [List.map_toArray, List.map_cons, List.map_nil]); first | done | rfl | (simp only [List.length_drop, List.length_take]; rfl)) ?_; (with_reducible refine (bivouacref21_Place.calls a1 a2 t452 _ A5.out).mono ?_); rintro e w' ⟨rfl, ⟨nd, rfl⟩⟩; refine ⟨_, rfl, ?_⟩) | ((with_reducible refine gate_callee (f := 19) rfl ?_); refine goesL_ (some 23) rfl rfl Try.func19 (by kernel_rfl) rfl #[.int .u64 a0, .int .u64 t452] rfl (by (try simp only [List.map_toArray, List.map_cons, List.map_nil]); first | done | rfl | (simp only [List.length_drop, List.length_take]; rfl)) ?_; (with_reducible refine (bivouacref21_Off.calls k a0 t452 t453 _ A6.out).mono ?_); rintro e w' ⟨rfl, ⟨nd, rfl⟩⟩; refine ⟨_, rfl, ?_⟩) | (go_at_call 19; (with_reducible refine (bivouacref21_Off.calls k a0 (IntKind.u64.wrap (t452 + 1)) t454 _ A8.out).mono ?_); rintro e w' ⟨rfl, ⟨nd, rfl⟩⟩) | (go_at_call 13; (with_reducible refine (bivouaclaw21_awake.calls k  t455 _ A14.out).mono ?_); rintro e w15 ⟨rfl, hb⟩; have n0_ := Aside0.mk (below_step (by repeat (first | (with_reducible first | exact HB.out | apply below_alloc | apply pw_below_drewN | apply below_drew1) | exact HB.out)) hb); clear HB; have HB := n0_; clear n0_; (try clear hb); (try clear hb2); (try clear hk); (try clear hi)))
       go_ret
       exact ⟨by first | rfl | (simp [errW_none, errW_some] <;> rfl) | (simp [*, errW_none, errW_some] <;> rfl) | (rw [Int.tdiv_eq_ediv_of_nonneg (by assumption)]; rfl), by repeat (first | (with_reducible first | exact HB.out | apply below_alloc | apply pw_below_drewN | apply below_drew1) | exact HB.out)⟩
      ·
       rw [if_neg c13] at H
       exact absurd H (by simp)
     ·
      rw [if_neg c12] at H
      exact absurd H (by simp)
    ·
     rw [if_neg c11] at H
     exact absurd H (by simp)
   ·
    rw [if_neg c10] at H
    exact absurd H (by simp)
  ·
   rw [if_neg c9] at H
   exact absurd H (by simp)
 ·
  rw [if_neg c7] at H
  exact absurd H (by simp)

/-- THE ONE PURE STATEMENT of bivouaclaw21_SightWrong: yours. -/
def bivouaclaw21_SightWrong.Pure : Prop := ∀ (a0 : Int) (a1 : Int) (a2 : Int), (Lit.int .u64 a0).wf = true → (Lit.int .i64 a1).wf = true → (Lit.int .i64 a2).wf = true → ∃ k, bivouaclaw21_SightWrong.f k a0 a1 a2 = some true
theorem bivouaclaw21_SightWrong.walk (P : bivouaclaw21_SightWrong.Pure) (a0 : Int) (a1 : Int) (a2 : Int) (w : World) (w0 : (Lit.int .u64 a0).wf = true) (w1 : (Lit.int .i64 a1).wf = true) (w2 : (Lit.int .i64 a2).wf = true) :
  Calls Try.prog 7 #[.int .u64 a0, .int .i64 a1, .int .i64 a2] w fun e w' => e = .returned (.bool true) ∧ Below w.heap.size w w' := by
 obtain ⟨k, h⟩ := P a0 a1 a2 w0 w1 w2
 refine (bivouaclaw21_SightWrong.calls k a0 a1 a2 true w h).mono ?_
 rintro e w' ⟨rfl, hd⟩
 exact ⟨rfl, hd⟩

end Go.Proofs.Yteihieihoeijdaa.PA
