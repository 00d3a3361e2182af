-- WRITTEN BY A PROGRAM OF THIS SESSION (a turned copy of the kit's printer), for this claim. Nothing here is trusted: Lean checks it.
import Derived.Test.YteihieihoeijdaaPAx0
import Derived.Test.YteihieihoeijdaaPAx30
import Derived.Test.YteihieihoeijdaaPAx41
namespace Go.Proofs.Yteihieihoeijdaa.PA
open Go.RowKit Go.Proofs.YteihieihoeijdaaW.PrintWords Go.Proofs.YteihieihoeijdaaW.PrintLast Go.Proofs.YteihieihoeijdaaW.PrintMore
attribute [local go_sem] max2_int min2_int max_two min_two max_three min_three max_four min_four   -- for this text's walks alone
set_option linter.unusedVariables false
set_option linter.unusedSimpArgs false

/-! ### bivouaclaw21_SightFilters: function 6 -/
mutual
def bivouaclaw21_SightFilters.l0 : Nat → List Int → List Int → List Int → Int → Int → Int → Option (Bool)
 | 0, _, _, _, _, _, _ => none
 | k + 1, x0, x1, x5, x6, x7, x8 => if x8 < (x1.length : Int) then (if 0 ≤ x8 then (if (rd x1 x8) < 0 then (if (x5.length : Int) = 0 then (if x6 = 4 then ((bivouaclaw21_awake.f k).bind fun t429 => (some t429)) else (none)) else (none)) else (if (rd x1 x8) ≥ (x0.length : Int) then (if (x5.length : Int) = 0 then (if x6 = 4 then ((bivouaclaw21_awake.f k).bind fun t430 => (some t430)) else (none)) else (none)) else (bivouaclaw21_SightFilters.l0 k x0 x1 x5 x6 x7 (wrap64 (x8 + 1))))) else (none)) else (bivouaclaw21_SightFilters.l1 k x0 x1 x5 x6 x7 0)
def bivouaclaw21_SightFilters.l1 : Nat → List Int → List Int → List Int → Int → Int → Int → Option (Bool)
 | 0, _, _, _, _, _, _ => none
 | k + 1, x0, x1, x5, x6, x7, x9 => if x9 < (x1.length : Int) then (if 0 ≤ x9 then (if 0 ≤ (rd x1 x9) then (if (rd x1 x9) < (x0.length : Int) then (if (rd x0 (rd x1 x9)) > 0 then (if x7 ≥ (x5.length : Int) then (none) else (if 0 ≤ x7 then (if x7 < (x5.length : Int) then (if (rd x5 x7) = x9 then (bivouaclaw21_SightFilters.l1 k x0 x1 x5 x6 (wrap64 (x7 + 1)) (wrap64 (x9 + 1))) else (none)) else (none)) else (none))) else (bivouaclaw21_SightFilters.l1 k x0 x1 x5 x6 x7 (wrap64 (x9 + 1)))) else (none)) else (none)) else (none)) else (if x7 = (x5.length : Int) then (if x6 = 0 then ((bivouaclaw21_awake.f k).bind fun t431 => (some t431)) else (none)) else (none))
end
def bivouaclaw21_SightFilters.f (k : Nat) (l0 : List Int) (l1 : List Int) : Option (Bool) := (sight_Filter.f k l0 l1).bind fun bt423 => (bivouaclaw21_SightFilters.l0 k l0 l1 bt423.1 bt423.2 0 0)
theorem bivouaclaw21_SightFilters.mono_l : ∀ k, (∀ y0 y1 y2 y3 y4 y5, LeO (bivouaclaw21_SightFilters.l0 k y0 y1 y2 y3 y4 y5) (bivouaclaw21_SightFilters.l0 (k + 1) y0 y1 y2 y3 y4 y5)) ∧ (∀ y0 y1 y2 y3 y4 y5, LeO (bivouaclaw21_SightFilters.l1 k y0 y1 y2 y3 y4 y5) (bivouaclaw21_SightFilters.l1 (k + 1) y0 y1 y2 y3 y4 y5))
 | 0 => ⟨fun _ _ _ _ _ _ r h => by simp [bivouaclaw21_SightFilters.l0] at h, fun _ _ _ _ _ _ r h => by simp [bivouaclaw21_SightFilters.l1] at h⟩
 | k + 1 => by
  obtain ⟨ih0, ih1⟩ := bivouaclaw21_SightFilters.mono_l k
  refine ⟨?_, ?_⟩
  ·
   intro y0 y1 y2 y3 y4 y5
   unfold bivouaclaw21_SightFilters.l0
   repeat' first
   | (with_reducible exact ih0 _ _ _ _ _ _)
   | (with_reducible exact ih1 _ _ _ _ _ _)
   | (with_reducible exact bivouaclaw21_awake.mono _)
   | (with_reducible exact sight_Filter.mono _ _ _)
   | (with_reducible exact LeO.refl _)
   | (with_reducible exact LeO.none _)
   | (with_reducible refine LeO.ite ?_ ?_)
   | (with_reducible refine LeO.bind ?_ (fun _ => ?_))
   | exact ih0 _ _ _ _ _ _
   | exact ih1 _ _ _ _ _ _
   | exact bivouaclaw21_awake.mono _
   | exact sight_Filter.mono _ _ _
   | exact LeO.none _
   | refine LeO.ite ?_ ?_
   | refine LeO.bind ?_ (fun _ => ?_)
  ·
   intro y0 y1 y2 y3 y4 y5
   unfold bivouaclaw21_SightFilters.l1
   repeat' first
   | (with_reducible exact ih0 _ _ _ _ _ _)
   | (with_reducible exact ih1 _ _ _ _ _ _)
   | (with_reducible exact bivouaclaw21_awake.mono _)
   | (with_reducible exact sight_Filter.mono _ _ _)
   | (with_reducible exact LeO.refl _)
   | (with_reducible exact LeO.none _)
   | (with_reducible refine LeO.ite ?_ ?_)
   | (with_reducible refine LeO.bind ?_ (fun _ => ?_))
   | exact ih0 _ _ _ _ _ _
   | exact ih1 _ _ _ _ _ _
   | exact bivouaclaw21_awake.mono _
   | exact sight_Filter.mono _ _ _
   | exact LeO.none _
   | refine LeO.ite ?_ ?_
   | refine LeO.bind ?_ (fun _ => ?_)
theorem bivouaclaw21_SightFilters.mono : ∀ a0 a1 k, LeO (bivouaclaw21_SightFilters.f k a0 a1) (bivouaclaw21_SightFilters.f (k + 1) a0 a1) := by
 intro a0 a1 k
 obtain ⟨ih0, ih1⟩ := bivouaclaw21_SightFilters.mono_l k
 unfold bivouaclaw21_SightFilters.f
 repeat' first
   | (with_reducible exact ih0 _ _ _ _ _ _)
   | (with_reducible exact ih1 _ _ _ _ _ _)
   | (with_reducible exact bivouaclaw21_awake.mono _)
   | (with_reducible exact sight_Filter.mono _ _ _)
   | (with_reducible exact LeO.refl _)
   | (with_reducible exact LeO.none _)
   | (with_reducible refine LeO.ite ?_ ?_)
   | (with_reducible refine LeO.bind ?_ (fun _ => ?_))
   | exact ih0 _ _ _ _ _ _
   | exact ih1 _ _ _ _ _ _
   | exact bivouaclaw21_awake.mono _
   | exact sight_Filter.mono _ _ _
   | exact LeO.none _
   | refine LeO.ite ?_ ?_
   | refine LeO.bind ?_ (fun _ => ?_)
set_option maxHeartbeats 8000000 in
set_option maxRecDepth 100000 in
theorem bivouaclaw21_SightFilters.calls (k : Nat) (A0 : Option Addr) (c0 : Nat) (l0 : List Int) (A1 : Option Addr) (c1 : Nat) (l1 : List Int) (r : Bool) (w : World) (hr0 : Kd.C (Kd.int .i64) w A0 l0.length l0) (hc0 : l0.length ≤ c0) (hr1 : Kd.C (Kd.int .i64) w A1 l1.length l1) (hc1 : l1.length ≤ c1) (h : bivouaclaw21_SightFilters.f k l0 l1 = some r) :
  Calls Try.prog 6 #[.slice A0 l0.length c0, .slice A1 l1.length c1] w fun e w' => e = .returned (.bool r) ∧ Below w.heap.size w w' := by
 have HR0 := Aside0.mk hr0
 have HC0 := Aside0.mk hc0
 clear hr0 hc0
 have HR1 := Aside0.mk hr1
 have HC1 := Aside0.mk hc1
 clear hr1 hc1
 have HB := Aside0.mk (Below.refl w.heap.size w)
 have H : ((sight_Filter.f k l0 l1).bind fun bt423 => (bivouaclaw21_SightFilters.l0 k l0 l1 bt423.1 bt423.2 0 0)) = some r := h
 clear h
 replace H := Option.bind_eq_some_iff.mp H
 obtain ⟨⟨t423, t424⟩, A30, H⟩ := H
 replace H : (bivouaclaw21_SightFilters.l0 k l0 l1 t423 t424 0 0) = some r := H
 have A3 := Aside0.mk A30
 clear A30
 have H' := Aside0.mk H
 clear H
 go_enter Try.func6, Try.ntmps6
 go_wp2_with (first | ((with_reducible refine gate_callee (f := 16) rfl ?_); refine goesL_ (some 13) rfl rfl Try.func16 (by kernel_rfl) rfl #[.slice A0 l0.length c0, .slice A1 l1.length c1] rfl (by (try simp only [List.map_toArray, List.map_cons, List.map_nil]); first | done | rfl | (simp only [List.length_drop, List.length_take]; rfl)) ?_; (with_reducible refine (sight_Filter.calls k _ _ l0 _ _ l1 t423 t424 _ ?side1 ?side2 ?side3 ?side4 A3.out).mono ?_); (case side1 => repeat (first | exact HR0.out | (with_reducible refine Kd.C_alloc ?_ _) | (with_reducible refine Kd.C_drewN ?_ _) | (with_reducible refine Kd.C_drew ?_))); (case side2 => exact HC0.out); (case side3 => repeat (first | exact HR1.out | (with_reducible refine Kd.C_alloc ?_ _) | (with_reducible refine Kd.C_drewN ?_ _) | (with_reducible refine Kd.C_drew ?_))); (case side4 => exact HC1.out); rintro e w4 ⟨v425, rfl, ho0, hb⟩; refine ⟨_, rfl, ?_⟩; have n0_ := Aside0.mk (Kd.R_lower ho0 (below_size (by repeat (first | (with_reducible first | exact HB.out | apply below_alloc | apply pw_below_drewN | apply below_drew1) | exact HB.out)))); have n1_ := Aside0.mk (below_step (by repeat (first | (with_reducible first | exact HB.out | apply below_alloc | apply pw_below_drewN | apply below_drew1) | exact HB.out)) hb); clear HB; have HO426 := n0_; have HB := n1_; clear n0_ n1_; (try clear hb); (try clear hb2); (try clear hk); (try clear hi); (try clear ho0)))
 go_loopg [8] k (fun kq v8 w' => ∃ (x8_1 : Int), v8 = .int .i64 x8_1 ∧ Aside0 (bivouaclaw21_SightFilters.l0 kq l0 l1 t423 t424 0 x8_1 = some r) ∧ Aside0 (kq ≤ k) ∧ Aside0 (Kd.R (Kd.int .i64) 3 w' w.heap.size (fun _ => True) v425 t423) ∧ Aside0 (Below w.heap.size w w'))
 case atStart => exact ⟨(0), (by first | rfl | (simp; done) | (simp [*]; done)), H', ⟨Nat.le_refl _⟩, ⟨by (with_reducible repeat (first | apply Kd.R_alloc | apply Kd.R_drewN | apply Kd.R_drew)); exact HO426.out⟩, ⟨by repeat (first | (with_reducible first | exact HB.out | apply below_alloc | apply pw_below_drewN | apply below_drew1) | exact HB.out)⟩⟩
 case round =>
  clear H'
  try clear c1
  try clear p2
  obtain ⟨x8_1, rfl, HA, HK1, HO_5, HB⟩ := hrel
  cases gk with
  | zero => exact absurd HA.out (by simp [bivouaclaw21_SightFilters.l0])
  | succ k1 =>
   have H := HA.out
   clear HA
   simp only [bivouaclaw21_SightFilters.l0] at H
   by_cases c5 : x8_1 < (l1.length : Int)
   ·
    rw [if_pos c5] at H
    have c5b0 : decide (x8_1 < (l1.length : Int)) = true := decide_eq_true c5
    clear c5
    by_cases c6 : 0 ≤ x8_1
    ·
     rw [if_pos c6] at H
     have c6b0 : decide (0 ≤ x8_1) = true := decide_eq_true c6
     clear c6
     by_cases c7 : (rd l1 x8_1) < 0
     ·
      rw [if_pos c7] at H
      have c7b0 : decide ((rd l1 x8_1) < 0) = true := decide_eq_true c7
      clear c7
      by_cases c8 : (t423.length : Int) = 0
      ·
       rw [if_pos c8] at H
       have c8b0 : ((t423.length : Int) == 0) = true := beq_iff_eq.mpr c8
       have c8b1 : ((t423.length : Int) != 0) = false := bne_eq_false_iff_eq.mpr c8
       clear c8
       by_cases c9 : t424 = 4
       ·
        rw [if_pos c9] at H
        have c9b0 : (t424 == 4) = true := beq_iff_eq.mpr c9
        have c9b1 : (t424 != 4) = false := bne_eq_false_iff_eq.mpr c9
        clear c9
        replace H := Option.bind_eq_some_iff.mp H
        obtain ⟨t429, A100, H⟩ := H
        replace H : (some t429) = some r := H
        have A10 := Aside0.mk A100
        clear A100
        obtain rfl := Option.some.inj H
        have p427 : 0 ≤ (x8_1 : Int) := of_decide_eq_true (by first | (with_reducible assumption) | assumption)
        have q427 : x8_1 < (l1.length : Int) := of_decide_eq_true (by first | (with_reducible assumption) | assumption)
        obtain ⟨ad427, e427, hx427_0⟩ := Kd.at_int HR1.out x8_1 p427 q427
        cases e427
        replace hx427_0 := (HB.out.cell (World.block_lt_of_cell? w _ hx427_0)).trans hx427_0
        replace p427 := eq_true p427
        replace q427 := eq_true q427
        obtain ⟨Ao11, co11, eo11⟩ := Kd.R_slice HO_5.out
        subst eo11
        go_wp2_with (first | (go_at_call 13; (with_reducible refine (bivouaclaw21_awake.calls k1  t429 _ A10.out).mono ?_); rintro e w12 ⟨rfl, hb⟩; have n0_ := Aside0.mk (Kd.R_below (by (with_reducible repeat (first | apply Kd.R_alloc | apply Kd.R_drewN | apply Kd.R_drew)); exact HO_5.out) hb); have n1_ := Aside0.mk (below_step (by repeat (first | (with_reducible first | exact HB.out | apply below_alloc | apply pw_below_drewN | apply below_drew1) | exact HB.out)) hb); clear HO_5; clear HB; have HO_5 := n0_; have HB := n1_; clear n0_ n1_; (try clear hb); (try clear hb2); (try clear hk); (try clear hi)))
        go_ret
        exact ⟨by first | rfl | (simp [errW_none, errW_some] <;> rfl) | (simp [*, errW_none, errW_some] <;> rfl) | (rw [Int.tdiv_eq_ediv_of_nonneg (by assumption)]; rfl), by repeat (first | (with_reducible first | exact HB.out | apply below_alloc | apply pw_below_drewN | apply below_drew1) | exact HB.out)⟩
       ·
        rw [if_neg c9] at H
        exact absurd H (by simp)
      ·
       rw [if_neg c8] at H
       exact absurd H (by simp)
     ·
      rw [if_neg c7] at H
      have c7b0 : decide ((rd l1 x8_1) < 0) = false := decide_eq_false c7
      clear c7
      by_cases c13 : (rd l1 x8_1) ≥ (l0.length : Int)
      ·
       rw [if_pos c13] at H
       have c13b0 : decide ((l0.length : Int) ≤ (rd l1 x8_1)) = true := decide_eq_true c13
       clear c13
       by_cases c14 : (t423.length : Int) = 0
       ·
        rw [if_pos c14] at H
        have c14b0 : ((t423.length : Int) == 0) = true := beq_iff_eq.mpr c14
        have c14b1 : ((t423.length : Int) != 0) = false := bne_eq_false_iff_eq.mpr c14
        clear c14
        by_cases c15 : t424 = 4
        ·
         rw [if_pos c15] at H
         have c15b0 : (t424 == 4) = true := beq_iff_eq.mpr c15
         have c15b1 : (t424 != 4) = false := bne_eq_false_iff_eq.mpr c15
         clear c15
         replace H := Option.bind_eq_some_iff.mp H
         obtain ⟨t430, A160, H⟩ := H
         replace H : (some t430) = some r := H
         have A16 := Aside0.mk A160
         clear A160
         obtain rfl := Option.some.inj H
         have p427 : 0 ≤ (x8_1 : Int) := of_decide_eq_true (by first | (with_reducible assumption) | assumption)
         have q427 : x8_1 < (l1.length : Int) := of_decide_eq_true (by first | (with_reducible assumption) | assumption)
         obtain ⟨ad427, e427, hx427_0⟩ := Kd.at_int HR1.out x8_1 p427 q427
         cases e427
         replace hx427_0 := (HB.out.cell (World.block_lt_of_cell? w _ hx427_0)).trans hx427_0
         replace p427 := eq_true p427
         replace q427 := eq_true q427
         have p428 : 0 ≤ (x8_1 : Int) := of_decide_eq_true (by first | (with_reducible assumption) | assumption)
         have q428 : x8_1 < (l1.length : Int) := of_decide_eq_true (by first | (with_reducible assumption) | assumption)
         obtain ⟨ad428, e428, hx428_0⟩ := Kd.at_int HR1.out x8_1 p428 q428
         obtain rfl : ad427 = ad428 := (by injection e428)
         replace hx428_0 := (HB.out.cell (World.block_lt_of_cell? w _ hx428_0)).trans hx428_0
         replace p428 := eq_true p428
         replace q428 := eq_true q428
         obtain ⟨Ao17, co17, eo17⟩ := Kd.R_slice HO_5.out
         subst eo17
         go_wp2_with (first | (go_at_call 13; (with_reducible refine (bivouaclaw21_awake.calls k1  t430 _ A16.out).mono ?_); rintro e w18 ⟨rfl, hb⟩; have n0_ := Aside0.mk (Kd.R_below (by (with_reducible repeat (first | apply Kd.R_alloc | apply Kd.R_drewN | apply Kd.R_drew)); exact HO_5.out) hb); have n1_ := Aside0.mk (below_step (by repeat (first | (with_reducible first | exact HB.out | apply below_alloc | apply pw_below_drewN | apply below_drew1) | exact HB.out)) hb); clear HO_5; clear HB; have HO_5 := n0_; have HB := n1_; clear n0_ n1_; (try clear hb); (try clear hb2); (try clear hk); (try clear hi)))
         go_ret
         exact ⟨by first | rfl | (simp [errW_none, errW_some] <;> rfl) | (simp [*, errW_none, errW_some] <;> rfl) | (rw [Int.tdiv_eq_ediv_of_nonneg (by assumption)]; rfl), by repeat (first | (with_reducible first | exact HB.out | apply below_alloc | apply pw_below_drewN | apply below_drew1) | exact HB.out)⟩
        ·
         rw [if_neg c15] at H
         exact absurd H (by simp)
       ·
        rw [if_neg c14] at H
        exact absurd H (by simp)
      ·
       rw [if_neg c13] at H
       have c13b0 : decide ((l0.length : Int) ≤ (rd l1 x8_1)) = false := decide_eq_false c13
       clear c13
       have H' := Aside0.mk H
       clear H
       have p427 : 0 ≤ (x8_1 : Int) := of_decide_eq_true (by first | (with_reducible assumption) | assumption)
       have q427 : x8_1 < (l1.length : Int) := of_decide_eq_true (by first | (with_reducible assumption) | assumption)
       obtain ⟨ad427, e427, hx427_0⟩ := Kd.at_int HR1.out x8_1 p427 q427
       cases e427
       replace hx427_0 := (HB.out.cell (World.block_lt_of_cell? w _ hx427_0)).trans hx427_0
       replace p427 := eq_true p427
       replace q427 := eq_true q427
       have p428 : 0 ≤ (x8_1 : Int) := of_decide_eq_true (by first | (with_reducible assumption) | assumption)
       have q428 : x8_1 < (l1.length : Int) := of_decide_eq_true (by first | (with_reducible assumption) | assumption)
       obtain ⟨ad428, e428, hx428_0⟩ := Kd.at_int HR1.out x8_1 p428 q428
       obtain rfl : ad427 = ad428 := (by injection e428)
       replace hx428_0 := (HB.out.cell (World.block_lt_of_cell? w _ hx428_0)).trans hx428_0
       replace p428 := eq_true p428
       replace q428 := eq_true q428
       go_wp2
       go_roundg k1
       case measure => have := HK1.out; omega
       case rel => exact ⟨(wrap64 (x8_1 + 1)), (by first | rfl | (simp; done) | (simp [*]; done)), H', ⟨by have := HK1.out; omega⟩, ⟨by (with_reducible repeat (first | apply Kd.R_alloc | apply Kd.R_drewN | apply Kd.R_drew)); exact HO_5.out⟩, ⟨by repeat (first | (with_reducible first | exact HB.out | apply below_alloc | apply pw_below_drewN | apply below_drew1) | exact HB.out)⟩⟩
    ·
     rw [if_neg c6] at H
     exact absurd H (by simp)
   ·
    rw [if_neg c5] at H
    have c5b0 : decide (x8_1 < (l1.length : Int)) = false := decide_eq_false c5
    clear c5
    have H' := Aside0.mk H
    clear H
    go_wp2
    go_loopg [7, 9] k1 (fun kq v7 v9 w' => ∃ (x7_2 : Int) (x9_2 : Int), v7 = .int .i64 x7_2 ∧ v9 = .int .i64 x9_2 ∧ Aside0 (bivouaclaw21_SightFilters.l1 kq l0 l1 t423 t424 x7_2 x9_2 = some r) ∧ Aside0 (kq ≤ k1) ∧ Aside0 (Kd.R (Kd.int .i64) 3 w' w.heap.size (fun _ => True) v425 t423) ∧ Aside0 (Below w.heap.size w w'))
    case atStart => exact ⟨(0), (0), (by first | rfl | (simp; done) | (simp [*]; done)), (by first | rfl | (simp; done) | (simp [*]; done)), H', ⟨Nat.le_refl _⟩, ⟨by (with_reducible repeat (first | apply Kd.R_alloc | apply Kd.R_drewN | apply Kd.R_drew)); exact HO_5.out⟩, ⟨by repeat (first | (with_reducible first | exact HB.out | apply below_alloc | apply pw_below_drewN | apply below_drew1) | exact HB.out)⟩⟩
    case round =>
     clear H'
     try clear c1
     try clear p2
     try clear p4
     try clear q4
     try clear hx4
     try clear c5
     try clear c5b0
     try clear c6
     try clear c6b0
     try clear p6
     try clear c7
     try clear c7b0
     try clear c8
     try clear c8b0
     try clear c8b1
     try clear c9
     try clear c9b0
     try clear c9b1
     try clear c13
     try clear c13b0
     try clear c14
     try clear c14b0
     try clear c14b1
     try clear c15
     try clear c15b0
     try clear c15b1
     try clear c16
     try clear hx427_0
     try clear hx428_0
     try clear p2
     try clear p427
     try clear p428
     try clear q427
     try clear q428
     obtain ⟨x7_2, x9_2, rfl, rfl, HA, HK2, HO_5, HB⟩ := hrel
     cases gk with
     | zero => exact absurd HA.out (by simp [bivouaclaw21_SightFilters.l1])
     | succ k2 =>
      have H := HA.out
      clear HA
      simp only [bivouaclaw21_SightFilters.l1] at H
      by_cases c19 : x9_2 < (l1.length : Int)
      ·
       rw [if_pos c19] at H
       have c19b0 : decide (x9_2 < (l1.length : Int)) = true := decide_eq_true c19
       clear c19
       by_cases c20 : 0 ≤ x9_2
       ·
        rw [if_pos c20] at H
        have c20b0 : decide (0 ≤ x9_2) = true := decide_eq_true c20
        clear c20
        by_cases c21 : 0 ≤ (rd l1 x9_2)
        ·
         rw [if_pos c21] at H
         have c21b0 : decide (0 ≤ (rd l1 x9_2)) = true := decide_eq_true c21
         clear c21
         by_cases c22 : (rd l1 x9_2) < (l0.length : Int)
         ·
          rw [if_pos c22] at H
          have c22b0 : decide ((rd l1 x9_2) < (l0.length : Int)) = true := decide_eq_true c22
          clear c22
          by_cases c23 : (rd l0 (rd l1 x9_2)) > 0
          ·
           rw [if_pos c23] at H
           have c23b0 : decide (0 < (rd l0 (rd l1 x9_2))) = true := decide_eq_true c23
           clear c23
           by_cases c24 : x7_2 ≥ (t423.length : Int)
           ·
            rw [if_pos c24] at H
            exact absurd H (by simp)
           ·
            rw [if_neg c24] at H
            have c24b0 : decide ((t423.length : Int) ≤ x7_2) = false := decide_eq_false c24
            clear c24
            by_cases c25 : 0 ≤ x7_2
            ·
             rw [if_pos c25] at H
             have c25b0 : decide (0 ≤ x7_2) = true := decide_eq_true c25
             clear c25
             by_cases c26 : x7_2 < (t423.length : Int)
             ·
              rw [if_pos c26] at H
              have c26b0 : decide (x7_2 < (t423.length : Int)) = true := decide_eq_true c26
              clear c26
              by_cases c27 : (rd t423 x7_2) = x9_2
              ·
               rw [if_pos c27] at H
               have c27b0 : ((rd t423 x7_2) == x9_2) = true := beq_iff_eq.mpr c27
               have c27b1 : ((rd t423 x7_2) != x9_2) = false := bne_eq_false_iff_eq.mpr c27
               clear c27
               have H' := Aside0.mk H
               clear H
               have p432 : 0 ≤ (x9_2 : Int) := of_decide_eq_true (by first | (with_reducible assumption) | assumption)
               have q432 : x9_2 < (l1.length : Int) := of_decide_eq_true (by first | (with_reducible assumption) | assumption)
               obtain ⟨ad432, e432, hx432_0⟩ := Kd.at_int HR1.out x9_2 p432 q432
               cases e432
               replace hx432_0 := (HB.out.cell (World.block_lt_of_cell? w _ hx432_0)).trans hx432_0
               replace p432 := eq_true p432
               replace q432 := eq_true q432
               have p433 : 0 ≤ ((rd l1 x9_2) : Int) := of_decide_eq_true (by first | (with_reducible assumption) | assumption)
               have q433 : (rd l1 x9_2) < (l0.length : Int) := of_decide_eq_true (by first | (with_reducible assumption) | assumption)
               obtain ⟨ad433, e433, hx433_0⟩ := Kd.at_int HR0.out (rd l1 x9_2) p433 q433
               cases e433
               replace hx433_0 := (HB.out.cell (World.block_lt_of_cell? w _ hx433_0)).trans hx433_0
               replace p433 := eq_true p433
               replace q433 := eq_true q433
               obtain ⟨Ao28, co28, eo28⟩ := Kd.R_slice HO_5.out
               subst eo28
               have p434 : 0 ≤ (x7_2 : Int) := of_decide_eq_true (by first | (with_reducible assumption) | assumption)
               have q434 : x7_2 < (t423.length : Int) := of_decide_eq_true (by first | (with_reducible assumption) | assumption)
               obtain ⟨ad434, e434, hx434_0⟩ := Kd.at_int (Kd.R_reads' HO_5.out).2.2 x7_2 p434 q434
               cases e434
               replace p434 := eq_true p434
               replace q434 := eq_true q434
               go_wp2
               go_roundg k2
               case measure => have := HK1.out; have := HK2.out; omega
               case rel => exact ⟨(wrap64 (x7_2 + 1)), (wrap64 (x9_2 + 1)), (by first | rfl | (simp; done) | (simp [*]; done)), (by first | rfl | (simp; done) | (simp [*]; done)), H', ⟨by have := HK1.out; have := HK2.out; omega⟩, ⟨by (with_reducible repeat (first | apply Kd.R_alloc | apply Kd.R_drewN | apply Kd.R_drew)); exact HO_5.out⟩, ⟨by repeat (first | (with_reducible first | exact HB.out | apply below_alloc | apply pw_below_drewN | apply below_drew1) | exact HB.out)⟩⟩
              ·
               rw [if_neg c27] at H
               exact absurd H (by simp)
             ·
              rw [if_neg c26] at H
              exact absurd H (by simp)
            ·
             rw [if_neg c25] at H
             exact absurd H (by simp)
          ·
           rw [if_neg c23] at H
           have c23b0 : decide (0 < (rd l0 (rd l1 x9_2))) = false := decide_eq_false c23
           clear c23
           have H' := Aside0.mk H
           clear H
           have p432 : 0 ≤ (x9_2 : Int) := of_decide_eq_true (by first | (with_reducible assumption) | assumption)
           have q432 : x9_2 < (l1.length : Int) := of_decide_eq_true (by first | (with_reducible assumption) | assumption)
           obtain ⟨ad432, e432, hx432_0⟩ := Kd.at_int HR1.out x9_2 p432 q432
           cases e432
           replace hx432_0 := (HB.out.cell (World.block_lt_of_cell? w _ hx432_0)).trans hx432_0
           replace p432 := eq_true p432
           replace q432 := eq_true q432
           have p433 : 0 ≤ ((rd l1 x9_2) : Int) := of_decide_eq_true (by first | (with_reducible assumption) | assumption)
           have q433 : (rd l1 x9_2) < (l0.length : Int) := of_decide_eq_true (by first | (with_reducible assumption) | assumption)
           obtain ⟨ad433, e433, hx433_0⟩ := Kd.at_int HR0.out (rd l1 x9_2) p433 q433
           cases e433
           replace hx433_0 := (HB.out.cell (World.block_lt_of_cell? w _ hx433_0)).trans hx433_0
           replace p433 := eq_true p433
           replace q433 := eq_true q433
           go_wp2
           go_roundg k2
           case measure => have := HK1.out; have := HK2.out; omega
           case rel => exact ⟨(x7_2), (wrap64 (x9_2 + 1)), (by first | rfl | (simp; done) | (simp [*]; done)), (by first | rfl | (simp; done) | (simp [*]; done)), H', ⟨by have := HK1.out; have := HK2.out; omega⟩, ⟨by (with_reducible repeat (first | apply Kd.R_alloc | apply Kd.R_drewN | apply Kd.R_drew)); exact HO_5.out⟩, ⟨by repeat (first | (with_reducible first | exact HB.out | apply below_alloc | apply pw_below_drewN | apply below_drew1) | exact HB.out)⟩⟩
         ·
          rw [if_neg c22] at H
          exact absurd H (by simp)
        ·
         rw [if_neg c21] at H
         exact absurd H (by simp)
       ·
        rw [if_neg c20] at H
        exact absurd H (by simp)
      ·
       rw [if_neg c19] at H
       have c19b0 : decide (x9_2 < (l1.length : Int)) = false := decide_eq_false c19
       clear c19
       by_cases c29 : x7_2 = (t423.length : Int)
       ·
        rw [if_pos c29] at H
        have c29b0 : (x7_2 == (t423.length : Int)) = true := beq_iff_eq.mpr c29
        have c29b1 : (x7_2 != (t423.length : Int)) = false := bne_eq_false_iff_eq.mpr c29
        clear c29
        by_cases c30 : t424 = 0
        ·
         rw [if_pos c30] at H
         have c30b0 : (t424 == 0) = true := beq_iff_eq.mpr c30
         have c30b1 : (t424 != 0) = false := bne_eq_false_iff_eq.mpr c30
         clear c30
         replace H := Option.bind_eq_some_iff.mp H
         obtain ⟨t431, A310, H⟩ := H
         replace H : (some t431) = some r := H
         have A31 := Aside0.mk A310
         clear A310
         obtain rfl := Option.some.inj H
         obtain ⟨Ao32, co32, eo32⟩ := Kd.R_slice HO_5.out
         subst eo32
         go_wp2_with (first | (go_at_call 13; (with_reducible refine (bivouaclaw21_awake.calls k2  t431 _ A31.out).mono ?_); rintro e w33 ⟨rfl, hb⟩; have n0_ := Aside0.mk (Kd.R_below (by (with_reducible repeat (first | apply Kd.R_alloc | apply Kd.R_drewN | apply Kd.R_drew)); exact HO_5.out) hb); have n1_ := Aside0.mk (below_step (by repeat (first | (with_reducible first | exact HB.out | apply below_alloc | apply pw_below_drewN | apply below_drew1) | exact HB.out)) hb); clear HO_5; clear HB; have HO_5 := n0_; have HB := n1_; clear n0_ n1_; (try clear hb); (try clear hb2); (try clear hk); (try clear hi)))
         go_ret
         exact ⟨by first | rfl | (simp [errW_none, errW_some] <;> rfl) | (simp [*, errW_none, errW_some] <;> rfl) | (rw [Int.tdiv_eq_ediv_of_nonneg (by assumption)]; rfl), by repeat (first | (with_reducible first | exact HB.out | apply below_alloc | apply pw_below_drewN | apply below_drew1) | exact HB.out)⟩
        ·
         rw [if_neg c30] at H
         exact absurd H (by simp)
       ·
        rw [if_neg c29] at H
        exact absurd H (by simp)

/-- THE ONE PURE STATEMENT of bivouaclaw21_SightFilters: yours. -/
def bivouaclaw21_SightFilters.Pure : Prop := ∀ (l0 : List Int) (l1 : List Int), l0.length ≤ maxLen → l0.length * 8 ≤ 140737488351232 → (∀ x ∈ l0, (Lit.int .i64 x).wf = true) → l1.length ≤ maxLen → l1.length * 8 ≤ 140737488351232 → (∀ x ∈ l1, (Lit.int .i64 x).wf = true) → ∃ k, bivouaclaw21_SightFilters.f k l0 l1 = some true
theorem bivouaclaw21_SightFilters.walk (P : bivouaclaw21_SightFilters.Pure) (a0 : Option Addr) (len0 cap0 : Nat) (z0 : List Int) (a1 : Option Addr) (len1 cap1 : Nat) (z1 : List Int) (w : World) (w0 : (a0 = none ∧ len0 = 0 ∧ cap0 = 0 ∧ z0 = []) ∨ ∃ x, a0 = some x ∧ len0 ≤ cap0 ∧ cap0 ≤ maxLen ∧ z0.length = cap0 ∧ (∀ i, i < z0.length → w.cell? (x.add i) = some (.int .i64 (z0.getD i 0))) ∧ ∀ n ∈ z0, (Lit.int .i64 n).wf = true) (y0 : len0 * 8 ≤ 140737488351232) (w1 : (a1 = none ∧ len1 = 0 ∧ cap1 = 0 ∧ z1 = []) ∨ ∃ x, a1 = some x ∧ len1 ≤ cap1 ∧ cap1 ≤ maxLen ∧ z1.length = cap1 ∧ (∀ i, i < z1.length → w.cell? (x.add i) = some (.int .i64 (z1.getD i 0))) ∧ ∀ n ∈ z1, (Lit.int .i64 n).wf = true) (y1 : len1 * 8 ≤ 140737488351232) :
  Calls Try.prog 6 #[.slice a0 len0 cap0, .slice a1 len1 cap1] w fun e w' => e = .returned (.bool true) ∧ Below w.heap.size w w' := by
 obtain ⟨l0, rfl, hr0, hm0, hw0, hc0⟩ := ReadsInt.ofRowC w0
 obtain ⟨l1, rfl, hr1, hm1, hw1, hc1⟩ := ReadsInt.ofRowC w1
 obtain ⟨k, h⟩ := P l0 l1 hm0 y0 hw0 hm1 y1 hw1
 refine (bivouaclaw21_SightFilters.calls k _ _ l0 _ _ l1 true w (Kd.C_of_reads (d := (0 : Int)) (h1 := fun _ => rfl) hr0) hc0 (Kd.C_of_reads (d := (0 : Int)) (h1 := fun _ => rfl) hr1) hc1 h).mono ?_
 rintro e w' ⟨rfl, hd⟩
 exact ⟨rfl, hd⟩

end Go.Proofs.Yteihieihoeijdaa.PA
