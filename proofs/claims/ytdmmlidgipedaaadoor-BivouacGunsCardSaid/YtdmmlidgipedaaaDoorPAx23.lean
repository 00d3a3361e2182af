-- WRITTEN BY A PROGRAM OF THIS SESSION (a turned copy of the kit's printer), for this claim. Nothing here is trusted: Lean checks it.
import Derived.Test.YtdmmlidgipedaaaDoorPAx0
namespace Go.Proofs.YtdmmlidgipedaaaDoor.PA
open Go.RowKit Go.Proofs.YtdmmlidgipedaaaDoorW.PrintWords Go.Proofs.YtdmmlidgipedaaaDoorW.PrintLast Go.Proofs.YtdmmlidgipedaaaDoorW.PrintMore
attribute [local go_sem] max2_int min2_int max_two min_two max_three min_three max_four min_four   -- for this text's walks alone
set_option linter.unusedVariables false
set_option linter.unusedSimpArgs false

/-! ### relief_corners: function 30 -/
def relief_corners.f (a0_0 : Int) (a0_1 : Int) (a0_2 : Int) (l0_3 : List Int) (a1 : Int) (a2 : Int) : Option (Int × Int × Int × Int) := if 0 ≤ (wrap64 ((wrap64 ((wrap64 (a0_0 + 1)) * a2)) + a1)) then (if (wrap64 ((wrap64 ((wrap64 (a0_0 + 1)) * a2)) + a1)) < (l0_3.length : Int) then (if 0 ≤ (wrap64 ((wrap64 ((wrap64 ((wrap64 (a0_0 + 1)) * a2)) + a1)) + 1)) then (if (wrap64 ((wrap64 ((wrap64 ((wrap64 (a0_0 + 1)) * a2)) + a1)) + 1)) < (l0_3.length : Int) then (if 0 ≤ (wrap64 ((wrap64 ((wrap64 ((wrap64 ((wrap64 (a0_0 + 1)) * a2)) + a1)) + a0_0)) + 1)) then (if (wrap64 ((wrap64 ((wrap64 ((wrap64 ((wrap64 (a0_0 + 1)) * a2)) + a1)) + a0_0)) + 1)) < (l0_3.length : Int) then (if 0 ≤ (wrap64 ((wrap64 ((wrap64 ((wrap64 ((wrap64 ((wrap64 (a0_0 + 1)) * a2)) + a1)) + a0_0)) + 1)) + 1)) then (if (wrap64 ((wrap64 ((wrap64 ((wrap64 ((wrap64 ((wrap64 (a0_0 + 1)) * a2)) + a1)) + a0_0)) + 1)) + 1)) < (l0_3.length : Int) then (some (wrap64 (rd l0_3 (wrap64 ((wrap64 ((wrap64 (a0_0 + 1)) * a2)) + a1))), wrap64 (rd l0_3 (wrap64 ((wrap64 ((wrap64 ((wrap64 (a0_0 + 1)) * a2)) + a1)) + 1))), wrap64 (rd l0_3 (wrap64 ((wrap64 ((wrap64 ((wrap64 ((wrap64 (a0_0 + 1)) * a2)) + a1)) + a0_0)) + 1))), wrap64 (rd l0_3 (wrap64 ((wrap64 ((wrap64 ((wrap64 ((wrap64 ((wrap64 (a0_0 + 1)) * a2)) + a1)) + a0_0)) + 1)) + 1))))) else (none)) else (none)) else (none)) else (none)) else (none)) else (none)) else (none)) else (none)
def relief_corners.T3 : Bool × List (List Nat × List Nat) := (true, [([], []), ([0], [0]), ([], []), ([1, 2], [1, 2]), ([3], [3]), ([4], [4]), ([], []), ([6], [6]), ([], []), ([8], [8]), ([7, 9], [7, 9]), ([10], [10]), ([11], [11]), ([], []), ([13], [13]), ([], []), ([14, 15], [14, 15]), ([16], [16]), ([17], [17]), ([], []), ([19], [19]), ([], []), ([21], [21]), ([20, 22], [20, 22]), ([23], [23]), ([24], [24]), ([5, 12, 18, 25], [5, 12, 18, 25]), ([26, 0, 1, 2, 3, 4, 5, 6, 7, 8, 9, 10, 11, 12, 13, 14, 15, 16, 17, 18, 19, 20, 21, 22, 23, 24, 25, 26], [26])])
def relief_corners.B3 : List Nat := [0, 1, 0, 7, 15, 31, 0, 64, 0, 256, 960, 1984, 4032, 0, 8192, 0, 57344, 122880, 253952, 0, 524288, 0, 2097152, 7864320, 16252928, 33030144, 67108863, 134217727]
theorem relief_corners.tab3 : rtab .any (opsOf Tryd.f30 3) = relief_corners.T3 := by kernel_rfl
theorem relief_corners.bits3 : waitsOk relief_corners.T3.2 relief_corners.B3 = true := by kernel_rfl
set_option maxHeartbeats 8000000 in
set_option maxRecDepth 100000 in
theorem relief_corners.calls (a0_0 : Int) (a0_1 : Int) (a0_2 : Int) (A0_3 : Option Addr) (c0_3 : Nat) (l0_3 : List Int) (a1 : Int) (a2 : Int) (r1 : Int) (r2 : Int) (r3 : Int) (r4 : Int) (w : World) (hr0_3 : Kd.C (Kd.int .u8) w A0_3 l0_3.length l0_3) (hc0_3 : l0_3.length ≤ c0_3) (h : relief_corners.f a0_0 a0_1 a0_2 l0_3 a1 a2 = some (r1, r2, r3, r4)) :
  Calls Tryd.prog 30 #[.agg #[.int .i64 a0_0, .int .i64 a0_1, .int .i64 a0_2, .slice A0_3 l0_3.length c0_3], .int .i64 a1, .int .i64 a2] w fun e w' => e = .returned (.agg #[.int .i64 r1, .int .i64 r2, .int .i64 r3, .int .i64 r4]) ∧ Below w.heap.size w w' := by
 have hu24 := Tryd.underlying24
 have hu67 := Tryd.underlying67
 have HR0_3 := Aside0.mk hr0_3
 have HC0_3 := Aside0.mk hc0_3
 clear hr0_3 hc0_3
 have HB := Aside0.mk (Below.refl w.heap.size w)
 have H : (if 0 ≤ (wrap64 ((wrap64 ((wrap64 (a0_0 + 1)) * a2)) + a1)) then (if (wrap64 ((wrap64 ((wrap64 (a0_0 + 1)) * a2)) + a1)) < (l0_3.length : Int) then (if 0 ≤ (wrap64 ((wrap64 ((wrap64 ((wrap64 (a0_0 + 1)) * a2)) + a1)) + 1)) then (if (wrap64 ((wrap64 ((wrap64 ((wrap64 (a0_0 + 1)) * a2)) + a1)) + 1)) < (l0_3.length : Int) then (if 0 ≤ (wrap64 ((wrap64 ((wrap64 ((wrap64 ((wrap64 (a0_0 + 1)) * a2)) + a1)) + a0_0)) + 1)) then (if (wrap64 ((wrap64 ((wrap64 ((wrap64 ((wrap64 (a0_0 + 1)) * a2)) + a1)) + a0_0)) + 1)) < (l0_3.length : Int) then (if 0 ≤ (wrap64 ((wrap64 ((wrap64 ((wrap64 ((wrap64 ((wrap64 (a0_0 + 1)) * a2)) + a1)) + a0_0)) + 1)) + 1)) then (if (wrap64 ((wrap64 ((wrap64 ((wrap64 ((wrap64 ((wrap64 (a0_0 + 1)) * a2)) + a1)) + a0_0)) + 1)) + 1)) < (l0_3.length : Int) then (some (wrap64 (rd l0_3 (wrap64 ((wrap64 ((wrap64 (a0_0 + 1)) * a2)) + a1))), wrap64 (rd l0_3 (wrap64 ((wrap64 ((wrap64 ((wrap64 (a0_0 + 1)) * a2)) + a1)) + 1))), wrap64 (rd l0_3 (wrap64 ((wrap64 ((wrap64 ((wrap64 ((wrap64 (a0_0 + 1)) * a2)) + a1)) + a0_0)) + 1))), wrap64 (rd l0_3 (wrap64 ((wrap64 ((wrap64 ((wrap64 ((wrap64 ((wrap64 (a0_0 + 1)) * a2)) + a1)) + a0_0)) + 1)) + 1))))) else (none)) else (none)) else (none)) else (none)) else (none)) else (none)) else (none)) else (none)) = some (r1, r2, r3, r4) := h
 clear h
 obtain ⟨ji4, hji4⟩ : ∃ j_ : Int, (wrap64 ((wrap64 ((wrap64 (a0_0 + 1)) * a2)) + a1)) = j_ := ⟨_, rfl⟩
 replace H : (if 0 ≤ (ji4) then (if (ji4) < (l0_3.length : Int) then (if 0 ≤ (wrap64 ((ji4) + 1)) then (if (wrap64 ((ji4) + 1)) < (l0_3.length : Int) then (if 0 ≤ (wrap64 ((wrap64 ((ji4) + a0_0)) + 1)) then (if (wrap64 ((wrap64 ((ji4) + a0_0)) + 1)) < (l0_3.length : Int) then (if 0 ≤ (wrap64 ((wrap64 ((wrap64 ((ji4) + a0_0)) + 1)) + 1)) then (if (wrap64 ((wrap64 ((wrap64 ((ji4) + a0_0)) + 1)) + 1)) < (l0_3.length : Int) then (some (wrap64 (rd l0_3 (ji4)), wrap64 (rd l0_3 (wrap64 ((ji4) + 1))), wrap64 (rd l0_3 (wrap64 ((wrap64 ((ji4) + a0_0)) + 1))), wrap64 (rd l0_3 (wrap64 ((wrap64 ((wrap64 ((ji4) + a0_0)) + 1)) + 1))))) else (none)) else (none)) else (none)) else (none)) else (none)) else (none)) else (none)) else (none)) = some (r1, r2, r3, r4) := by first | (rw [hji4] at H; exact H) | (simp only [hji4] at H ⊢; exact H)
 have hji4w : (IntKind.i64.wrap ((wrap64 ((wrap64 (a0_0 + 1)) * a2)) + a1)) = ji4 := (i64_w _).trans hji4
 by_cases c5 : 0 ≤ (ji4)
 ·
  rw [if_pos c5] at H
  have c5b0 : decide (0 ≤ (ji4)) = true := decide_eq_true c5
  clear c5
  by_cases c6 : (ji4) < (l0_3.length : Int)
  ·
   rw [if_pos c6] at H
   have c6b0 : decide ((ji4) < (l0_3.length : Int)) = true := decide_eq_true c6
   clear c6
   obtain ⟨ji7, hji7⟩ : ∃ j_ : Int, (wrap64 ((ji4) + 1)) = j_ := ⟨_, rfl⟩
   replace H : (if 0 ≤ (ji7) then (if (ji7) < (l0_3.length : Int) then (if 0 ≤ (wrap64 ((wrap64 ((ji4) + a0_0)) + 1)) then (if (wrap64 ((wrap64 ((ji4) + a0_0)) + 1)) < (l0_3.length : Int) then (if 0 ≤ (wrap64 ((wrap64 ((wrap64 ((ji4) + a0_0)) + 1)) + 1)) then (if (wrap64 ((wrap64 ((wrap64 ((ji4) + a0_0)) + 1)) + 1)) < (l0_3.length : Int) then (some (wrap64 (rd l0_3 (ji4)), wrap64 (rd l0_3 (ji7)), wrap64 (rd l0_3 (wrap64 ((wrap64 ((ji4) + a0_0)) + 1))), wrap64 (rd l0_3 (wrap64 ((wrap64 ((wrap64 ((ji4) + a0_0)) + 1)) + 1))))) else (none)) else (none)) else (none)) else (none)) else (none)) else (none)) = some (r1, r2, r3, r4) := by first | (rw [hji7] at H; exact H) | (simp only [hji7] at H ⊢; exact H)
   have hji7w : (IntKind.i64.wrap ((ji4) + 1)) = ji7 := (i64_w _).trans hji7
   by_cases c8 : 0 ≤ (ji7)
   ·
    rw [if_pos c8] at H
    have c8b0 : decide (0 ≤ (ji7)) = true := decide_eq_true c8
    clear c8
    by_cases c9 : (ji7) < (l0_3.length : Int)
    ·
     rw [if_pos c9] at H
     have c9b0 : decide ((ji7) < (l0_3.length : Int)) = true := decide_eq_true c9
     clear c9
     obtain ⟨ji10, hji10⟩ : ∃ j_ : Int, (wrap64 ((wrap64 ((ji4) + a0_0)) + 1)) = j_ := ⟨_, rfl⟩
     replace H : (if 0 ≤ (ji10) then (if (ji10) < (l0_3.length : Int) then (if 0 ≤ (wrap64 ((ji10) + 1)) then (if (wrap64 ((ji10) + 1)) < (l0_3.length : Int) then (some (wrap64 (rd l0_3 (ji4)), wrap64 (rd l0_3 (ji7)), wrap64 (rd l0_3 (ji10)), wrap64 (rd l0_3 (wrap64 ((ji10) + 1))))) else (none)) else (none)) else (none)) else (none)) = some (r1, r2, r3, r4) := by first | (rw [hji10] at H; exact H) | (simp only [hji10] at H ⊢; exact H)
     have hji10w : (IntKind.i64.wrap ((wrap64 ((ji4) + a0_0)) + 1)) = ji10 := (i64_w _).trans hji10
     by_cases c11 : 0 ≤ (ji10)
     ·
      rw [if_pos c11] at H
      have c11b0 : decide (0 ≤ (ji10)) = true := decide_eq_true c11
      clear c11
      by_cases c12 : (ji10) < (l0_3.length : Int)
      ·
       rw [if_pos c12] at H
       have c12b0 : decide ((ji10) < (l0_3.length : Int)) = true := decide_eq_true c12
       clear c12
       obtain ⟨ji13, hji13⟩ : ∃ j_ : Int, (wrap64 ((ji10) + 1)) = j_ := ⟨_, rfl⟩
       replace H : (if 0 ≤ (ji13) then (if (ji13) < (l0_3.length : Int) then (some (wrap64 (rd l0_3 (ji4)), wrap64 (rd l0_3 (ji7)), wrap64 (rd l0_3 (ji10)), wrap64 (rd l0_3 (ji13)))) else (none)) else (none)) = some (r1, r2, r3, r4) := by first | (rw [hji13] at H; exact H) | (simp only [hji13] at H ⊢; exact H)
       have hji13w : (IntKind.i64.wrap ((ji10) + 1)) = ji13 := (i64_w _).trans hji13
       by_cases c14 : 0 ≤ (ji13)
       ·
        rw [if_pos c14] at H
        have c14b0 : decide (0 ≤ (ji13)) = true := decide_eq_true c14
        clear c14
        by_cases c15 : (ji13) < (l0_3.length : Int)
        ·
         rw [if_pos c15] at H
         have c15b0 : decide ((ji13) < (l0_3.length : Int)) = true := decide_eq_true c15
         clear c15
         simp only [Option.some.injEq, Prod.mk.injEq] at H
         obtain ⟨rfl, rfl, rfl, rfl⟩ := H
         go_enter Tryd.func30, Tryd.ntmps30
         try go_wp2_with (first | ((with_reducible refine gate_dst (N := 3) rfl ?_); refine box_event ?hg (N := 3) ?hd (cs := #[.int .i64 a0_0, .int .i64 a0_1, .int .i64 a0_2, .slice A0_3 l0_3.length c0_3]) (t := 24) ?hr ?_; (case hd => rfl); (case hg => rfl); (case hr => first | (go_simp; done) | (go_simp; rfl)); intro gb158 hg w16 hbox hb; have n0_ := Aside0.mk (below_step (by repeat (first | (with_reducible first | exact HB.out | apply below_alloc | apply pw_below_drewN | apply below_drew1) | exact HB.out)) hb); have n1_ := Aside0.mk (hbox); have n2_ := Aside0.mk ((by rw [hg]; exact (below_size (by repeat (first | (with_reducible first | exact HB.out | apply below_alloc | apply pw_below_drewN | apply below_drew1) | exact HB.out))) : w.heap.size ≤ gb158)); have n3_ := Aside0.mk ((by rw [hg]; exact (below_size (by repeat (first | (with_reducible first | exact HB.out | apply below_alloc | apply pw_below_drewN | apply below_drew1) | exact HB.out))) : w.heap.size ≤ gb158)); clear HB; have HB := n0_; have BK158 := n1_; have GW158 := n2_; have GE158 := n3_; clear n0_ n1_ n2_ n3_; clear hb hbox hg) | ((with_reducible refine gate_dst (N := 6) rfl ?_); refine box_event ?hg (N := 6) ?hd (cs := #[.int .i64 0, .int .i64 0, .int .i64 0, .int .i64 0]) (t := 67) ?hr ?_; (case hd => rfl); (case hg => rfl); (case hr => first | (go_simp; done) | (go_simp; rfl)); intro gb159 hg w17 hbox hb; have n0_ := Aside0.mk (blk_below (g := gb158) (o := .cells #[.int .i64 a0_0, .int .i64 a0_1, .int .i64 a0_2, .slice A0_3 l0_3.length c0_3] 24 (0, 0)) (by (with_reducible repeat (first | refine blk_drewN ?_ _ | refine blk_drew ?_ | refine blk_alloc ?_ _)); exact BK158.out) hb); have n1_ := Aside0.mk (below_step (by repeat (first | (with_reducible first | exact HB.out | apply below_alloc | apply pw_below_drewN | apply below_drew1 | refine below_set ?_ GE158.out) | exact HB.out)) hb); have n2_ := Aside0.mk (hbox); have n3_ := Aside0.mk ((by rw [hg]; exact (below_size (by repeat (first | (with_reducible first | exact HB.out | apply below_alloc | apply pw_below_drewN | apply below_drew1 | refine below_set ?_ GE158.out) | exact HB.out))) : w.heap.size ≤ gb159)); have n4_ := Aside0.mk ((by rw [hg]; exact (below_size (by repeat (first | (with_reducible first | exact HB.out | apply below_alloc | apply pw_below_drewN | apply below_drew1 | refine below_set ?_ GE158.out) | exact HB.out))) : w.heap.size ≤ gb159)); have n5_ := Aside0.mk ((by rw [hg]; exact Nat.ne_of_lt (blk_lt (g := gb158) (o := .cells #[.int .i64 a0_0, .int .i64 a0_1, .int .i64 a0_2, .slice A0_3 l0_3.length c0_3] 24 (0, 0)) (by (with_reducible repeat (first | refine blk_drewN ?_ _ | refine blk_drew ?_ | refine blk_alloc ?_ _)); exact BK158.out)) : gb158 ≠ gb159)); have n6_ := Aside0.mk ((by rw [hg]; exact Nat.ne_of_gt (blk_lt (g := gb158) (o := .cells #[.int .i64 a0_0, .int .i64 a0_1, .int .i64 a0_2, .slice A0_3 l0_3.length c0_3] 24 (0, 0)) (by (with_reducible repeat (first | refine blk_drewN ?_ _ | refine blk_drew ?_ | refine blk_alloc ?_ _)); exact BK158.out)) : gb159 ≠ gb158)); clear BK158; clear HB; have BK158 := n0_; have HB := n1_; have BK159 := n2_; have GW159 := n3_; have GE159 := n4_; have NB158_159 := n5_; have NB159_158 := n6_; clear n0_ n1_ n2_ n3_ n4_ n5_ n6_; clear hb hbox hg; have hnb18 := NB158_159.out; have hnc18 := NB159_158.out; have hcz19_0 : w17.cell? ⟨gb158, 0, none⟩ = some (.int .i64 a0_0) := (blk_cell BK158.out 0).trans rfl; have hcz19_1 : w17.cell? ⟨gb158, 1, none⟩ = some (.int .i64 a0_1) := (blk_cell BK158.out 1).trans rfl; have hcz19_2 : w17.cell? ⟨gb158, 2, none⟩ = some (.int .i64 a0_2) := (blk_cell BK158.out 2).trans rfl; have hcz19_3 : w17.cell? ⟨gb158, 3, none⟩ = some (.slice A0_3 l0_3.length c0_3) := (blk_cell BK158.out 3).trans rfl; have hfz19_0 := blk_frozen BK158.out 0; have hfz19_1 := blk_frozen BK158.out 1; have hfz19_2 := blk_frozen BK158.out 2; have hfz19_3 := blk_frozen BK158.out 3))
         have n0_ := Aside0.mk (blk_drew BK158.out)
         have n1_ := Aside0.mk (blk_drew BK159.out)
         have n2_ := Aside0.mk (below_drew1 HB.out)
         clear BK158
         clear BK159
         clear HB
         have BK158 := n0_
         have BK159 := n1_
         have HB := n2_
         clear n0_ n1_ n2_
         have p160 : 0 ≤ ((ji4) : Int) := of_decide_eq_true (by first | (with_reducible assumption) | assumption)
         have q160 : (ji4) < (l0_3.length : Int) := of_decide_eq_true (by first | (with_reducible assumption) | assumption)
         obtain ⟨ad160, e160, hx160_0⟩ := Kd.at_int HR0_3.out (ji4) p160 q160
         have hw160_0 := hx160_0
         cases e160
         replace hx160_0 := (HB.out.cell (World.block_lt_of_cell? w _ hx160_0)).trans hx160_0
         replace p160 := eq_true p160
         replace q160 := eq_true q160
         have p161 : 0 ≤ ((ji7) : Int) := of_decide_eq_true (by first | (with_reducible assumption) | assumption)
         have q161 : (ji7) < (l0_3.length : Int) := of_decide_eq_true (by first | (with_reducible assumption) | assumption)
         obtain ⟨ad161, e161, hx161_0⟩ := Kd.at_int HR0_3.out (ji7) p161 q161
         have hw161_0 := hx161_0
         obtain rfl : ad160 = ad161 := (by injection e161)
         replace hx161_0 := (HB.out.cell (World.block_lt_of_cell? w _ hx161_0)).trans hx161_0
         replace p161 := eq_true p161
         replace q161 := eq_true q161
         have p162 : 0 ≤ ((ji10) : Int) := of_decide_eq_true (by first | (with_reducible assumption) | assumption)
         have q162 : (ji10) < (l0_3.length : Int) := of_decide_eq_true (by first | (with_reducible assumption) | assumption)
         obtain ⟨ad162, e162, hx162_0⟩ := Kd.at_int HR0_3.out (ji10) p162 q162
         have hw162_0 := hx162_0
         obtain rfl : ad160 = ad162 := (by injection e162)
         replace hx162_0 := (HB.out.cell (World.block_lt_of_cell? w _ hx162_0)).trans hx162_0
         replace p162 := eq_true p162
         replace q162 := eq_true q162
         have p163 : 0 ≤ ((ji13) : Int) := of_decide_eq_true (by first | (with_reducible assumption) | assumption)
         have q163 : (ji13) < (l0_3.length : Int) := of_decide_eq_true (by first | (with_reducible assumption) | assumption)
         obtain ⟨ad163, e163, hx163_0⟩ := Kd.at_int HR0_3.out (ji13) p163 q163
         have hw163_0 := hx163_0
         obtain rfl : ad160 = ad163 := (by injection e163)
         replace hx163_0 := (HB.out.cell (World.block_lt_of_cell? w _ hx163_0)).trans hx163_0
         replace p163 := eq_true p163
         replace q163 := eq_true q163
         refine start_ (n := 28) (S := fun w' => w'.cell? ⟨gb158, 0, none⟩ = some (.int .i64 a0_0) ∧ w'.cell? ⟨gb158, 1, none⟩ = some (.int .i64 a0_1) ∧ w'.cell? ⟨gb158, 2, none⟩ = some (.int .i64 a0_2) ∧ w'.cell? ⟨gb158, 3, none⟩ = some (.slice (some ad160) l0_3.length c0_3) ∧ w'.cell? (ad160.add ((ji4)).toNat) = some (.int .u8 (rd l0_3 (ji4))) ∧ w'.cell? (ad160.add ((ji7)).toNat) = some (.int .u8 (rd l0_3 (ji7))) ∧ w'.cell? (ad160.add ((ji10)).toNat) = some (.int .u8 (rd l0_3 (ji10))) ∧ w'.cell? (ad160.add ((ji13)).toNat) = some (.int .u8 (rd l0_3 (ji13)))) (ds := []) (bA 28 0) (by kernel_rfl) rfl rfl ⟨(blk_cell BK158.out 0).trans rfl, (blk_cell BK158.out 1).trans rfl, (blk_cell BK158.out 2).trans rfl, (blk_cell BK158.out 3).trans rfl, ((HB.out.cell (World.block_lt_of_cell? w _ hw160_0)).trans hw160_0), ((HB.out.cell (World.block_lt_of_cell? w _ hw161_0)).trans hw161_0), ((HB.out.cell (World.block_lt_of_cell? w _ hw162_0)).trans hw162_0), ((HB.out.cell (World.block_lt_of_cell? w _ hw163_0)).trans hw163_0)⟩ (fun hHeld => ?_); refine with_tabW relief_corners.tab3 relief_corners.bits3 (fun HT_ HW_ => ?_)
         generalize w17.drew = w20 at BK158 BK159 HB hx160_0 hx161_0 hx162_0 hx163_0 hHeld ⊢
         refine pure_ (i := 0) (N := some 21) (v := ?_) (a' := ?_) (bA 28 1) rfl rfl (any_of HT_.out (by kernel_rfl)) (fun _ _ _ h => h) (Or.inl ⟨by rfl, ?_⟩) ?_ ?_
         rotate_left
         ·
          intro w'
          go_simp
          with_reducible rfl
         rotate_left
         ·
          simp only [Act.put, sA, sB, sC, i64_w, i32_w]
          rfl
         refine pure_ (i := 2) (N := some 23) (v := ?_) (a' := ?_) (bA 28 5) rfl rfl (any_of HT_.out (by kernel_rfl)) (fun _ _ _ h => h) (Or.inl ⟨by rfl, ?_⟩) ?_ ?_
         rotate_left
         ·
          intro w'
          go_simp
          with_reducible rfl
         rotate_left
         ·
          simp only [Act.put, sA, sB, sC, i64_w, i32_w]
          rfl
         refine pure_ (i := 6) (N := some 27) (v := ?_) (a' := ?_) (bA 28 69) rfl rfl (any_of HT_.out (by kernel_rfl)) (fun _ _ _ h => h) (Or.inl ⟨by rfl, ?_⟩) ?_ ?_
         rotate_left
         ·
          intro w'
          go_simp
          with_reducible rfl
         rotate_left
         ·
          simp only [Act.put, sA, sB, sC, i64_w, i32_w]
          rfl
         refine pure_ (i := 8) (N := some 29) (v := ?_) (a' := ?_) (bA 28 325) rfl rfl (any_of HT_.out (by kernel_rfl)) (fun _ _ _ h => h) (Or.inl ⟨by rfl, ?_⟩) ?_ ?_
         rotate_left
         ·
          intro w'
          go_simp
          with_reducible rfl
         rotate_left
         ·
          simp only [Act.put, sA, sB, sC, i64_w, i32_w]
          rfl
         refine pure_ (i := 9) (N := some 30) (v := ?_) (a' := ?_) (bA 28 837) rfl rfl (any_of HT_.out (by kernel_rfl)) (fun _ _ _ h => h) (Or.inl ⟨by rfl, ?_⟩) ?_ ?_
         rotate_left
         ·
          intro w'
          go_simp
          with_reducible rfl
         rotate_left
         ·
          simp only [Act.put, sA, sB, sC, i64_w, i32_w]
          rfl
         refine pure_ (i := 13) (N := some 34) (v := ?_) (a' := ?_) (bA 28 9029) rfl rfl (any_of HT_.out (by kernel_rfl)) (fun _ _ _ h => h) (Or.inl ⟨by rfl, ?_⟩) ?_ ?_
         rotate_left
         ·
          intro w'
          go_simp
          with_reducible rfl
         rotate_left
         ·
          simp only [Act.put, sA, sB, sC, i64_w, i32_w]
          rfl
         refine pure_ (i := 15) (N := some 36) (v := ?_) (a' := ?_) (bA 28 41797) rfl rfl (any_of HT_.out (by kernel_rfl)) (fun _ _ _ h => h) (Or.inl ⟨by rfl, ?_⟩) ?_ ?_
         rotate_left
         ·
          intro w'
          go_simp
          with_reducible rfl
         rotate_left
         ·
          simp only [Act.put, sA, sB, sC, i64_w, i32_w]
          rfl
         refine pure_ (i := 19) (N := some 40) (v := ?_) (a' := ?_) (bA 28 566085) rfl rfl (any_of HT_.out (by kernel_rfl)) (fun _ _ _ h => h) (Or.inl ⟨by rfl, ?_⟩) ?_ ?_
         rotate_left
         ·
          intro w'
          go_simp
          with_reducible rfl
         rotate_left
         ·
          simp only [Act.put, sA, sB, sC, i64_w, i32_w]
          rfl
         refine pure_ (i := 21) (N := some 42) (v := ?_) (a' := ?_) (bA 28 2663237) rfl rfl (any_of HT_.out (by kernel_rfl)) (fun _ _ _ h => h) (Or.inl ⟨by rfl, ?_⟩) ?_ ?_
         rotate_left
         ·
          intro w'
          go_simp
          with_reducible rfl
         rotate_left
         ·
          simp only [Act.put, sA, sB, sC, i64_w, i32_w]
          rfl
         refine pure_ (i := 22) (N := some 43) (v := ?_) (a' := ?_) (bA 28 6857541) rfl rfl (any_of HT_.out (by kernel_rfl)) (fun _ _ _ h => h) (Or.inl ⟨by rfl, ?_⟩) ?_ ?_
         rotate_left
         ·
          intro w'
          go_simp
          with_reducible rfl
         rotate_left
         ·
          simp only [Act.put, sA, sB, sC, i64_w, i32_w]
          rfl
         refine take_ (i := 1) (N := some 22) (v := ?_) (a' := ?_) (bA 28 6857543) rfl rfl (take_ofW HT_.out HW_.out (by kernel_rfl)) (fun _ _ _ h => h) (Or.inl ⟨by rfl, ?_⟩) hHeld ?_ ?_
         rotate_left
         ·
          rintro w' ⟨s0, s1, s2, s3, s4, s5, s6, s7⟩
          go_simp
          with_reducible rfl
         rotate_left
         ·
          simp only [Act.put, sA, sB, sC, i64_w, i32_w]
          rfl
         refine pure_ (i := 3) (N := some 24) (v := ?_) (a' := ?_) (bA 28 6857551) rfl rfl (any_of HT_.out (by kernel_rfl)) (fun _ _ _ h => h) (Or.inl ⟨by rfl, ?_⟩) ?_ ?_
         rotate_left
         ·
          intro w'
          go_simp
          with_reducible rfl
         rotate_left
         ·
          simp only [Act.put, sA, sB, sC, i64_w, i32_w]
          rfl
         refine take_ (i := 4) (N := some 25) (v := ?_) (a' := ?_) (bA 28 6857567) rfl rfl (take_ofW HT_.out HW_.out (by kernel_rfl)) (fun _ _ _ h => h) (Or.inl ⟨by rfl, ?_⟩) hHeld ?_ ?_
         rotate_left
         ·
          rintro w' ⟨s0, s1, s2, s3, s4, s5, s6, s7⟩
          go_simp
          with_reducible rfl
         rotate_left
         ·
          simp only [Act.put, sA, sB, sC, i64_w, i32_w]
          rfl
         refine pure_ (i := 5) (N := some 26) (v := ?_) (a' := ?_) (bA 28 6857599) rfl rfl (any_of HT_.out (by kernel_rfl)) (fun _ _ _ h => h) (Or.inl ⟨by rfl, ?_⟩) ?_ ?_
         rotate_left
         ·
          intro w'
          go_simp
          with_reducible rfl
         rotate_left
         ·
          simp only [Act.put, sA, sB, sC, i64_w, i32_w]
          rfl
         refine take_ (i := 7) (N := some 28) (v := ?_) (a' := ?_) (bA 28 6857727) rfl rfl (take_ofW HT_.out HW_.out (by kernel_rfl)) (fun _ _ _ h => h) (Or.inl ⟨by rfl, ?_⟩) hHeld ?_ ?_
         rotate_left
         ·
          rintro w' ⟨s0, s1, s2, s3, s4, s5, s6, s7⟩
          go_simp
          with_reducible rfl
         rotate_left
         ·
          simp only [Act.put, sA, sB, sC, i64_w, i32_w]
          rfl
         refine pure_ (i := 10) (N := some 31) (v := ?_) (a' := ?_) (bA 28 6858751) rfl rfl (any_of HT_.out (by kernel_rfl)) (fun _ _ _ h => h) (Or.inl ⟨by rfl, ?_⟩) ?_ ?_
         rotate_left
         ·
          intro w'
          go_simp
          with_reducible rfl
         rotate_left
         ·
          simp only [Act.put, sA, sB, sC, i64_w, i32_w]
          rfl
         refine take_ (i := 11) (N := some 32) (v := ?_) (a' := ?_) (bA 28 6860799) rfl rfl (take_ofW HT_.out HW_.out (by kernel_rfl)) (fun _ _ _ h => h) (Or.inl ⟨by rfl, ?_⟩) hHeld ?_ ?_
         rotate_left
         ·
          rintro w' ⟨s0, s1, s2, s3, s4, s5, s6, s7⟩
          go_simp
          with_reducible rfl
         rotate_left
         ·
          simp only [Act.put, sA, sB, sC, i64_w, i32_w]
          rfl
         refine pure_ (i := 12) (N := some 33) (v := ?_) (a' := ?_) (bA 28 6864895) rfl rfl (any_of HT_.out (by kernel_rfl)) (fun _ _ _ h => h) (Or.inl ⟨by rfl, ?_⟩) ?_ ?_
         rotate_left
         ·
          intro w'
          go_simp
          with_reducible rfl
         rotate_left
         ·
          simp only [Act.put, sA, sB, sC, i64_w, i32_w]
          rfl
         refine take_ (i := 14) (N := some 35) (v := ?_) (a' := ?_) (bA 28 6881279) rfl rfl (take_ofW HT_.out HW_.out (by kernel_rfl)) (fun _ _ _ h => h) (Or.inl ⟨by rfl, ?_⟩) hHeld ?_ ?_
         rotate_left
         ·
          rintro w' ⟨s0, s1, s2, s3, s4, s5, s6, s7⟩
          go_simp
          with_reducible rfl
         rotate_left
         ·
          simp only [Act.put, sA, sB, sC, i64_w, i32_w]
          rfl
         refine pure_ (i := 16) (N := some 37) (v := ?_) (a' := ?_) (bA 28 6946815) rfl rfl (any_of HT_.out (by kernel_rfl)) (fun _ _ _ h => h) (Or.inl ⟨by rfl, ?_⟩) ?_ ?_
         rotate_left
         ·
          intro w'
          go_simp
          with_reducible rfl
         rotate_left
         ·
          simp only [Act.put, sA, sB, sC, i64_w, i32_w]
          rfl
         refine take_ (i := 17) (N := some 38) (v := ?_) (a' := ?_) (bA 28 7077887) rfl rfl (take_ofW HT_.out HW_.out (by kernel_rfl)) (fun _ _ _ h => h) (Or.inl ⟨by rfl, ?_⟩) hHeld ?_ ?_
         rotate_left
         ·
          rintro w' ⟨s0, s1, s2, s3, s4, s5, s6, s7⟩
          go_simp
          with_reducible rfl
         rotate_left
         ·
          simp only [Act.put, sA, sB, sC, i64_w, i32_w]
          rfl
         refine pure_ (i := 18) (N := some 39) (v := ?_) (a' := ?_) (bA 28 7340031) rfl rfl (any_of HT_.out (by kernel_rfl)) (fun _ _ _ h => h) (Or.inl ⟨by rfl, ?_⟩) ?_ ?_
         rotate_left
         ·
          intro w'
          go_simp
          with_reducible rfl
         rotate_left
         ·
          simp only [Act.put, sA, sB, sC, i64_w, i32_w]
          rfl
         refine take_ (i := 20) (N := some 41) (v := ?_) (a' := ?_) (bA 28 8388607) rfl rfl (take_ofW HT_.out HW_.out (by kernel_rfl)) (fun _ _ _ h => h) (Or.inl ⟨by rfl, ?_⟩) hHeld ?_ ?_
         rotate_left
         ·
          rintro w' ⟨s0, s1, s2, s3, s4, s5, s6, s7⟩
          go_simp
          with_reducible rfl
         rotate_left
         ·
          simp only [Act.put, sA, sB, sC, i64_w, i32_w]
          rfl
         refine pure_ (i := 23) (N := some 44) (v := ?_) (a' := ?_) (bA 28 16777215) rfl rfl (any_of HT_.out (by kernel_rfl)) (fun _ _ _ h => h) (Or.inl ⟨by rfl, ?_⟩) ?_ ?_
         rotate_left
         ·
          intro w'
          go_simp
          with_reducible rfl
         rotate_left
         ·
          simp only [Act.put, sA, sB, sC, i64_w, i32_w]
          rfl
         refine take_ (i := 24) (N := some 45) (v := ?_) (a' := ?_) (bA 28 33554431) rfl rfl (take_ofW HT_.out HW_.out (by kernel_rfl)) (fun _ _ _ h => h) (Or.inl ⟨by rfl, ?_⟩) hHeld ?_ ?_
         rotate_left
         ·
          rintro w' ⟨s0, s1, s2, s3, s4, s5, s6, s7⟩
          go_simp
          with_reducible rfl
         rotate_left
         ·
          simp only [Act.put, sA, sB, sC, i64_w, i32_w]
          rfl
         refine pure_ (i := 25) (N := some 46) (v := ?_) (a' := ?_) (bA 28 67108863) rfl rfl (any_of HT_.out (by kernel_rfl)) (fun _ _ _ h => h) (Or.inl ⟨by rfl, ?_⟩) ?_ ?_
         rotate_left
         ·
          intro w'
          go_simp
          with_reducible rfl
         rotate_left
         ·
          simp only [Act.put, sA, sB, sC, i64_w, i32_w]
          rfl
         refine pure_ (i := 26) (N := some 47) (v := ?_) (a' := ?_) (bA 28 134217727) rfl rfl (any_of HT_.out (by kernel_rfl)) (fun _ _ _ h => h) (Or.inl ⟨by rfl, ?_⟩) ?_ ?_
         rotate_left
         ·
          intro w'
          go_simp
          with_reducible rfl
         rotate_left
         ·
          simp only [Act.put, sA, sB, sC, i64_w, i32_w]
          rfl
         refine one_ (i := 27) (N := none) (bA 28 268435455) rfl rfl (one_of HT_.out (by kernel_rfl)) (by decide) (fun K hK => ?_)
         have hs21 : w20.cell? ⟨gb159, 0, none⟩ = some (.int .i64 0) := (blk_cell BK159.out 0).trans rfl
         have hfs21 := blk_frozen BK159.out 0
         have hns21_0 := NB158_159.out
         have hms21_0 := NB159_158.out
         have hs22 : w20.cell? ⟨gb159, 1, none⟩ = some (.int .i64 0) := (blk_cell BK159.out 1).trans rfl
         have hfs22 := blk_frozen BK159.out 1
         have hns22_0 := NB158_159.out
         have hms22_0 := NB159_158.out
         have hs23 : w20.cell? ⟨gb159, 2, none⟩ = some (.int .i64 0) := (blk_cell BK159.out 2).trans rfl
         have hfs23 := blk_frozen BK159.out 2
         have hns23_0 := NB158_159.out
         have hms23_0 := NB159_158.out
         have hs24 : w20.cell? ⟨gb159, 3, none⟩ = some (.int .i64 0) := (blk_cell BK159.out 3).trans rfl
         have hfs24 := blk_frozen BK159.out 3
         have hns24_0 := NB158_159.out
         have hms24_0 := NB159_158.out
         refine skip_ (w1 := ?_) (by rfl) rfl ?_ ?_
         rotate_left
         ·
          go_simp
          rfl
         refine hK.out _ _ ⟨((cell_far (p := ⟨gb159, _, none⟩) NB158_159.out _).trans (((cell_far (p := ⟨gb159, _, none⟩) NB158_159.out _).trans (((cell_far (p := ⟨gb159, _, none⟩) NB158_159.out _).trans (((cell_far (p := ⟨gb159, _, none⟩) NB158_159.out _).trans (hHeld.1)))))))), ((cell_far (p := ⟨gb159, _, none⟩) NB158_159.out _).trans (((cell_far (p := ⟨gb159, _, none⟩) NB158_159.out _).trans (((cell_far (p := ⟨gb159, _, none⟩) NB158_159.out _).trans (((cell_far (p := ⟨gb159, _, none⟩) NB158_159.out _).trans (hHeld.2.1)))))))), ((cell_far (p := ⟨gb159, _, none⟩) NB158_159.out _).trans (((cell_far (p := ⟨gb159, _, none⟩) NB158_159.out _).trans (((cell_far (p := ⟨gb159, _, none⟩) NB158_159.out _).trans (((cell_far (p := ⟨gb159, _, none⟩) NB158_159.out _).trans (hHeld.2.2.1)))))))), ((cell_far (p := ⟨gb159, _, none⟩) NB158_159.out _).trans (((cell_far (p := ⟨gb159, _, none⟩) NB158_159.out _).trans (((cell_far (p := ⟨gb159, _, none⟩) NB158_159.out _).trans (((cell_far (p := ⟨gb159, _, none⟩) NB158_159.out _).trans (hHeld.2.2.2.1)))))))), ((cell_far (p := ⟨gb159, _, none⟩) (by first | exact Nat.ne_of_lt (Nat.lt_of_lt_of_le (by have := World.block_lt_of_cell? _ _ hw160_0; first | rwa [add_block] at this | exact this) GW159.out) | (rw [add_block]; exact Nat.ne_of_lt (Nat.lt_of_lt_of_le (by have := World.block_lt_of_cell? _ _ hw160_0; first | rwa [add_block] at this | exact this) GW159.out)) | (show (Addr.add _ _).block ≠ _; rw [add_block]; exact Nat.ne_of_lt (Nat.lt_of_lt_of_le (by have := World.block_lt_of_cell? _ _ hw160_0; first | rwa [add_block] at this | exact this) GW159.out)) | (dsimp only; exact Nat.ne_of_lt (Nat.lt_of_lt_of_le (by have := World.block_lt_of_cell? _ _ hw160_0; first | rwa [add_block] at this | exact this) GW159.out))) _).trans (((cell_far (p := ⟨gb159, _, none⟩) (by first | exact Nat.ne_of_lt (Nat.lt_of_lt_of_le (by have := World.block_lt_of_cell? _ _ hw160_0; first | rwa [add_block] at this | exact this) GW159.out) | (rw [add_block]; exact Nat.ne_of_lt (Nat.lt_of_lt_of_le (by have := World.block_lt_of_cell? _ _ hw160_0; first | rwa [add_block] at this | exact this) GW159.out)) | (show (Addr.add _ _).block ≠ _; rw [add_block]; exact Nat.ne_of_lt (Nat.lt_of_lt_of_le (by have := World.block_lt_of_cell? _ _ hw160_0; first | rwa [add_block] at this | exact this) GW159.out)) | (dsimp only; exact Nat.ne_of_lt (Nat.lt_of_lt_of_le (by have := World.block_lt_of_cell? _ _ hw160_0; first | rwa [add_block] at this | exact this) GW159.out))) _).trans (((cell_far (p := ⟨gb159, _, none⟩) (by first | exact Nat.ne_of_lt (Nat.lt_of_lt_of_le (by have := World.block_lt_of_cell? _ _ hw160_0; first | rwa [add_block] at this | exact this) GW159.out) | (rw [add_block]; exact Nat.ne_of_lt (Nat.lt_of_lt_of_le (by have := World.block_lt_of_cell? _ _ hw160_0; first | rwa [add_block] at this | exact this) GW159.out)) | (show (Addr.add _ _).block ≠ _; rw [add_block]; exact Nat.ne_of_lt (Nat.lt_of_lt_of_le (by have := World.block_lt_of_cell? _ _ hw160_0; first | rwa [add_block] at this | exact this) GW159.out)) | (dsimp only; exact Nat.ne_of_lt (Nat.lt_of_lt_of_le (by have := World.block_lt_of_cell? _ _ hw160_0; first | rwa [add_block] at this | exact this) GW159.out))) _).trans (((cell_far (p := ⟨gb159, _, none⟩) (by first | exact Nat.ne_of_lt (Nat.lt_of_lt_of_le (by have := World.block_lt_of_cell? _ _ hw160_0; first | rwa [add_block] at this | exact this) GW159.out) | (rw [add_block]; exact Nat.ne_of_lt (Nat.lt_of_lt_of_le (by have := World.block_lt_of_cell? _ _ hw160_0; first | rwa [add_block] at this | exact this) GW159.out)) | (show (Addr.add _ _).block ≠ _; rw [add_block]; exact Nat.ne_of_lt (Nat.lt_of_lt_of_le (by have := World.block_lt_of_cell? _ _ hw160_0; first | rwa [add_block] at this | exact this) GW159.out)) | (dsimp only; exact Nat.ne_of_lt (Nat.lt_of_lt_of_le (by have := World.block_lt_of_cell? _ _ hw160_0; first | rwa [add_block] at this | exact this) GW159.out))) _).trans (hHeld.2.2.2.2.1)))))))), ((cell_far (p := ⟨gb159, _, none⟩) (by first | exact Nat.ne_of_lt (Nat.lt_of_lt_of_le (by have := World.block_lt_of_cell? _ _ hw161_0; first | rwa [add_block] at this | exact this) GW159.out) | (rw [add_block]; exact Nat.ne_of_lt (Nat.lt_of_lt_of_le (by have := World.block_lt_of_cell? _ _ hw161_0; first | rwa [add_block] at this | exact this) GW159.out)) | (show (Addr.add _ _).block ≠ _; rw [add_block]; exact Nat.ne_of_lt (Nat.lt_of_lt_of_le (by have := World.block_lt_of_cell? _ _ hw161_0; first | rwa [add_block] at this | exact this) GW159.out)) | (dsimp only; exact Nat.ne_of_lt (Nat.lt_of_lt_of_le (by have := World.block_lt_of_cell? _ _ hw161_0; first | rwa [add_block] at this | exact this) GW159.out))) _).trans (((cell_far (p := ⟨gb159, _, none⟩) (by first | exact Nat.ne_of_lt (Nat.lt_of_lt_of_le (by have := World.block_lt_of_cell? _ _ hw161_0; first | rwa [add_block] at this | exact this) GW159.out) | (rw [add_block]; exact Nat.ne_of_lt (Nat.lt_of_lt_of_le (by have := World.block_lt_of_cell? _ _ hw161_0; first | rwa [add_block] at this | exact this) GW159.out)) | (show (Addr.add _ _).block ≠ _; rw [add_block]; exact Nat.ne_of_lt (Nat.lt_of_lt_of_le (by have := World.block_lt_of_cell? _ _ hw161_0; first | rwa [add_block] at this | exact this) GW159.out)) | (dsimp only; exact Nat.ne_of_lt (Nat.lt_of_lt_of_le (by have := World.block_lt_of_cell? _ _ hw161_0; first | rwa [add_block] at this | exact this) GW159.out))) _).trans (((cell_far (p := ⟨gb159, _, none⟩) (by first | exact Nat.ne_of_lt (Nat.lt_of_lt_of_le (by have := World.block_lt_of_cell? _ _ hw161_0; first | rwa [add_block] at this | exact this) GW159.out) | (rw [add_block]; exact Nat.ne_of_lt (Nat.lt_of_lt_of_le (by have := World.block_lt_of_cell? _ _ hw161_0; first | rwa [add_block] at this | exact this) GW159.out)) | (show (Addr.add _ _).block ≠ _; rw [add_block]; exact Nat.ne_of_lt (Nat.lt_of_lt_of_le (by have := World.block_lt_of_cell? _ _ hw161_0; first | rwa [add_block] at this | exact this) GW159.out)) | (dsimp only; exact Nat.ne_of_lt (Nat.lt_of_lt_of_le (by have := World.block_lt_of_cell? _ _ hw161_0; first | rwa [add_block] at this | exact this) GW159.out))) _).trans (((cell_far (p := ⟨gb159, _, none⟩) (by first | exact Nat.ne_of_lt (Nat.lt_of_lt_of_le (by have := World.block_lt_of_cell? _ _ hw161_0; first | rwa [add_block] at this | exact this) GW159.out) | (rw [add_block]; exact Nat.ne_of_lt (Nat.lt_of_lt_of_le (by have := World.block_lt_of_cell? _ _ hw161_0; first | rwa [add_block] at this | exact this) GW159.out)) | (show (Addr.add _ _).block ≠ _; rw [add_block]; exact Nat.ne_of_lt (Nat.lt_of_lt_of_le (by have := World.block_lt_of_cell? _ _ hw161_0; first | rwa [add_block] at this | exact this) GW159.out)) | (dsimp only; exact Nat.ne_of_lt (Nat.lt_of_lt_of_le (by have := World.block_lt_of_cell? _ _ hw161_0; first | rwa [add_block] at this | exact this) GW159.out))) _).trans (hHeld.2.2.2.2.2.1)))))))), ((cell_far (p := ⟨gb159, _, none⟩) (by first | exact Nat.ne_of_lt (Nat.lt_of_lt_of_le (by have := World.block_lt_of_cell? _ _ hw162_0; first | rwa [add_block] at this | exact this) GW159.out) | (rw [add_block]; exact Nat.ne_of_lt (Nat.lt_of_lt_of_le (by have := World.block_lt_of_cell? _ _ hw162_0; first | rwa [add_block] at this | exact this) GW159.out)) | (show (Addr.add _ _).block ≠ _; rw [add_block]; exact Nat.ne_of_lt (Nat.lt_of_lt_of_le (by have := World.block_lt_of_cell? _ _ hw162_0; first | rwa [add_block] at this | exact this) GW159.out)) | (dsimp only; exact Nat.ne_of_lt (Nat.lt_of_lt_of_le (by have := World.block_lt_of_cell? _ _ hw162_0; first | rwa [add_block] at this | exact this) GW159.out))) _).trans (((cell_far (p := ⟨gb159, _, none⟩) (by first | exact Nat.ne_of_lt (Nat.lt_of_lt_of_le (by have := World.block_lt_of_cell? _ _ hw162_0; first | rwa [add_block] at this | exact this) GW159.out) | (rw [add_block]; exact Nat.ne_of_lt (Nat.lt_of_lt_of_le (by have := World.block_lt_of_cell? _ _ hw162_0; first | rwa [add_block] at this | exact this) GW159.out)) | (show (Addr.add _ _).block ≠ _; rw [add_block]; exact Nat.ne_of_lt (Nat.lt_of_lt_of_le (by have := World.block_lt_of_cell? _ _ hw162_0; first | rwa [add_block] at this | exact this) GW159.out)) | (dsimp only; exact Nat.ne_of_lt (Nat.lt_of_lt_of_le (by have := World.block_lt_of_cell? _ _ hw162_0; first | rwa [add_block] at this | exact this) GW159.out))) _).trans (((cell_far (p := ⟨gb159, _, none⟩) (by first | exact Nat.ne_of_lt (Nat.lt_of_lt_of_le (by have := World.block_lt_of_cell? _ _ hw162_0; first | rwa [add_block] at this | exact this) GW159.out) | (rw [add_block]; exact Nat.ne_of_lt (Nat.lt_of_lt_of_le (by have := World.block_lt_of_cell? _ _ hw162_0; first | rwa [add_block] at this | exact this) GW159.out)) | (show (Addr.add _ _).block ≠ _; rw [add_block]; exact Nat.ne_of_lt (Nat.lt_of_lt_of_le (by have := World.block_lt_of_cell? _ _ hw162_0; first | rwa [add_block] at this | exact this) GW159.out)) | (dsimp only; exact Nat.ne_of_lt (Nat.lt_of_lt_of_le (by have := World.block_lt_of_cell? _ _ hw162_0; first | rwa [add_block] at this | exact this) GW159.out))) _).trans (((cell_far (p := ⟨gb159, _, none⟩) (by first | exact Nat.ne_of_lt (Nat.lt_of_lt_of_le (by have := World.block_lt_of_cell? _ _ hw162_0; first | rwa [add_block] at this | exact this) GW159.out) | (rw [add_block]; exact Nat.ne_of_lt (Nat.lt_of_lt_of_le (by have := World.block_lt_of_cell? _ _ hw162_0; first | rwa [add_block] at this | exact this) GW159.out)) | (show (Addr.add _ _).block ≠ _; rw [add_block]; exact Nat.ne_of_lt (Nat.lt_of_lt_of_le (by have := World.block_lt_of_cell? _ _ hw162_0; first | rwa [add_block] at this | exact this) GW159.out)) | (dsimp only; exact Nat.ne_of_lt (Nat.lt_of_lt_of_le (by have := World.block_lt_of_cell? _ _ hw162_0; first | rwa [add_block] at this | exact this) GW159.out))) _).trans (hHeld.2.2.2.2.2.2.1)))))))), ((cell_far (p := ⟨gb159, _, none⟩) (by first | exact Nat.ne_of_lt (Nat.lt_of_lt_of_le (by have := World.block_lt_of_cell? _ _ hw163_0; first | rwa [add_block] at this | exact this) GW159.out) | (rw [add_block]; exact Nat.ne_of_lt (Nat.lt_of_lt_of_le (by have := World.block_lt_of_cell? _ _ hw163_0; first | rwa [add_block] at this | exact this) GW159.out)) | (show (Addr.add _ _).block ≠ _; rw [add_block]; exact Nat.ne_of_lt (Nat.lt_of_lt_of_le (by have := World.block_lt_of_cell? _ _ hw163_0; first | rwa [add_block] at this | exact this) GW159.out)) | (dsimp only; exact Nat.ne_of_lt (Nat.lt_of_lt_of_le (by have := World.block_lt_of_cell? _ _ hw163_0; first | rwa [add_block] at this | exact this) GW159.out))) _).trans (((cell_far (p := ⟨gb159, _, none⟩) (by first | exact Nat.ne_of_lt (Nat.lt_of_lt_of_le (by have := World.block_lt_of_cell? _ _ hw163_0; first | rwa [add_block] at this | exact this) GW159.out) | (rw [add_block]; exact Nat.ne_of_lt (Nat.lt_of_lt_of_le (by have := World.block_lt_of_cell? _ _ hw163_0; first | rwa [add_block] at this | exact this) GW159.out)) | (show (Addr.add _ _).block ≠ _; rw [add_block]; exact Nat.ne_of_lt (Nat.lt_of_lt_of_le (by have := World.block_lt_of_cell? _ _ hw163_0; first | rwa [add_block] at this | exact this) GW159.out)) | (dsimp only; exact Nat.ne_of_lt (Nat.lt_of_lt_of_le (by have := World.block_lt_of_cell? _ _ hw163_0; first | rwa [add_block] at this | exact this) GW159.out))) _).trans (((cell_far (p := ⟨gb159, _, none⟩) (by first | exact Nat.ne_of_lt (Nat.lt_of_lt_of_le (by have := World.block_lt_of_cell? _ _ hw163_0; first | rwa [add_block] at this | exact this) GW159.out) | (rw [add_block]; exact Nat.ne_of_lt (Nat.lt_of_lt_of_le (by have := World.block_lt_of_cell? _ _ hw163_0; first | rwa [add_block] at this | exact this) GW159.out)) | (show (Addr.add _ _).block ≠ _; rw [add_block]; exact Nat.ne_of_lt (Nat.lt_of_lt_of_le (by have := World.block_lt_of_cell? _ _ hw163_0; first | rwa [add_block] at this | exact this) GW159.out)) | (dsimp only; exact Nat.ne_of_lt (Nat.lt_of_lt_of_le (by have := World.block_lt_of_cell? _ _ hw163_0; first | rwa [add_block] at this | exact this) GW159.out))) _).trans (((cell_far (p := ⟨gb159, _, none⟩) (by first | exact Nat.ne_of_lt (Nat.lt_of_lt_of_le (by have := World.block_lt_of_cell? _ _ hw163_0; first | rwa [add_block] at this | exact this) GW159.out) | (rw [add_block]; exact Nat.ne_of_lt (Nat.lt_of_lt_of_le (by have := World.block_lt_of_cell? _ _ hw163_0; first | rwa [add_block] at this | exact this) GW159.out)) | (show (Addr.add _ _).block ≠ _; rw [add_block]; exact Nat.ne_of_lt (Nat.lt_of_lt_of_le (by have := World.block_lt_of_cell? _ _ hw163_0; first | rwa [add_block] at this | exact this) GW159.out)) | (dsimp only; exact Nat.ne_of_lt (Nat.lt_of_lt_of_le (by have := World.block_lt_of_cell? _ _ hw163_0; first | rwa [add_block] at this | exact this) GW159.out))) _).trans (hHeld.2.2.2.2.2.2.2))))))))⟩ (fun hHeld => ?_)
         clear hK K
         refine done_ (done_of HT_.out (by kernel_rfl)) ?_
         try go_wp2
         refine bodyPost_ret (results_cell_row rfl _ _ gb159 67 #[.int .i64 (wrap64 (rd l0_3 (ji4))), .int .i64 (wrap64 (rd l0_3 (ji7))), .int .i64 (wrap64 (rd l0_3 (ji10))), .int .i64 (wrap64 (rd l0_3 (ji13)))] (0, 0) _ rfl (by (with_reducible repeat (first | refine blk_drewN ?_ _ | refine blk_drew ?_ | refine blk_alloc ?_ _)); refine blk_put (cs := #[.int .i64 (wrap64 (rd l0_3 (ji4))), .int .i64 (wrap64 (rd l0_3 (ji7))), .int .i64 (wrap64 (rd l0_3 (ji10))), .int .i64 0]) ?_ 3 _ rfl; (with_reducible repeat (first | refine blk_drewN ?_ _ | refine blk_drew ?_ | refine blk_alloc ?_ _)); refine blk_put (cs := #[.int .i64 (wrap64 (rd l0_3 (ji4))), .int .i64 (wrap64 (rd l0_3 (ji7))), .int .i64 0, .int .i64 0]) ?_ 2 _ rfl; (with_reducible repeat (first | refine blk_drewN ?_ _ | refine blk_drew ?_ | refine blk_alloc ?_ _)); refine blk_put (cs := #[.int .i64 (wrap64 (rd l0_3 (ji4))), .int .i64 0, .int .i64 0, .int .i64 0]) ?_ 1 _ rfl; (with_reducible repeat (first | refine blk_drewN ?_ _ | refine blk_drew ?_ | refine blk_alloc ?_ _)); refine blk_put (cs := #[.int .i64 0, .int .i64 0, .int .i64 0, .int .i64 0]) ?_ 0 _ rfl; (with_reducible repeat (first | refine blk_drewN ?_ _ | refine blk_drew ?_ | refine blk_alloc ?_ _)); exact BK159.out) Tryd.underlying67 rfl (by kernel_rfl)) rfl ?_
         exact ⟨by first | rfl | (simp [errW_none, errW_some] <;> rfl) | (simp only [← hji4, ← hji7, ← hji10, ← hji13]; first | rfl | (simp [errW_none, errW_some] <;> rfl)) | (simp [*, errW_none, errW_some] <;> rfl) | (rw [Int.tdiv_eq_ediv_of_nonneg (by assumption)]; rfl), by repeat (first | (with_reducible first | exact HB.out | apply below_alloc | apply pw_below_drewN | apply below_drew1 | refine below_set ?_ GE158.out | refine below_set ?_ GE159.out) | exact HB.out)⟩
        ·
         rw [if_neg c15] at H
         exact absurd H (by simp)
       ·
        rw [if_neg c14] at H
        exact absurd H (by simp)
      ·
       rw [if_neg c12] at H
       exact absurd H (by simp)
     ·
      rw [if_neg c11] at H
      exact absurd H (by simp)
    ·
     rw [if_neg c9] at H
     exact absurd H (by simp)
   ·
    rw [if_neg c8] at H
    exact absurd H (by simp)
  ·
   rw [if_neg c6] at H
   exact absurd H (by simp)
 ·
  rw [if_neg c5] at H
  exact absurd H (by simp)

end Go.Proofs.YtdmmlidgipedaaaDoor.PA
