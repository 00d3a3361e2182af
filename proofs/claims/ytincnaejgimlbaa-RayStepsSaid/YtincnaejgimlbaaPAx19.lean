-- WRITTEN BY A PROGRAM OF THIS SESSION (a turned copy of the kit's printer), for this claim. Nothing here is trusted: Lean checks it.
import Derived.Test.YtincnaejgimlbaaPAx0
import Derived.Test.YtincnaejgimlbaaPAx1
import Derived.Test.YtincnaejgimlbaaPAx4
import Derived.Test.YtincnaejgimlbaaPAx15
namespace Go.Proofs.Ytincnaejgimlbaa.PA
open Go.RowKit Go.Proofs.YtincnaejgimlbaaW.PrintWords Go.Proofs.YtincnaejgimlbaaW.PrintLast Go.Proofs.YtincnaejgimlbaaW.PrintMore
attribute [local go_sem] max2_int min2_int max_two min_two max_three min_three max_four min_four   -- for this text's walks alone
set_option linter.unusedVariables false
set_option linter.unusedSimpArgs false

attribute [local go_sem high] eqA36
/-! ### bivouaclaw08_RaySteps: function 4 -/
mutual
def bivouaclaw08_RaySteps.j0 : Nat → List (S36) → Bool → Option (Bool)
  | 0, _, _ => none
  | k + 1, x3, x56 => if x56 = true then (some false) else (bivouaclaw08_RaySteps.l0 k x3 1)
def bivouaclaw08_RaySteps.l0 : Nat → List (S36) → Int → Option (Bool)
  | 0, _, _ => none
  | k + 1, x3, x5 => if x5 < (x3.length : Int) then (bivouaclaw08_RaySteps.l1 k x3 x5 0) else ((bivouaclaw08_awake.f k).bind fun t193 => (some t193))
def bivouaclaw08_RaySteps.l1 : Nat → List (S36) → Int → Int → Option (Bool)
  | 0, _, _, _ => none
  | k + 1, x3, x5, x6 => if x6 < 2 then (if 0 ≤ x5 then (if x5 < (x3.length : Int) then (if x6 = 0 then (if 0 ≤ (wrap64 (x5 - 1)) then (if (wrap64 (x5 - 1)) < (x3.length : Int) then (if 0 ≤ (wrap64 ((x3.length : Int) - 1)) then (if (wrap64 ((x3.length : Int) - 1)) < (x3.length : Int) then (if 0 < (x3.length : Int) then (if (wrap64 (((rd_T36 x3 x5).f0) - ((rd_T36 x3 (wrap64 (x5 - 1))).f0))) > 1 then (some false) else (if (wrap64 (((rd_T36 x3 x5).f0) - ((rd_T36 x3 (wrap64 (x5 - 1))).f0))) < (-1) then (some false) else (if (wrap64 (((rd_T36 x3 x5).f0) - ((rd_T36 x3 (wrap64 (x5 - 1))).f0))) > 0 then (if (wrap64 (((rd_T36 x3 (wrap64 ((x3.length : Int) - 1))).f0) - ((rd_T36 x3 0).f0))) ≤ 0 then (some false) else (if (wrap64 (((rd_T36 x3 x5).f0) - ((rd_T36 x3 (wrap64 (x5 - 1))).f0))) < 0 then (if (wrap64 (((rd_T36 x3 (wrap64 ((x3.length : Int) - 1))).f0) - ((rd_T36 x3 0).f0))) ≥ 0 then (some false) else (bivouaclaw08_RaySteps.l1 k x3 x5 (wrap64 (x6 + 1)))) else (bivouaclaw08_RaySteps.l1 k x3 x5 (wrap64 (x6 + 1))))) else (if (wrap64 (((rd_T36 x3 x5).f0) - ((rd_T36 x3 (wrap64 (x5 - 1))).f0))) < 0 then (if (wrap64 (((rd_T36 x3 (wrap64 ((x3.length : Int) - 1))).f0) - ((rd_T36 x3 0).f0))) ≥ 0 then (some false) else (bivouaclaw08_RaySteps.l1 k x3 x5 (wrap64 (x6 + 1)))) else (bivouaclaw08_RaySteps.l1 k x3 x5 (wrap64 (x6 + 1))))))) else (none)) else (none)) else (none)) else (none)) else (none)) else (if x6 = 1 then (if 0 ≤ (wrap64 (x5 - 1)) then (if (wrap64 (x5 - 1)) < (x3.length : Int) then (if 0 ≤ (wrap64 ((x3.length : Int) - 1)) then (if (wrap64 ((x3.length : Int) - 1)) < (x3.length : Int) then (if 0 < (x3.length : Int) then (if (wrap64 (((rd_T36 x3 x5).f1) - ((rd_T36 x3 (wrap64 (x5 - 1))).f1))) > 1 then (some false) else (if (wrap64 (((rd_T36 x3 x5).f1) - ((rd_T36 x3 (wrap64 (x5 - 1))).f1))) < (-1) then (some false) else (if (wrap64 (((rd_T36 x3 x5).f1) - ((rd_T36 x3 (wrap64 (x5 - 1))).f1))) > 0 then (if (wrap64 (((rd_T36 x3 (wrap64 ((x3.length : Int) - 1))).f1) - ((rd_T36 x3 0).f1))) ≤ 0 then (some false) else (if (wrap64 (((rd_T36 x3 x5).f1) - ((rd_T36 x3 (wrap64 (x5 - 1))).f1))) < 0 then (if (wrap64 (((rd_T36 x3 (wrap64 ((x3.length : Int) - 1))).f1) - ((rd_T36 x3 0).f1))) ≥ 0 then (some false) else (bivouaclaw08_RaySteps.l1 k x3 x5 (wrap64 (x6 + 1)))) else (bivouaclaw08_RaySteps.l1 k x3 x5 (wrap64 (x6 + 1))))) else (if (wrap64 (((rd_T36 x3 x5).f1) - ((rd_T36 x3 (wrap64 (x5 - 1))).f1))) < 0 then (if (wrap64 (((rd_T36 x3 (wrap64 ((x3.length : Int) - 1))).f1) - ((rd_T36 x3 0).f1))) ≥ 0 then (some false) else (bivouaclaw08_RaySteps.l1 k x3 x5 (wrap64 (x6 + 1)))) else (bivouaclaw08_RaySteps.l1 k x3 x5 (wrap64 (x6 + 1))))))) else (none)) else (none)) else (none)) else (none)) else (none)) else (none))) else (none)) else (none)) else (bivouaclaw08_RaySteps.l0 k x3 (wrap64 (x5 + 1)))
end
def bivouaclaw08_RaySteps.f (k : Nat) (a0_0 : Int) (a0_1 : Int) (a0_2 : Int) (l0_3 : List Int) (a0_4 : Int) (a0_5 : Int) (a0_6 : Int) (a0_7 : Int) (a0_8 : Int) (a0_9 : Int) : Option (Bool) := (ray_Line.f k a0_4 a0_5 a0_6 a0_7).bind fun bt186 => (if bt186.2 = 0 then (if (bt186.1.length : Int) < 1 then (bivouaclaw08_RaySteps.j0 k bt186.1 true) else (if 0 < (bt186.1.length : Int) then (if (!(((rd_T36 bt186.1 0).f0) == a0_4) || (!(((rd_T36 bt186.1 0).f1) == a0_5))) = true then (bivouaclaw08_RaySteps.j0 k bt186.1 true) else (if 0 ≤ (wrap64 ((bt186.1.length : Int) - 1)) then (if (wrap64 ((bt186.1.length : Int) - 1)) < (bt186.1.length : Int) then (bivouaclaw08_RaySteps.j0 k bt186.1 (!(((rd_T36 bt186.1 (wrap64 ((bt186.1.length : Int) - 1))).f0) == a0_6) || (!(((rd_T36 bt186.1 (wrap64 ((bt186.1.length : Int) - 1))).f1) == a0_7)))) else (none)) else (none))) else (none))) else (if (bt186.1.length : Int) = 0 then ((bivouaclaw08_awake.f k).bind fun t190 => (some t190)) else (some false)))
theorem bivouaclaw08_RaySteps.mono_l : ∀ k, (∀ y0 y1, LeO (bivouaclaw08_RaySteps.j0 k y0 y1) (bivouaclaw08_RaySteps.j0 (k + 1) y0 y1)) ∧ (∀ y0 y1, LeO (bivouaclaw08_RaySteps.l0 k y0 y1) (bivouaclaw08_RaySteps.l0 (k + 1) y0 y1)) ∧ (∀ y0 y1 y2, LeO (bivouaclaw08_RaySteps.l1 k y0 y1 y2) (bivouaclaw08_RaySteps.l1 (k + 1) y0 y1 y2))
  | 0 => ⟨fun _ _ r h => by simp [bivouaclaw08_RaySteps.j0] at h, fun _ _ r h => by simp [bivouaclaw08_RaySteps.l0] at h, fun _ _ _ r h => by simp [bivouaclaw08_RaySteps.l1] at h⟩
  | k + 1 => by
    obtain ⟨ih0, ih1, ih2⟩ := bivouaclaw08_RaySteps.mono_l k
    refine ⟨?_, ?_, ?_⟩
    · intro y0 y1
      unfold bivouaclaw08_RaySteps.j0
      repeat' first
      | (with_reducible exact ih0 _ _)
      | (with_reducible exact ih1 _ _)
      | (with_reducible exact ih2 _ _ _)
      | (with_reducible exact bivouaclaw08_awake.mono _)
      | (with_reducible exact ray_Line.mono _ _ _ _ _)
      | (with_reducible exact LeO.refl _)
      | (with_reducible exact LeO.none _)
      | (with_reducible refine LeO.ite ?_ ?_)
      | (with_reducible refine LeO.bind ?_ (fun _ => ?_))
      | exact ih0 _ _
      | exact ih1 _ _
      | exact ih2 _ _ _
      | exact bivouaclaw08_awake.mono _
      | exact ray_Line.mono _ _ _ _ _
      | exact LeO.none _
      | refine LeO.ite ?_ ?_
      | refine LeO.bind ?_ (fun _ => ?_)
    · intro y0 y1
      unfold bivouaclaw08_RaySteps.l0
      repeat' first
      | (with_reducible exact ih0 _ _)
      | (with_reducible exact ih1 _ _)
      | (with_reducible exact ih2 _ _ _)
      | (with_reducible exact bivouaclaw08_awake.mono _)
      | (with_reducible exact ray_Line.mono _ _ _ _ _)
      | (with_reducible exact LeO.refl _)
      | (with_reducible exact LeO.none _)
      | (with_reducible refine LeO.ite ?_ ?_)
      | (with_reducible refine LeO.bind ?_ (fun _ => ?_))
      | exact ih0 _ _
      | exact ih1 _ _
      | exact ih2 _ _ _
      | exact bivouaclaw08_awake.mono _
      | exact ray_Line.mono _ _ _ _ _
      | exact LeO.none _
      | refine LeO.ite ?_ ?_
      | refine LeO.bind ?_ (fun _ => ?_)
    · intro y0 y1 y2
      unfold bivouaclaw08_RaySteps.l1
      repeat' first
      | (with_reducible exact ih0 _ _)
      | (with_reducible exact ih1 _ _)
      | (with_reducible exact ih2 _ _ _)
      | (with_reducible exact bivouaclaw08_awake.mono _)
      | (with_reducible exact ray_Line.mono _ _ _ _ _)
      | (with_reducible exact LeO.refl _)
      | (with_reducible exact LeO.none _)
      | (with_reducible refine LeO.ite ?_ ?_)
      | (with_reducible refine LeO.bind ?_ (fun _ => ?_))
      | exact ih0 _ _
      | exact ih1 _ _
      | exact ih2 _ _ _
      | exact bivouaclaw08_awake.mono _
      | exact ray_Line.mono _ _ _ _ _
      | exact LeO.none _
      | refine LeO.ite ?_ ?_
      | refine LeO.bind ?_ (fun _ => ?_)
theorem bivouaclaw08_RaySteps.mono : ∀ a0 a1 a2 a3 a4 a5 a6 a7 a8 a9 k, LeO (bivouaclaw08_RaySteps.f k a0 a1 a2 a3 a4 a5 a6 a7 a8 a9) (bivouaclaw08_RaySteps.f (k + 1) a0 a1 a2 a3 a4 a5 a6 a7 a8 a9) := by
  intro a0 a1 a2 a3 a4 a5 a6 a7 a8 a9 k
  obtain ⟨ih0, ih1, ih2⟩ := bivouaclaw08_RaySteps.mono_l k
  unfold bivouaclaw08_RaySteps.f
  repeat' first
      | (with_reducible exact ih0 _ _)
      | (with_reducible exact ih1 _ _)
      | (with_reducible exact ih2 _ _ _)
      | (with_reducible exact bivouaclaw08_awake.mono _)
      | (with_reducible exact ray_Line.mono _ _ _ _ _)
      | (with_reducible exact LeO.refl _)
      | (with_reducible exact LeO.none _)
      | (with_reducible refine LeO.ite ?_ ?_)
      | (with_reducible refine LeO.bind ?_ (fun _ => ?_))
      | exact ih0 _ _
      | exact ih1 _ _
      | exact ih2 _ _ _
      | exact bivouaclaw08_awake.mono _
      | exact ray_Line.mono _ _ _ _ _
      | exact LeO.none _
      | refine LeO.ite ?_ ?_
      | refine LeO.bind ?_ (fun _ => ?_)
set_option maxHeartbeats 8000000 in
set_option maxRecDepth 100000 in
theorem bivouaclaw08_RaySteps.calls (k : Nat) (a0_0 : Int) (a0_1 : Int) (a0_2 : Int) (A0_3 : Option Addr) (c0_3 : Nat) (l0_3 : List Int) (a0_4 : Int) (a0_5 : Int) (a0_6 : Int) (a0_7 : Int) (a0_8 : Int) (a0_9 : Int) (r : Bool) (w : World) (hr0_3 : Kd.C (Kd.int .u8) w A0_3 l0_3.length l0_3) (hc0_3 : l0_3.length ≤ c0_3) (h : bivouaclaw08_RaySteps.f k a0_0 a0_1 a0_2 l0_3 a0_4 a0_5 a0_6 a0_7 a0_8 a0_9 = some r) :
    Calls Try.prog 4 #[.agg #[.int .i64 a0_0, .int .i64 a0_1, .int .i64 a0_2, .slice A0_3 l0_3.length c0_3, .int .i64 a0_4, .int .i64 a0_5, .int .i64 a0_6, .int .i64 a0_7, .int .i64 a0_8, .int .i64 a0_9]] w fun e w' => e = .returned (.bool r) ∧ Below w.heap.size w w' := by
  have hu26 := Try.underlying26
  have hu36 := Try.underlying36
  have HR0_3 := Aside0.mk hr0_3
  have HC0_3 := Aside0.mk hc0_3
  clear hr0_3 hc0_3
  have HB := Aside0.mk (Below.refl w.heap.size w)
  have H : ((ray_Line.f k a0_4 a0_5 a0_6 a0_7).bind fun bt186 => (if bt186.2 = 0 then (if (bt186.1.length : Int) < 1 then (bivouaclaw08_RaySteps.j0 k bt186.1 true) else (if 0 < (bt186.1.length : Int) then (if (!(((rd_T36 bt186.1 0).f0) == a0_4) || (!(((rd_T36 bt186.1 0).f1) == a0_5))) = true then (bivouaclaw08_RaySteps.j0 k bt186.1 true) else (if 0 ≤ (wrap64 ((bt186.1.length : Int) - 1)) then (if (wrap64 ((bt186.1.length : Int) - 1)) < (bt186.1.length : Int) then (bivouaclaw08_RaySteps.j0 k bt186.1 (!(((rd_T36 bt186.1 (wrap64 ((bt186.1.length : Int) - 1))).f0) == a0_6) || (!(((rd_T36 bt186.1 (wrap64 ((bt186.1.length : Int) - 1))).f1) == a0_7)))) else (none)) else (none))) else (none))) else (if (bt186.1.length : Int) = 0 then ((bivouaclaw08_awake.f k).bind fun t190 => (some t190)) else (some false)))) = some r := h
  clear h
  replace H := Option.bind_eq_some_iff.mp H
  obtain ⟨⟨t186, t187⟩, A20, H⟩ := H
  replace H : (if t187 = 0 then (if (t186.length : Int) < 1 then (bivouaclaw08_RaySteps.j0 k t186 true) else (if 0 < (t186.length : Int) then (if (!(((rd_T36 t186 0).f0) == a0_4) || (!(((rd_T36 t186 0).f1) == a0_5))) = true then (bivouaclaw08_RaySteps.j0 k t186 true) else (if 0 ≤ (wrap64 ((t186.length : Int) - 1)) then (if (wrap64 ((t186.length : Int) - 1)) < (t186.length : Int) then (bivouaclaw08_RaySteps.j0 k t186 (!(((rd_T36 t186 (wrap64 ((t186.length : Int) - 1))).f0) == a0_6) || (!(((rd_T36 t186 (wrap64 ((t186.length : Int) - 1))).f1) == a0_7)))) else (none)) else (none))) else (none))) else (if (t186.length : Int) = 0 then ((bivouaclaw08_awake.f k).bind fun t190 => (some t190)) else (some false))) = some r := H
  have A2 := Aside0.mk A20
  clear A20
  by_cases c3 : t187 = 0
  · rw [if_pos c3] at H
    have c3b0 : (t187 == 0) = true := beq_iff_eq.mpr c3
    have c3b1 : (t187 != 0) = false := bne_eq_false_iff_eq.mpr c3
    (try (have c3a : 0 ≤ t187 := by omega))
    (try (have c3d : t187 < 2 := by omega))
    (try (have c3t : Int.toNat t187 = 0 := by omega))
    clear c3
    all_goals (try (exfalso; omega))
    all_goals
      have HC4 := Aside0.mk H
      clear H
      go_enter Try.func4, Try.ntmps4
      go_upto_region 4 with (first | ((with_reducible refine gate_dst (N := 1) rfl ?_); (try (refine gate_guard (by rfl) ?_; dsimp only)); refine box_event ?hg (N := 1) ?hd (cs := #[.int .i64 a0_0, .int .i64 a0_1, .int .i64 a0_2, .slice A0_3 l0_3.length c0_3, .int .i64 a0_4, .int .i64 a0_5, .int .i64 a0_6, .int .i64 a0_7, .int .i64 a0_8, .int .i64 a0_9]) (t := 26) ?hr ?_; (case hd => rfl); (case hg => rfl); (case hr => first | (go_simp; done) | (go_simp; rfl)); intro gb185 hg w5 hbox hb; have n0_ := Aside0.mk (below_step (by repeat (first | (with_reducible first | exact HB.out | apply below_alloc | apply pw_below_drewN | apply below_drew1) | exact HB.out)) hb); have n1_ := Aside0.mk (hbox); have n2_ := Aside0.mk ((by rw [hg]; exact (below_size (by repeat (first | (with_reducible first | exact HB.out | apply below_alloc | apply pw_below_drewN | apply below_drew1) | exact HB.out))) : w.heap.size ≤ gb185)); have n3_ := Aside0.mk ((by rw [hg]; exact (below_size (by repeat (first | (with_reducible first | exact HB.out | apply below_alloc | apply pw_below_drewN | apply below_drew1) | exact HB.out))) : w.heap.size ≤ gb185)); clear HB; have HB := n0_; have BK185 := n1_; have GW185 := n2_; have GE185 := n3_; clear n0_ n1_ n2_ n3_; clear hb hbox hg; have hcz6_0 : w5.cell? ⟨gb185, 0, none⟩ = some (.int .i64 a0_0) := (blk_cell BK185.out 0).trans rfl; have hcz6_1 : w5.cell? ⟨gb185, 1, none⟩ = some (.int .i64 a0_1) := (blk_cell BK185.out 1).trans rfl; have hcz6_2 : w5.cell? ⟨gb185, 2, none⟩ = some (.int .i64 a0_2) := (blk_cell BK185.out 2).trans rfl; have hcz6_3 : w5.cell? ⟨gb185, 3, none⟩ = some (.slice A0_3 l0_3.length c0_3) := (blk_cell BK185.out 3).trans rfl; have hcz6_4 : w5.cell? ⟨gb185, 4, none⟩ = some (.int .i64 a0_4) := (blk_cell BK185.out 4).trans rfl; have hcz6_5 : w5.cell? ⟨gb185, 5, none⟩ = some (.int .i64 a0_5) := (blk_cell BK185.out 5).trans rfl; have hcz6_6 : w5.cell? ⟨gb185, 6, none⟩ = some (.int .i64 a0_6) := (blk_cell BK185.out 6).trans rfl; have hcz6_7 : w5.cell? ⟨gb185, 7, none⟩ = some (.int .i64 a0_7) := (blk_cell BK185.out 7).trans rfl; have hcz6_8 : w5.cell? ⟨gb185, 8, none⟩ = some (.int .i64 a0_8) := (blk_cell BK185.out 8).trans rfl; have hcz6_9 : w5.cell? ⟨gb185, 9, none⟩ = some (.int .i64 a0_9) := (blk_cell BK185.out 9).trans rfl; have hfz6_0 := blk_frozen BK185.out 0; have hfz6_1 := blk_frozen BK185.out 1; have hfz6_2 := blk_frozen BK185.out 2; have hfz6_3 := blk_frozen BK185.out 3; have hfz6_4 := blk_frozen BK185.out 4; have hfz6_5 := blk_frozen BK185.out 5; have hfz6_6 := blk_frozen BK185.out 6; have hfz6_7 := blk_frozen BK185.out 7; have hfz6_8 := blk_frozen BK185.out 8; have hfz6_9 := blk_frozen BK185.out 9) | (go_at_call 9; (with_reducible refine (ray_Line.calls k a0_4 a0_5 a0_6 a0_7 t186 t187 _ A2.out).mono ?_); rintro e w7 ⟨v188, rfl, ho0, hb⟩; have n0_ := Aside0.mk (Kd.R_lower ho0 (below_size (by repeat (first | (with_reducible first | exact HB.out | apply below_alloc | apply pw_below_drewN | apply below_drew1 | refine below_set ?_ GE185.out) | exact HB.out)))); have n1_ := Aside0.mk (blk_below (g := gb185) (o := .cells #[.int .i64 a0_0, .int .i64 a0_1, .int .i64 a0_2, .slice A0_3 l0_3.length c0_3, .int .i64 a0_4, .int .i64 a0_5, .int .i64 a0_6, .int .i64 a0_7, .int .i64 a0_8, .int .i64 a0_9] 26 (0, 0)) (by (with_reducible repeat (first | refine blk_drewN ?_ _ | refine blk_drew ?_ | refine blk_alloc ?_ _)); exact BK185.out) hb); have n2_ := Aside0.mk (below_step (by repeat (first | (with_reducible first | exact HB.out | apply below_alloc | apply pw_below_drewN | apply below_drew1 | refine below_set ?_ GE185.out) | exact HB.out)) hb); clear BK185; clear HB; have HO189 := n0_; have BK185 := n1_; have HB := n2_; clear n0_ n1_ n2_; (try clear hb); (try clear hb2); (try clear hk); (try clear hi); (try clear ho0)))
      repeat (go_quiet (first | ((with_reducible refine gate_dst (N := 1) rfl ?_); (try (refine gate_guard (by rfl) ?_; dsimp only)); refine box_event ?hg (N := 1) ?hd (cs := #[.int .i64 a0_0, .int .i64 a0_1, .int .i64 a0_2, .slice A0_3 l0_3.length c0_3, .int .i64 a0_4, .int .i64 a0_5, .int .i64 a0_6, .int .i64 a0_7, .int .i64 a0_8, .int .i64 a0_9]) (t := 26) ?hr ?_; (case hd => rfl); (case hg => rfl); (case hr => first | (go_simp; done) | (go_simp; rfl)); intro gb185 hg w5 hbox hb; have n0_ := Aside0.mk (below_step (by repeat (first | (with_reducible first | exact HB.out | apply below_alloc | apply pw_below_drewN | apply below_drew1) | exact HB.out)) hb); have n1_ := Aside0.mk (hbox); have n2_ := Aside0.mk ((by rw [hg]; exact (below_size (by repeat (first | (with_reducible first | exact HB.out | apply below_alloc | apply pw_below_drewN | apply below_drew1) | exact HB.out))) : w.heap.size ≤ gb185)); have n3_ := Aside0.mk ((by rw [hg]; exact (below_size (by repeat (first | (with_reducible first | exact HB.out | apply below_alloc | apply pw_below_drewN | apply below_drew1) | exact HB.out))) : w.heap.size ≤ gb185)); clear HB; have HB := n0_; have BK185 := n1_; have GW185 := n2_; have GE185 := n3_; clear n0_ n1_ n2_ n3_; clear hb hbox hg; have hcz6_0 : w5.cell? ⟨gb185, 0, none⟩ = some (.int .i64 a0_0) := (blk_cell BK185.out 0).trans rfl; have hcz6_1 : w5.cell? ⟨gb185, 1, none⟩ = some (.int .i64 a0_1) := (blk_cell BK185.out 1).trans rfl; have hcz6_2 : w5.cell? ⟨gb185, 2, none⟩ = some (.int .i64 a0_2) := (blk_cell BK185.out 2).trans rfl; have hcz6_3 : w5.cell? ⟨gb185, 3, none⟩ = some (.slice A0_3 l0_3.length c0_3) := (blk_cell BK185.out 3).trans rfl; have hcz6_4 : w5.cell? ⟨gb185, 4, none⟩ = some (.int .i64 a0_4) := (blk_cell BK185.out 4).trans rfl; have hcz6_5 : w5.cell? ⟨gb185, 5, none⟩ = some (.int .i64 a0_5) := (blk_cell BK185.out 5).trans rfl; have hcz6_6 : w5.cell? ⟨gb185, 6, none⟩ = some (.int .i64 a0_6) := (blk_cell BK185.out 6).trans rfl; have hcz6_7 : w5.cell? ⟨gb185, 7, none⟩ = some (.int .i64 a0_7) := (blk_cell BK185.out 7).trans rfl; have hcz6_8 : w5.cell? ⟨gb185, 8, none⟩ = some (.int .i64 a0_8) := (blk_cell BK185.out 8).trans rfl; have hcz6_9 : w5.cell? ⟨gb185, 9, none⟩ = some (.int .i64 a0_9) := (blk_cell BK185.out 9).trans rfl; have hfz6_0 := blk_frozen BK185.out 0; have hfz6_1 := blk_frozen BK185.out 1; have hfz6_2 := blk_frozen BK185.out 2; have hfz6_3 := blk_frozen BK185.out 3; have hfz6_4 := blk_frozen BK185.out 4; have hfz6_5 := blk_frozen BK185.out 5; have hfz6_6 := blk_frozen BK185.out 6; have hfz6_7 := blk_frozen BK185.out 7; have hfz6_8 := blk_frozen BK185.out 8; have hfz6_9 := blk_frozen BK185.out 9) | (go_at_call 9; (with_reducible refine (ray_Line.calls k a0_4 a0_5 a0_6 a0_7 t186 t187 _ A2.out).mono ?_); rintro e w7 ⟨v188, rfl, ho0, hb⟩; have n0_ := Aside0.mk (Kd.R_lower ho0 (below_size (by repeat (first | (with_reducible first | exact HB.out | apply below_alloc | apply pw_below_drewN | apply below_drew1 | refine below_set ?_ GE185.out) | exact HB.out)))); have n1_ := Aside0.mk (blk_below (g := gb185) (o := .cells #[.int .i64 a0_0, .int .i64 a0_1, .int .i64 a0_2, .slice A0_3 l0_3.length c0_3, .int .i64 a0_4, .int .i64 a0_5, .int .i64 a0_6, .int .i64 a0_7, .int .i64 a0_8, .int .i64 a0_9] 26 (0, 0)) (by (with_reducible repeat (first | refine blk_drewN ?_ _ | refine blk_drew ?_ | refine blk_alloc ?_ _)); exact BK185.out) hb); have n2_ := Aside0.mk (below_step (by repeat (first | (with_reducible first | exact HB.out | apply below_alloc | apply pw_below_drewN | apply below_drew1 | refine below_set ?_ GE185.out) | exact HB.out)) hb); clear BK185; clear HB; have HO189 := n0_; have BK185 := n1_; have HB := n2_; clear n0_ n1_ n2_; (try clear hb); (try clear hb2); (try clear hk); (try clear hi); (try clear ho0))); go_upto_region 4 with (first | ((with_reducible refine gate_dst (N := 1) rfl ?_); (try (refine gate_guard (by rfl) ?_; dsimp only)); refine box_event ?hg (N := 1) ?hd (cs := #[.int .i64 a0_0, .int .i64 a0_1, .int .i64 a0_2, .slice A0_3 l0_3.length c0_3, .int .i64 a0_4, .int .i64 a0_5, .int .i64 a0_6, .int .i64 a0_7, .int .i64 a0_8, .int .i64 a0_9]) (t := 26) ?hr ?_; (case hd => rfl); (case hg => rfl); (case hr => first | (go_simp; done) | (go_simp; rfl)); intro gb185 hg w5 hbox hb; have n0_ := Aside0.mk (below_step (by repeat (first | (with_reducible first | exact HB.out | apply below_alloc | apply pw_below_drewN | apply below_drew1) | exact HB.out)) hb); have n1_ := Aside0.mk (hbox); have n2_ := Aside0.mk ((by rw [hg]; exact (below_size (by repeat (first | (with_reducible first | exact HB.out | apply below_alloc | apply pw_below_drewN | apply below_drew1) | exact HB.out))) : w.heap.size ≤ gb185)); have n3_ := Aside0.mk ((by rw [hg]; exact (below_size (by repeat (first | (with_reducible first | exact HB.out | apply below_alloc | apply pw_below_drewN | apply below_drew1) | exact HB.out))) : w.heap.size ≤ gb185)); clear HB; have HB := n0_; have BK185 := n1_; have GW185 := n2_; have GE185 := n3_; clear n0_ n1_ n2_ n3_; clear hb hbox hg; have hcz6_0 : w5.cell? ⟨gb185, 0, none⟩ = some (.int .i64 a0_0) := (blk_cell BK185.out 0).trans rfl; have hcz6_1 : w5.cell? ⟨gb185, 1, none⟩ = some (.int .i64 a0_1) := (blk_cell BK185.out 1).trans rfl; have hcz6_2 : w5.cell? ⟨gb185, 2, none⟩ = some (.int .i64 a0_2) := (blk_cell BK185.out 2).trans rfl; have hcz6_3 : w5.cell? ⟨gb185, 3, none⟩ = some (.slice A0_3 l0_3.length c0_3) := (blk_cell BK185.out 3).trans rfl; have hcz6_4 : w5.cell? ⟨gb185, 4, none⟩ = some (.int .i64 a0_4) := (blk_cell BK185.out 4).trans rfl; have hcz6_5 : w5.cell? ⟨gb185, 5, none⟩ = some (.int .i64 a0_5) := (blk_cell BK185.out 5).trans rfl; have hcz6_6 : w5.cell? ⟨gb185, 6, none⟩ = some (.int .i64 a0_6) := (blk_cell BK185.out 6).trans rfl; have hcz6_7 : w5.cell? ⟨gb185, 7, none⟩ = some (.int .i64 a0_7) := (blk_cell BK185.out 7).trans rfl; have hcz6_8 : w5.cell? ⟨gb185, 8, none⟩ = some (.int .i64 a0_8) := (blk_cell BK185.out 8).trans rfl; have hcz6_9 : w5.cell? ⟨gb185, 9, none⟩ = some (.int .i64 a0_9) := (blk_cell BK185.out 9).trans rfl; have hfz6_0 := blk_frozen BK185.out 0; have hfz6_1 := blk_frozen BK185.out 1; have hfz6_2 := blk_frozen BK185.out 2; have hfz6_3 := blk_frozen BK185.out 3; have hfz6_4 := blk_frozen BK185.out 4; have hfz6_5 := blk_frozen BK185.out 5; have hfz6_6 := blk_frozen BK185.out 6; have hfz6_7 := blk_frozen BK185.out 7; have hfz6_8 := blk_frozen BK185.out 8; have hfz6_9 := blk_frozen BK185.out 9) | (go_at_call 9; (with_reducible refine (ray_Line.calls k a0_4 a0_5 a0_6 a0_7 t186 t187 _ A2.out).mono ?_); rintro e w7 ⟨v188, rfl, ho0, hb⟩; have n0_ := Aside0.mk (Kd.R_lower ho0 (below_size (by repeat (first | (with_reducible first | exact HB.out | apply below_alloc | apply pw_below_drewN | apply below_drew1 | refine below_set ?_ GE185.out) | exact HB.out)))); have n1_ := Aside0.mk (blk_below (g := gb185) (o := .cells #[.int .i64 a0_0, .int .i64 a0_1, .int .i64 a0_2, .slice A0_3 l0_3.length c0_3, .int .i64 a0_4, .int .i64 a0_5, .int .i64 a0_6, .int .i64 a0_7, .int .i64 a0_8, .int .i64 a0_9] 26 (0, 0)) (by (with_reducible repeat (first | refine blk_drewN ?_ _ | refine blk_drew ?_ | refine blk_alloc ?_ _)); exact BK185.out) hb); have n2_ := Aside0.mk (below_step (by repeat (first | (with_reducible first | exact HB.out | apply below_alloc | apply pw_below_drewN | apply below_drew1 | refine below_set ?_ GE185.out) | exact HB.out)) hb); clear BK185; clear HB; have HO189 := n0_; have BK185 := n1_; have HB := n2_; clear n0_ n1_ n2_; (try clear hb); (try clear hb2); (try clear hk); (try clear hi); (try clear ho0))))
      (try simp only [Act.put, List.setIfInBounds_toArray, List.set_cons_zero, List.set_cons_succ])
      go_cut [56] (fun v56 wc => ∃ (kq : Nat) (x56_3 : Bool), v56 = .bool x56_3 ∧ Aside0 (bivouaclaw08_RaySteps.j0 kq t186 x56_3 = some r) ∧ Aside0 (kq ≤ k) ∧ Aside0 (Kd.R k36 36 wc w.heap.size (fun _ => True) v188 t186) ∧ Aside0 (wc.heap[gb185]? = some (.cells #[.int .i64 a0_0, .int .i64 a0_1, .int .i64 a0_2, (.slice A0_3 l0_3.length c0_3), .int .i64 a0_4, .int .i64 a0_5, .int .i64 a0_6, .int .i64 a0_7, .int .i64 a0_8, .int .i64 a0_9] 26 (0, 0))) ∧ Aside0 (Below w.heap.size w wc))
      case first =>
        have H := HC4.out
        clear HC4
        by_cases c8 : (t186.length : Int) < 1
        · rw [if_pos c8] at H
          have c8b0 : decide ((t186.length : Int) < 1) = true := decide_eq_true c8
          have c8b1 : decide (t186.length < 1) = true := decide_eq_true (by omega)
          clear c8
          (first | rw [c8b0] | (simp only [i64_w, i32_w]; rw [c8b0]) | skip)
          have H' := Aside0.mk H
          clear H
          obtain ⟨Ao9, co9, eo9⟩ := Kd.R_slice HO189.out
          subst eo9
          go_wp2
          repeat (go_quiet (fail); try go_wp2)
          go_meet
          case rel => exact ⟨_, (true), (by first | rfl | (simp; done) | (simp [*]; done) | (congr 1; unfold wrap64; omega)), H', ⟨by first | omega | exact Nat.le_refl _⟩, ⟨by (with_reducible repeat (first | apply Kd.R_alloc | apply Kd.R_drewN | apply Kd.R_drew)); exact HO189.out⟩, ⟨by (with_reducible repeat (first | refine blk_drewN ?_ _ | refine blk_drew ?_ | refine blk_alloc ?_ _)); exact BK185.out⟩, ⟨by repeat (first | (with_reducible first | exact HB.out | apply below_alloc | apply pw_below_drewN | apply below_drew1 | refine below_set ?_ GE185.out) | exact HB.out)⟩⟩
        · rw [if_neg c8] at H
          have c8b0 : decide ((t186.length : Int) < 1) = false := decide_eq_false c8
          have c8b1 : decide (t186.length < 1) = false := decide_eq_false (by omega)
          clear c8
          (first | rw [c8b0] | (simp only [i64_w, i32_w]; rw [c8b0]) | skip)
          by_cases c10 : 0 < (t186.length : Int)
          · rw [if_pos c10] at H
            have c10b0 : decide (0 < (t186.length : Int)) = true := decide_eq_true c10
            have c10b1 : decide (0 < t186.length) = true := decide_eq_true (by omega)
            clear c10
            by_cases c11 : (!(((rd_T36 t186 0).f0) == a0_4) || (!(((rd_T36 t186 0).f1) == a0_5))) = true
            · rw [if_pos c11] at H
              have c11b0 : (!(((rd_T36 t186 0).f0) == a0_4) || (!(((rd_T36 t186 0).f1) == a0_5))) = true := c11
              clear c11
              have H' := Aside0.mk H
              clear H
              obtain ⟨Ao12, co12, eo12⟩ := Kd.R_slice HO189.out
              subst eo12
              have p191 : 0 ≤ (0 : Int) := (by omega)
              have q191 : 0 < (t186.length : Int) := of_decide_eq_true (by first | (with_reducible assumption) | assumption)
              obtain ⟨ad191, e191, hx191_0, hx191_1⟩ := at_T36 (Kd.R_reads' HO189.out).2.2 0 p191 q191
              cases e191
              have qi191 : (0 < t186.length) = True := eq_true (by omega)
              (try rw [show ((0 : Int)).toNat = 0 from rfl] at hx191_0)
              (try rw [show 0 * 2 = 0 from rfl] at hx191_0)
              (try rw [Addr.add_zero'] at hx191_0)
              (try rw [show ((0 : Int)).toNat = 0 from rfl] at hx191_1)
              (try rw [show 0 * 2 = 0 from rfl] at hx191_1)
              (try rw [Addr.add_zero'] at hx191_1)
              replace p191 := eq_true p191
              replace q191 := eq_true q191
              have hcz13_0 : w7.cell? ⟨gb185, 0, none⟩ = some (.int .i64 a0_0) := (blk_cell BK185.out 0).trans rfl
              have hcz13_1 : w7.cell? ⟨gb185, 1, none⟩ = some (.int .i64 a0_1) := (blk_cell BK185.out 1).trans rfl
              have hcz13_2 : w7.cell? ⟨gb185, 2, none⟩ = some (.int .i64 a0_2) := (blk_cell BK185.out 2).trans rfl
              have hcz13_3 : w7.cell? ⟨gb185, 3, none⟩ = some (.slice A0_3 l0_3.length c0_3) := (blk_cell BK185.out 3).trans rfl
              have hcz13_4 : w7.cell? ⟨gb185, 4, none⟩ = some (.int .i64 a0_4) := (blk_cell BK185.out 4).trans rfl
              have hcz13_5 : w7.cell? ⟨gb185, 5, none⟩ = some (.int .i64 a0_5) := (blk_cell BK185.out 5).trans rfl
              have hcz13_6 : w7.cell? ⟨gb185, 6, none⟩ = some (.int .i64 a0_6) := (blk_cell BK185.out 6).trans rfl
              have hcz13_7 : w7.cell? ⟨gb185, 7, none⟩ = some (.int .i64 a0_7) := (blk_cell BK185.out 7).trans rfl
              have hcz13_8 : w7.cell? ⟨gb185, 8, none⟩ = some (.int .i64 a0_8) := (blk_cell BK185.out 8).trans rfl
              have hcz13_9 : w7.cell? ⟨gb185, 9, none⟩ = some (.int .i64 a0_9) := (blk_cell BK185.out 9).trans rfl
              have hfz13_0 := blk_frozen BK185.out 0
              have hfz13_1 := blk_frozen BK185.out 1
              have hfz13_2 := blk_frozen BK185.out 2
              have hfz13_3 := blk_frozen BK185.out 3
              have hfz13_4 := blk_frozen BK185.out 4
              have hfz13_5 := blk_frozen BK185.out 5
              have hfz13_6 := blk_frozen BK185.out 6
              have hfz13_7 := blk_frozen BK185.out 7
              have hfz13_8 := blk_frozen BK185.out 8
              have hfz13_9 := blk_frozen BK185.out 9
              go_wp2
              repeat (go_quiet (fail); try go_wp2)
              go_meet
              case rel => exact ⟨_, (true), (by first | rfl | (simp; done) | (simp [*]; done) | (congr 1; unfold wrap64; omega)), H', ⟨by first | omega | exact Nat.le_refl _⟩, ⟨by (with_reducible repeat (first | apply Kd.R_alloc | apply Kd.R_drewN | apply Kd.R_drew)); exact HO189.out⟩, ⟨by (with_reducible repeat (first | refine blk_drewN ?_ _ | refine blk_drew ?_ | refine blk_alloc ?_ _)); exact BK185.out⟩, ⟨by repeat (first | (with_reducible first | exact HB.out | apply below_alloc | apply pw_below_drewN | apply below_drew1 | refine below_set ?_ GE185.out) | exact HB.out)⟩⟩
            · rw [if_neg c11] at H
              have c11b0 : (!(((rd_T36 t186 0).f0) == a0_4) || (!(((rd_T36 t186 0).f1) == a0_5))) = false := by simpa using c11
              clear c11
              obtain ⟨ji14, hji14⟩ : ∃ j_ : Int, (wrap64 ((t186.length : Int) - 1)) = j_ := ⟨_, rfl⟩
              replace H : (if 0 ≤ (ji14) then (if (ji14) < (t186.length : Int) then (bivouaclaw08_RaySteps.j0 k t186 (!(((rd_T36 t186 (ji14)).f0) == a0_6) || (!(((rd_T36 t186 (ji14)).f1) == a0_7)))) else (none)) else (none)) = some r := by first | (rw [hji14] at H; exact H) | (simp only [hji14] at H ⊢; exact H)
              have hji14w : (IntKind.i64.wrap ((t186.length : Int) - 1)) = ji14 := (i64_w _).trans hji14
              by_cases c15 : 0 ≤ (ji14)
              · rw [if_pos c15] at H
                have c15b0 : decide (0 ≤ (ji14)) = true := decide_eq_true c15
                clear c15
                by_cases c16 : (ji14) < (t186.length : Int)
                · rw [if_pos c16] at H
                  have c16b0 : decide ((ji14) < (t186.length : Int)) = true := decide_eq_true c16
                  clear c16
                  have H' := Aside0.mk H
                  clear H
                  obtain ⟨Ao17, co17, eo17⟩ := Kd.R_slice HO189.out
                  subst eo17
                  have p191 : 0 ≤ (0 : Int) := (by omega)
                  have q191 : 0 < (t186.length : Int) := of_decide_eq_true (by first | (with_reducible assumption) | assumption)
                  obtain ⟨ad191, e191, hx191_0, hx191_1⟩ := at_T36 (Kd.R_reads' HO189.out).2.2 0 p191 q191
                  cases e191
                  have qi191 : (0 < t186.length) = True := eq_true (by omega)
                  (try rw [show ((0 : Int)).toNat = 0 from rfl] at hx191_0)
                  (try rw [show 0 * 2 = 0 from rfl] at hx191_0)
                  (try rw [Addr.add_zero'] at hx191_0)
                  (try rw [show ((0 : Int)).toNat = 0 from rfl] at hx191_1)
                  (try rw [show 0 * 2 = 0 from rfl] at hx191_1)
                  (try rw [Addr.add_zero'] at hx191_1)
                  replace p191 := eq_true p191
                  replace q191 := eq_true q191
                  have hcz18_0 : w7.cell? ⟨gb185, 0, none⟩ = some (.int .i64 a0_0) := (blk_cell BK185.out 0).trans rfl
                  have hcz18_1 : w7.cell? ⟨gb185, 1, none⟩ = some (.int .i64 a0_1) := (blk_cell BK185.out 1).trans rfl
                  have hcz18_2 : w7.cell? ⟨gb185, 2, none⟩ = some (.int .i64 a0_2) := (blk_cell BK185.out 2).trans rfl
                  have hcz18_3 : w7.cell? ⟨gb185, 3, none⟩ = some (.slice A0_3 l0_3.length c0_3) := (blk_cell BK185.out 3).trans rfl
                  have hcz18_4 : w7.cell? ⟨gb185, 4, none⟩ = some (.int .i64 a0_4) := (blk_cell BK185.out 4).trans rfl
                  have hcz18_5 : w7.cell? ⟨gb185, 5, none⟩ = some (.int .i64 a0_5) := (blk_cell BK185.out 5).trans rfl
                  have hcz18_6 : w7.cell? ⟨gb185, 6, none⟩ = some (.int .i64 a0_6) := (blk_cell BK185.out 6).trans rfl
                  have hcz18_7 : w7.cell? ⟨gb185, 7, none⟩ = some (.int .i64 a0_7) := (blk_cell BK185.out 7).trans rfl
                  have hcz18_8 : w7.cell? ⟨gb185, 8, none⟩ = some (.int .i64 a0_8) := (blk_cell BK185.out 8).trans rfl
                  have hcz18_9 : w7.cell? ⟨gb185, 9, none⟩ = some (.int .i64 a0_9) := (blk_cell BK185.out 9).trans rfl
                  have hfz18_0 := blk_frozen BK185.out 0
                  have hfz18_1 := blk_frozen BK185.out 1
                  have hfz18_2 := blk_frozen BK185.out 2
                  have hfz18_3 := blk_frozen BK185.out 3
                  have hfz18_4 := blk_frozen BK185.out 4
                  have hfz18_5 := blk_frozen BK185.out 5
                  have hfz18_6 := blk_frozen BK185.out 6
                  have hfz18_7 := blk_frozen BK185.out 7
                  have hfz18_8 := blk_frozen BK185.out 8
                  have hfz18_9 := blk_frozen BK185.out 9
                  have p192 : 0 ≤ ((ji14) : Int) := of_decide_eq_true (by first | (with_reducible assumption) | assumption)
                  have q192 : (ji14) < (t186.length : Int) := of_decide_eq_true (by first | (with_reducible assumption) | assumption)
                  obtain ⟨ad192, e192, hx192_0, hx192_1⟩ := at_T36 (Kd.R_reads' HO189.out).2.2 (ji14) p192 q192
                  obtain rfl : ad191 = ad192 := (by injection e192)
                  replace p192 := eq_true p192
                  replace q192 := eq_true q192
                  go_wp2
                  repeat (go_quiet (fail); try go_wp2)
                  go_meet
                  case rel => exact ⟨_, ((!(((rd_T36 t186 (ji14)).f0) == a0_6) || (!(((rd_T36 t186 (ji14)).f1) == a0_7)))), (by first | rfl | (simp; done) | (simp only [← hji14] <;> (first | rfl | simp)) | (simp [*]; done) | (congr 1; unfold wrap64; omega)), H', ⟨by first | omega | exact Nat.le_refl _⟩, ⟨by (with_reducible repeat (first | apply Kd.R_alloc | apply Kd.R_drewN | apply Kd.R_drew)); exact HO189.out⟩, ⟨by (with_reducible repeat (first | refine blk_drewN ?_ _ | refine blk_drew ?_ | refine blk_alloc ?_ _)); exact BK185.out⟩, ⟨by repeat (first | (with_reducible first | exact HB.out | apply below_alloc | apply pw_below_drewN | apply below_drew1 | refine below_set ?_ GE185.out) | exact HB.out)⟩⟩
                · rw [if_neg c16] at H
                  exact absurd H (by simp)
              · rw [if_neg c15] at H
                exact absurd H (by simp)
          · rw [if_neg c10] at H
            exact absurd H (by simp)
      case rest =>
        clear HC4
        try clear c1
        try clear p1
        try clear q1
        try clear hx1
        try clear qi1
        try clear p2
        try clear c3
        try clear c3b0
        try clear c3b1
        try clear c4
        try clear p6
        try clear c8
        try clear c8b0
        try clear c8b1
        try clear c10
        try clear c10b0
        try clear c10b1
        try clear c11
        try clear c11b0
        try clear c15
        try clear c15b0
        try clear c16
        try clear c16b0
        try clear hcz13_0
        try clear hcz13_1
        try clear hcz13_2
        try clear hcz13_3
        try clear hcz13_4
        try clear hcz13_5
        try clear hcz13_6
        try clear hcz13_7
        try clear hcz13_8
        try clear hcz13_9
        try clear hcz18_0
        try clear hcz18_1
        try clear hcz18_2
        try clear hcz18_3
        try clear hcz18_4
        try clear hcz18_5
        try clear hcz18_6
        try clear hcz18_7
        try clear hcz18_8
        try clear hcz18_9
        try clear hcz6_0
        try clear hcz6_1
        try clear hcz6_2
        try clear hcz6_3
        try clear hcz6_4
        try clear hcz6_5
        try clear hcz6_6
        try clear hcz6_7
        try clear hcz6_8
        try clear hcz6_9
        try clear hfz13_0
        try clear hfz13_1
        try clear hfz13_2
        try clear hfz13_3
        try clear hfz13_4
        try clear hfz13_5
        try clear hfz13_6
        try clear hfz13_7
        try clear hfz13_8
        try clear hfz13_9
        try clear hfz18_0
        try clear hfz18_1
        try clear hfz18_2
        try clear hfz18_3
        try clear hfz18_4
        try clear hfz18_5
        try clear hfz18_6
        try clear hfz18_7
        try clear hfz18_8
        try clear hfz18_9
        try clear hfz6_0
        try clear hfz6_1
        try clear hfz6_2
        try clear hfz6_3
        try clear hfz6_4
        try clear hfz6_5
        try clear hfz6_6
        try clear hfz6_7
        try clear hfz6_8
        try clear hfz6_9
        try clear hx191_0
        try clear hx191_1
        try clear hx192_0
        try clear hx192_1
        try clear p191
        try clear p192
        try clear q191
        try clear q192
        obtain ⟨kq, x56_3, rfl, HA, HJ3, HO_3, BK185, HB⟩ := hcut
        cases kq with
        | zero => exact absurd HA.out (by simp [bivouaclaw08_RaySteps.j0])
        | succ kj3 =>
          have H := HA.out
          clear HA
          simp only [bivouaclaw08_RaySteps.j0] at H
          by_cases c19 : x56_3 = true
          · subst c19
            have H1 : (some false) = some r := by rw [if_pos rfl] at H; exact H
            clear H
            have H := H1
            clear H1
            obtain rfl := Option.some.inj H
            go_wp2
            repeat (go_quiet (fail); try go_wp2)
            go_ret
            exact ⟨by first | rfl | (simp [errW_none, errW_some] <;> rfl) | (simp [*, errW_none, errW_some] <;> rfl) | (rw [Int.tdiv_eq_ediv_of_nonneg (by assumption)]; rfl), by repeat (first | (with_reducible first | exact HB.out | apply below_alloc | apply pw_below_drewN | apply below_drew1 | refine below_set ?_ GE185.out) | exact HB.out)⟩
          · replace c19 := Bool.eq_false_iff.mpr c19
            subst c19
            have H1 : (bivouaclaw08_RaySteps.l0 kj3 t186 1) = some r := by rw [if_neg (show ¬ (false = true) by decide)] at H; exact H
            clear H
            have H := H1
            clear H1
            have H' := Aside0.mk H
            clear H
            go_wp2
            repeat (go_quiet (fail); try go_wp2)
            go_loopg [5] kj3 (fun kq v5 w' => ∃ (x5_2 : Int), v5 = .int .i64 x5_2 ∧ Aside0 (bivouaclaw08_RaySteps.l0 kq t186 x5_2 = some r) ∧ Aside0 (kq ≤ kj3) ∧ Aside0 (Kd.R k36 36 w' w.heap.size (fun _ => True) v188 t186) ∧ Aside0 (w'.heap[gb185]? = some (.cells #[.int .i64 a0_0, .int .i64 a0_1, .int .i64 a0_2, (.slice A0_3 l0_3.length c0_3), .int .i64 a0_4, .int .i64 a0_5, .int .i64 a0_6, .int .i64 a0_7, .int .i64 a0_8, .int .i64 a0_9] 26 (0, 0))) ∧ Aside0 (Below w.heap.size w w'))
            case atStart => exact ⟨(1), (by first | rfl | (simp; done) | (simp [*]; done) | (congr 1; unfold wrap64; omega)), H', ⟨Nat.le_refl _⟩, ⟨by (with_reducible repeat (first | apply Kd.R_alloc | apply Kd.R_drewN | apply Kd.R_drew)); exact HO_3.out⟩, ⟨by (with_reducible repeat (first | refine blk_drewN ?_ _ | refine blk_drew ?_ | refine blk_alloc ?_ _)); exact BK185.out⟩, ⟨by repeat (first | (with_reducible first | exact HB.out | apply below_alloc | apply pw_below_drewN | apply below_drew1 | refine below_set ?_ GE185.out) | exact HB.out)⟩⟩
            case round =>
              clear H'
              try clear c1
              try clear p1
              try clear q1
              try clear hx1
              try clear qi1
              try clear p2
              try clear c3
              try clear c3b0
              try clear c3b1
              try clear c4
              try clear p6
              try clear c8
              try clear c8b0
              try clear c8b1
              try clear c10
              try clear c10b0
              try clear c10b1
              try clear c11
              try clear c11b0
              try clear c15
              try clear c15b0
              try clear c16
              try clear c16b0
              try clear c19
              try clear p19
              try clear q19
              try clear hx19
              try clear qi19
              try clear hcz13_0
              try clear hcz13_1
              try clear hcz13_2
              try clear hcz13_3
              try clear hcz13_4
              try clear hcz13_5
              try clear hcz13_6
              try clear hcz13_7
              try clear hcz13_8
              try clear hcz13_9
              try clear hcz18_0
              try clear hcz18_1
              try clear hcz18_2
              try clear hcz18_3
              try clear hcz18_4
              try clear hcz18_5
              try clear hcz18_6
              try clear hcz18_7
              try clear hcz18_8
              try clear hcz18_9
              try clear hcz6_0
              try clear hcz6_1
              try clear hcz6_2
              try clear hcz6_3
              try clear hcz6_4
              try clear hcz6_5
              try clear hcz6_6
              try clear hcz6_7
              try clear hcz6_8
              try clear hcz6_9
              try clear hfz13_0
              try clear hfz13_1
              try clear hfz13_2
              try clear hfz13_3
              try clear hfz13_4
              try clear hfz13_5
              try clear hfz13_6
              try clear hfz13_7
              try clear hfz13_8
              try clear hfz13_9
              try clear hfz18_0
              try clear hfz18_1
              try clear hfz18_2
              try clear hfz18_3
              try clear hfz18_4
              try clear hfz18_5
              try clear hfz18_6
              try clear hfz18_7
              try clear hfz18_8
              try clear hfz18_9
              try clear hfz6_0
              try clear hfz6_1
              try clear hfz6_2
              try clear hfz6_3
              try clear hfz6_4
              try clear hfz6_5
              try clear hfz6_6
              try clear hfz6_7
              try clear hfz6_8
              try clear hfz6_9
              try clear hx191_0
              try clear hx191_1
              try clear hx192_0
              try clear hx192_1
              try clear p1
              try clear p191
              try clear p192
              try clear p2
              try clear p6
              try clear q1
              try clear q191
              try clear q192
              obtain ⟨x5_2, rfl, HA, HK2, HO_3, BK185, HB⟩ := hrel
              cases gk with
              | zero => exact absurd HA.out (by simp [bivouaclaw08_RaySteps.l0])
              | succ k2 =>
                have H := HA.out
                clear HA
                simp only [bivouaclaw08_RaySteps.l0] at H
                by_cases c20 : x5_2 < (t186.length : Int)
                · rw [if_pos c20] at H
                  have c20b0 : decide (x5_2 < (t186.length : Int)) = true := decide_eq_true c20
                  clear c20
                  have H' := Aside0.mk H
                  clear H
                  obtain ⟨Ao21, co21, eo21⟩ := Kd.R_slice HO_3.out
                  subst eo21
                  go_wp2
                  repeat (go_quiet (fail); try go_wp2)
                  go_loopg [6] k2 (fun kq v6 w' => ∃ (x6_3 : Int), v6 = .int .i64 x6_3 ∧ Aside0 (bivouaclaw08_RaySteps.l1 kq t186 x5_2 x6_3 = some r) ∧ Aside0 (kq ≤ k2) ∧ Aside0 (Kd.R k36 36 w' w.heap.size (fun _ => True) (.slice Ao21 t186.length co21) t186) ∧ Aside0 (w'.heap[gb185]? = some (.cells #[.int .i64 a0_0, .int .i64 a0_1, .int .i64 a0_2, (.slice A0_3 l0_3.length c0_3), .int .i64 a0_4, .int .i64 a0_5, .int .i64 a0_6, .int .i64 a0_7, .int .i64 a0_8, .int .i64 a0_9] 26 (0, 0))) ∧ Aside0 (Below w.heap.size w w'))
                  case atStart => exact ⟨(0), (by first | rfl | (simp; done) | (simp [*]; done) | (congr 1; unfold wrap64; omega)), H', ⟨Nat.le_refl _⟩, ⟨by (with_reducible repeat (first | apply Kd.R_alloc | apply Kd.R_drewN | apply Kd.R_drew)); exact HO_3.out⟩, ⟨by (with_reducible repeat (first | refine blk_drewN ?_ _ | refine blk_drew ?_ | refine blk_alloc ?_ _)); exact BK185.out⟩, ⟨by repeat (first | (with_reducible first | exact HB.out | apply below_alloc | apply pw_below_drewN | apply below_drew1 | refine below_set ?_ GE185.out) | exact HB.out)⟩⟩
                  case round =>
                    clear H'
                    try clear c1
                    try clear p1
                    try clear q1
                    try clear hx1
                    try clear qi1
                    try clear c2
                    try clear p2
                    try clear c3
                    try clear c3b0
                    try clear c3b1
                    try clear c4
                    try clear p6
                    try clear c8
                    try clear c8b0
                    try clear c8b1
                    try clear c10
                    try clear c10b0
                    try clear c10b1
                    try clear c11
                    try clear c11b0
                    try clear c15
                    try clear c15b0
                    try clear c16
                    try clear c16b0
                    try clear c19
                    try clear p19
                    try clear q19
                    try clear hx19
                    try clear qi19
                    try clear c20
                    try clear c20b0
                    try clear hcz13_0
                    try clear hcz13_1
                    try clear hcz13_2
                    try clear hcz13_3
                    try clear hcz13_4
                    try clear hcz13_5
                    try clear hcz13_6
                    try clear hcz13_7
                    try clear hcz13_8
                    try clear hcz13_9
                    try clear hcz18_0
                    try clear hcz18_1
                    try clear hcz18_2
                    try clear hcz18_3
                    try clear hcz18_4
                    try clear hcz18_5
                    try clear hcz18_6
                    try clear hcz18_7
                    try clear hcz18_8
                    try clear hcz18_9
                    try clear hcz6_0
                    try clear hcz6_1
                    try clear hcz6_2
                    try clear hcz6_3
                    try clear hcz6_4
                    try clear hcz6_5
                    try clear hcz6_6
                    try clear hcz6_7
                    try clear hcz6_8
                    try clear hcz6_9
                    try clear hfz13_0
                    try clear hfz13_1
                    try clear hfz13_2
                    try clear hfz13_3
                    try clear hfz13_4
                    try clear hfz13_5
                    try clear hfz13_6
                    try clear hfz13_7
                    try clear hfz13_8
                    try clear hfz13_9
                    try clear hfz18_0
                    try clear hfz18_1
                    try clear hfz18_2
                    try clear hfz18_3
                    try clear hfz18_4
                    try clear hfz18_5
                    try clear hfz18_6
                    try clear hfz18_7
                    try clear hfz18_8
                    try clear hfz18_9
                    try clear hfz6_0
                    try clear hfz6_1
                    try clear hfz6_2
                    try clear hfz6_3
                    try clear hfz6_4
                    try clear hfz6_5
                    try clear hfz6_6
                    try clear hfz6_7
                    try clear hfz6_8
                    try clear hfz6_9
                    try clear hx191_0
                    try clear hx191_1
                    try clear hx192_0
                    try clear hx192_1
                    try clear p1
                    try clear p19
                    try clear p191
                    try clear p192
                    try clear p2
                    try clear p6
                    try clear q1
                    try clear q19
                    try clear q191
                    try clear q192
                    obtain ⟨x6_3, rfl, HA, HK3, HO_3, BK185, HB⟩ := hrel
                    cases gk with
                    | zero => exact absurd HA.out (by simp [bivouaclaw08_RaySteps.l1])
                    | succ k3 =>
                      have H := HA.out
                      clear HA
                      simp only [bivouaclaw08_RaySteps.l1] at H
                      by_cases c22 : x6_3 < 2
                      · rw [if_pos c22] at H
                        have c22b0 : decide (x6_3 < 2) = true := decide_eq_true c22
                        clear c22
                        by_cases c23 : 0 ≤ x5_2
                        · rw [if_pos c23] at H
                          have c23b0 : decide (0 ≤ x5_2) = true := decide_eq_true c23
                          clear c23
                          by_cases c24 : x5_2 < (t186.length : Int)
                          · rw [if_pos c24] at H
                            have c24b0 : decide (x5_2 < (t186.length : Int)) = true := decide_eq_true c24
                            clear c24
                            by_cases c25 : x6_3 = 0
                            · rw [if_pos c25] at H
                              have c25b0 : (x6_3 == 0) = true := beq_iff_eq.mpr c25
                              have c25b1 : (x6_3 != 0) = false := bne_eq_false_iff_eq.mpr c25
                              (try (have c25a : 0 ≤ x6_3 := by omega))
                              (try (have c25d : x6_3 < 2 := by omega))
                              (try (have c25t : Int.toNat x6_3 = 0 := by omega))
                              clear c25
                              all_goals (try (exfalso; omega))
                              all_goals
                                obtain ⟨ji26, hji26⟩ : ∃ j_ : Int, (wrap64 (x5_2 - 1)) = j_ := ⟨_, rfl⟩
                                replace H : (if 0 ≤ (ji26) then (if (ji26) < (t186.length : Int) then (if 0 ≤ (wrap64 ((t186.length : Int) - 1)) then (if (wrap64 ((t186.length : Int) - 1)) < (t186.length : Int) then (if 0 < (t186.length : Int) then (if (wrap64 (((rd_T36 t186 x5_2).f0) - ((rd_T36 t186 (ji26)).f0))) > 1 then (some false) else (if (wrap64 (((rd_T36 t186 x5_2).f0) - ((rd_T36 t186 (ji26)).f0))) < (-1) then (some false) else (if (wrap64 (((rd_T36 t186 x5_2).f0) - ((rd_T36 t186 (ji26)).f0))) > 0 then (if (wrap64 (((rd_T36 t186 (wrap64 ((t186.length : Int) - 1))).f0) - ((rd_T36 t186 0).f0))) ≤ 0 then (some false) else (if (wrap64 (((rd_T36 t186 x5_2).f0) - ((rd_T36 t186 (ji26)).f0))) < 0 then (if (wrap64 (((rd_T36 t186 (wrap64 ((t186.length : Int) - 1))).f0) - ((rd_T36 t186 0).f0))) ≥ 0 then (some false) else (bivouaclaw08_RaySteps.l1 k3 t186 x5_2 (wrap64 (x6_3 + 1)))) else (bivouaclaw08_RaySteps.l1 k3 t186 x5_2 (wrap64 (x6_3 + 1))))) else (if (wrap64 (((rd_T36 t186 x5_2).f0) - ((rd_T36 t186 (ji26)).f0))) < 0 then (if (wrap64 (((rd_T36 t186 (wrap64 ((t186.length : Int) - 1))).f0) - ((rd_T36 t186 0).f0))) ≥ 0 then (some false) else (bivouaclaw08_RaySteps.l1 k3 t186 x5_2 (wrap64 (x6_3 + 1)))) else (bivouaclaw08_RaySteps.l1 k3 t186 x5_2 (wrap64 (x6_3 + 1))))))) else (none)) else (none)) else (none)) else (none)) else (none)) = some r := by first | (rw [hji26] at H; exact H) | (simp only [hji26] at H ⊢; exact H)
                                have hji26w : (IntKind.i64.wrap (x5_2 - 1)) = ji26 := (i64_w _).trans hji26
                                by_cases c27 : 0 ≤ (ji26)
                                · rw [if_pos c27] at H
                                  have c27b0 : decide (0 ≤ (ji26)) = true := decide_eq_true c27
                                  clear c27
                                  by_cases c28 : (ji26) < (t186.length : Int)
                                  · rw [if_pos c28] at H
                                    have c28b0 : decide ((ji26) < (t186.length : Int)) = true := decide_eq_true c28
                                    clear c28
                                    obtain ⟨ji29, hji29⟩ : ∃ j_ : Int, (wrap64 ((t186.length : Int) - 1)) = j_ := ⟨_, rfl⟩
                                    replace H : (if 0 ≤ (ji29) then (if (ji29) < (t186.length : Int) then (if 0 < (t186.length : Int) then (if (wrap64 (((rd_T36 t186 x5_2).f0) - ((rd_T36 t186 (ji26)).f0))) > 1 then (some false) else (if (wrap64 (((rd_T36 t186 x5_2).f0) - ((rd_T36 t186 (ji26)).f0))) < (-1) then (some false) else (if (wrap64 (((rd_T36 t186 x5_2).f0) - ((rd_T36 t186 (ji26)).f0))) > 0 then (if (wrap64 (((rd_T36 t186 (ji29)).f0) - ((rd_T36 t186 0).f0))) ≤ 0 then (some false) else (if (wrap64 (((rd_T36 t186 x5_2).f0) - ((rd_T36 t186 (ji26)).f0))) < 0 then (if (wrap64 (((rd_T36 t186 (ji29)).f0) - ((rd_T36 t186 0).f0))) ≥ 0 then (some false) else (bivouaclaw08_RaySteps.l1 k3 t186 x5_2 (wrap64 (x6_3 + 1)))) else (bivouaclaw08_RaySteps.l1 k3 t186 x5_2 (wrap64 (x6_3 + 1))))) else (if (wrap64 (((rd_T36 t186 x5_2).f0) - ((rd_T36 t186 (ji26)).f0))) < 0 then (if (wrap64 (((rd_T36 t186 (ji29)).f0) - ((rd_T36 t186 0).f0))) ≥ 0 then (some false) else (bivouaclaw08_RaySteps.l1 k3 t186 x5_2 (wrap64 (x6_3 + 1)))) else (bivouaclaw08_RaySteps.l1 k3 t186 x5_2 (wrap64 (x6_3 + 1))))))) else (none)) else (none)) else (none)) = some r := by first | (rw [hji29] at H; exact H) | (simp only [hji29] at H ⊢; exact H)
                                    have hji29w : (IntKind.i64.wrap ((t186.length : Int) - 1)) = ji29 := (i64_w _).trans hji29
                                    by_cases c30 : 0 ≤ (ji29)
                                    · rw [if_pos c30] at H
                                      have c30b0 : decide (0 ≤ (ji29)) = true := decide_eq_true c30
                                      clear c30
                                      by_cases c31 : (ji29) < (t186.length : Int)
                                      · rw [if_pos c31] at H
                                        have c31b0 : decide ((ji29) < (t186.length : Int)) = true := decide_eq_true c31
                                        clear c31
                                        by_cases c32 : 0 < (t186.length : Int)
                                        · rw [if_pos c32] at H
                                          have c32b0 : decide (0 < (t186.length : Int)) = true := decide_eq_true c32
                                          have c32b1 : decide (0 < t186.length) = true := decide_eq_true (by omega)
                                          clear c32
                                          by_cases c33 : (wrap64 (((rd_T36 t186 x5_2).f0) - ((rd_T36 t186 (ji26)).f0))) > 1
                                          · rw [if_pos c33] at H
                                            have c33b0 : decide (1 < (wrap64 (((rd_T36 t186 x5_2).f0) - ((rd_T36 t186 (ji26)).f0)))) = true := decide_eq_true c33
                                            clear c33
                                            obtain rfl := Option.some.inj H
                                            have p194 : 0 ≤ (x5_2 : Int) := of_decide_eq_true (by first | (with_reducible assumption) | assumption)
                                            have q194 : x5_2 < (t186.length : Int) := of_decide_eq_true (by first | (with_reducible assumption) | assumption)
                                            obtain ⟨ad194, e194, hx194_0, hx194_1⟩ := at_T36 (Kd.R_reads' HO_3.out).2.2 x5_2 p194 q194
                                            cases e194
                                            replace p194 := eq_true p194
                                            replace q194 := eq_true q194
                                            have p195 : 0 ≤ ((ji26) : Int) := of_decide_eq_true (by first | (with_reducible assumption) | assumption)
                                            have q195 : (ji26) < (t186.length : Int) := of_decide_eq_true (by first | (with_reducible assumption) | assumption)
                                            obtain ⟨ad195, e195, hx195_0, hx195_1⟩ := at_T36 (Kd.R_reads' HO_3.out).2.2 (ji26) p195 q195
                                            obtain rfl : ad194 = ad195 := (by injection e195)
                                            replace p195 := eq_true p195
                                            replace q195 := eq_true q195
                                            have p196 : 0 ≤ ((ji29) : Int) := of_decide_eq_true (by first | (with_reducible assumption) | assumption)
                                            have q196 : (ji29) < (t186.length : Int) := of_decide_eq_true (by first | (with_reducible assumption) | assumption)
                                            obtain ⟨ad196, e196, hx196_0, hx196_1⟩ := at_T36 (Kd.R_reads' HO_3.out).2.2 (ji29) p196 q196
                                            obtain rfl : ad194 = ad196 := (by injection e196)
                                            replace p196 := eq_true p196
                                            replace q196 := eq_true q196
                                            have p197 : 0 ≤ (0 : Int) := (by omega)
                                            have q197 : 0 < (t186.length : Int) := of_decide_eq_true (by first | (with_reducible assumption) | assumption)
                                            obtain ⟨ad197, e197, hx197_0, hx197_1⟩ := at_T36 (Kd.R_reads' HO_3.out).2.2 0 p197 q197
                                            obtain rfl : ad194 = ad197 := (by injection e197)
                                            have qi197 : (0 < t186.length) = True := eq_true (by omega)
                                            (try rw [show ((0 : Int)).toNat = 0 from rfl] at hx197_0)
                                            (try rw [show 0 * 2 = 0 from rfl] at hx197_0)
                                            (try rw [Addr.add_zero'] at hx197_0)
                                            (try rw [show ((0 : Int)).toNat = 0 from rfl] at hx197_1)
                                            (try rw [show 0 * 2 = 0 from rfl] at hx197_1)
                                            (try rw [Addr.add_zero'] at hx197_1)
                                            replace p197 := eq_true p197
                                            replace q197 := eq_true q197
                                            go_wp2
                                            repeat (go_quiet (fail); try go_wp2)
                                            go_ret
                                            exact ⟨by first | rfl | (simp [errW_none, errW_some] <;> rfl) | (simp only [← hji26, ← hji29]; first | rfl | (simp [errW_none, errW_some] <;> rfl)) | (simp [*, errW_none, errW_some] <;> rfl) | (rw [Int.tdiv_eq_ediv_of_nonneg (by assumption)]; rfl), by repeat (first | (with_reducible first | exact HB.out | apply below_alloc | apply pw_below_drewN | apply below_drew1 | refine below_set ?_ GE185.out) | exact HB.out)⟩
                                          · rw [if_neg c33] at H
                                            have c33b0 : decide (1 < (wrap64 (((rd_T36 t186 x5_2).f0) - ((rd_T36 t186 (ji26)).f0)))) = false := decide_eq_false c33
                                            clear c33
                                            by_cases c34 : (wrap64 (((rd_T36 t186 x5_2).f0) - ((rd_T36 t186 (ji26)).f0))) < (-1)
                                            · rw [if_pos c34] at H
                                              have c34b0 : decide ((wrap64 (((rd_T36 t186 x5_2).f0) - ((rd_T36 t186 (ji26)).f0))) < (-1)) = true := decide_eq_true c34
                                              clear c34
                                              obtain rfl := Option.some.inj H
                                              have p194 : 0 ≤ (x5_2 : Int) := of_decide_eq_true (by first | (with_reducible assumption) | assumption)
                                              have q194 : x5_2 < (t186.length : Int) := of_decide_eq_true (by first | (with_reducible assumption) | assumption)
                                              obtain ⟨ad194, e194, hx194_0, hx194_1⟩ := at_T36 (Kd.R_reads' HO_3.out).2.2 x5_2 p194 q194
                                              cases e194
                                              replace p194 := eq_true p194
                                              replace q194 := eq_true q194
                                              have p195 : 0 ≤ ((ji26) : Int) := of_decide_eq_true (by first | (with_reducible assumption) | assumption)
                                              have q195 : (ji26) < (t186.length : Int) := of_decide_eq_true (by first | (with_reducible assumption) | assumption)
                                              obtain ⟨ad195, e195, hx195_0, hx195_1⟩ := at_T36 (Kd.R_reads' HO_3.out).2.2 (ji26) p195 q195
                                              obtain rfl : ad194 = ad195 := (by injection e195)
                                              replace p195 := eq_true p195
                                              replace q195 := eq_true q195
                                              have p196 : 0 ≤ ((ji29) : Int) := of_decide_eq_true (by first | (with_reducible assumption) | assumption)
                                              have q196 : (ji29) < (t186.length : Int) := of_decide_eq_true (by first | (with_reducible assumption) | assumption)
                                              obtain ⟨ad196, e196, hx196_0, hx196_1⟩ := at_T36 (Kd.R_reads' HO_3.out).2.2 (ji29) p196 q196
                                              obtain rfl : ad194 = ad196 := (by injection e196)
                                              replace p196 := eq_true p196
                                              replace q196 := eq_true q196
                                              have p197 : 0 ≤ (0 : Int) := (by omega)
                                              have q197 : 0 < (t186.length : Int) := of_decide_eq_true (by first | (with_reducible assumption) | assumption)
                                              obtain ⟨ad197, e197, hx197_0, hx197_1⟩ := at_T36 (Kd.R_reads' HO_3.out).2.2 0 p197 q197
                                              obtain rfl : ad194 = ad197 := (by injection e197)
                                              have qi197 : (0 < t186.length) = True := eq_true (by omega)
                                              (try rw [show ((0 : Int)).toNat = 0 from rfl] at hx197_0)
                                              (try rw [show 0 * 2 = 0 from rfl] at hx197_0)
                                              (try rw [Addr.add_zero'] at hx197_0)
                                              (try rw [show ((0 : Int)).toNat = 0 from rfl] at hx197_1)
                                              (try rw [show 0 * 2 = 0 from rfl] at hx197_1)
                                              (try rw [Addr.add_zero'] at hx197_1)
                                              replace p197 := eq_true p197
                                              replace q197 := eq_true q197
                                              go_wp2
                                              repeat (go_quiet (fail); try go_wp2)
                                              go_ret
                                              exact ⟨by first | rfl | (simp [errW_none, errW_some] <;> rfl) | (simp only [← hji26, ← hji29]; first | rfl | (simp [errW_none, errW_some] <;> rfl)) | (simp [*, errW_none, errW_some] <;> rfl) | (rw [Int.tdiv_eq_ediv_of_nonneg (by assumption)]; rfl), by repeat (first | (with_reducible first | exact HB.out | apply below_alloc | apply pw_below_drewN | apply below_drew1 | refine below_set ?_ GE185.out) | exact HB.out)⟩
                                            · rw [if_neg c34] at H
                                              have c34b0 : decide ((wrap64 (((rd_T36 t186 x5_2).f0) - ((rd_T36 t186 (ji26)).f0))) < (-1)) = false := decide_eq_false c34
                                              clear c34
                                              by_cases c35 : (wrap64 (((rd_T36 t186 x5_2).f0) - ((rd_T36 t186 (ji26)).f0))) > 0
                                              · rw [if_pos c35] at H
                                                have c35b0 : decide (0 < (wrap64 (((rd_T36 t186 x5_2).f0) - ((rd_T36 t186 (ji26)).f0)))) = true := decide_eq_true c35
                                                clear c35
                                                by_cases c36 : (wrap64 (((rd_T36 t186 (ji29)).f0) - ((rd_T36 t186 0).f0))) ≤ 0
                                                · rw [if_pos c36] at H
                                                  have c36b0 : decide ((wrap64 (((rd_T36 t186 (ji29)).f0) - ((rd_T36 t186 0).f0))) ≤ 0) = true := decide_eq_true c36
                                                  clear c36
                                                  obtain rfl := Option.some.inj H
                                                  have p194 : 0 ≤ (x5_2 : Int) := of_decide_eq_true (by first | (with_reducible assumption) | assumption)
                                                  have q194 : x5_2 < (t186.length : Int) := of_decide_eq_true (by first | (with_reducible assumption) | assumption)
                                                  obtain ⟨ad194, e194, hx194_0, hx194_1⟩ := at_T36 (Kd.R_reads' HO_3.out).2.2 x5_2 p194 q194
                                                  cases e194
                                                  replace p194 := eq_true p194
                                                  replace q194 := eq_true q194
                                                  have p195 : 0 ≤ ((ji26) : Int) := of_decide_eq_true (by first | (with_reducible assumption) | assumption)
                                                  have q195 : (ji26) < (t186.length : Int) := of_decide_eq_true (by first | (with_reducible assumption) | assumption)
                                                  obtain ⟨ad195, e195, hx195_0, hx195_1⟩ := at_T36 (Kd.R_reads' HO_3.out).2.2 (ji26) p195 q195
                                                  obtain rfl : ad194 = ad195 := (by injection e195)
                                                  replace p195 := eq_true p195
                                                  replace q195 := eq_true q195
                                                  have p196 : 0 ≤ ((ji29) : Int) := of_decide_eq_true (by first | (with_reducible assumption) | assumption)
                                                  have q196 : (ji29) < (t186.length : Int) := of_decide_eq_true (by first | (with_reducible assumption) | assumption)
                                                  obtain ⟨ad196, e196, hx196_0, hx196_1⟩ := at_T36 (Kd.R_reads' HO_3.out).2.2 (ji29) p196 q196
                                                  obtain rfl : ad194 = ad196 := (by injection e196)
                                                  replace p196 := eq_true p196
                                                  replace q196 := eq_true q196
                                                  have p197 : 0 ≤ (0 : Int) := (by omega)
                                                  have q197 : 0 < (t186.length : Int) := of_decide_eq_true (by first | (with_reducible assumption) | assumption)
                                                  obtain ⟨ad197, e197, hx197_0, hx197_1⟩ := at_T36 (Kd.R_reads' HO_3.out).2.2 0 p197 q197
                                                  obtain rfl : ad194 = ad197 := (by injection e197)
                                                  have qi197 : (0 < t186.length) = True := eq_true (by omega)
                                                  (try rw [show ((0 : Int)).toNat = 0 from rfl] at hx197_0)
                                                  (try rw [show 0 * 2 = 0 from rfl] at hx197_0)
                                                  (try rw [Addr.add_zero'] at hx197_0)
                                                  (try rw [show ((0 : Int)).toNat = 0 from rfl] at hx197_1)
                                                  (try rw [show 0 * 2 = 0 from rfl] at hx197_1)
                                                  (try rw [Addr.add_zero'] at hx197_1)
                                                  replace p197 := eq_true p197
                                                  replace q197 := eq_true q197
                                                  go_wp2
                                                  repeat (go_quiet (fail); try go_wp2)
                                                  go_ret
                                                  exact ⟨by first | rfl | (simp [errW_none, errW_some] <;> rfl) | (simp only [← hji26, ← hji29]; first | rfl | (simp [errW_none, errW_some] <;> rfl)) | (simp [*, errW_none, errW_some] <;> rfl) | (rw [Int.tdiv_eq_ediv_of_nonneg (by assumption)]; rfl), by repeat (first | (with_reducible first | exact HB.out | apply below_alloc | apply pw_below_drewN | apply below_drew1 | refine below_set ?_ GE185.out) | exact HB.out)⟩
                                                · rw [if_neg c36] at H
                                                  have c36b0 : decide ((wrap64 (((rd_T36 t186 (ji29)).f0) - ((rd_T36 t186 0).f0))) ≤ 0) = false := decide_eq_false c36
                                                  clear c36
                                                  by_cases c37 : (wrap64 (((rd_T36 t186 x5_2).f0) - ((rd_T36 t186 (ji26)).f0))) < 0
                                                  · rw [if_pos c37] at H
                                                    have c37b0 : decide ((wrap64 (((rd_T36 t186 x5_2).f0) - ((rd_T36 t186 (ji26)).f0))) < 0) = true := decide_eq_true c37
                                                    clear c37
                                                    by_cases c38 : (wrap64 (((rd_T36 t186 (ji29)).f0) - ((rd_T36 t186 0).f0))) ≥ 0
                                                    · rw [if_pos c38] at H
                                                      have c38b0 : decide (0 ≤ (wrap64 (((rd_T36 t186 (ji29)).f0) - ((rd_T36 t186 0).f0)))) = true := decide_eq_true c38
                                                      clear c38
                                                      obtain rfl := Option.some.inj H
                                                      have p194 : 0 ≤ (x5_2 : Int) := of_decide_eq_true (by first | (with_reducible assumption) | assumption)
                                                      have q194 : x5_2 < (t186.length : Int) := of_decide_eq_true (by first | (with_reducible assumption) | assumption)
                                                      obtain ⟨ad194, e194, hx194_0, hx194_1⟩ := at_T36 (Kd.R_reads' HO_3.out).2.2 x5_2 p194 q194
                                                      cases e194
                                                      replace p194 := eq_true p194
                                                      replace q194 := eq_true q194
                                                      have p195 : 0 ≤ ((ji26) : Int) := of_decide_eq_true (by first | (with_reducible assumption) | assumption)
                                                      have q195 : (ji26) < (t186.length : Int) := of_decide_eq_true (by first | (with_reducible assumption) | assumption)
                                                      obtain ⟨ad195, e195, hx195_0, hx195_1⟩ := at_T36 (Kd.R_reads' HO_3.out).2.2 (ji26) p195 q195
                                                      obtain rfl : ad194 = ad195 := (by injection e195)
                                                      replace p195 := eq_true p195
                                                      replace q195 := eq_true q195
                                                      have p196 : 0 ≤ ((ji29) : Int) := of_decide_eq_true (by first | (with_reducible assumption) | assumption)
                                                      have q196 : (ji29) < (t186.length : Int) := of_decide_eq_true (by first | (with_reducible assumption) | assumption)
                                                      obtain ⟨ad196, e196, hx196_0, hx196_1⟩ := at_T36 (Kd.R_reads' HO_3.out).2.2 (ji29) p196 q196
                                                      obtain rfl : ad194 = ad196 := (by injection e196)
                                                      replace p196 := eq_true p196
                                                      replace q196 := eq_true q196
                                                      have p197 : 0 ≤ (0 : Int) := (by omega)
                                                      have q197 : 0 < (t186.length : Int) := of_decide_eq_true (by first | (with_reducible assumption) | assumption)
                                                      obtain ⟨ad197, e197, hx197_0, hx197_1⟩ := at_T36 (Kd.R_reads' HO_3.out).2.2 0 p197 q197
                                                      obtain rfl : ad194 = ad197 := (by injection e197)
                                                      have qi197 : (0 < t186.length) = True := eq_true (by omega)
                                                      (try rw [show ((0 : Int)).toNat = 0 from rfl] at hx197_0)
                                                      (try rw [show 0 * 2 = 0 from rfl] at hx197_0)
                                                      (try rw [Addr.add_zero'] at hx197_0)
                                                      (try rw [show ((0 : Int)).toNat = 0 from rfl] at hx197_1)
                                                      (try rw [show 0 * 2 = 0 from rfl] at hx197_1)
                                                      (try rw [Addr.add_zero'] at hx197_1)
                                                      replace p197 := eq_true p197
                                                      replace q197 := eq_true q197
                                                      go_wp2
                                                      repeat (go_quiet (fail); try go_wp2)
                                                      go_ret
                                                      exact ⟨by first | rfl | (simp [errW_none, errW_some] <;> rfl) | (simp only [← hji26, ← hji29]; first | rfl | (simp [errW_none, errW_some] <;> rfl)) | (simp [*, errW_none, errW_some] <;> rfl) | (rw [Int.tdiv_eq_ediv_of_nonneg (by assumption)]; rfl), by repeat (first | (with_reducible first | exact HB.out | apply below_alloc | apply pw_below_drewN | apply below_drew1 | refine below_set ?_ GE185.out) | exact HB.out)⟩
                                                    · rw [if_neg c38] at H
                                                      have c38b0 : decide (0 ≤ (wrap64 (((rd_T36 t186 (ji29)).f0) - ((rd_T36 t186 0).f0)))) = false := decide_eq_false c38
                                                      clear c38
                                                      have H' := Aside0.mk H
                                                      clear H
                                                      have p194 : 0 ≤ (x5_2 : Int) := of_decide_eq_true (by first | (with_reducible assumption) | assumption)
                                                      have q194 : x5_2 < (t186.length : Int) := of_decide_eq_true (by first | (with_reducible assumption) | assumption)
                                                      obtain ⟨ad194, e194, hx194_0, hx194_1⟩ := at_T36 (Kd.R_reads' HO_3.out).2.2 x5_2 p194 q194
                                                      cases e194
                                                      replace p194 := eq_true p194
                                                      replace q194 := eq_true q194
                                                      have p195 : 0 ≤ ((ji26) : Int) := of_decide_eq_true (by first | (with_reducible assumption) | assumption)
                                                      have q195 : (ji26) < (t186.length : Int) := of_decide_eq_true (by first | (with_reducible assumption) | assumption)
                                                      obtain ⟨ad195, e195, hx195_0, hx195_1⟩ := at_T36 (Kd.R_reads' HO_3.out).2.2 (ji26) p195 q195
                                                      obtain rfl : ad194 = ad195 := (by injection e195)
                                                      replace p195 := eq_true p195
                                                      replace q195 := eq_true q195
                                                      have p196 : 0 ≤ ((ji29) : Int) := of_decide_eq_true (by first | (with_reducible assumption) | assumption)
                                                      have q196 : (ji29) < (t186.length : Int) := of_decide_eq_true (by first | (with_reducible assumption) | assumption)
                                                      obtain ⟨ad196, e196, hx196_0, hx196_1⟩ := at_T36 (Kd.R_reads' HO_3.out).2.2 (ji29) p196 q196
                                                      obtain rfl : ad194 = ad196 := (by injection e196)
                                                      replace p196 := eq_true p196
                                                      replace q196 := eq_true q196
                                                      have p197 : 0 ≤ (0 : Int) := (by omega)
                                                      have q197 : 0 < (t186.length : Int) := of_decide_eq_true (by first | (with_reducible assumption) | assumption)
                                                      obtain ⟨ad197, e197, hx197_0, hx197_1⟩ := at_T36 (Kd.R_reads' HO_3.out).2.2 0 p197 q197
                                                      obtain rfl : ad194 = ad197 := (by injection e197)
                                                      have qi197 : (0 < t186.length) = True := eq_true (by omega)
                                                      (try rw [show ((0 : Int)).toNat = 0 from rfl] at hx197_0)
                                                      (try rw [show 0 * 2 = 0 from rfl] at hx197_0)
                                                      (try rw [Addr.add_zero'] at hx197_0)
                                                      (try rw [show ((0 : Int)).toNat = 0 from rfl] at hx197_1)
                                                      (try rw [show 0 * 2 = 0 from rfl] at hx197_1)
                                                      (try rw [Addr.add_zero'] at hx197_1)
                                                      replace p197 := eq_true p197
                                                      replace q197 := eq_true q197
                                                      go_wp2
                                                      repeat (go_quiet (fail); try go_wp2)
                                                      go_roundg k3
                                                      case measure => have := HJ3.out; have := HK2.out; have := HK3.out; omega
                                                      case rel => exact ⟨(wrap64 (x6_3 + 1)), (by first | rfl | (simp; done) | (simp [*]; done) | (congr 1; unfold wrap64; omega)), H', ⟨by have := HJ3.out; have := HK2.out; have := HK3.out; omega⟩, ⟨by (with_reducible repeat (first | apply Kd.R_alloc | apply Kd.R_drewN | apply Kd.R_drew)); exact HO_3.out⟩, ⟨by (with_reducible repeat (first | refine blk_drewN ?_ _ | refine blk_drew ?_ | refine blk_alloc ?_ _)); exact BK185.out⟩, ⟨by repeat (first | (with_reducible first | exact HB.out | apply below_alloc | apply pw_below_drewN | apply below_drew1 | refine below_set ?_ GE185.out) | exact HB.out)⟩⟩
                                                  · rw [if_neg c37] at H
                                                    have c37b0 : decide ((wrap64 (((rd_T36 t186 x5_2).f0) - ((rd_T36 t186 (ji26)).f0))) < 0) = false := decide_eq_false c37
                                                    clear c37
                                                    have H' := Aside0.mk H
                                                    clear H
                                                    have p194 : 0 ≤ (x5_2 : Int) := of_decide_eq_true (by first | (with_reducible assumption) | assumption)
                                                    have q194 : x5_2 < (t186.length : Int) := of_decide_eq_true (by first | (with_reducible assumption) | assumption)
                                                    obtain ⟨ad194, e194, hx194_0, hx194_1⟩ := at_T36 (Kd.R_reads' HO_3.out).2.2 x5_2 p194 q194
                                                    cases e194
                                                    replace p194 := eq_true p194
                                                    replace q194 := eq_true q194
                                                    have p195 : 0 ≤ ((ji26) : Int) := of_decide_eq_true (by first | (with_reducible assumption) | assumption)
                                                    have q195 : (ji26) < (t186.length : Int) := of_decide_eq_true (by first | (with_reducible assumption) | assumption)
                                                    obtain ⟨ad195, e195, hx195_0, hx195_1⟩ := at_T36 (Kd.R_reads' HO_3.out).2.2 (ji26) p195 q195
                                                    obtain rfl : ad194 = ad195 := (by injection e195)
                                                    replace p195 := eq_true p195
                                                    replace q195 := eq_true q195
                                                    have p196 : 0 ≤ ((ji29) : Int) := of_decide_eq_true (by first | (with_reducible assumption) | assumption)
                                                    have q196 : (ji29) < (t186.length : Int) := of_decide_eq_true (by first | (with_reducible assumption) | assumption)
                                                    obtain ⟨ad196, e196, hx196_0, hx196_1⟩ := at_T36 (Kd.R_reads' HO_3.out).2.2 (ji29) p196 q196
                                                    obtain rfl : ad194 = ad196 := (by injection e196)
                                                    replace p196 := eq_true p196
                                                    replace q196 := eq_true q196
                                                    have p197 : 0 ≤ (0 : Int) := (by omega)
                                                    have q197 : 0 < (t186.length : Int) := of_decide_eq_true (by first | (with_reducible assumption) | assumption)
                                                    obtain ⟨ad197, e197, hx197_0, hx197_1⟩ := at_T36 (Kd.R_reads' HO_3.out).2.2 0 p197 q197
                                                    obtain rfl : ad194 = ad197 := (by injection e197)
                                                    have qi197 : (0 < t186.length) = True := eq_true (by omega)
                                                    (try rw [show ((0 : Int)).toNat = 0 from rfl] at hx197_0)
                                                    (try rw [show 0 * 2 = 0 from rfl] at hx197_0)
                                                    (try rw [Addr.add_zero'] at hx197_0)
                                                    (try rw [show ((0 : Int)).toNat = 0 from rfl] at hx197_1)
                                                    (try rw [show 0 * 2 = 0 from rfl] at hx197_1)
                                                    (try rw [Addr.add_zero'] at hx197_1)
                                                    replace p197 := eq_true p197
                                                    replace q197 := eq_true q197
                                                    go_wp2
                                                    repeat (go_quiet (fail); try go_wp2)
                                                    go_roundg k3
                                                    case measure => have := HJ3.out; have := HK2.out; have := HK3.out; omega
                                                    case rel => exact ⟨(wrap64 (x6_3 + 1)), (by first | rfl | (simp; done) | (simp [*]; done) | (congr 1; unfold wrap64; omega)), H', ⟨by have := HJ3.out; have := HK2.out; have := HK3.out; omega⟩, ⟨by (with_reducible repeat (first | apply Kd.R_alloc | apply Kd.R_drewN | apply Kd.R_drew)); exact HO_3.out⟩, ⟨by (with_reducible repeat (first | refine blk_drewN ?_ _ | refine blk_drew ?_ | refine blk_alloc ?_ _)); exact BK185.out⟩, ⟨by repeat (first | (with_reducible first | exact HB.out | apply below_alloc | apply pw_below_drewN | apply below_drew1 | refine below_set ?_ GE185.out) | exact HB.out)⟩⟩
                                              · rw [if_neg c35] at H
                                                have c35b0 : decide (0 < (wrap64 (((rd_T36 t186 x5_2).f0) - ((rd_T36 t186 (ji26)).f0)))) = false := decide_eq_false c35
                                                clear c35
                                                by_cases c39 : (wrap64 (((rd_T36 t186 x5_2).f0) - ((rd_T36 t186 (ji26)).f0))) < 0
                                                · rw [if_pos c39] at H
                                                  have c39b0 : decide ((wrap64 (((rd_T36 t186 x5_2).f0) - ((rd_T36 t186 (ji26)).f0))) < 0) = true := decide_eq_true c39
                                                  clear c39
                                                  by_cases c40 : (wrap64 (((rd_T36 t186 (ji29)).f0) - ((rd_T36 t186 0).f0))) ≥ 0
                                                  · rw [if_pos c40] at H
                                                    have c40b0 : decide (0 ≤ (wrap64 (((rd_T36 t186 (ji29)).f0) - ((rd_T36 t186 0).f0)))) = true := decide_eq_true c40
                                                    clear c40
                                                    obtain rfl := Option.some.inj H
                                                    have p194 : 0 ≤ (x5_2 : Int) := of_decide_eq_true (by first | (with_reducible assumption) | assumption)
                                                    have q194 : x5_2 < (t186.length : Int) := of_decide_eq_true (by first | (with_reducible assumption) | assumption)
                                                    obtain ⟨ad194, e194, hx194_0, hx194_1⟩ := at_T36 (Kd.R_reads' HO_3.out).2.2 x5_2 p194 q194
                                                    cases e194
                                                    replace p194 := eq_true p194
                                                    replace q194 := eq_true q194
                                                    have p195 : 0 ≤ ((ji26) : Int) := of_decide_eq_true (by first | (with_reducible assumption) | assumption)
                                                    have q195 : (ji26) < (t186.length : Int) := of_decide_eq_true (by first | (with_reducible assumption) | assumption)
                                                    obtain ⟨ad195, e195, hx195_0, hx195_1⟩ := at_T36 (Kd.R_reads' HO_3.out).2.2 (ji26) p195 q195
                                                    obtain rfl : ad194 = ad195 := (by injection e195)
                                                    replace p195 := eq_true p195
                                                    replace q195 := eq_true q195
                                                    have p196 : 0 ≤ ((ji29) : Int) := of_decide_eq_true (by first | (with_reducible assumption) | assumption)
                                                    have q196 : (ji29) < (t186.length : Int) := of_decide_eq_true (by first | (with_reducible assumption) | assumption)
                                                    obtain ⟨ad196, e196, hx196_0, hx196_1⟩ := at_T36 (Kd.R_reads' HO_3.out).2.2 (ji29) p196 q196
                                                    obtain rfl : ad194 = ad196 := (by injection e196)
                                                    replace p196 := eq_true p196
                                                    replace q196 := eq_true q196
                                                    have p197 : 0 ≤ (0 : Int) := (by omega)
                                                    have q197 : 0 < (t186.length : Int) := of_decide_eq_true (by first | (with_reducible assumption) | assumption)
                                                    obtain ⟨ad197, e197, hx197_0, hx197_1⟩ := at_T36 (Kd.R_reads' HO_3.out).2.2 0 p197 q197
                                                    obtain rfl : ad194 = ad197 := (by injection e197)
                                                    have qi197 : (0 < t186.length) = True := eq_true (by omega)
                                                    (try rw [show ((0 : Int)).toNat = 0 from rfl] at hx197_0)
                                                    (try rw [show 0 * 2 = 0 from rfl] at hx197_0)
                                                    (try rw [Addr.add_zero'] at hx197_0)
                                                    (try rw [show ((0 : Int)).toNat = 0 from rfl] at hx197_1)
                                                    (try rw [show 0 * 2 = 0 from rfl] at hx197_1)
                                                    (try rw [Addr.add_zero'] at hx197_1)
                                                    replace p197 := eq_true p197
                                                    replace q197 := eq_true q197
                                                    go_wp2
                                                    repeat (go_quiet (fail); try go_wp2)
                                                    go_ret
                                                    exact ⟨by first | rfl | (simp [errW_none, errW_some] <;> rfl) | (simp only [← hji26, ← hji29]; first | rfl | (simp [errW_none, errW_some] <;> rfl)) | (simp [*, errW_none, errW_some] <;> rfl) | (rw [Int.tdiv_eq_ediv_of_nonneg (by assumption)]; rfl), by repeat (first | (with_reducible first | exact HB.out | apply below_alloc | apply pw_below_drewN | apply below_drew1 | refine below_set ?_ GE185.out) | exact HB.out)⟩
                                                  · rw [if_neg c40] at H
                                                    have c40b0 : decide (0 ≤ (wrap64 (((rd_T36 t186 (ji29)).f0) - ((rd_T36 t186 0).f0)))) = false := decide_eq_false c40
                                                    clear c40
                                                    have H' := Aside0.mk H
                                                    clear H
                                                    have p194 : 0 ≤ (x5_2 : Int) := of_decide_eq_true (by first | (with_reducible assumption) | assumption)
                                                    have q194 : x5_2 < (t186.length : Int) := of_decide_eq_true (by first | (with_reducible assumption) | assumption)
                                                    obtain ⟨ad194, e194, hx194_0, hx194_1⟩ := at_T36 (Kd.R_reads' HO_3.out).2.2 x5_2 p194 q194
                                                    cases e194
                                                    replace p194 := eq_true p194
                                                    replace q194 := eq_true q194
                                                    have p195 : 0 ≤ ((ji26) : Int) := of_decide_eq_true (by first | (with_reducible assumption) | assumption)
                                                    have q195 : (ji26) < (t186.length : Int) := of_decide_eq_true (by first | (with_reducible assumption) | assumption)
                                                    obtain ⟨ad195, e195, hx195_0, hx195_1⟩ := at_T36 (Kd.R_reads' HO_3.out).2.2 (ji26) p195 q195
                                                    obtain rfl : ad194 = ad195 := (by injection e195)
                                                    replace p195 := eq_true p195
                                                    replace q195 := eq_true q195
                                                    have p196 : 0 ≤ ((ji29) : Int) := of_decide_eq_true (by first | (with_reducible assumption) | assumption)
                                                    have q196 : (ji29) < (t186.length : Int) := of_decide_eq_true (by first | (with_reducible assumption) | assumption)
                                                    obtain ⟨ad196, e196, hx196_0, hx196_1⟩ := at_T36 (Kd.R_reads' HO_3.out).2.2 (ji29) p196 q196
                                                    obtain rfl : ad194 = ad196 := (by injection e196)
                                                    replace p196 := eq_true p196
                                                    replace q196 := eq_true q196
                                                    have p197 : 0 ≤ (0 : Int) := (by omega)
                                                    have q197 : 0 < (t186.length : Int) := of_decide_eq_true (by first | (with_reducible assumption) | assumption)
                                                    obtain ⟨ad197, e197, hx197_0, hx197_1⟩ := at_T36 (Kd.R_reads' HO_3.out).2.2 0 p197 q197
                                                    obtain rfl : ad194 = ad197 := (by injection e197)
                                                    have qi197 : (0 < t186.length) = True := eq_true (by omega)
                                                    (try rw [show ((0 : Int)).toNat = 0 from rfl] at hx197_0)
                                                    (try rw [show 0 * 2 = 0 from rfl] at hx197_0)
                                                    (try rw [Addr.add_zero'] at hx197_0)
                                                    (try rw [show ((0 : Int)).toNat = 0 from rfl] at hx197_1)
                                                    (try rw [show 0 * 2 = 0 from rfl] at hx197_1)
                                                    (try rw [Addr.add_zero'] at hx197_1)
                                                    replace p197 := eq_true p197
                                                    replace q197 := eq_true q197
                                                    go_wp2
                                                    repeat (go_quiet (fail); try go_wp2)
                                                    go_roundg k3
                                                    case measure => have := HJ3.out; have := HK2.out; have := HK3.out; omega
                                                    case rel => exact ⟨(wrap64 (x6_3 + 1)), (by first | rfl | (simp; done) | (simp [*]; done) | (congr 1; unfold wrap64; omega)), H', ⟨by have := HJ3.out; have := HK2.out; have := HK3.out; omega⟩, ⟨by (with_reducible repeat (first | apply Kd.R_alloc | apply Kd.R_drewN | apply Kd.R_drew)); exact HO_3.out⟩, ⟨by (with_reducible repeat (first | refine blk_drewN ?_ _ | refine blk_drew ?_ | refine blk_alloc ?_ _)); exact BK185.out⟩, ⟨by repeat (first | (with_reducible first | exact HB.out | apply below_alloc | apply pw_below_drewN | apply below_drew1 | refine below_set ?_ GE185.out) | exact HB.out)⟩⟩
                                                · rw [if_neg c39] at H
                                                  have c39b0 : decide ((wrap64 (((rd_T36 t186 x5_2).f0) - ((rd_T36 t186 (ji26)).f0))) < 0) = false := decide_eq_false c39
                                                  clear c39
                                                  have H' := Aside0.mk H
                                                  clear H
                                                  have p194 : 0 ≤ (x5_2 : Int) := of_decide_eq_true (by first | (with_reducible assumption) | assumption)
                                                  have q194 : x5_2 < (t186.length : Int) := of_decide_eq_true (by first | (with_reducible assumption) | assumption)
                                                  obtain ⟨ad194, e194, hx194_0, hx194_1⟩ := at_T36 (Kd.R_reads' HO_3.out).2.2 x5_2 p194 q194
                                                  cases e194
                                                  replace p194 := eq_true p194
                                                  replace q194 := eq_true q194
                                                  have p195 : 0 ≤ ((ji26) : Int) := of_decide_eq_true (by first | (with_reducible assumption) | assumption)
                                                  have q195 : (ji26) < (t186.length : Int) := of_decide_eq_true (by first | (with_reducible assumption) | assumption)
                                                  obtain ⟨ad195, e195, hx195_0, hx195_1⟩ := at_T36 (Kd.R_reads' HO_3.out).2.2 (ji26) p195 q195
                                                  obtain rfl : ad194 = ad195 := (by injection e195)
                                                  replace p195 := eq_true p195
                                                  replace q195 := eq_true q195
                                                  have p196 : 0 ≤ ((ji29) : Int) := of_decide_eq_true (by first | (with_reducible assumption) | assumption)
                                                  have q196 : (ji29) < (t186.length : Int) := of_decide_eq_true (by first | (with_reducible assumption) | assumption)
                                                  obtain ⟨ad196, e196, hx196_0, hx196_1⟩ := at_T36 (Kd.R_reads' HO_3.out).2.2 (ji29) p196 q196
                                                  obtain rfl : ad194 = ad196 := (by injection e196)
                                                  replace p196 := eq_true p196
                                                  replace q196 := eq_true q196
                                                  have p197 : 0 ≤ (0 : Int) := (by omega)
                                                  have q197 : 0 < (t186.length : Int) := of_decide_eq_true (by first | (with_reducible assumption) | assumption)
                                                  obtain ⟨ad197, e197, hx197_0, hx197_1⟩ := at_T36 (Kd.R_reads' HO_3.out).2.2 0 p197 q197
                                                  obtain rfl : ad194 = ad197 := (by injection e197)
                                                  have qi197 : (0 < t186.length) = True := eq_true (by omega)
                                                  (try rw [show ((0 : Int)).toNat = 0 from rfl] at hx197_0)
                                                  (try rw [show 0 * 2 = 0 from rfl] at hx197_0)
                                                  (try rw [Addr.add_zero'] at hx197_0)
                                                  (try rw [show ((0 : Int)).toNat = 0 from rfl] at hx197_1)
                                                  (try rw [show 0 * 2 = 0 from rfl] at hx197_1)
                                                  (try rw [Addr.add_zero'] at hx197_1)
                                                  replace p197 := eq_true p197
                                                  replace q197 := eq_true q197
                                                  go_wp2
                                                  repeat (go_quiet (fail); try go_wp2)
                                                  go_roundg k3
                                                  case measure => have := HJ3.out; have := HK2.out; have := HK3.out; omega
                                                  case rel => exact ⟨(wrap64 (x6_3 + 1)), (by first | rfl | (simp; done) | (simp [*]; done) | (congr 1; unfold wrap64; omega)), H', ⟨by have := HJ3.out; have := HK2.out; have := HK3.out; omega⟩, ⟨by (with_reducible repeat (first | apply Kd.R_alloc | apply Kd.R_drewN | apply Kd.R_drew)); exact HO_3.out⟩, ⟨by (with_reducible repeat (first | refine blk_drewN ?_ _ | refine blk_drew ?_ | refine blk_alloc ?_ _)); exact BK185.out⟩, ⟨by repeat (first | (with_reducible first | exact HB.out | apply below_alloc | apply pw_below_drewN | apply below_drew1 | refine below_set ?_ GE185.out) | exact HB.out)⟩⟩
                                        · rw [if_neg c32] at H
                                          exact absurd H (by simp)
                                      · rw [if_neg c31] at H
                                        exact absurd H (by simp)
                                    · rw [if_neg c30] at H
                                      exact absurd H (by simp)
                                  · rw [if_neg c28] at H
                                    exact absurd H (by simp)
                                · rw [if_neg c27] at H
                                  exact absurd H (by simp)
                            · rw [if_neg c25] at H
                              have c25b0 : (x6_3 == 0) = false := beq_eq_false_iff_ne.mpr c25
                              have c25b1 : (x6_3 != 0) = true := bne_iff_ne.mpr c25
                              all_goals (try (exfalso; omega))
                              all_goals
                                by_cases c41 : x6_3 = 1
                                · rw [if_pos c41] at H
                                  have c41b0 : (x6_3 == 1) = true := beq_iff_eq.mpr c41
                                  have c41b1 : (x6_3 != 1) = false := bne_eq_false_iff_eq.mpr c41
                                  (try (have c41a : 0 ≤ x6_3 := by omega))
                                  (try (have c41d : x6_3 < 2 := by omega))
                                  (try (have c41t : Int.toNat x6_3 = 1 := by omega))
                                  clear c41
                                  all_goals (try (exfalso; omega))
                                  all_goals
                                    obtain ⟨ji42, hji42⟩ : ∃ j_ : Int, (wrap64 (x5_2 - 1)) = j_ := ⟨_, rfl⟩
                                    replace H : (if 0 ≤ (ji42) then (if (ji42) < (t186.length : Int) then (if 0 ≤ (wrap64 ((t186.length : Int) - 1)) then (if (wrap64 ((t186.length : Int) - 1)) < (t186.length : Int) then (if 0 < (t186.length : Int) then (if (wrap64 (((rd_T36 t186 x5_2).f1) - ((rd_T36 t186 (ji42)).f1))) > 1 then (some false) else (if (wrap64 (((rd_T36 t186 x5_2).f1) - ((rd_T36 t186 (ji42)).f1))) < (-1) then (some false) else (if (wrap64 (((rd_T36 t186 x5_2).f1) - ((rd_T36 t186 (ji42)).f1))) > 0 then (if (wrap64 (((rd_T36 t186 (wrap64 ((t186.length : Int) - 1))).f1) - ((rd_T36 t186 0).f1))) ≤ 0 then (some false) else (if (wrap64 (((rd_T36 t186 x5_2).f1) - ((rd_T36 t186 (ji42)).f1))) < 0 then (if (wrap64 (((rd_T36 t186 (wrap64 ((t186.length : Int) - 1))).f1) - ((rd_T36 t186 0).f1))) ≥ 0 then (some false) else (bivouaclaw08_RaySteps.l1 k3 t186 x5_2 (wrap64 (x6_3 + 1)))) else (bivouaclaw08_RaySteps.l1 k3 t186 x5_2 (wrap64 (x6_3 + 1))))) else (if (wrap64 (((rd_T36 t186 x5_2).f1) - ((rd_T36 t186 (ji42)).f1))) < 0 then (if (wrap64 (((rd_T36 t186 (wrap64 ((t186.length : Int) - 1))).f1) - ((rd_T36 t186 0).f1))) ≥ 0 then (some false) else (bivouaclaw08_RaySteps.l1 k3 t186 x5_2 (wrap64 (x6_3 + 1)))) else (bivouaclaw08_RaySteps.l1 k3 t186 x5_2 (wrap64 (x6_3 + 1))))))) else (none)) else (none)) else (none)) else (none)) else (none)) = some r := by first | (rw [hji42] at H; exact H) | (simp only [hji42] at H ⊢; exact H)
                                    have hji42w : (IntKind.i64.wrap (x5_2 - 1)) = ji42 := (i64_w _).trans hji42
                                    by_cases c43 : 0 ≤ (ji42)
                                    · rw [if_pos c43] at H
                                      have c43b0 : decide (0 ≤ (ji42)) = true := decide_eq_true c43
                                      clear c43
                                      by_cases c44 : (ji42) < (t186.length : Int)
                                      · rw [if_pos c44] at H
                                        have c44b0 : decide ((ji42) < (t186.length : Int)) = true := decide_eq_true c44
                                        clear c44
                                        obtain ⟨ji45, hji45⟩ : ∃ j_ : Int, (wrap64 ((t186.length : Int) - 1)) = j_ := ⟨_, rfl⟩
                                        replace H : (if 0 ≤ (ji45) then (if (ji45) < (t186.length : Int) then (if 0 < (t186.length : Int) then (if (wrap64 (((rd_T36 t186 x5_2).f1) - ((rd_T36 t186 (ji42)).f1))) > 1 then (some false) else (if (wrap64 (((rd_T36 t186 x5_2).f1) - ((rd_T36 t186 (ji42)).f1))) < (-1) then (some false) else (if (wrap64 (((rd_T36 t186 x5_2).f1) - ((rd_T36 t186 (ji42)).f1))) > 0 then (if (wrap64 (((rd_T36 t186 (ji45)).f1) - ((rd_T36 t186 0).f1))) ≤ 0 then (some false) else (if (wrap64 (((rd_T36 t186 x5_2).f1) - ((rd_T36 t186 (ji42)).f1))) < 0 then (if (wrap64 (((rd_T36 t186 (ji45)).f1) - ((rd_T36 t186 0).f1))) ≥ 0 then (some false) else (bivouaclaw08_RaySteps.l1 k3 t186 x5_2 (wrap64 (x6_3 + 1)))) else (bivouaclaw08_RaySteps.l1 k3 t186 x5_2 (wrap64 (x6_3 + 1))))) else (if (wrap64 (((rd_T36 t186 x5_2).f1) - ((rd_T36 t186 (ji42)).f1))) < 0 then (if (wrap64 (((rd_T36 t186 (ji45)).f1) - ((rd_T36 t186 0).f1))) ≥ 0 then (some false) else (bivouaclaw08_RaySteps.l1 k3 t186 x5_2 (wrap64 (x6_3 + 1)))) else (bivouaclaw08_RaySteps.l1 k3 t186 x5_2 (wrap64 (x6_3 + 1))))))) else (none)) else (none)) else (none)) = some r := by first | (rw [hji45] at H; exact H) | (simp only [hji45] at H ⊢; exact H)
                                        have hji45w : (IntKind.i64.wrap ((t186.length : Int) - 1)) = ji45 := (i64_w _).trans hji45
                                        by_cases c46 : 0 ≤ (ji45)
                                        · rw [if_pos c46] at H
                                          have c46b0 : decide (0 ≤ (ji45)) = true := decide_eq_true c46
                                          clear c46
                                          by_cases c47 : (ji45) < (t186.length : Int)
                                          · rw [if_pos c47] at H
                                            have c47b0 : decide ((ji45) < (t186.length : Int)) = true := decide_eq_true c47
                                            clear c47
                                            by_cases c48 : 0 < (t186.length : Int)
                                            · rw [if_pos c48] at H
                                              have c48b0 : decide (0 < (t186.length : Int)) = true := decide_eq_true c48
                                              have c48b1 : decide (0 < t186.length) = true := decide_eq_true (by omega)
                                              clear c48
                                              by_cases c49 : (wrap64 (((rd_T36 t186 x5_2).f1) - ((rd_T36 t186 (ji42)).f1))) > 1
                                              · rw [if_pos c49] at H
                                                have c49b0 : decide (1 < (wrap64 (((rd_T36 t186 x5_2).f1) - ((rd_T36 t186 (ji42)).f1)))) = true := decide_eq_true c49
                                                clear c49
                                                obtain rfl := Option.some.inj H
                                                have p194 : 0 ≤ (x5_2 : Int) := of_decide_eq_true (by first | (with_reducible assumption) | assumption)
                                                have q194 : x5_2 < (t186.length : Int) := of_decide_eq_true (by first | (with_reducible assumption) | assumption)
                                                obtain ⟨ad194, e194, hx194_0, hx194_1⟩ := at_T36 (Kd.R_reads' HO_3.out).2.2 x5_2 p194 q194
                                                cases e194
                                                replace p194 := eq_true p194
                                                replace q194 := eq_true q194
                                                have p198 : 0 ≤ ((ji42) : Int) := of_decide_eq_true (by first | (with_reducible assumption) | assumption)
                                                have q198 : (ji42) < (t186.length : Int) := of_decide_eq_true (by first | (with_reducible assumption) | assumption)
                                                obtain ⟨ad198, e198, hx198_0, hx198_1⟩ := at_T36 (Kd.R_reads' HO_3.out).2.2 (ji42) p198 q198
                                                obtain rfl : ad194 = ad198 := (by injection e198)
                                                replace p198 := eq_true p198
                                                replace q198 := eq_true q198
                                                have p199 : 0 ≤ ((ji45) : Int) := of_decide_eq_true (by first | (with_reducible assumption) | assumption)
                                                have q199 : (ji45) < (t186.length : Int) := of_decide_eq_true (by first | (with_reducible assumption) | assumption)
                                                obtain ⟨ad199, e199, hx199_0, hx199_1⟩ := at_T36 (Kd.R_reads' HO_3.out).2.2 (ji45) p199 q199
                                                obtain rfl : ad194 = ad199 := (by injection e199)
                                                replace p199 := eq_true p199
                                                replace q199 := eq_true q199
                                                have p200 : 0 ≤ (0 : Int) := (by omega)
                                                have q200 : 0 < (t186.length : Int) := of_decide_eq_true (by first | (with_reducible assumption) | assumption)
                                                obtain ⟨ad200, e200, hx200_0, hx200_1⟩ := at_T36 (Kd.R_reads' HO_3.out).2.2 0 p200 q200
                                                obtain rfl : ad194 = ad200 := (by injection e200)
                                                have qi200 : (0 < t186.length) = True := eq_true (by omega)
                                                (try rw [show ((0 : Int)).toNat = 0 from rfl] at hx200_0)
                                                (try rw [show 0 * 2 = 0 from rfl] at hx200_0)
                                                (try rw [Addr.add_zero'] at hx200_0)
                                                (try rw [show ((0 : Int)).toNat = 0 from rfl] at hx200_1)
                                                (try rw [show 0 * 2 = 0 from rfl] at hx200_1)
                                                (try rw [Addr.add_zero'] at hx200_1)
                                                replace p200 := eq_true p200
                                                replace q200 := eq_true q200
                                                go_wp2
                                                repeat (go_quiet (fail); try go_wp2)
                                                go_ret
                                                exact ⟨by first | rfl | (simp [errW_none, errW_some] <;> rfl) | (simp only [← hji42, ← hji45]; first | rfl | (simp [errW_none, errW_some] <;> rfl)) | (simp [*, errW_none, errW_some] <;> rfl) | (rw [Int.tdiv_eq_ediv_of_nonneg (by assumption)]; rfl), by repeat (first | (with_reducible first | exact HB.out | apply below_alloc | apply pw_below_drewN | apply below_drew1 | refine below_set ?_ GE185.out) | exact HB.out)⟩
                                              · rw [if_neg c49] at H
                                                have c49b0 : decide (1 < (wrap64 (((rd_T36 t186 x5_2).f1) - ((rd_T36 t186 (ji42)).f1)))) = false := decide_eq_false c49
                                                clear c49
                                                by_cases c50 : (wrap64 (((rd_T36 t186 x5_2).f1) - ((rd_T36 t186 (ji42)).f1))) < (-1)
                                                · rw [if_pos c50] at H
                                                  have c50b0 : decide ((wrap64 (((rd_T36 t186 x5_2).f1) - ((rd_T36 t186 (ji42)).f1))) < (-1)) = true := decide_eq_true c50
                                                  clear c50
                                                  obtain rfl := Option.some.inj H
                                                  have p194 : 0 ≤ (x5_2 : Int) := of_decide_eq_true (by first | (with_reducible assumption) | assumption)
                                                  have q194 : x5_2 < (t186.length : Int) := of_decide_eq_true (by first | (with_reducible assumption) | assumption)
                                                  obtain ⟨ad194, e194, hx194_0, hx194_1⟩ := at_T36 (Kd.R_reads' HO_3.out).2.2 x5_2 p194 q194
                                                  cases e194
                                                  replace p194 := eq_true p194
                                                  replace q194 := eq_true q194
                                                  have p198 : 0 ≤ ((ji42) : Int) := of_decide_eq_true (by first | (with_reducible assumption) | assumption)
                                                  have q198 : (ji42) < (t186.length : Int) := of_decide_eq_true (by first | (with_reducible assumption) | assumption)
                                                  obtain ⟨ad198, e198, hx198_0, hx198_1⟩ := at_T36 (Kd.R_reads' HO_3.out).2.2 (ji42) p198 q198
                                                  obtain rfl : ad194 = ad198 := (by injection e198)
                                                  replace p198 := eq_true p198
                                                  replace q198 := eq_true q198
                                                  have p199 : 0 ≤ ((ji45) : Int) := of_decide_eq_true (by first | (with_reducible assumption) | assumption)
                                                  have q199 : (ji45) < (t186.length : Int) := of_decide_eq_true (by first | (with_reducible assumption) | assumption)
                                                  obtain ⟨ad199, e199, hx199_0, hx199_1⟩ := at_T36 (Kd.R_reads' HO_3.out).2.2 (ji45) p199 q199
                                                  obtain rfl : ad194 = ad199 := (by injection e199)
                                                  replace p199 := eq_true p199
                                                  replace q199 := eq_true q199
                                                  have p200 : 0 ≤ (0 : Int) := (by omega)
                                                  have q200 : 0 < (t186.length : Int) := of_decide_eq_true (by first | (with_reducible assumption) | assumption)
                                                  obtain ⟨ad200, e200, hx200_0, hx200_1⟩ := at_T36 (Kd.R_reads' HO_3.out).2.2 0 p200 q200
                                                  obtain rfl : ad194 = ad200 := (by injection e200)
                                                  have qi200 : (0 < t186.length) = True := eq_true (by omega)
                                                  (try rw [show ((0 : Int)).toNat = 0 from rfl] at hx200_0)
                                                  (try rw [show 0 * 2 = 0 from rfl] at hx200_0)
                                                  (try rw [Addr.add_zero'] at hx200_0)
                                                  (try rw [show ((0 : Int)).toNat = 0 from rfl] at hx200_1)
                                                  (try rw [show 0 * 2 = 0 from rfl] at hx200_1)
                                                  (try rw [Addr.add_zero'] at hx200_1)
                                                  replace p200 := eq_true p200
                                                  replace q200 := eq_true q200
                                                  go_wp2
                                                  repeat (go_quiet (fail); try go_wp2)
                                                  go_ret
                                                  exact ⟨by first | rfl | (simp [errW_none, errW_some] <;> rfl) | (simp only [← hji42, ← hji45]; first | rfl | (simp [errW_none, errW_some] <;> rfl)) | (simp [*, errW_none, errW_some] <;> rfl) | (rw [Int.tdiv_eq_ediv_of_nonneg (by assumption)]; rfl), by repeat (first | (with_reducible first | exact HB.out | apply below_alloc | apply pw_below_drewN | apply below_drew1 | refine below_set ?_ GE185.out) | exact HB.out)⟩
                                                · rw [if_neg c50] at H
                                                  have c50b0 : decide ((wrap64 (((rd_T36 t186 x5_2).f1) - ((rd_T36 t186 (ji42)).f1))) < (-1)) = false := decide_eq_false c50
                                                  clear c50
                                                  by_cases c51 : (wrap64 (((rd_T36 t186 x5_2).f1) - ((rd_T36 t186 (ji42)).f1))) > 0
                                                  · rw [if_pos c51] at H
                                                    have c51b0 : decide (0 < (wrap64 (((rd_T36 t186 x5_2).f1) - ((rd_T36 t186 (ji42)).f1)))) = true := decide_eq_true c51
                                                    clear c51
                                                    by_cases c52 : (wrap64 (((rd_T36 t186 (ji45)).f1) - ((rd_T36 t186 0).f1))) ≤ 0
                                                    · rw [if_pos c52] at H
                                                      have c52b0 : decide ((wrap64 (((rd_T36 t186 (ji45)).f1) - ((rd_T36 t186 0).f1))) ≤ 0) = true := decide_eq_true c52
                                                      clear c52
                                                      obtain rfl := Option.some.inj H
                                                      have p194 : 0 ≤ (x5_2 : Int) := of_decide_eq_true (by first | (with_reducible assumption) | assumption)
                                                      have q194 : x5_2 < (t186.length : Int) := of_decide_eq_true (by first | (with_reducible assumption) | assumption)
                                                      obtain ⟨ad194, e194, hx194_0, hx194_1⟩ := at_T36 (Kd.R_reads' HO_3.out).2.2 x5_2 p194 q194
                                                      cases e194
                                                      replace p194 := eq_true p194
                                                      replace q194 := eq_true q194
                                                      have p198 : 0 ≤ ((ji42) : Int) := of_decide_eq_true (by first | (with_reducible assumption) | assumption)
                                                      have q198 : (ji42) < (t186.length : Int) := of_decide_eq_true (by first | (with_reducible assumption) | assumption)
                                                      obtain ⟨ad198, e198, hx198_0, hx198_1⟩ := at_T36 (Kd.R_reads' HO_3.out).2.2 (ji42) p198 q198
                                                      obtain rfl : ad194 = ad198 := (by injection e198)
                                                      replace p198 := eq_true p198
                                                      replace q198 := eq_true q198
                                                      have p199 : 0 ≤ ((ji45) : Int) := of_decide_eq_true (by first | (with_reducible assumption) | assumption)
                                                      have q199 : (ji45) < (t186.length : Int) := of_decide_eq_true (by first | (with_reducible assumption) | assumption)
                                                      obtain ⟨ad199, e199, hx199_0, hx199_1⟩ := at_T36 (Kd.R_reads' HO_3.out).2.2 (ji45) p199 q199
                                                      obtain rfl : ad194 = ad199 := (by injection e199)
                                                      replace p199 := eq_true p199
                                                      replace q199 := eq_true q199
                                                      have p200 : 0 ≤ (0 : Int) := (by omega)
                                                      have q200 : 0 < (t186.length : Int) := of_decide_eq_true (by first | (with_reducible assumption) | assumption)
                                                      obtain ⟨ad200, e200, hx200_0, hx200_1⟩ := at_T36 (Kd.R_reads' HO_3.out).2.2 0 p200 q200
                                                      obtain rfl : ad194 = ad200 := (by injection e200)
                                                      have qi200 : (0 < t186.length) = True := eq_true (by omega)
                                                      (try rw [show ((0 : Int)).toNat = 0 from rfl] at hx200_0)
                                                      (try rw [show 0 * 2 = 0 from rfl] at hx200_0)
                                                      (try rw [Addr.add_zero'] at hx200_0)
                                                      (try rw [show ((0 : Int)).toNat = 0 from rfl] at hx200_1)
                                                      (try rw [show 0 * 2 = 0 from rfl] at hx200_1)
                                                      (try rw [Addr.add_zero'] at hx200_1)
                                                      replace p200 := eq_true p200
                                                      replace q200 := eq_true q200
                                                      go_wp2
                                                      repeat (go_quiet (fail); try go_wp2)
                                                      go_ret
                                                      exact ⟨by first | rfl | (simp [errW_none, errW_some] <;> rfl) | (simp only [← hji42, ← hji45]; first | rfl | (simp [errW_none, errW_some] <;> rfl)) | (simp [*, errW_none, errW_some] <;> rfl) | (rw [Int.tdiv_eq_ediv_of_nonneg (by assumption)]; rfl), by repeat (first | (with_reducible first | exact HB.out | apply below_alloc | apply pw_below_drewN | apply below_drew1 | refine below_set ?_ GE185.out) | exact HB.out)⟩
                                                    · rw [if_neg c52] at H
                                                      have c52b0 : decide ((wrap64 (((rd_T36 t186 (ji45)).f1) - ((rd_T36 t186 0).f1))) ≤ 0) = false := decide_eq_false c52
                                                      clear c52
                                                      by_cases c53 : (wrap64 (((rd_T36 t186 x5_2).f1) - ((rd_T36 t186 (ji42)).f1))) < 0
                                                      · rw [if_pos c53] at H
                                                        have c53b0 : decide ((wrap64 (((rd_T36 t186 x5_2).f1) - ((rd_T36 t186 (ji42)).f1))) < 0) = true := decide_eq_true c53
                                                        clear c53
                                                        by_cases c54 : (wrap64 (((rd_T36 t186 (ji45)).f1) - ((rd_T36 t186 0).f1))) ≥ 0
                                                        · rw [if_pos c54] at H
                                                          have c54b0 : decide (0 ≤ (wrap64 (((rd_T36 t186 (ji45)).f1) - ((rd_T36 t186 0).f1)))) = true := decide_eq_true c54
                                                          clear c54
                                                          obtain rfl := Option.some.inj H
                                                          have p194 : 0 ≤ (x5_2 : Int) := of_decide_eq_true (by first | (with_reducible assumption) | assumption)
                                                          have q194 : x5_2 < (t186.length : Int) := of_decide_eq_true (by first | (with_reducible assumption) | assumption)
                                                          obtain ⟨ad194, e194, hx194_0, hx194_1⟩ := at_T36 (Kd.R_reads' HO_3.out).2.2 x5_2 p194 q194
                                                          cases e194
                                                          replace p194 := eq_true p194
                                                          replace q194 := eq_true q194
                                                          have p198 : 0 ≤ ((ji42) : Int) := of_decide_eq_true (by first | (with_reducible assumption) | assumption)
                                                          have q198 : (ji42) < (t186.length : Int) := of_decide_eq_true (by first | (with_reducible assumption) | assumption)
                                                          obtain ⟨ad198, e198, hx198_0, hx198_1⟩ := at_T36 (Kd.R_reads' HO_3.out).2.2 (ji42) p198 q198
                                                          obtain rfl : ad194 = ad198 := (by injection e198)
                                                          replace p198 := eq_true p198
                                                          replace q198 := eq_true q198
                                                          have p199 : 0 ≤ ((ji45) : Int) := of_decide_eq_true (by first | (with_reducible assumption) | assumption)
                                                          have q199 : (ji45) < (t186.length : Int) := of_decide_eq_true (by first | (with_reducible assumption) | assumption)
                                                          obtain ⟨ad199, e199, hx199_0, hx199_1⟩ := at_T36 (Kd.R_reads' HO_3.out).2.2 (ji45) p199 q199
                                                          obtain rfl : ad194 = ad199 := (by injection e199)
                                                          replace p199 := eq_true p199
                                                          replace q199 := eq_true q199
                                                          have p200 : 0 ≤ (0 : Int) := (by omega)
                                                          have q200 : 0 < (t186.length : Int) := of_decide_eq_true (by first | (with_reducible assumption) | assumption)
                                                          obtain ⟨ad200, e200, hx200_0, hx200_1⟩ := at_T36 (Kd.R_reads' HO_3.out).2.2 0 p200 q200
                                                          obtain rfl : ad194 = ad200 := (by injection e200)
                                                          have qi200 : (0 < t186.length) = True := eq_true (by omega)
                                                          (try rw [show ((0 : Int)).toNat = 0 from rfl] at hx200_0)
                                                          (try rw [show 0 * 2 = 0 from rfl] at hx200_0)
                                                          (try rw [Addr.add_zero'] at hx200_0)
                                                          (try rw [show ((0 : Int)).toNat = 0 from rfl] at hx200_1)
                                                          (try rw [show 0 * 2 = 0 from rfl] at hx200_1)
                                                          (try rw [Addr.add_zero'] at hx200_1)
                                                          replace p200 := eq_true p200
                                                          replace q200 := eq_true q200
                                                          go_wp2
                                                          repeat (go_quiet (fail); try go_wp2)
                                                          go_ret
                                                          exact ⟨by first | rfl | (simp [errW_none, errW_some] <;> rfl) | (simp only [← hji42, ← hji45]; first | rfl | (simp [errW_none, errW_some] <;> rfl)) | (simp [*, errW_none, errW_some] <;> rfl) | (rw [Int.tdiv_eq_ediv_of_nonneg (by assumption)]; rfl), by repeat (first | (with_reducible first | exact HB.out | apply below_alloc | apply pw_below_drewN | apply below_drew1 | refine below_set ?_ GE185.out) | exact HB.out)⟩
                                                        · rw [if_neg c54] at H
                                                          have c54b0 : decide (0 ≤ (wrap64 (((rd_T36 t186 (ji45)).f1) - ((rd_T36 t186 0).f1)))) = false := decide_eq_false c54
                                                          clear c54
                                                          have H' := Aside0.mk H
                                                          clear H
                                                          have p194 : 0 ≤ (x5_2 : Int) := of_decide_eq_true (by first | (with_reducible assumption) | assumption)
                                                          have q194 : x5_2 < (t186.length : Int) := of_decide_eq_true (by first | (with_reducible assumption) | assumption)
                                                          obtain ⟨ad194, e194, hx194_0, hx194_1⟩ := at_T36 (Kd.R_reads' HO_3.out).2.2 x5_2 p194 q194
                                                          cases e194
                                                          replace p194 := eq_true p194
                                                          replace q194 := eq_true q194
                                                          have p198 : 0 ≤ ((ji42) : Int) := of_decide_eq_true (by first | (with_reducible assumption) | assumption)
                                                          have q198 : (ji42) < (t186.length : Int) := of_decide_eq_true (by first | (with_reducible assumption) | assumption)
                                                          obtain ⟨ad198, e198, hx198_0, hx198_1⟩ := at_T36 (Kd.R_reads' HO_3.out).2.2 (ji42) p198 q198
                                                          obtain rfl : ad194 = ad198 := (by injection e198)
                                                          replace p198 := eq_true p198
                                                          replace q198 := eq_true q198
                                                          have p199 : 0 ≤ ((ji45) : Int) := of_decide_eq_true (by first | (with_reducible assumption) | assumption)
                                                          have q199 : (ji45) < (t186.length : Int) := of_decide_eq_true (by first | (with_reducible assumption) | assumption)
                                                          obtain ⟨ad199, e199, hx199_0, hx199_1⟩ := at_T36 (Kd.R_reads' HO_3.out).2.2 (ji45) p199 q199
                                                          obtain rfl : ad194 = ad199 := (by injection e199)
                                                          replace p199 := eq_true p199
                                                          replace q199 := eq_true q199
                                                          have p200 : 0 ≤ (0 : Int) := (by omega)
                                                          have q200 : 0 < (t186.length : Int) := of_decide_eq_true (by first | (with_reducible assumption) | assumption)
                                                          obtain ⟨ad200, e200, hx200_0, hx200_1⟩ := at_T36 (Kd.R_reads' HO_3.out).2.2 0 p200 q200
                                                          obtain rfl : ad194 = ad200 := (by injection e200)
                                                          have qi200 : (0 < t186.length) = True := eq_true (by omega)
                                                          (try rw [show ((0 : Int)).toNat = 0 from rfl] at hx200_0)
                                                          (try rw [show 0 * 2 = 0 from rfl] at hx200_0)
                                                          (try rw [Addr.add_zero'] at hx200_0)
                                                          (try rw [show ((0 : Int)).toNat = 0 from rfl] at hx200_1)
                                                          (try rw [show 0 * 2 = 0 from rfl] at hx200_1)
                                                          (try rw [Addr.add_zero'] at hx200_1)
                                                          replace p200 := eq_true p200
                                                          replace q200 := eq_true q200
                                                          go_wp2
                                                          repeat (go_quiet (fail); try go_wp2)
                                                          go_roundg k3
                                                          case measure => have := HJ3.out; have := HK2.out; have := HK3.out; omega
                                                          case rel => exact ⟨(wrap64 (x6_3 + 1)), (by first | rfl | (simp; done) | (simp [*]; done) | (congr 1; unfold wrap64; omega)), H', ⟨by have := HJ3.out; have := HK2.out; have := HK3.out; omega⟩, ⟨by (with_reducible repeat (first | apply Kd.R_alloc | apply Kd.R_drewN | apply Kd.R_drew)); exact HO_3.out⟩, ⟨by (with_reducible repeat (first | refine blk_drewN ?_ _ | refine blk_drew ?_ | refine blk_alloc ?_ _)); exact BK185.out⟩, ⟨by repeat (first | (with_reducible first | exact HB.out | apply below_alloc | apply pw_below_drewN | apply below_drew1 | refine below_set ?_ GE185.out) | exact HB.out)⟩⟩
                                                      · rw [if_neg c53] at H
                                                        have c53b0 : decide ((wrap64 (((rd_T36 t186 x5_2).f1) - ((rd_T36 t186 (ji42)).f1))) < 0) = false := decide_eq_false c53
                                                        clear c53
                                                        have H' := Aside0.mk H
                                                        clear H
                                                        have p194 : 0 ≤ (x5_2 : Int) := of_decide_eq_true (by first | (with_reducible assumption) | assumption)
                                                        have q194 : x5_2 < (t186.length : Int) := of_decide_eq_true (by first | (with_reducible assumption) | assumption)
                                                        obtain ⟨ad194, e194, hx194_0, hx194_1⟩ := at_T36 (Kd.R_reads' HO_3.out).2.2 x5_2 p194 q194
                                                        cases e194
                                                        replace p194 := eq_true p194
                                                        replace q194 := eq_true q194
                                                        have p198 : 0 ≤ ((ji42) : Int) := of_decide_eq_true (by first | (with_reducible assumption) | assumption)
                                                        have q198 : (ji42) < (t186.length : Int) := of_decide_eq_true (by first | (with_reducible assumption) | assumption)
                                                        obtain ⟨ad198, e198, hx198_0, hx198_1⟩ := at_T36 (Kd.R_reads' HO_3.out).2.2 (ji42) p198 q198
                                                        obtain rfl : ad194 = ad198 := (by injection e198)
                                                        replace p198 := eq_true p198
                                                        replace q198 := eq_true q198
                                                        have p199 : 0 ≤ ((ji45) : Int) := of_decide_eq_true (by first | (with_reducible assumption) | assumption)
                                                        have q199 : (ji45) < (t186.length : Int) := of_decide_eq_true (by first | (with_reducible assumption) | assumption)
                                                        obtain ⟨ad199, e199, hx199_0, hx199_1⟩ := at_T36 (Kd.R_reads' HO_3.out).2.2 (ji45) p199 q199
                                                        obtain rfl : ad194 = ad199 := (by injection e199)
                                                        replace p199 := eq_true p199
                                                        replace q199 := eq_true q199
                                                        have p200 : 0 ≤ (0 : Int) := (by omega)
                                                        have q200 : 0 < (t186.length : Int) := of_decide_eq_true (by first | (with_reducible assumption) | assumption)
                                                        obtain ⟨ad200, e200, hx200_0, hx200_1⟩ := at_T36 (Kd.R_reads' HO_3.out).2.2 0 p200 q200
                                                        obtain rfl : ad194 = ad200 := (by injection e200)
                                                        have qi200 : (0 < t186.length) = True := eq_true (by omega)
                                                        (try rw [show ((0 : Int)).toNat = 0 from rfl] at hx200_0)
                                                        (try rw [show 0 * 2 = 0 from rfl] at hx200_0)
                                                        (try rw [Addr.add_zero'] at hx200_0)
                                                        (try rw [show ((0 : Int)).toNat = 0 from rfl] at hx200_1)
                                                        (try rw [show 0 * 2 = 0 from rfl] at hx200_1)
                                                        (try rw [Addr.add_zero'] at hx200_1)
                                                        replace p200 := eq_true p200
                                                        replace q200 := eq_true q200
                                                        go_wp2
                                                        repeat (go_quiet (fail); try go_wp2)
                                                        go_roundg k3
                                                        case measure => have := HJ3.out; have := HK2.out; have := HK3.out; omega
                                                        case rel => exact ⟨(wrap64 (x6_3 + 1)), (by first | rfl | (simp; done) | (simp [*]; done) | (congr 1; unfold wrap64; omega)), H', ⟨by have := HJ3.out; have := HK2.out; have := HK3.out; omega⟩, ⟨by (with_reducible repeat (first | apply Kd.R_alloc | apply Kd.R_drewN | apply Kd.R_drew)); exact HO_3.out⟩, ⟨by (with_reducible repeat (first | refine blk_drewN ?_ _ | refine blk_drew ?_ | refine blk_alloc ?_ _)); exact BK185.out⟩, ⟨by repeat (first | (with_reducible first | exact HB.out | apply below_alloc | apply pw_below_drewN | apply below_drew1 | refine below_set ?_ GE185.out) | exact HB.out)⟩⟩
                                                  · rw [if_neg c51] at H
                                                    have c51b0 : decide (0 < (wrap64 (((rd_T36 t186 x5_2).f1) - ((rd_T36 t186 (ji42)).f1)))) = false := decide_eq_false c51
                                                    clear c51
                                                    by_cases c55 : (wrap64 (((rd_T36 t186 x5_2).f1) - ((rd_T36 t186 (ji42)).f1))) < 0
                                                    · rw [if_pos c55] at H
                                                      have c55b0 : decide ((wrap64 (((rd_T36 t186 x5_2).f1) - ((rd_T36 t186 (ji42)).f1))) < 0) = true := decide_eq_true c55
                                                      clear c55
                                                      by_cases c56 : (wrap64 (((rd_T36 t186 (ji45)).f1) - ((rd_T36 t186 0).f1))) ≥ 0
                                                      · rw [if_pos c56] at H
                                                        have c56b0 : decide (0 ≤ (wrap64 (((rd_T36 t186 (ji45)).f1) - ((rd_T36 t186 0).f1)))) = true := decide_eq_true c56
                                                        clear c56
                                                        obtain rfl := Option.some.inj H
                                                        have p194 : 0 ≤ (x5_2 : Int) := of_decide_eq_true (by first | (with_reducible assumption) | assumption)
                                                        have q194 : x5_2 < (t186.length : Int) := of_decide_eq_true (by first | (with_reducible assumption) | assumption)
                                                        obtain ⟨ad194, e194, hx194_0, hx194_1⟩ := at_T36 (Kd.R_reads' HO_3.out).2.2 x5_2 p194 q194
                                                        cases e194
                                                        replace p194 := eq_true p194
                                                        replace q194 := eq_true q194
                                                        have p198 : 0 ≤ ((ji42) : Int) := of_decide_eq_true (by first | (with_reducible assumption) | assumption)
                                                        have q198 : (ji42) < (t186.length : Int) := of_decide_eq_true (by first | (with_reducible assumption) | assumption)
                                                        obtain ⟨ad198, e198, hx198_0, hx198_1⟩ := at_T36 (Kd.R_reads' HO_3.out).2.2 (ji42) p198 q198
                                                        obtain rfl : ad194 = ad198 := (by injection e198)
                                                        replace p198 := eq_true p198
                                                        replace q198 := eq_true q198
                                                        have p199 : 0 ≤ ((ji45) : Int) := of_decide_eq_true (by first | (with_reducible assumption) | assumption)
                                                        have q199 : (ji45) < (t186.length : Int) := of_decide_eq_true (by first | (with_reducible assumption) | assumption)
                                                        obtain ⟨ad199, e199, hx199_0, hx199_1⟩ := at_T36 (Kd.R_reads' HO_3.out).2.2 (ji45) p199 q199
                                                        obtain rfl : ad194 = ad199 := (by injection e199)
                                                        replace p199 := eq_true p199
                                                        replace q199 := eq_true q199
                                                        have p200 : 0 ≤ (0 : Int) := (by omega)
                                                        have q200 : 0 < (t186.length : Int) := of_decide_eq_true (by first | (with_reducible assumption) | assumption)
                                                        obtain ⟨ad200, e200, hx200_0, hx200_1⟩ := at_T36 (Kd.R_reads' HO_3.out).2.2 0 p200 q200
                                                        obtain rfl : ad194 = ad200 := (by injection e200)
                                                        have qi200 : (0 < t186.length) = True := eq_true (by omega)
                                                        (try rw [show ((0 : Int)).toNat = 0 from rfl] at hx200_0)
                                                        (try rw [show 0 * 2 = 0 from rfl] at hx200_0)
                                                        (try rw [Addr.add_zero'] at hx200_0)
                                                        (try rw [show ((0 : Int)).toNat = 0 from rfl] at hx200_1)
                                                        (try rw [show 0 * 2 = 0 from rfl] at hx200_1)
                                                        (try rw [Addr.add_zero'] at hx200_1)
                                                        replace p200 := eq_true p200
                                                        replace q200 := eq_true q200
                                                        go_wp2
                                                        repeat (go_quiet (fail); try go_wp2)
                                                        go_ret
                                                        exact ⟨by first | rfl | (simp [errW_none, errW_some] <;> rfl) | (simp only [← hji42, ← hji45]; first | rfl | (simp [errW_none, errW_some] <;> rfl)) | (simp [*, errW_none, errW_some] <;> rfl) | (rw [Int.tdiv_eq_ediv_of_nonneg (by assumption)]; rfl), by repeat (first | (with_reducible first | exact HB.out | apply below_alloc | apply pw_below_drewN | apply below_drew1 | refine below_set ?_ GE185.out) | exact HB.out)⟩
                                                      · rw [if_neg c56] at H
                                                        have c56b0 : decide (0 ≤ (wrap64 (((rd_T36 t186 (ji45)).f1) - ((rd_T36 t186 0).f1)))) = false := decide_eq_false c56
                                                        clear c56
                                                        have H' := Aside0.mk H
                                                        clear H
                                                        have p194 : 0 ≤ (x5_2 : Int) := of_decide_eq_true (by first | (with_reducible assumption) | assumption)
                                                        have q194 : x5_2 < (t186.length : Int) := of_decide_eq_true (by first | (with_reducible assumption) | assumption)
                                                        obtain ⟨ad194, e194, hx194_0, hx194_1⟩ := at_T36 (Kd.R_reads' HO_3.out).2.2 x5_2 p194 q194
                                                        cases e194
                                                        replace p194 := eq_true p194
                                                        replace q194 := eq_true q194
                                                        have p198 : 0 ≤ ((ji42) : Int) := of_decide_eq_true (by first | (with_reducible assumption) | assumption)
                                                        have q198 : (ji42) < (t186.length : Int) := of_decide_eq_true (by first | (with_reducible assumption) | assumption)
                                                        obtain ⟨ad198, e198, hx198_0, hx198_1⟩ := at_T36 (Kd.R_reads' HO_3.out).2.2 (ji42) p198 q198
                                                        obtain rfl : ad194 = ad198 := (by injection e198)
                                                        replace p198 := eq_true p198
                                                        replace q198 := eq_true q198
                                                        have p199 : 0 ≤ ((ji45) : Int) := of_decide_eq_true (by first | (with_reducible assumption) | assumption)
                                                        have q199 : (ji45) < (t186.length : Int) := of_decide_eq_true (by first | (with_reducible assumption) | assumption)
                                                        obtain ⟨ad199, e199, hx199_0, hx199_1⟩ := at_T36 (Kd.R_reads' HO_3.out).2.2 (ji45) p199 q199
                                                        obtain rfl : ad194 = ad199 := (by injection e199)
                                                        replace p199 := eq_true p199
                                                        replace q199 := eq_true q199
                                                        have p200 : 0 ≤ (0 : Int) := (by omega)
                                                        have q200 : 0 < (t186.length : Int) := of_decide_eq_true (by first | (with_reducible assumption) | assumption)
                                                        obtain ⟨ad200, e200, hx200_0, hx200_1⟩ := at_T36 (Kd.R_reads' HO_3.out).2.2 0 p200 q200
                                                        obtain rfl : ad194 = ad200 := (by injection e200)
                                                        have qi200 : (0 < t186.length) = True := eq_true (by omega)
                                                        (try rw [show ((0 : Int)).toNat = 0 from rfl] at hx200_0)
                                                        (try rw [show 0 * 2 = 0 from rfl] at hx200_0)
                                                        (try rw [Addr.add_zero'] at hx200_0)
                                                        (try rw [show ((0 : Int)).toNat = 0 from rfl] at hx200_1)
                                                        (try rw [show 0 * 2 = 0 from rfl] at hx200_1)
                                                        (try rw [Addr.add_zero'] at hx200_1)
                                                        replace p200 := eq_true p200
                                                        replace q200 := eq_true q200
                                                        go_wp2
                                                        repeat (go_quiet (fail); try go_wp2)
                                                        go_roundg k3
                                                        case measure => have := HJ3.out; have := HK2.out; have := HK3.out; omega
                                                        case rel => exact ⟨(wrap64 (x6_3 + 1)), (by first | rfl | (simp; done) | (simp [*]; done) | (congr 1; unfold wrap64; omega)), H', ⟨by have := HJ3.out; have := HK2.out; have := HK3.out; omega⟩, ⟨by (with_reducible repeat (first | apply Kd.R_alloc | apply Kd.R_drewN | apply Kd.R_drew)); exact HO_3.out⟩, ⟨by (with_reducible repeat (first | refine blk_drewN ?_ _ | refine blk_drew ?_ | refine blk_alloc ?_ _)); exact BK185.out⟩, ⟨by repeat (first | (with_reducible first | exact HB.out | apply below_alloc | apply pw_below_drewN | apply below_drew1 | refine below_set ?_ GE185.out) | exact HB.out)⟩⟩
                                                    · rw [if_neg c55] at H
                                                      have c55b0 : decide ((wrap64 (((rd_T36 t186 x5_2).f1) - ((rd_T36 t186 (ji42)).f1))) < 0) = false := decide_eq_false c55
                                                      clear c55
                                                      have H' := Aside0.mk H
                                                      clear H
                                                      have p194 : 0 ≤ (x5_2 : Int) := of_decide_eq_true (by first | (with_reducible assumption) | assumption)
                                                      have q194 : x5_2 < (t186.length : Int) := of_decide_eq_true (by first | (with_reducible assumption) | assumption)
                                                      obtain ⟨ad194, e194, hx194_0, hx194_1⟩ := at_T36 (Kd.R_reads' HO_3.out).2.2 x5_2 p194 q194
                                                      cases e194
                                                      replace p194 := eq_true p194
                                                      replace q194 := eq_true q194
                                                      have p198 : 0 ≤ ((ji42) : Int) := of_decide_eq_true (by first | (with_reducible assumption) | assumption)
                                                      have q198 : (ji42) < (t186.length : Int) := of_decide_eq_true (by first | (with_reducible assumption) | assumption)
                                                      obtain ⟨ad198, e198, hx198_0, hx198_1⟩ := at_T36 (Kd.R_reads' HO_3.out).2.2 (ji42) p198 q198
                                                      obtain rfl : ad194 = ad198 := (by injection e198)
                                                      replace p198 := eq_true p198
                                                      replace q198 := eq_true q198
                                                      have p199 : 0 ≤ ((ji45) : Int) := of_decide_eq_true (by first | (with_reducible assumption) | assumption)
                                                      have q199 : (ji45) < (t186.length : Int) := of_decide_eq_true (by first | (with_reducible assumption) | assumption)
                                                      obtain ⟨ad199, e199, hx199_0, hx199_1⟩ := at_T36 (Kd.R_reads' HO_3.out).2.2 (ji45) p199 q199
                                                      obtain rfl : ad194 = ad199 := (by injection e199)
                                                      replace p199 := eq_true p199
                                                      replace q199 := eq_true q199
                                                      have p200 : 0 ≤ (0 : Int) := (by omega)
                                                      have q200 : 0 < (t186.length : Int) := of_decide_eq_true (by first | (with_reducible assumption) | assumption)
                                                      obtain ⟨ad200, e200, hx200_0, hx200_1⟩ := at_T36 (Kd.R_reads' HO_3.out).2.2 0 p200 q200
                                                      obtain rfl : ad194 = ad200 := (by injection e200)
                                                      have qi200 : (0 < t186.length) = True := eq_true (by omega)
                                                      (try rw [show ((0 : Int)).toNat = 0 from rfl] at hx200_0)
                                                      (try rw [show 0 * 2 = 0 from rfl] at hx200_0)
                                                      (try rw [Addr.add_zero'] at hx200_0)
                                                      (try rw [show ((0 : Int)).toNat = 0 from rfl] at hx200_1)
                                                      (try rw [show 0 * 2 = 0 from rfl] at hx200_1)
                                                      (try rw [Addr.add_zero'] at hx200_1)
                                                      replace p200 := eq_true p200
                                                      replace q200 := eq_true q200
                                                      go_wp2
                                                      repeat (go_quiet (fail); try go_wp2)
                                                      go_roundg k3
                                                      case measure => have := HJ3.out; have := HK2.out; have := HK3.out; omega
                                                      case rel => exact ⟨(wrap64 (x6_3 + 1)), (by first | rfl | (simp; done) | (simp [*]; done) | (congr 1; unfold wrap64; omega)), H', ⟨by have := HJ3.out; have := HK2.out; have := HK3.out; omega⟩, ⟨by (with_reducible repeat (first | apply Kd.R_alloc | apply Kd.R_drewN | apply Kd.R_drew)); exact HO_3.out⟩, ⟨by (with_reducible repeat (first | refine blk_drewN ?_ _ | refine blk_drew ?_ | refine blk_alloc ?_ _)); exact BK185.out⟩, ⟨by repeat (first | (with_reducible first | exact HB.out | apply below_alloc | apply pw_below_drewN | apply below_drew1 | refine below_set ?_ GE185.out) | exact HB.out)⟩⟩
                                            · rw [if_neg c48] at H
                                              exact absurd H (by simp)
                                          · rw [if_neg c47] at H
                                            exact absurd H (by simp)
                                        · rw [if_neg c46] at H
                                          exact absurd H (by simp)
                                      · rw [if_neg c44] at H
                                        exact absurd H (by simp)
                                    · rw [if_neg c43] at H
                                      exact absurd H (by simp)
                                · rw [if_neg c41] at H
                                  exact absurd H (by simp)
                          · rw [if_neg c24] at H
                            exact absurd H (by simp)
                        · rw [if_neg c23] at H
                          exact absurd H (by simp)
                      · rw [if_neg c22] at H
                        have c22b0 : decide (x6_3 < 2) = false := decide_eq_false c22
                        clear c22
                        have H' := Aside0.mk H
                        clear H
                        go_wp2
                        repeat (go_quiet (fail); try go_wp2)
                        go_roundg k3
                        case measure => have := HJ3.out; have := HK2.out; have := HK3.out; omega
                        case rel => exact ⟨(wrap64 (x5_2 + 1)), (by first | rfl | (simp; done) | (simp [*]; done) | (congr 1; unfold wrap64; omega)), H', ⟨by have := HJ3.out; have := HK2.out; have := HK3.out; omega⟩, ⟨by (with_reducible repeat (first | apply Kd.R_alloc | apply Kd.R_drewN | apply Kd.R_drew)); exact HO_3.out⟩, ⟨by (with_reducible repeat (first | refine blk_drewN ?_ _ | refine blk_drew ?_ | refine blk_alloc ?_ _)); exact BK185.out⟩, ⟨by repeat (first | (with_reducible first | exact HB.out | apply below_alloc | apply pw_below_drewN | apply below_drew1 | refine below_set ?_ GE185.out) | exact HB.out)⟩⟩
                · rw [if_neg c20] at H
                  have c20b0 : decide (x5_2 < (t186.length : Int)) = false := decide_eq_false c20
                  clear c20
                  replace H := Option.bind_eq_some_iff.mp H
                  obtain ⟨t193, A570, H⟩ := H
                  replace H : (some t193) = some r := H
                  have A57 := Aside0.mk A570
                  clear A570
                  obtain rfl := Option.some.inj H
                  obtain ⟨Ao58, co58, eo58⟩ := Kd.R_slice HO_3.out
                  subst eo58
                  go_wp2_with (first | (go_at_call 11; (with_reducible refine (bivouaclaw08_awake.calls k2  t193 _ A57.out).mono ?_); rintro e w59 ⟨rfl, hb⟩; have n0_ := Aside0.mk (Kd.R_below (by (with_reducible repeat (first | apply Kd.R_alloc | apply Kd.R_drewN | apply Kd.R_drew)); exact HO_3.out) hb); have n1_ := Aside0.mk (blk_below (g := gb185) (o := .cells #[.int .i64 a0_0, .int .i64 a0_1, .int .i64 a0_2, .slice A0_3 l0_3.length c0_3, .int .i64 a0_4, .int .i64 a0_5, .int .i64 a0_6, .int .i64 a0_7, .int .i64 a0_8, .int .i64 a0_9] 26 (0, 0)) (by (with_reducible repeat (first | refine blk_drewN ?_ _ | refine blk_drew ?_ | refine blk_alloc ?_ _)); exact BK185.out) hb); have n2_ := Aside0.mk (below_step (by repeat (first | (with_reducible first | exact HB.out | apply below_alloc | apply pw_below_drewN | apply below_drew1 | refine below_set ?_ GE185.out) | exact HB.out)) hb); clear HO_3; clear BK185; clear HB; have HO_3 := n0_; have BK185 := n1_; have HB := n2_; clear n0_ n1_ n2_; (try clear hb); (try clear hb2); (try clear hk); (try clear hi)))
                  repeat (go_quiet (first | (go_at_call 11; (with_reducible refine (bivouaclaw08_awake.calls k2  t193 _ A57.out).mono ?_); rintro e w59 ⟨rfl, hb⟩; have n0_ := Aside0.mk (Kd.R_below (by (with_reducible repeat (first | apply Kd.R_alloc | apply Kd.R_drewN | apply Kd.R_drew)); exact HO_3.out) hb); have n1_ := Aside0.mk (blk_below (g := gb185) (o := .cells #[.int .i64 a0_0, .int .i64 a0_1, .int .i64 a0_2, .slice A0_3 l0_3.length c0_3, .int .i64 a0_4, .int .i64 a0_5, .int .i64 a0_6, .int .i64 a0_7, .int .i64 a0_8, .int .i64 a0_9] 26 (0, 0)) (by (with_reducible repeat (first | refine blk_drewN ?_ _ | refine blk_drew ?_ | refine blk_alloc ?_ _)); exact BK185.out) hb); have n2_ := Aside0.mk (below_step (by repeat (first | (with_reducible first | exact HB.out | apply below_alloc | apply pw_below_drewN | apply below_drew1 | refine below_set ?_ GE185.out) | exact HB.out)) hb); clear HO_3; clear BK185; clear HB; have HO_3 := n0_; have BK185 := n1_; have HB := n2_; clear n0_ n1_ n2_; (try clear hb); (try clear hb2); (try clear hk); (try clear hi))); try go_wp2_with (first | (go_at_call 11; (with_reducible refine (bivouaclaw08_awake.calls k2  t193 _ A57.out).mono ?_); rintro e w59 ⟨rfl, hb⟩; have n0_ := Aside0.mk (Kd.R_below (by (with_reducible repeat (first | apply Kd.R_alloc | apply Kd.R_drewN | apply Kd.R_drew)); exact HO_3.out) hb); have n1_ := Aside0.mk (blk_below (g := gb185) (o := .cells #[.int .i64 a0_0, .int .i64 a0_1, .int .i64 a0_2, .slice A0_3 l0_3.length c0_3, .int .i64 a0_4, .int .i64 a0_5, .int .i64 a0_6, .int .i64 a0_7, .int .i64 a0_8, .int .i64 a0_9] 26 (0, 0)) (by (with_reducible repeat (first | refine blk_drewN ?_ _ | refine blk_drew ?_ | refine blk_alloc ?_ _)); exact BK185.out) hb); have n2_ := Aside0.mk (below_step (by repeat (first | (with_reducible first | exact HB.out | apply below_alloc | apply pw_below_drewN | apply below_drew1 | refine below_set ?_ GE185.out) | exact HB.out)) hb); clear HO_3; clear BK185; clear HB; have HO_3 := n0_; have BK185 := n1_; have HB := n2_; clear n0_ n1_ n2_; (try clear hb); (try clear hb2); (try clear hk); (try clear hi))))
                  go_ret
                  exact ⟨by first | rfl | (simp [errW_none, errW_some] <;> rfl) | (simp [*, errW_none, errW_some] <;> rfl) | (rw [Int.tdiv_eq_ediv_of_nonneg (by assumption)]; rfl), by repeat (first | (with_reducible first | exact HB.out | apply below_alloc | apply pw_below_drewN | apply below_drew1 | refine below_set ?_ GE185.out) | exact HB.out)⟩
  · rw [if_neg c3] at H
    have c3b0 : (t187 == 0) = false := beq_eq_false_iff_ne.mpr c3
    have c3b1 : (t187 != 0) = true := bne_iff_ne.mpr c3
    all_goals (try (exfalso; omega))
    all_goals
      by_cases c60 : (t186.length : Int) = 0
      · rw [if_pos c60] at H
        have c60b0 : ((t186.length : Int) == 0) = true := beq_iff_eq.mpr c60
        have c60b1 : ((t186.length : Int) != 0) = false := bne_eq_false_iff_eq.mpr c60
        (try (have c60a : 0 ≤ (t186.length : Int) := by omega))
        (try (have c60d : (t186.length : Int) < 2 := by omega))
        (try (have c60t : Int.toNat (t186.length : Int) = 0 := by omega))
        clear c60
        all_goals (try (exfalso; omega))
        all_goals
          replace H := Option.bind_eq_some_iff.mp H
          obtain ⟨t190, A610, H⟩ := H
          replace H : (some t190) = some r := H
          have A61 := Aside0.mk A610
          clear A610
          obtain rfl := Option.some.inj H
          go_enter Try.func4, Try.ntmps4
          go_wp2_with (first | ((with_reducible refine gate_dst (N := 1) rfl ?_); (try (refine gate_guard (by rfl) ?_; dsimp only)); refine box_event ?hg (N := 1) ?hd (cs := #[.int .i64 a0_0, .int .i64 a0_1, .int .i64 a0_2, .slice A0_3 l0_3.length c0_3, .int .i64 a0_4, .int .i64 a0_5, .int .i64 a0_6, .int .i64 a0_7, .int .i64 a0_8, .int .i64 a0_9]) (t := 26) ?hr ?_; (case hd => rfl); (case hg => rfl); (case hr => first | (go_simp; done) | (go_simp; rfl)); intro gb185 hg w62 hbox hb; have n0_ := Aside0.mk (below_step (by repeat (first | (with_reducible first | exact HB.out | apply below_alloc | apply pw_below_drewN | apply below_drew1) | exact HB.out)) hb); have n1_ := Aside0.mk (hbox); have n2_ := Aside0.mk ((by rw [hg]; exact (below_size (by repeat (first | (with_reducible first | exact HB.out | apply below_alloc | apply pw_below_drewN | apply below_drew1) | exact HB.out))) : w.heap.size ≤ gb185)); have n3_ := Aside0.mk ((by rw [hg]; exact (below_size (by repeat (first | (with_reducible first | exact HB.out | apply below_alloc | apply pw_below_drewN | apply below_drew1) | exact HB.out))) : w.heap.size ≤ gb185)); clear HB; have HB := n0_; have BK185 := n1_; have GW185 := n2_; have GE185 := n3_; clear n0_ n1_ n2_ n3_; clear hb hbox hg; have hcz63_0 : w62.cell? ⟨gb185, 0, none⟩ = some (.int .i64 a0_0) := (blk_cell BK185.out 0).trans rfl; have hcz63_1 : w62.cell? ⟨gb185, 1, none⟩ = some (.int .i64 a0_1) := (blk_cell BK185.out 1).trans rfl; have hcz63_2 : w62.cell? ⟨gb185, 2, none⟩ = some (.int .i64 a0_2) := (blk_cell BK185.out 2).trans rfl; have hcz63_3 : w62.cell? ⟨gb185, 3, none⟩ = some (.slice A0_3 l0_3.length c0_3) := (blk_cell BK185.out 3).trans rfl; have hcz63_4 : w62.cell? ⟨gb185, 4, none⟩ = some (.int .i64 a0_4) := (blk_cell BK185.out 4).trans rfl; have hcz63_5 : w62.cell? ⟨gb185, 5, none⟩ = some (.int .i64 a0_5) := (blk_cell BK185.out 5).trans rfl; have hcz63_6 : w62.cell? ⟨gb185, 6, none⟩ = some (.int .i64 a0_6) := (blk_cell BK185.out 6).trans rfl; have hcz63_7 : w62.cell? ⟨gb185, 7, none⟩ = some (.int .i64 a0_7) := (blk_cell BK185.out 7).trans rfl; have hcz63_8 : w62.cell? ⟨gb185, 8, none⟩ = some (.int .i64 a0_8) := (blk_cell BK185.out 8).trans rfl; have hcz63_9 : w62.cell? ⟨gb185, 9, none⟩ = some (.int .i64 a0_9) := (blk_cell BK185.out 9).trans rfl; have hfz63_0 := blk_frozen BK185.out 0; have hfz63_1 := blk_frozen BK185.out 1; have hfz63_2 := blk_frozen BK185.out 2; have hfz63_3 := blk_frozen BK185.out 3; have hfz63_4 := blk_frozen BK185.out 4; have hfz63_5 := blk_frozen BK185.out 5; have hfz63_6 := blk_frozen BK185.out 6; have hfz63_7 := blk_frozen BK185.out 7; have hfz63_8 := blk_frozen BK185.out 8; have hfz63_9 := blk_frozen BK185.out 9) | (go_at_call 9; (with_reducible refine (ray_Line.calls k a0_4 a0_5 a0_6 a0_7 t186 t187 _ A2.out).mono ?_); rintro e w64 ⟨v188, rfl, ho0, hb⟩; have n0_ := Aside0.mk (Kd.R_lower ho0 (below_size (by repeat (first | (with_reducible first | exact HB.out | apply below_alloc | apply pw_below_drewN | apply below_drew1 | refine below_set ?_ GE185.out) | exact HB.out)))); have n1_ := Aside0.mk (blk_below (g := gb185) (o := .cells #[.int .i64 a0_0, .int .i64 a0_1, .int .i64 a0_2, .slice A0_3 l0_3.length c0_3, .int .i64 a0_4, .int .i64 a0_5, .int .i64 a0_6, .int .i64 a0_7, .int .i64 a0_8, .int .i64 a0_9] 26 (0, 0)) (by (with_reducible repeat (first | refine blk_drewN ?_ _ | refine blk_drew ?_ | refine blk_alloc ?_ _)); exact BK185.out) hb); have n2_ := Aside0.mk (below_step (by repeat (first | (with_reducible first | exact HB.out | apply below_alloc | apply pw_below_drewN | apply below_drew1 | refine below_set ?_ GE185.out) | exact HB.out)) hb); clear BK185; clear HB; have HO189 := n0_; have BK185 := n1_; have HB := n2_; clear n0_ n1_ n2_; (try clear hb); (try clear hb2); (try clear hk); (try clear hi); (try clear ho0); obtain ⟨Ao65, co65, eo65⟩ := Kd.R_slice HO189.out; subst eo65) | (go_at_call 11; (with_reducible refine (bivouaclaw08_awake.calls k  t190 _ A61.out).mono ?_); rintro e w66 ⟨rfl, hb⟩; have n0_ := Aside0.mk (Kd.R_below (by (with_reducible repeat (first | apply Kd.R_alloc | apply Kd.R_drewN | apply Kd.R_drew)); exact HO189.out) hb); have n1_ := Aside0.mk (blk_below (g := gb185) (o := .cells #[.int .i64 a0_0, .int .i64 a0_1, .int .i64 a0_2, .slice A0_3 l0_3.length c0_3, .int .i64 a0_4, .int .i64 a0_5, .int .i64 a0_6, .int .i64 a0_7, .int .i64 a0_8, .int .i64 a0_9] 26 (0, 0)) (by (with_reducible repeat (first | refine blk_drewN ?_ _ | refine blk_drew ?_ | refine blk_alloc ?_ _)); exact BK185.out) hb); have n2_ := Aside0.mk (below_step (by repeat (first | (with_reducible first | exact HB.out | apply below_alloc | apply pw_below_drewN | apply below_drew1 | refine below_set ?_ GE185.out) | exact HB.out)) hb); clear HO189; clear BK185; clear HB; have HO189 := n0_; have BK185 := n1_; have HB := n2_; clear n0_ n1_ n2_; (try clear hb); (try clear hb2); (try clear hk); (try clear hi)))
          repeat (go_quiet (first | ((with_reducible refine gate_dst (N := 1) rfl ?_); (try (refine gate_guard (by rfl) ?_; dsimp only)); refine box_event ?hg (N := 1) ?hd (cs := #[.int .i64 a0_0, .int .i64 a0_1, .int .i64 a0_2, .slice A0_3 l0_3.length c0_3, .int .i64 a0_4, .int .i64 a0_5, .int .i64 a0_6, .int .i64 a0_7, .int .i64 a0_8, .int .i64 a0_9]) (t := 26) ?hr ?_; (case hd => rfl); (case hg => rfl); (case hr => first | (go_simp; done) | (go_simp; rfl)); intro gb185 hg w62 hbox hb; have n0_ := Aside0.mk (below_step (by repeat (first | (with_reducible first | exact HB.out | apply below_alloc | apply pw_below_drewN | apply below_drew1) | exact HB.out)) hb); have n1_ := Aside0.mk (hbox); have n2_ := Aside0.mk ((by rw [hg]; exact (below_size (by repeat (first | (with_reducible first | exact HB.out | apply below_alloc | apply pw_below_drewN | apply below_drew1) | exact HB.out))) : w.heap.size ≤ gb185)); have n3_ := Aside0.mk ((by rw [hg]; exact (below_size (by repeat (first | (with_reducible first | exact HB.out | apply below_alloc | apply pw_below_drewN | apply below_drew1) | exact HB.out))) : w.heap.size ≤ gb185)); clear HB; have HB := n0_; have BK185 := n1_; have GW185 := n2_; have GE185 := n3_; clear n0_ n1_ n2_ n3_; clear hb hbox hg; have hcz63_0 : w62.cell? ⟨gb185, 0, none⟩ = some (.int .i64 a0_0) := (blk_cell BK185.out 0).trans rfl; have hcz63_1 : w62.cell? ⟨gb185, 1, none⟩ = some (.int .i64 a0_1) := (blk_cell BK185.out 1).trans rfl; have hcz63_2 : w62.cell? ⟨gb185, 2, none⟩ = some (.int .i64 a0_2) := (blk_cell BK185.out 2).trans rfl; have hcz63_3 : w62.cell? ⟨gb185, 3, none⟩ = some (.slice A0_3 l0_3.length c0_3) := (blk_cell BK185.out 3).trans rfl; have hcz63_4 : w62.cell? ⟨gb185, 4, none⟩ = some (.int .i64 a0_4) := (blk_cell BK185.out 4).trans rfl; have hcz63_5 : w62.cell? ⟨gb185, 5, none⟩ = some (.int .i64 a0_5) := (blk_cell BK185.out 5).trans rfl; have hcz63_6 : w62.cell? ⟨gb185, 6, none⟩ = some (.int .i64 a0_6) := (blk_cell BK185.out 6).trans rfl; have hcz63_7 : w62.cell? ⟨gb185, 7, none⟩ = some (.int .i64 a0_7) := (blk_cell BK185.out 7).trans rfl; have hcz63_8 : w62.cell? ⟨gb185, 8, none⟩ = some (.int .i64 a0_8) := (blk_cell BK185.out 8).trans rfl; have hcz63_9 : w62.cell? ⟨gb185, 9, none⟩ = some (.int .i64 a0_9) := (blk_cell BK185.out 9).trans rfl; have hfz63_0 := blk_frozen BK185.out 0; have hfz63_1 := blk_frozen BK185.out 1; have hfz63_2 := blk_frozen BK185.out 2; have hfz63_3 := blk_frozen BK185.out 3; have hfz63_4 := blk_frozen BK185.out 4; have hfz63_5 := blk_frozen BK185.out 5; have hfz63_6 := blk_frozen BK185.out 6; have hfz63_7 := blk_frozen BK185.out 7; have hfz63_8 := blk_frozen BK185.out 8; have hfz63_9 := blk_frozen BK185.out 9) | (go_at_call 9; (with_reducible refine (ray_Line.calls k a0_4 a0_5 a0_6 a0_7 t186 t187 _ A2.out).mono ?_); rintro e w64 ⟨v188, rfl, ho0, hb⟩; have n0_ := Aside0.mk (Kd.R_lower ho0 (below_size (by repeat (first | (with_reducible first | exact HB.out | apply below_alloc | apply pw_below_drewN | apply below_drew1 | refine below_set ?_ GE185.out) | exact HB.out)))); have n1_ := Aside0.mk (blk_below (g := gb185) (o := .cells #[.int .i64 a0_0, .int .i64 a0_1, .int .i64 a0_2, .slice A0_3 l0_3.length c0_3, .int .i64 a0_4, .int .i64 a0_5, .int .i64 a0_6, .int .i64 a0_7, .int .i64 a0_8, .int .i64 a0_9] 26 (0, 0)) (by (with_reducible repeat (first | refine blk_drewN ?_ _ | refine blk_drew ?_ | refine blk_alloc ?_ _)); exact BK185.out) hb); have n2_ := Aside0.mk (below_step (by repeat (first | (with_reducible first | exact HB.out | apply below_alloc | apply pw_below_drewN | apply below_drew1 | refine below_set ?_ GE185.out) | exact HB.out)) hb); clear BK185; clear HB; have HO189 := n0_; have BK185 := n1_; have HB := n2_; clear n0_ n1_ n2_; (try clear hb); (try clear hb2); (try clear hk); (try clear hi); (try clear ho0); obtain ⟨Ao65, co65, eo65⟩ := Kd.R_slice HO189.out; subst eo65) | (go_at_call 11; (with_reducible refine (bivouaclaw08_awake.calls k  t190 _ A61.out).mono ?_); rintro e w66 ⟨rfl, hb⟩; have n0_ := Aside0.mk (Kd.R_below (by (with_reducible repeat (first | apply Kd.R_alloc | apply Kd.R_drewN | apply Kd.R_drew)); exact HO189.out) hb); have n1_ := Aside0.mk (blk_below (g := gb185) (o := .cells #[.int .i64 a0_0, .int .i64 a0_1, .int .i64 a0_2, .slice A0_3 l0_3.length c0_3, .int .i64 a0_4, .int .i64 a0_5, .int .i64 a0_6, .int .i64 a0_7, .int .i64 a0_8, .int .i64 a0_9] 26 (0, 0)) (by (with_reducible repeat (first | refine blk_drewN ?_ _ | refine blk_drew ?_ | refine blk_alloc ?_ _)); exact BK185.out) hb); have n2_ := Aside0.mk (below_step (by repeat (first | (with_reducible first | exact HB.out | apply below_alloc | apply pw_below_drewN | apply below_drew1 | refine below_set ?_ GE185.out) | exact HB.out)) hb); clear HO189; clear BK185; clear HB; have HO189 := n0_; have BK185 := n1_; have HB := n2_; clear n0_ n1_ n2_; (try clear hb); (try clear hb2); (try clear hk); (try clear hi))); try go_wp2_with (first | ((with_reducible refine gate_dst (N := 1) rfl ?_); (try (refine gate_guard (by rfl) ?_; dsimp only)); refine box_event ?hg (N := 1) ?hd (cs := #[.int .i64 a0_0, .int .i64 a0_1, .int .i64 a0_2, .slice A0_3 l0_3.length c0_3, .int .i64 a0_4, .int .i64 a0_5, .int .i64 a0_6, .int .i64 a0_7, .int .i64 a0_8, .int .i64 a0_9]) (t := 26) ?hr ?_; (case hd => rfl); (case hg => rfl); (case hr => first | (go_simp; done) | (go_simp; rfl)); intro gb185 hg w62 hbox hb; have n0_ := Aside0.mk (below_step (by repeat (first | (with_reducible first | exact HB.out | apply below_alloc | apply pw_below_drewN | apply below_drew1) | exact HB.out)) hb); have n1_ := Aside0.mk (hbox); have n2_ := Aside0.mk ((by rw [hg]; exact (below_size (by repeat (first | (with_reducible first | exact HB.out | apply below_alloc | apply pw_below_drewN | apply below_drew1) | exact HB.out))) : w.heap.size ≤ gb185)); have n3_ := Aside0.mk ((by rw [hg]; exact (below_size (by repeat (first | (with_reducible first | exact HB.out | apply below_alloc | apply pw_below_drewN | apply below_drew1) | exact HB.out))) : w.heap.size ≤ gb185)); clear HB; have HB := n0_; have BK185 := n1_; have GW185 := n2_; have GE185 := n3_; clear n0_ n1_ n2_ n3_; clear hb hbox hg; have hcz63_0 : w62.cell? ⟨gb185, 0, none⟩ = some (.int .i64 a0_0) := (blk_cell BK185.out 0).trans rfl; have hcz63_1 : w62.cell? ⟨gb185, 1, none⟩ = some (.int .i64 a0_1) := (blk_cell BK185.out 1).trans rfl; have hcz63_2 : w62.cell? ⟨gb185, 2, none⟩ = some (.int .i64 a0_2) := (blk_cell BK185.out 2).trans rfl; have hcz63_3 : w62.cell? ⟨gb185, 3, none⟩ = some (.slice A0_3 l0_3.length c0_3) := (blk_cell BK185.out 3).trans rfl; have hcz63_4 : w62.cell? ⟨gb185, 4, none⟩ = some (.int .i64 a0_4) := (blk_cell BK185.out 4).trans rfl; have hcz63_5 : w62.cell? ⟨gb185, 5, none⟩ = some (.int .i64 a0_5) := (blk_cell BK185.out 5).trans rfl; have hcz63_6 : w62.cell? ⟨gb185, 6, none⟩ = some (.int .i64 a0_6) := (blk_cell BK185.out 6).trans rfl; have hcz63_7 : w62.cell? ⟨gb185, 7, none⟩ = some (.int .i64 a0_7) := (blk_cell BK185.out 7).trans rfl; have hcz63_8 : w62.cell? ⟨gb185, 8, none⟩ = some (.int .i64 a0_8) := (blk_cell BK185.out 8).trans rfl; have hcz63_9 : w62.cell? ⟨gb185, 9, none⟩ = some (.int .i64 a0_9) := (blk_cell BK185.out 9).trans rfl; have hfz63_0 := blk_frozen BK185.out 0; have hfz63_1 := blk_frozen BK185.out 1; have hfz63_2 := blk_frozen BK185.out 2; have hfz63_3 := blk_frozen BK185.out 3; have hfz63_4 := blk_frozen BK185.out 4; have hfz63_5 := blk_frozen BK185.out 5; have hfz63_6 := blk_frozen BK185.out 6; have hfz63_7 := blk_frozen BK185.out 7; have hfz63_8 := blk_frozen BK185.out 8; have hfz63_9 := blk_frozen BK185.out 9) | (go_at_call 9; (with_reducible refine (ray_Line.calls k a0_4 a0_5 a0_6 a0_7 t186 t187 _ A2.out).mono ?_); rintro e w64 ⟨v188, rfl, ho0, hb⟩; have n0_ := Aside0.mk (Kd.R_lower ho0 (below_size (by repeat (first | (with_reducible first | exact HB.out | apply below_alloc | apply pw_below_drewN | apply below_drew1 | refine below_set ?_ GE185.out) | exact HB.out)))); have n1_ := Aside0.mk (blk_below (g := gb185) (o := .cells #[.int .i64 a0_0, .int .i64 a0_1, .int .i64 a0_2, .slice A0_3 l0_3.length c0_3, .int .i64 a0_4, .int .i64 a0_5, .int .i64 a0_6, .int .i64 a0_7, .int .i64 a0_8, .int .i64 a0_9] 26 (0, 0)) (by (with_reducible repeat (first | refine blk_drewN ?_ _ | refine blk_drew ?_ | refine blk_alloc ?_ _)); exact BK185.out) hb); have n2_ := Aside0.mk (below_step (by repeat (first | (with_reducible first | exact HB.out | apply below_alloc | apply pw_below_drewN | apply below_drew1 | refine below_set ?_ GE185.out) | exact HB.out)) hb); clear BK185; clear HB; have HO189 := n0_; have BK185 := n1_; have HB := n2_; clear n0_ n1_ n2_; (try clear hb); (try clear hb2); (try clear hk); (try clear hi); (try clear ho0); obtain ⟨Ao65, co65, eo65⟩ := Kd.R_slice HO189.out; subst eo65) | (go_at_call 11; (with_reducible refine (bivouaclaw08_awake.calls k  t190 _ A61.out).mono ?_); rintro e w66 ⟨rfl, hb⟩; have n0_ := Aside0.mk (Kd.R_below (by (with_reducible repeat (first | apply Kd.R_alloc | apply Kd.R_drewN | apply Kd.R_drew)); exact HO189.out) hb); have n1_ := Aside0.mk (blk_below (g := gb185) (o := .cells #[.int .i64 a0_0, .int .i64 a0_1, .int .i64 a0_2, .slice A0_3 l0_3.length c0_3, .int .i64 a0_4, .int .i64 a0_5, .int .i64 a0_6, .int .i64 a0_7, .int .i64 a0_8, .int .i64 a0_9] 26 (0, 0)) (by (with_reducible repeat (first | refine blk_drewN ?_ _ | refine blk_drew ?_ | refine blk_alloc ?_ _)); exact BK185.out) hb); have n2_ := Aside0.mk (below_step (by repeat (first | (with_reducible first | exact HB.out | apply below_alloc | apply pw_below_drewN | apply below_drew1 | refine below_set ?_ GE185.out) | exact HB.out)) hb); clear HO189; clear BK185; clear HB; have HO189 := n0_; have BK185 := n1_; have HB := n2_; clear n0_ n1_ n2_; (try clear hb); (try clear hb2); (try clear hk); (try clear hi))))
          go_ret
          exact ⟨by first | rfl | (simp [errW_none, errW_some] <;> rfl) | (simp [*, errW_none, errW_some] <;> rfl) | (rw [Int.tdiv_eq_ediv_of_nonneg (by assumption)]; rfl), by repeat (first | (with_reducible first | exact HB.out | apply below_alloc | apply pw_below_drewN | apply below_drew1 | refine below_set ?_ GE185.out) | exact HB.out)⟩
      · rw [if_neg c60] at H
        have c60b0 : ((t186.length : Int) == 0) = false := beq_eq_false_iff_ne.mpr c60
        have c60b1 : ((t186.length : Int) != 0) = true := bne_iff_ne.mpr c60
        have c60b2 : ¬ (t186 = []) := fun h_ => c60 (by rw [h_]; rfl)
        all_goals (try (exfalso; omega))
        all_goals
          obtain rfl := Option.some.inj H
          go_enter Try.func4, Try.ntmps4
          go_wp2_with (first | ((with_reducible refine gate_dst (N := 1) rfl ?_); (try (refine gate_guard (by rfl) ?_; dsimp only)); refine box_event ?hg (N := 1) ?hd (cs := #[.int .i64 a0_0, .int .i64 a0_1, .int .i64 a0_2, .slice A0_3 l0_3.length c0_3, .int .i64 a0_4, .int .i64 a0_5, .int .i64 a0_6, .int .i64 a0_7, .int .i64 a0_8, .int .i64 a0_9]) (t := 26) ?hr ?_; (case hd => rfl); (case hg => rfl); (case hr => first | (go_simp; done) | (go_simp; rfl)); intro gb185 hg w67 hbox hb; have n0_ := Aside0.mk (below_step (by repeat (first | (with_reducible first | exact HB.out | apply below_alloc | apply pw_below_drewN | apply below_drew1) | exact HB.out)) hb); have n1_ := Aside0.mk (hbox); have n2_ := Aside0.mk ((by rw [hg]; exact (below_size (by repeat (first | (with_reducible first | exact HB.out | apply below_alloc | apply pw_below_drewN | apply below_drew1) | exact HB.out))) : w.heap.size ≤ gb185)); have n3_ := Aside0.mk ((by rw [hg]; exact (below_size (by repeat (first | (with_reducible first | exact HB.out | apply below_alloc | apply pw_below_drewN | apply below_drew1) | exact HB.out))) : w.heap.size ≤ gb185)); clear HB; have HB := n0_; have BK185 := n1_; have GW185 := n2_; have GE185 := n3_; clear n0_ n1_ n2_ n3_; clear hb hbox hg; have hcz68_0 : w67.cell? ⟨gb185, 0, none⟩ = some (.int .i64 a0_0) := (blk_cell BK185.out 0).trans rfl; have hcz68_1 : w67.cell? ⟨gb185, 1, none⟩ = some (.int .i64 a0_1) := (blk_cell BK185.out 1).trans rfl; have hcz68_2 : w67.cell? ⟨gb185, 2, none⟩ = some (.int .i64 a0_2) := (blk_cell BK185.out 2).trans rfl; have hcz68_3 : w67.cell? ⟨gb185, 3, none⟩ = some (.slice A0_3 l0_3.length c0_3) := (blk_cell BK185.out 3).trans rfl; have hcz68_4 : w67.cell? ⟨gb185, 4, none⟩ = some (.int .i64 a0_4) := (blk_cell BK185.out 4).trans rfl; have hcz68_5 : w67.cell? ⟨gb185, 5, none⟩ = some (.int .i64 a0_5) := (blk_cell BK185.out 5).trans rfl; have hcz68_6 : w67.cell? ⟨gb185, 6, none⟩ = some (.int .i64 a0_6) := (blk_cell BK185.out 6).trans rfl; have hcz68_7 : w67.cell? ⟨gb185, 7, none⟩ = some (.int .i64 a0_7) := (blk_cell BK185.out 7).trans rfl; have hcz68_8 : w67.cell? ⟨gb185, 8, none⟩ = some (.int .i64 a0_8) := (blk_cell BK185.out 8).trans rfl; have hcz68_9 : w67.cell? ⟨gb185, 9, none⟩ = some (.int .i64 a0_9) := (blk_cell BK185.out 9).trans rfl; have hfz68_0 := blk_frozen BK185.out 0; have hfz68_1 := blk_frozen BK185.out 1; have hfz68_2 := blk_frozen BK185.out 2; have hfz68_3 := blk_frozen BK185.out 3; have hfz68_4 := blk_frozen BK185.out 4; have hfz68_5 := blk_frozen BK185.out 5; have hfz68_6 := blk_frozen BK185.out 6; have hfz68_7 := blk_frozen BK185.out 7; have hfz68_8 := blk_frozen BK185.out 8; have hfz68_9 := blk_frozen BK185.out 9) | (go_at_call 9; (with_reducible refine (ray_Line.calls k a0_4 a0_5 a0_6 a0_7 t186 t187 _ A2.out).mono ?_); rintro e w69 ⟨v188, rfl, ho0, hb⟩; have n0_ := Aside0.mk (Kd.R_lower ho0 (below_size (by repeat (first | (with_reducible first | exact HB.out | apply below_alloc | apply pw_below_drewN | apply below_drew1 | refine below_set ?_ GE185.out) | exact HB.out)))); have n1_ := Aside0.mk (blk_below (g := gb185) (o := .cells #[.int .i64 a0_0, .int .i64 a0_1, .int .i64 a0_2, .slice A0_3 l0_3.length c0_3, .int .i64 a0_4, .int .i64 a0_5, .int .i64 a0_6, .int .i64 a0_7, .int .i64 a0_8, .int .i64 a0_9] 26 (0, 0)) (by (with_reducible repeat (first | refine blk_drewN ?_ _ | refine blk_drew ?_ | refine blk_alloc ?_ _)); exact BK185.out) hb); have n2_ := Aside0.mk (below_step (by repeat (first | (with_reducible first | exact HB.out | apply below_alloc | apply pw_below_drewN | apply below_drew1 | refine below_set ?_ GE185.out) | exact HB.out)) hb); clear BK185; clear HB; have HO189 := n0_; have BK185 := n1_; have HB := n2_; clear n0_ n1_ n2_; (try clear hb); (try clear hb2); (try clear hk); (try clear hi); (try clear ho0); obtain ⟨Ao70, co70, eo70⟩ := Kd.R_slice HO189.out; subst eo70))
          repeat (go_quiet (first | ((with_reducible refine gate_dst (N := 1) rfl ?_); (try (refine gate_guard (by rfl) ?_; dsimp only)); refine box_event ?hg (N := 1) ?hd (cs := #[.int .i64 a0_0, .int .i64 a0_1, .int .i64 a0_2, .slice A0_3 l0_3.length c0_3, .int .i64 a0_4, .int .i64 a0_5, .int .i64 a0_6, .int .i64 a0_7, .int .i64 a0_8, .int .i64 a0_9]) (t := 26) ?hr ?_; (case hd => rfl); (case hg => rfl); (case hr => first | (go_simp; done) | (go_simp; rfl)); intro gb185 hg w67 hbox hb; have n0_ := Aside0.mk (below_step (by repeat (first | (with_reducible first | exact HB.out | apply below_alloc | apply pw_below_drewN | apply below_drew1) | exact HB.out)) hb); have n1_ := Aside0.mk (hbox); have n2_ := Aside0.mk ((by rw [hg]; exact (below_size (by repeat (first | (with_reducible first | exact HB.out | apply below_alloc | apply pw_below_drewN | apply below_drew1) | exact HB.out))) : w.heap.size ≤ gb185)); have n3_ := Aside0.mk ((by rw [hg]; exact (below_size (by repeat (first | (with_reducible first | exact HB.out | apply below_alloc | apply pw_below_drewN | apply below_drew1) | exact HB.out))) : w.heap.size ≤ gb185)); clear HB; have HB := n0_; have BK185 := n1_; have GW185 := n2_; have GE185 := n3_; clear n0_ n1_ n2_ n3_; clear hb hbox hg; have hcz68_0 : w67.cell? ⟨gb185, 0, none⟩ = some (.int .i64 a0_0) := (blk_cell BK185.out 0).trans rfl; have hcz68_1 : w67.cell? ⟨gb185, 1, none⟩ = some (.int .i64 a0_1) := (blk_cell BK185.out 1).trans rfl; have hcz68_2 : w67.cell? ⟨gb185, 2, none⟩ = some (.int .i64 a0_2) := (blk_cell BK185.out 2).trans rfl; have hcz68_3 : w67.cell? ⟨gb185, 3, none⟩ = some (.slice A0_3 l0_3.length c0_3) := (blk_cell BK185.out 3).trans rfl; have hcz68_4 : w67.cell? ⟨gb185, 4, none⟩ = some (.int .i64 a0_4) := (blk_cell BK185.out 4).trans rfl; have hcz68_5 : w67.cell? ⟨gb185, 5, none⟩ = some (.int .i64 a0_5) := (blk_cell BK185.out 5).trans rfl; have hcz68_6 : w67.cell? ⟨gb185, 6, none⟩ = some (.int .i64 a0_6) := (blk_cell BK185.out 6).trans rfl; have hcz68_7 : w67.cell? ⟨gb185, 7, none⟩ = some (.int .i64 a0_7) := (blk_cell BK185.out 7).trans rfl; have hcz68_8 : w67.cell? ⟨gb185, 8, none⟩ = some (.int .i64 a0_8) := (blk_cell BK185.out 8).trans rfl; have hcz68_9 : w67.cell? ⟨gb185, 9, none⟩ = some (.int .i64 a0_9) := (blk_cell BK185.out 9).trans rfl; have hfz68_0 := blk_frozen BK185.out 0; have hfz68_1 := blk_frozen BK185.out 1; have hfz68_2 := blk_frozen BK185.out 2; have hfz68_3 := blk_frozen BK185.out 3; have hfz68_4 := blk_frozen BK185.out 4; have hfz68_5 := blk_frozen BK185.out 5; have hfz68_6 := blk_frozen BK185.out 6; have hfz68_7 := blk_frozen BK185.out 7; have hfz68_8 := blk_frozen BK185.out 8; have hfz68_9 := blk_frozen BK185.out 9) | (go_at_call 9; (with_reducible refine (ray_Line.calls k a0_4 a0_5 a0_6 a0_7 t186 t187 _ A2.out).mono ?_); rintro e w69 ⟨v188, rfl, ho0, hb⟩; have n0_ := Aside0.mk (Kd.R_lower ho0 (below_size (by repeat (first | (with_reducible first | exact HB.out | apply below_alloc | apply pw_below_drewN | apply below_drew1 | refine below_set ?_ GE185.out) | exact HB.out)))); have n1_ := Aside0.mk (blk_below (g := gb185) (o := .cells #[.int .i64 a0_0, .int .i64 a0_1, .int .i64 a0_2, .slice A0_3 l0_3.length c0_3, .int .i64 a0_4, .int .i64 a0_5, .int .i64 a0_6, .int .i64 a0_7, .int .i64 a0_8, .int .i64 a0_9] 26 (0, 0)) (by (with_reducible repeat (first | refine blk_drewN ?_ _ | refine blk_drew ?_ | refine blk_alloc ?_ _)); exact BK185.out) hb); have n2_ := Aside0.mk (below_step (by repeat (first | (with_reducible first | exact HB.out | apply below_alloc | apply pw_below_drewN | apply below_drew1 | refine below_set ?_ GE185.out) | exact HB.out)) hb); clear BK185; clear HB; have HO189 := n0_; have BK185 := n1_; have HB := n2_; clear n0_ n1_ n2_; (try clear hb); (try clear hb2); (try clear hk); (try clear hi); (try clear ho0); obtain ⟨Ao70, co70, eo70⟩ := Kd.R_slice HO189.out; subst eo70)); try go_wp2_with (first | ((with_reducible refine gate_dst (N := 1) rfl ?_); (try (refine gate_guard (by rfl) ?_; dsimp only)); refine box_event ?hg (N := 1) ?hd (cs := #[.int .i64 a0_0, .int .i64 a0_1, .int .i64 a0_2, .slice A0_3 l0_3.length c0_3, .int .i64 a0_4, .int .i64 a0_5, .int .i64 a0_6, .int .i64 a0_7, .int .i64 a0_8, .int .i64 a0_9]) (t := 26) ?hr ?_; (case hd => rfl); (case hg => rfl); (case hr => first | (go_simp; done) | (go_simp; rfl)); intro gb185 hg w67 hbox hb; have n0_ := Aside0.mk (below_step (by repeat (first | (with_reducible first | exact HB.out | apply below_alloc | apply pw_below_drewN | apply below_drew1) | exact HB.out)) hb); have n1_ := Aside0.mk (hbox); have n2_ := Aside0.mk ((by rw [hg]; exact (below_size (by repeat (first | (with_reducible first | exact HB.out | apply below_alloc | apply pw_below_drewN | apply below_drew1) | exact HB.out))) : w.heap.size ≤ gb185)); have n3_ := Aside0.mk ((by rw [hg]; exact (below_size (by repeat (first | (with_reducible first | exact HB.out | apply below_alloc | apply pw_below_drewN | apply below_drew1) | exact HB.out))) : w.heap.size ≤ gb185)); clear HB; have HB := n0_; have BK185 := n1_; have GW185 := n2_; have GE185 := n3_; clear n0_ n1_ n2_ n3_; clear hb hbox hg; have hcz68_0 : w67.cell? ⟨gb185, 0, none⟩ = some (.int .i64 a0_0) := (blk_cell BK185.out 0).trans rfl; have hcz68_1 : w67.cell? ⟨gb185, 1, none⟩ = some (.int .i64 a0_1) := (blk_cell BK185.out 1).trans rfl; have hcz68_2 : w67.cell? ⟨gb185, 2, none⟩ = some (.int .i64 a0_2) := (blk_cell BK185.out 2).trans rfl; have hcz68_3 : w67.cell? ⟨gb185, 3, none⟩ = some (.slice A0_3 l0_3.length c0_3) := (blk_cell BK185.out 3).trans rfl; have hcz68_4 : w67.cell? ⟨gb185, 4, none⟩ = some (.int .i64 a0_4) := (blk_cell BK185.out 4).trans rfl; have hcz68_5 : w67.cell? ⟨gb185, 5, none⟩ = some (.int .i64 a0_5) := (blk_cell BK185.out 5).trans rfl; have hcz68_6 : w67.cell? ⟨gb185, 6, none⟩ = some (.int .i64 a0_6) := (blk_cell BK185.out 6).trans rfl; have hcz68_7 : w67.cell? ⟨gb185, 7, none⟩ = some (.int .i64 a0_7) := (blk_cell BK185.out 7).trans rfl; have hcz68_8 : w67.cell? ⟨gb185, 8, none⟩ = some (.int .i64 a0_8) := (blk_cell BK185.out 8).trans rfl; have hcz68_9 : w67.cell? ⟨gb185, 9, none⟩ = some (.int .i64 a0_9) := (blk_cell BK185.out 9).trans rfl; have hfz68_0 := blk_frozen BK185.out 0; have hfz68_1 := blk_frozen BK185.out 1; have hfz68_2 := blk_frozen BK185.out 2; have hfz68_3 := blk_frozen BK185.out 3; have hfz68_4 := blk_frozen BK185.out 4; have hfz68_5 := blk_frozen BK185.out 5; have hfz68_6 := blk_frozen BK185.out 6; have hfz68_7 := blk_frozen BK185.out 7; have hfz68_8 := blk_frozen BK185.out 8; have hfz68_9 := blk_frozen BK185.out 9) | (go_at_call 9; (with_reducible refine (ray_Line.calls k a0_4 a0_5 a0_6 a0_7 t186 t187 _ A2.out).mono ?_); rintro e w69 ⟨v188, rfl, ho0, hb⟩; have n0_ := Aside0.mk (Kd.R_lower ho0 (below_size (by repeat (first | (with_reducible first | exact HB.out | apply below_alloc | apply pw_below_drewN | apply below_drew1 | refine below_set ?_ GE185.out) | exact HB.out)))); have n1_ := Aside0.mk (blk_below (g := gb185) (o := .cells #[.int .i64 a0_0, .int .i64 a0_1, .int .i64 a0_2, .slice A0_3 l0_3.length c0_3, .int .i64 a0_4, .int .i64 a0_5, .int .i64 a0_6, .int .i64 a0_7, .int .i64 a0_8, .int .i64 a0_9] 26 (0, 0)) (by (with_reducible repeat (first | refine blk_drewN ?_ _ | refine blk_drew ?_ | refine blk_alloc ?_ _)); exact BK185.out) hb); have n2_ := Aside0.mk (below_step (by repeat (first | (with_reducible first | exact HB.out | apply below_alloc | apply pw_below_drewN | apply below_drew1 | refine below_set ?_ GE185.out) | exact HB.out)) hb); clear BK185; clear HB; have HO189 := n0_; have BK185 := n1_; have HB := n2_; clear n0_ n1_ n2_; (try clear hb); (try clear hb2); (try clear hk); (try clear hi); (try clear ho0); obtain ⟨Ao70, co70, eo70⟩ := Kd.R_slice HO189.out; subst eo70)))
          go_ret
          exact ⟨by first | rfl | (simp [errW_none, errW_some] <;> rfl) | (simp [*, errW_none, errW_some] <;> rfl) | (rw [Int.tdiv_eq_ediv_of_nonneg (by assumption)]; rfl), by repeat (first | (with_reducible first | exact HB.out | apply below_alloc | apply pw_below_drewN | apply below_drew1 | refine below_set ?_ GE185.out) | exact HB.out)⟩

/-- THE ONE PURE STATEMENT of bivouaclaw08_RaySteps. -/
def bivouaclaw08_RaySteps.Pure : Prop := ∀ (a0_0 : Int) (a0_1 : Int) (a0_2 : Int) (l0_3 : List Int) (a0_4 : Int) (a0_5 : Int) (a0_6 : Int) (a0_7 : Int) (a0_8 : Int) (a0_9 : Int), (Lit.int .i64 a0_0).wf = true → (Lit.int .i64 a0_1).wf = true → (Lit.int .i64 a0_2).wf = true → l0_3.length ≤ maxLen → (∀ x ∈ l0_3, (Lit.int .u8 x).wf = true) → (Lit.int .i64 a0_4).wf = true → (Lit.int .i64 a0_5).wf = true → (Lit.int .i64 a0_6).wf = true → (Lit.int .i64 a0_7).wf = true → (Lit.int .i64 a0_8).wf = true → (Lit.int .i64 a0_9).wf = true → ∃ k, bivouaclaw08_RaySteps.f k a0_0 a0_1 a0_2 l0_3 a0_4 a0_5 a0_6 a0_7 a0_8 a0_9 = some true
theorem bivouaclaw08_RaySteps.walked : True := trivial

end Go.Proofs.Ytincnaejgimlbaa.PA
