-- WRITTEN BY A PROGRAM OF THIS SESSION (a turned copy of the kit's printer), for this claim. Nothing here is trusted: Lean checks it.
import Derived.Test.YtfcocbkfodmmbaaPAx0
import Derived.Test.YtfcocbkfodmmbaaPAx22
import Derived.Test.YtfcocbkfodmmbaaPAx25
namespace Go.Proofs.Ytfcocbkfodmmbaa.PA
open Go.RowKit Go.Proofs.YtfcocbkfodmmbaaW.PrintWords Go.Proofs.YtfcocbkfodmmbaaW.PrintLast Go.Proofs.YtfcocbkfodmmbaaW.PrintMore
attribute [local go_sem] max2_int min2_int max_two min_two max_three min_three max_four min_four   -- for this text's walks alone
set_option linter.unusedVariables false
set_option linter.unusedSimpArgs false

/-! ### bivouacref16_Fly: function 18 -/
def bivouacref16_Fly.l0 : Nat → Int → Int → Int → Int → Int → List Int → Int → Int → Int → Int → Int → Int → Option (Int × Int × Int × Int × Int × Int × Int × Int)
  | 0, _, _, _, _, _, _, _, _, _, _, _, _ => none
  | k + 1, x2, x7, x239000, x239001, x239002, x239003, x240000, x240001, x240002, x240003, x240004, x240005 => if x7 ≤ x2 then ((bivouacref16_At.f x240000 x240001 x240002 x240003 x240004 x240005 x7).bind fun bt247 => ((bivouacref16_How.f k x239000 x239001 x239002 x239003 bt247.1 bt247.2.1 bt247.2.2.1 bt247.2.2.2.1 bt247.2.2.2.2.1 bt247.2.2.2.2.2).bind fun t253 => (if t253 = 0 then (bivouacref16_Fly.l0 k x2 (wrap64 (x7 + 1)) x239000 x239001 x239002 x239003 x240000 x240001 x240002 x240003 x240004 x240005) else ((bivouacref16_At.f x240000 x240001 x240002 x240003 x240004 x240005 x7).bind fun bt254 => (some (x7, t253, bt254.1, bt254.2.1, bt254.2.2.1, bt254.2.2.2.1, bt254.2.2.2.2.1, bt254.2.2.2.2.2)))))) else ((bivouacref16_At.f x240000 x240001 x240002 x240003 x240004 x240005 x2).bind fun bt241 => (some (x2, 0, bt241.1, bt241.2.1, bt241.2.2.1, bt241.2.2.2.1, bt241.2.2.2.2.1, bt241.2.2.2.2.2)))
def bivouacref16_Fly.f (k : Nat) (a0_0 : Int) (a0_1 : Int) (a0_2 : Int) (l0_3 : List Int) (a1_0 : Int) (a1_1 : Int) (a1_2 : Int) (a1_3 : Int) (a1_4 : Int) (a1_5 : Int) (a2 : Int) : Option (Int × Int × Int × Int × Int × Int × Int × Int) := bivouacref16_Fly.l0 k a2 1 a0_0 a0_1 a0_2 l0_3 a1_0 a1_1 a1_2 a1_3 a1_4 a1_5
theorem bivouacref16_Fly.mono_l : ∀ k, (∀ y0 y1 y2 y3 y4 y5 y6 y7 y8 y9 y10 y11, LeO (bivouacref16_Fly.l0 k y0 y1 y2 y3 y4 y5 y6 y7 y8 y9 y10 y11) (bivouacref16_Fly.l0 (k + 1) y0 y1 y2 y3 y4 y5 y6 y7 y8 y9 y10 y11))
  | 0 => fun _ _ _ _ _ _ _ _ _ _ _ _ r h => by simp [bivouacref16_Fly.l0] at h
  | k + 1 => by
    have ih0 := bivouacref16_Fly.mono_l k
    · intro y0 y1 y2 y3 y4 y5 y6 y7 y8 y9 y10 y11
      unfold bivouacref16_Fly.l0
      repeat' first
      | (with_reducible exact ih0 _ _ _ _ _ _ _ _ _ _ _ _)
      | (with_reducible exact bivouacref16_How.mono _ _ _ _ _ _ _ _ _ _ _)
      | (with_reducible exact LeO.refl _)
      | (with_reducible exact LeO.none _)
      | (with_reducible refine LeO.ite ?_ ?_)
      | (with_reducible refine LeO.bind ?_ (fun _ => ?_))
      | exact ih0 _ _ _ _ _ _ _ _ _ _ _ _
      | exact bivouacref16_How.mono _ _ _ _ _ _ _ _ _ _ _
      | exact LeO.none _
      | refine LeO.ite ?_ ?_
      | refine LeO.bind ?_ (fun _ => ?_)
theorem bivouacref16_Fly.mono : ∀ a0 a1 a2 a3 a4 a5 a6 a7 a8 a9 a10 k, LeO (bivouacref16_Fly.f k a0 a1 a2 a3 a4 a5 a6 a7 a8 a9 a10) (bivouacref16_Fly.f (k + 1) a0 a1 a2 a3 a4 a5 a6 a7 a8 a9 a10) := by
  intro a0 a1 a2 a3 a4 a5 a6 a7 a8 a9 a10 k
  have ih0 := bivouacref16_Fly.mono_l k
  unfold bivouacref16_Fly.f
  repeat' first
      | (with_reducible exact ih0 _ _ _ _ _ _ _ _ _ _ _ _)
      | (with_reducible exact bivouacref16_How.mono _ _ _ _ _ _ _ _ _ _ _)
      | (with_reducible exact LeO.refl _)
      | (with_reducible exact LeO.none _)
      | (with_reducible refine LeO.ite ?_ ?_)
      | (with_reducible refine LeO.bind ?_ (fun _ => ?_))
      | exact ih0 _ _ _ _ _ _ _ _ _ _ _ _
      | exact bivouacref16_How.mono _ _ _ _ _ _ _ _ _ _ _
      | exact LeO.none _
      | refine LeO.ite ?_ ?_
      | refine LeO.bind ?_ (fun _ => ?_)
set_option maxHeartbeats 8000000 in
set_option maxRecDepth 100000 in
theorem bivouacref16_Fly.calls (k : Nat) (a0_0 : Int) (a0_1 : Int) (a0_2 : Int) (A0_3 : Option Addr) (c0_3 : Nat) (l0_3 : List Int) (a1_0 : Int) (a1_1 : Int) (a1_2 : Int) (a1_3 : Int) (a1_4 : Int) (a1_5 : Int) (a2 : Int) (r1 : Int) (r2 : Int) (r3 : Int) (r4 : Int) (r5 : Int) (r6 : Int) (r7 : Int) (r8 : Int) (w : World) (hr0_3 : Kd.C (Kd.int .u8) w A0_3 l0_3.length l0_3) (hc0_3 : l0_3.length ≤ c0_3) (h : bivouacref16_Fly.f k a0_0 a0_1 a0_2 l0_3 a1_0 a1_1 a1_2 a1_3 a1_4 a1_5 a2 = some (r1, r2, r3, r4, r5, r6, r7, r8)) :
    Calls Try.prog 18 #[.agg #[.int .i64 a0_0, .int .i64 a0_1, .int .i64 a0_2, .slice A0_3 l0_3.length c0_3], .agg #[.int .i64 a1_0, .int .i64 a1_1, .int .i64 a1_2, .int .i64 a1_3, .int .i64 a1_4, .int .i64 a1_5], .int .i64 a2] w fun e w' => e = .returned (.agg #[.int .i64 r1, .int .i64 r2, .int .i64 r3, .int .i64 r4, .int .i64 r5, .int .i64 r6, .int .i64 r7, .int .i64 r8]) ∧ Below w.heap.size w w' := by
  have hu25 := Try.underlying25
  have hu27 := Try.underlying27
  have hu38 := Try.underlying38
  have HR0_3 := Aside0.mk hr0_3
  have HC0_3 := Aside0.mk hc0_3
  clear hr0_3 hc0_3
  have HB := Aside0.mk (Below.refl w.heap.size w)
  have H : (bivouacref16_Fly.l0 k a2 1 a0_0 a0_1 a0_2 l0_3 a1_0 a1_1 a1_2 a1_3 a1_4 a1_5) = some (r1, r2, r3, r4, r5, r6, r7, r8) := h
  clear h
  have H' := Aside0.mk H
  clear H
  go_enter Try.func18, Try.ntmps18
  go_wp2_with (first | ((with_reducible refine gate_dst (N := 3) rfl ?_); refine box_event ?hg (N := 3) ?hd (cs := #[.int .i64 a0_0, .int .i64 a0_1, .int .i64 a0_2, .slice A0_3 l0_3.length c0_3]) (t := 25) ?hr ?_; (case hd => rfl); (case hg => rfl); (case hr => first | (go_simp; done) | (go_simp; rfl)); intro gb238 hg w4 hbox hb; have n0_ := Aside0.mk (below_step (by repeat (first | (with_reducible first | exact HB.out | apply below_alloc | apply pw_below_drewN | apply below_drew1) | exact HB.out)) hb); have n1_ := Aside0.mk (hbox); have n2_ := Aside0.mk ((by rw [hg]; exact (below_size (by repeat (first | (with_reducible first | exact HB.out | apply below_alloc | apply pw_below_drewN | apply below_drew1) | exact HB.out))) : w.heap.size ≤ gb238)); have n3_ := Aside0.mk ((by rw [hg]; exact (below_size (by repeat (first | (with_reducible first | exact HB.out | apply below_alloc | apply pw_below_drewN | apply below_drew1) | exact HB.out))) : w.heap.size ≤ gb238)); clear HB; have HB := n0_; have BK238 := n1_; have GW238 := n2_; have GE238 := n3_; clear n0_ n1_ n2_ n3_; clear hb hbox hg) | ((with_reducible refine gate_dst (N := 4) rfl ?_); refine box_event ?hg (N := 4) ?hd (cs := #[.int .i64 a1_0, .int .i64 a1_1, .int .i64 a1_2, .int .i64 a1_3, .int .i64 a1_4, .int .i64 a1_5]) (t := 27) ?hr ?_; (case hd => rfl); (case hg => rfl); (case hr => first | (go_simp; done) | (go_simp; rfl)); intro gb239 hg w5 hbox hb; have n0_ := Aside0.mk (blk_below (g := gb238) (o := .cells #[.int .i64 a0_0, .int .i64 a0_1, .int .i64 a0_2, .slice A0_3 l0_3.length c0_3] 25 (0, 0)) (by (with_reducible repeat (first | refine blk_drewN ?_ _ | refine blk_drew ?_ | refine blk_alloc ?_ _)); exact BK238.out) hb); have n1_ := Aside0.mk (below_step (by repeat (first | (with_reducible first | exact HB.out | apply below_alloc | apply pw_below_drewN | apply below_drew1 | refine below_set ?_ GE238.out) | exact HB.out)) hb); have n2_ := Aside0.mk (hbox); have n3_ := Aside0.mk ((by rw [hg]; exact (below_size (by repeat (first | (with_reducible first | exact HB.out | apply below_alloc | apply pw_below_drewN | apply below_drew1 | refine below_set ?_ GE238.out) | exact HB.out))) : w.heap.size ≤ gb239)); have n4_ := Aside0.mk ((by rw [hg]; exact (below_size (by repeat (first | (with_reducible first | exact HB.out | apply below_alloc | apply pw_below_drewN | apply below_drew1 | refine below_set ?_ GE238.out) | exact HB.out))) : w.heap.size ≤ gb239)); have n5_ := Aside0.mk ((by rw [hg]; exact Nat.ne_of_lt (blk_lt (g := gb238) (o := .cells #[.int .i64 a0_0, .int .i64 a0_1, .int .i64 a0_2, .slice A0_3 l0_3.length c0_3] 25 (0, 0)) (by (with_reducible repeat (first | refine blk_drewN ?_ _ | refine blk_drew ?_ | refine blk_alloc ?_ _)); exact BK238.out)) : gb238 ≠ gb239)); have n6_ := Aside0.mk ((by rw [hg]; exact Nat.ne_of_gt (blk_lt (g := gb238) (o := .cells #[.int .i64 a0_0, .int .i64 a0_1, .int .i64 a0_2, .slice A0_3 l0_3.length c0_3] 25 (0, 0)) (by (with_reducible repeat (first | refine blk_drewN ?_ _ | refine blk_drew ?_ | refine blk_alloc ?_ _)); exact BK238.out)) : gb239 ≠ gb238)); clear BK238; clear HB; have BK238 := n0_; have HB := n1_; have BK239 := n2_; have GW239 := n3_; have GE239 := n4_; have NB238_239 := n5_; have NB239_238 := n6_; clear n0_ n1_ n2_ n3_ n4_ n5_ n6_; clear hb hbox hg) | ((with_reducible refine gate_dst (N := 6) rfl ?_); refine box_event ?hg (N := 6) ?hd (cs := #[.int .i64 0, .int .i64 0, .int .i64 0, .int .i64 0, .int .i64 0, .int .i64 0, .int .i64 0, .int .i64 0]) (t := 38) ?hr ?_; (case hd => rfl); (case hg => rfl); (case hr => first | (go_simp; done) | (go_simp; rfl)); intro gb240 hg w6 hbox hb; have n0_ := Aside0.mk (blk_below (g := gb238) (o := .cells #[.int .i64 a0_0, .int .i64 a0_1, .int .i64 a0_2, .slice A0_3 l0_3.length c0_3] 25 (0, 0)) (by (with_reducible repeat (first | refine blk_drewN ?_ _ | refine blk_drew ?_ | refine blk_alloc ?_ _)); exact BK238.out) hb); have n1_ := Aside0.mk (blk_below (g := gb239) (o := .cells #[.int .i64 a1_0, .int .i64 a1_1, .int .i64 a1_2, .int .i64 a1_3, .int .i64 a1_4, .int .i64 a1_5] 27 (0, 0)) (by (with_reducible repeat (first | refine blk_drewN ?_ _ | refine blk_drew ?_ | refine blk_alloc ?_ _)); exact BK239.out) hb); have n2_ := Aside0.mk (below_step (by repeat (first | (with_reducible first | exact HB.out | apply below_alloc | apply pw_below_drewN | apply below_drew1 | refine below_set ?_ GE238.out | refine below_set ?_ GE239.out) | exact HB.out)) hb); have n3_ := Aside0.mk (hbox); have n4_ := Aside0.mk ((by rw [hg]; exact (below_size (by repeat (first | (with_reducible first | exact HB.out | apply below_alloc | apply pw_below_drewN | apply below_drew1 | refine below_set ?_ GE238.out | refine below_set ?_ GE239.out) | exact HB.out))) : w.heap.size ≤ gb240)); have n5_ := Aside0.mk ((by rw [hg]; exact (below_size (by repeat (first | (with_reducible first | exact HB.out | apply below_alloc | apply pw_below_drewN | apply below_drew1 | refine below_set ?_ GE238.out | refine below_set ?_ GE239.out) | exact HB.out))) : w.heap.size ≤ gb240)); have n6_ := Aside0.mk ((by rw [hg]; exact Nat.ne_of_lt (blk_lt (g := gb238) (o := .cells #[.int .i64 a0_0, .int .i64 a0_1, .int .i64 a0_2, .slice A0_3 l0_3.length c0_3] 25 (0, 0)) (by (with_reducible repeat (first | refine blk_drewN ?_ _ | refine blk_drew ?_ | refine blk_alloc ?_ _)); exact BK238.out)) : gb238 ≠ gb240)); have n7_ := Aside0.mk ((by rw [hg]; exact Nat.ne_of_gt (blk_lt (g := gb238) (o := .cells #[.int .i64 a0_0, .int .i64 a0_1, .int .i64 a0_2, .slice A0_3 l0_3.length c0_3] 25 (0, 0)) (by (with_reducible repeat (first | refine blk_drewN ?_ _ | refine blk_drew ?_ | refine blk_alloc ?_ _)); exact BK238.out)) : gb240 ≠ gb238)); have n8_ := Aside0.mk ((by rw [hg]; exact Nat.ne_of_lt (blk_lt (g := gb239) (o := .cells #[.int .i64 a1_0, .int .i64 a1_1, .int .i64 a1_2, .int .i64 a1_3, .int .i64 a1_4, .int .i64 a1_5] 27 (0, 0)) (by (with_reducible repeat (first | refine blk_drewN ?_ _ | refine blk_drew ?_ | refine blk_alloc ?_ _)); exact BK239.out)) : gb239 ≠ gb240)); have n9_ := Aside0.mk ((by rw [hg]; exact Nat.ne_of_gt (blk_lt (g := gb239) (o := .cells #[.int .i64 a1_0, .int .i64 a1_1, .int .i64 a1_2, .int .i64 a1_3, .int .i64 a1_4, .int .i64 a1_5] 27 (0, 0)) (by (with_reducible repeat (first | refine blk_drewN ?_ _ | refine blk_drew ?_ | refine blk_alloc ?_ _)); exact BK239.out)) : gb240 ≠ gb239)); clear BK238; clear BK239; clear HB; have BK238 := n0_; have BK239 := n1_; have HB := n2_; have BK240 := n3_; have GW240 := n4_; have GE240 := n5_; have NB238_240 := n6_; have NB240_238 := n7_; have NB239_240 := n8_; have NB240_239 := n9_; clear n0_ n1_ n2_ n3_ n4_ n5_ n6_ n7_ n8_ n9_; clear hb hbox hg))
  go_loopg [7] k (fun kq v7 w' => ∃ (x7_1 : Int) (x241000_1 : Int) (x241001_1 : Int) (x241002_1 : Int) (x241003_1 : Int) (x241004_1 : Int) (x241005_1 : Int) (x241006_1 : Int) (x241007_1 : Int), v7 = .int .i64 x7_1 ∧ Aside0 (bivouacref16_Fly.l0 kq a2 x7_1 a0_0 a0_1 a0_2 l0_3 a1_0 a1_1 a1_2 a1_3 a1_4 a1_5 = some (r1, r2, r3, r4, r5, r6, r7, r8)) ∧ Aside0 (kq ≤ k) ∧ Aside0 (w'.heap[gb238]? = some (.cells #[.int .i64 a0_0, .int .i64 a0_1, .int .i64 a0_2, (.slice A0_3 l0_3.length c0_3)] 25 (0, 0))) ∧ Aside0 (w'.heap[gb239]? = some (.cells #[.int .i64 a1_0, .int .i64 a1_1, .int .i64 a1_2, .int .i64 a1_3, .int .i64 a1_4, .int .i64 a1_5] 27 (0, 0))) ∧ Aside0 (w'.heap[gb240]? = some (.cells #[.int .i64 x241000_1, .int .i64 x241001_1, .int .i64 x241002_1, .int .i64 x241003_1, .int .i64 x241004_1, .int .i64 x241005_1, .int .i64 x241006_1, .int .i64 x241007_1] 38 (0, 0))) ∧ Aside0 (Below w.heap.size w w'))
  case atStart => exact ⟨(1), (0), (0), (0), (0), (0), (0), (0), (0), (by first | rfl | (simp; done) | (simp [*]; done)), H', ⟨Nat.le_refl _⟩, ⟨by (with_reducible repeat (first | refine blk_drewN ?_ _ | refine blk_drew ?_ | refine blk_alloc ?_ _)); exact BK238.out⟩, ⟨by (with_reducible repeat (first | refine blk_drewN ?_ _ | refine blk_drew ?_ | refine blk_alloc ?_ _)); exact BK239.out⟩, ⟨by (with_reducible repeat (first | refine blk_drewN ?_ _ | refine blk_drew ?_ | refine blk_alloc ?_ _)); exact BK240.out⟩, ⟨by repeat (first | (with_reducible first | exact HB.out | apply below_alloc | apply pw_below_drewN | apply below_drew1 | refine below_set ?_ GE238.out | refine below_set ?_ GE239.out | refine below_set ?_ GE240.out) | exact HB.out)⟩⟩
  case round =>
    clear H'
    try clear c1
    try clear p2
    obtain ⟨x7_1, x241000_1, x241001_1, x241002_1, x241003_1, x241004_1, x241005_1, x241006_1, x241007_1, rfl, HA, HK1, BK238, BK239, BK240, HB⟩ := hrel
    cases gk with
    | zero => exact absurd HA.out (by simp [bivouacref16_Fly.l0])
    | succ k1 =>
      have H := HA.out
      clear HA
      simp only [bivouacref16_Fly.l0] at H
      by_cases c7 : x7_1 ≤ a2
      · rw [if_pos c7] at H
        have c7b0 : decide (x7_1 ≤ a2) = true := decide_eq_true c7
        clear c7
        replace H := Option.bind_eq_some_iff.mp H
        obtain ⟨⟨t247, t248, t249, t250, t251, t252⟩, A80, H⟩ := H
        replace H : ((bivouacref16_How.f k1 a0_0 a0_1 a0_2 l0_3 t247 t248 t249 t250 t251 t252).bind fun t253 => (if t253 = 0 then (bivouacref16_Fly.l0 k1 a2 (wrap64 (x7_1 + 1)) a0_0 a0_1 a0_2 l0_3 a1_0 a1_1 a1_2 a1_3 a1_4 a1_5) else ((bivouacref16_At.f a1_0 a1_1 a1_2 a1_3 a1_4 a1_5 x7_1).bind fun bt254 => (some (x7_1, t253, bt254.1, bt254.2.1, bt254.2.2.1, bt254.2.2.2.1, bt254.2.2.2.2.1, bt254.2.2.2.2.2))))) = some (r1, r2, r3, r4, r5, r6, r7, r8) := H
        have A8 := Aside0.mk A80
        clear A80
        replace H := Option.bind_eq_some_iff.mp H
        obtain ⟨t253, A90, H⟩ := H
        replace H : (if t253 = 0 then (bivouacref16_Fly.l0 k1 a2 (wrap64 (x7_1 + 1)) a0_0 a0_1 a0_2 l0_3 a1_0 a1_1 a1_2 a1_3 a1_4 a1_5) else ((bivouacref16_At.f a1_0 a1_1 a1_2 a1_3 a1_4 a1_5 x7_1).bind fun bt254 => (some (x7_1, t253, bt254.1, bt254.2.1, bt254.2.2.1, bt254.2.2.2.1, bt254.2.2.2.2.1, bt254.2.2.2.2.2)))) = some (r1, r2, r3, r4, r5, r6, r7, r8) := H
        have A9 := Aside0.mk A90
        clear A90
        by_cases c10 : t253 = 0
        · rw [if_pos c10] at H
          have c10b0 : (t253 == 0) = true := beq_iff_eq.mpr c10
          have c10b1 : (t253 != 0) = false := bne_eq_false_iff_eq.mpr c10
          clear c10
          have H' := Aside0.mk H
          clear H
          try go_wp2
          have n0_ := Aside0.mk (blk_drew BK238.out)
          have n1_ := Aside0.mk (blk_drew BK239.out)
          have n2_ := Aside0.mk (blk_drew BK240.out)
          have n3_ := Aside0.mk (below_drew1 HB.out)
          clear BK238
          clear BK239
          clear BK240
          clear HB
          have BK238 := n0_
          have BK239 := n1_
          have BK240 := n2_
          have HB := n3_
          clear n0_ n1_ n2_ n3_
          refine start_ (n := 6) (S := fun w' => w'.cell? ⟨gb238, 0, none⟩ = some (.int .i64 a0_0) ∧ w'.cell? ⟨gb238, 1, none⟩ = some (.int .i64 a0_1) ∧ w'.cell? ⟨gb238, 2, none⟩ = some (.int .i64 a0_2) ∧ w'.cell? ⟨gb238, 3, none⟩ = some (.slice A0_3 l0_3.length c0_3) ∧ w'.cell? ⟨gb239, 0, none⟩ = some (.int .i64 a1_0) ∧ w'.cell? ⟨gb239, 1, none⟩ = some (.int .i64 a1_1) ∧ w'.cell? ⟨gb239, 2, none⟩ = some (.int .i64 a1_2) ∧ w'.cell? ⟨gb239, 3, none⟩ = some (.int .i64 a1_3) ∧ w'.cell? ⟨gb239, 4, none⟩ = some (.int .i64 a1_4) ∧ w'.cell? ⟨gb239, 5, none⟩ = some (.int .i64 a1_5)) (ds := []) #[false, false, false, false, false, false] (by kernel_rfl) rfl rfl ⟨(blk_cell BK238.out 0).trans rfl, (blk_cell BK238.out 1).trans rfl, (blk_cell BK238.out 2).trans rfl, (blk_cell BK238.out 3).trans rfl, (blk_cell BK239.out 0).trans rfl, (blk_cell BK239.out 1).trans rfl, (blk_cell BK239.out 2).trans rfl, (blk_cell BK239.out 3).trans rfl, (blk_cell BK239.out 4).trans rfl, (blk_cell BK239.out 5).trans rfl⟩ (fun hHeld => ?_)
          generalize wr.drew = w11 at BK238 BK239 BK240 HB hHeld ⊢
          refine pure_ (i := 2) (N := some 16) (v := ?_) (a' := ?_) #[false, false, true, false, false, false] rfl rfl (by kernel_rfl) (fun _ _ _ h => h) (Or.inl ⟨by rfl, ?_⟩) ?_ ?_
          rotate_left
          · intro w'
            go_simp
            with_reducible rfl
          rotate_left
          · simp only [Act.put, List.setIfInBounds_toArray, List.set_cons_zero, List.set_cons_succ, i64_w, i32_w]
            rfl
          refine take_ (i := 0) (N := some 14) (v := ?_) (a' := ?_) #[true, false, true, false, false, false] rfl rfl (by kernel_rfl) (fun _ _ _ h => h) (Or.inl ⟨by rfl, ?_⟩) hHeld ?_ ?_
          rotate_left
          · rintro w' ⟨s0, s1, s2, s3, s4, s5, s6, s7, s8, s9⟩
            go_simp
            with_reducible rfl
          rotate_left
          · simp only [Act.put, List.setIfInBounds_toArray, List.set_cons_zero, List.set_cons_succ, i64_w, i32_w]
            rfl
          refine take_ (i := 1) (N := some 15) (v := ?_) (a' := ?_) #[true, true, true, false, false, false] rfl rfl (by kernel_rfl) (fun _ _ _ h => h) (Or.inl ⟨by rfl, ?_⟩) hHeld ?_ ?_
          rotate_left
          · rintro w' ⟨s0, s1, s2, s3, s4, s5, s6, s7, s8, s9⟩
            go_simp
            with_reducible rfl
          rotate_left
          · simp only [Act.put, List.setIfInBounds_toArray, List.set_cons_zero, List.set_cons_succ, i64_w, i32_w]
            rfl
          refine one_ (i := 3) (N := some 17) #[true, true, true, true, false, false] rfl rfl (by kernel_rfl) (by decide) (fun K hK => ?_)
          refine goes_ Try.func16 (by kernel_rfl) rfl #[.agg #[.int .i64 a1_0, .int .i64 a1_1, .int .i64 a1_2, .int .i64 a1_3, .int .i64 a1_4, .int .i64 a1_5], .int .i64 x7_1] (by rfl) rfl rfl (by (try simp only [List.map_toArray, List.map_cons, List.map_nil]); first | done | rfl | (simp only [List.length_drop, List.length_take]; rfl)) ?_
          with_reducible refine (bivouacref16_At.calls a1_0 a1_1 a1_2 a1_3 a1_4 a1_5 x7_1 t247 t248 t249 t250 t251 t252 _ A8.out).mono ?_
          rintro e w12 ⟨rfl, hb⟩
          refine ⟨_, rfl, ?_⟩
          have n0_ := Aside0.mk (blk_below (g := gb238) (o := .cells #[.int .i64 a0_0, .int .i64 a0_1, .int .i64 a0_2, .slice A0_3 l0_3.length c0_3] 25 (0, 0)) (by (with_reducible repeat (first | refine blk_drewN ?_ _ | refine blk_drew ?_ | refine blk_alloc ?_ _)); exact BK238.out) hb)
          have n1_ := Aside0.mk (blk_below (g := gb239) (o := .cells #[.int .i64 a1_0, .int .i64 a1_1, .int .i64 a1_2, .int .i64 a1_3, .int .i64 a1_4, .int .i64 a1_5] 27 (0, 0)) (by (with_reducible repeat (first | refine blk_drewN ?_ _ | refine blk_drew ?_ | refine blk_alloc ?_ _)); exact BK239.out) hb)
          have n2_ := Aside0.mk (blk_below (g := gb240) (o := .cells #[.int .i64 x241000_1, .int .i64 x241001_1, .int .i64 x241002_1, .int .i64 x241003_1, .int .i64 x241004_1, .int .i64 x241005_1, .int .i64 x241006_1, .int .i64 x241007_1] 38 (0, 0)) (by (with_reducible repeat (first | refine blk_drewN ?_ _ | refine blk_drew ?_ | refine blk_alloc ?_ _)); exact BK240.out) hb)
          have n3_ := Aside0.mk (below_step (by repeat (first | (with_reducible first | exact HB.out | apply below_alloc | apply pw_below_drewN | apply below_drew1 | refine below_set ?_ GE238.out | refine below_set ?_ GE239.out | refine below_set ?_ GE240.out) | exact HB.out)) hb)
          clear BK238
          clear BK239
          clear BK240
          clear HB
          have BK238 := n0_
          have BK239 := n1_
          have BK240 := n2_
          have HB := n3_
          clear n0_ n1_ n2_ n3_
          (try clear hb)
          (try clear hb2)
          (try clear hk)
          (try clear hi)
          refine hK.out _ _ ⟨(blk_cell BK238.out 0).trans rfl, (blk_cell BK238.out 1).trans rfl, (blk_cell BK238.out 2).trans rfl, (blk_cell BK238.out 3).trans rfl, (blk_cell BK239.out 0).trans rfl, (blk_cell BK239.out 1).trans rfl, (blk_cell BK239.out 2).trans rfl, (blk_cell BK239.out 3).trans rfl, (blk_cell BK239.out 4).trans rfl, (blk_cell BK239.out 5).trans rfl⟩ (fun hHeld => ?_)
          clear hK K
          refine norm_ (a' := ?_) ?_ ?_
          rotate_left
          · show Act.put _ (some 17) _ = _
            simp only [Act.put, List.setIfInBounds_toArray, List.set_cons_zero, List.set_cons_succ, i64_w, i32_w]
            rfl
          refine one_ (i := 4) (N := some 18) #[true, true, true, true, true, false] rfl rfl (by kernel_rfl) (by decide) (fun K hK => ?_)
          refine goes_ Try.func21 (by kernel_rfl) rfl #[.agg #[.int .i64 a0_0, .int .i64 a0_1, .int .i64 a0_2, .slice A0_3 l0_3.length c0_3], .agg #[.int .i64 t247, .int .i64 t248, .int .i64 t249, .int .i64 t250, .int .i64 t251, .int .i64 t252]] (by rfl) rfl rfl (by (try simp only [List.map_toArray, List.map_cons, List.map_nil]); first | done | rfl | (simp only [List.length_drop, List.length_take]; rfl)) ?_
          with_reducible refine (bivouacref16_How.calls k1 a0_0 a0_1 a0_2 _ _ l0_3 t247 t248 t249 t250 t251 t252 t253 _ ?side1 ?side2 A9.out).mono ?_
          (case side1 => repeat (first | exact (Kd.C_below HR0_3.out HB.out) | (with_reducible refine Kd.C_alloc ?_ _) | (with_reducible refine Kd.C_drewN ?_ _) | (with_reducible refine Kd.C_drew ?_)))
          (case side2 => exact HC0_3.out)
          rintro e w13 ⟨rfl, hb⟩
          refine ⟨_, rfl, ?_⟩
          have n0_ := Aside0.mk (blk_below (g := gb238) (o := .cells #[.int .i64 a0_0, .int .i64 a0_1, .int .i64 a0_2, .slice A0_3 l0_3.length c0_3] 25 (0, 0)) (by (with_reducible repeat (first | refine blk_drewN ?_ _ | refine blk_drew ?_ | refine blk_alloc ?_ _)); exact BK238.out) hb)
          have n1_ := Aside0.mk (blk_below (g := gb239) (o := .cells #[.int .i64 a1_0, .int .i64 a1_1, .int .i64 a1_2, .int .i64 a1_3, .int .i64 a1_4, .int .i64 a1_5] 27 (0, 0)) (by (with_reducible repeat (first | refine blk_drewN ?_ _ | refine blk_drew ?_ | refine blk_alloc ?_ _)); exact BK239.out) hb)
          have n2_ := Aside0.mk (blk_below (g := gb240) (o := .cells #[.int .i64 x241000_1, .int .i64 x241001_1, .int .i64 x241002_1, .int .i64 x241003_1, .int .i64 x241004_1, .int .i64 x241005_1, .int .i64 x241006_1, .int .i64 x241007_1] 38 (0, 0)) (by (with_reducible repeat (first | refine blk_drewN ?_ _ | refine blk_drew ?_ | refine blk_alloc ?_ _)); exact BK240.out) hb)
          have n3_ := Aside0.mk (below_step (by repeat (first | (with_reducible first | exact HB.out | apply below_alloc | apply pw_below_drewN | apply below_drew1 | refine below_set ?_ GE238.out | refine below_set ?_ GE239.out | refine below_set ?_ GE240.out) | exact HB.out)) hb)
          clear BK238
          clear BK239
          clear BK240
          clear HB
          have BK238 := n0_
          have BK239 := n1_
          have BK240 := n2_
          have HB := n3_
          clear n0_ n1_ n2_ n3_
          (try clear hb)
          (try clear hb2)
          (try clear hk)
          (try clear hi)
          refine hK.out _ _ ⟨(blk_cell BK238.out 0).trans rfl, (blk_cell BK238.out 1).trans rfl, (blk_cell BK238.out 2).trans rfl, (blk_cell BK238.out 3).trans rfl, (blk_cell BK239.out 0).trans rfl, (blk_cell BK239.out 1).trans rfl, (blk_cell BK239.out 2).trans rfl, (blk_cell BK239.out 3).trans rfl, (blk_cell BK239.out 4).trans rfl, (blk_cell BK239.out 5).trans rfl⟩ (fun hHeld => ?_)
          clear hK K
          refine norm_ (a' := ?_) ?_ ?_
          rotate_left
          · show Act.put _ (some 18) _ = _
            simp only [Act.put, List.setIfInBounds_toArray, List.set_cons_zero, List.set_cons_succ, i64_w, i32_w]
            rfl
          refine pure_ (i := 5) (N := some 8) (v := ?_) (a' := ?_) #[true, true, true, true, true, true] rfl rfl (by kernel_rfl) (fun _ _ _ h => h) (Or.inl ⟨by rfl, ?_⟩) ?_ ?_
          rotate_left
          · intro w'
            go_simp
            with_reducible rfl
          rotate_left
          · simp only [Act.put, List.setIfInBounds_toArray, List.set_cons_zero, List.set_cons_succ, i64_w, i32_w]
            rfl
          refine done_ (by kernel_rfl) ?_
          try go_wp2
          go_roundg k1
          case measure => have := HK1.out; omega
          case rel => exact ⟨(wrap64 (x7_1 + 1)), (x241000_1), (x241001_1), (x241002_1), (x241003_1), (x241004_1), (x241005_1), (x241006_1), (x241007_1), (by first | rfl | (simp; done) | (simp [*]; done)), H', ⟨by have := HK1.out; omega⟩, ⟨by (with_reducible repeat (first | refine blk_drewN ?_ _ | refine blk_drew ?_ | refine blk_alloc ?_ _)); exact BK238.out⟩, ⟨by (with_reducible repeat (first | refine blk_drewN ?_ _ | refine blk_drew ?_ | refine blk_alloc ?_ _)); exact BK239.out⟩, ⟨by (with_reducible repeat (first | refine blk_drewN ?_ _ | refine blk_drew ?_ | refine blk_alloc ?_ _)); exact BK240.out⟩, ⟨by repeat (first | (with_reducible first | exact HB.out | apply below_alloc | apply pw_below_drewN | apply below_drew1 | refine below_set ?_ GE238.out | refine below_set ?_ GE239.out | refine below_set ?_ GE240.out) | exact HB.out)⟩⟩
        · rw [if_neg c10] at H
          have c10b0 : (t253 == 0) = false := beq_eq_false_iff_ne.mpr c10
          have c10b1 : (t253 != 0) = true := bne_iff_ne.mpr c10
          replace H := Option.bind_eq_some_iff.mp H
          obtain ⟨⟨t254, t255, t256, t257, t258, t259⟩, A140, H⟩ := H
          replace H : (some (x7_1, t253, t254, t255, t256, t257, t258, t259)) = some (r1, r2, r3, r4, r5, r6, r7, r8) := H
          have A14 := Aside0.mk A140
          clear A140
          simp only [Option.some.injEq, Prod.mk.injEq] at H
          obtain ⟨rfl, rfl, rfl, rfl, rfl, rfl, rfl, rfl⟩ := H
          try go_wp2
          have n0_ := Aside0.mk (blk_drew BK238.out)
          have n1_ := Aside0.mk (blk_drew BK239.out)
          have n2_ := Aside0.mk (blk_drew BK240.out)
          have n3_ := Aside0.mk (below_drew1 HB.out)
          clear BK238
          clear BK239
          clear BK240
          clear HB
          have BK238 := n0_
          have BK239 := n1_
          have BK240 := n2_
          have HB := n3_
          clear n0_ n1_ n2_ n3_
          refine start_ (n := 6) (S := fun w' => w'.cell? ⟨gb238, 0, none⟩ = some (.int .i64 a0_0) ∧ w'.cell? ⟨gb238, 1, none⟩ = some (.int .i64 a0_1) ∧ w'.cell? ⟨gb238, 2, none⟩ = some (.int .i64 a0_2) ∧ w'.cell? ⟨gb238, 3, none⟩ = some (.slice A0_3 l0_3.length c0_3) ∧ w'.cell? ⟨gb239, 0, none⟩ = some (.int .i64 a1_0) ∧ w'.cell? ⟨gb239, 1, none⟩ = some (.int .i64 a1_1) ∧ w'.cell? ⟨gb239, 2, none⟩ = some (.int .i64 a1_2) ∧ w'.cell? ⟨gb239, 3, none⟩ = some (.int .i64 a1_3) ∧ w'.cell? ⟨gb239, 4, none⟩ = some (.int .i64 a1_4) ∧ w'.cell? ⟨gb239, 5, none⟩ = some (.int .i64 a1_5)) (ds := []) #[false, false, false, false, false, false] (by kernel_rfl) rfl rfl ⟨(blk_cell BK238.out 0).trans rfl, (blk_cell BK238.out 1).trans rfl, (blk_cell BK238.out 2).trans rfl, (blk_cell BK238.out 3).trans rfl, (blk_cell BK239.out 0).trans rfl, (blk_cell BK239.out 1).trans rfl, (blk_cell BK239.out 2).trans rfl, (blk_cell BK239.out 3).trans rfl, (blk_cell BK239.out 4).trans rfl, (blk_cell BK239.out 5).trans rfl⟩ (fun hHeld => ?_)
          generalize wr.drew = w15 at BK238 BK239 BK240 HB hHeld ⊢
          refine pure_ (i := 2) (N := some 16) (v := ?_) (a' := ?_) #[false, false, true, false, false, false] rfl rfl (by kernel_rfl) (fun _ _ _ h => h) (Or.inl ⟨by rfl, ?_⟩) ?_ ?_
          rotate_left
          · intro w'
            go_simp
            with_reducible rfl
          rotate_left
          · simp only [Act.put, List.setIfInBounds_toArray, List.set_cons_zero, List.set_cons_succ, i64_w, i32_w]
            rfl
          refine take_ (i := 0) (N := some 14) (v := ?_) (a' := ?_) #[true, false, true, false, false, false] rfl rfl (by kernel_rfl) (fun _ _ _ h => h) (Or.inl ⟨by rfl, ?_⟩) hHeld ?_ ?_
          rotate_left
          · rintro w' ⟨s0, s1, s2, s3, s4, s5, s6, s7, s8, s9⟩
            go_simp
            with_reducible rfl
          rotate_left
          · simp only [Act.put, List.setIfInBounds_toArray, List.set_cons_zero, List.set_cons_succ, i64_w, i32_w]
            rfl
          refine take_ (i := 1) (N := some 15) (v := ?_) (a' := ?_) #[true, true, true, false, false, false] rfl rfl (by kernel_rfl) (fun _ _ _ h => h) (Or.inl ⟨by rfl, ?_⟩) hHeld ?_ ?_
          rotate_left
          · rintro w' ⟨s0, s1, s2, s3, s4, s5, s6, s7, s8, s9⟩
            go_simp
            with_reducible rfl
          rotate_left
          · simp only [Act.put, List.setIfInBounds_toArray, List.set_cons_zero, List.set_cons_succ, i64_w, i32_w]
            rfl
          refine one_ (i := 3) (N := some 17) #[true, true, true, true, false, false] rfl rfl (by kernel_rfl) (by decide) (fun K hK => ?_)
          refine goes_ Try.func16 (by kernel_rfl) rfl #[.agg #[.int .i64 a1_0, .int .i64 a1_1, .int .i64 a1_2, .int .i64 a1_3, .int .i64 a1_4, .int .i64 a1_5], .int .i64 x7_1] (by rfl) rfl rfl (by (try simp only [List.map_toArray, List.map_cons, List.map_nil]); first | done | rfl | (simp only [List.length_drop, List.length_take]; rfl)) ?_
          with_reducible refine (bivouacref16_At.calls a1_0 a1_1 a1_2 a1_3 a1_4 a1_5 x7_1 t247 t248 t249 t250 t251 t252 _ A8.out).mono ?_
          rintro e w16 ⟨rfl, hb⟩
          refine ⟨_, rfl, ?_⟩
          have n0_ := Aside0.mk (blk_below (g := gb238) (o := .cells #[.int .i64 a0_0, .int .i64 a0_1, .int .i64 a0_2, .slice A0_3 l0_3.length c0_3] 25 (0, 0)) (by (with_reducible repeat (first | refine blk_drewN ?_ _ | refine blk_drew ?_ | refine blk_alloc ?_ _)); exact BK238.out) hb)
          have n1_ := Aside0.mk (blk_below (g := gb239) (o := .cells #[.int .i64 a1_0, .int .i64 a1_1, .int .i64 a1_2, .int .i64 a1_3, .int .i64 a1_4, .int .i64 a1_5] 27 (0, 0)) (by (with_reducible repeat (first | refine blk_drewN ?_ _ | refine blk_drew ?_ | refine blk_alloc ?_ _)); exact BK239.out) hb)
          have n2_ := Aside0.mk (blk_below (g := gb240) (o := .cells #[.int .i64 x241000_1, .int .i64 x241001_1, .int .i64 x241002_1, .int .i64 x241003_1, .int .i64 x241004_1, .int .i64 x241005_1, .int .i64 x241006_1, .int .i64 x241007_1] 38 (0, 0)) (by (with_reducible repeat (first | refine blk_drewN ?_ _ | refine blk_drew ?_ | refine blk_alloc ?_ _)); exact BK240.out) hb)
          have n3_ := Aside0.mk (below_step (by repeat (first | (with_reducible first | exact HB.out | apply below_alloc | apply pw_below_drewN | apply below_drew1 | refine below_set ?_ GE238.out | refine below_set ?_ GE239.out | refine below_set ?_ GE240.out) | exact HB.out)) hb)
          clear BK238
          clear BK239
          clear BK240
          clear HB
          have BK238 := n0_
          have BK239 := n1_
          have BK240 := n2_
          have HB := n3_
          clear n0_ n1_ n2_ n3_
          (try clear hb)
          (try clear hb2)
          (try clear hk)
          (try clear hi)
          refine hK.out _ _ ⟨(blk_cell BK238.out 0).trans rfl, (blk_cell BK238.out 1).trans rfl, (blk_cell BK238.out 2).trans rfl, (blk_cell BK238.out 3).trans rfl, (blk_cell BK239.out 0).trans rfl, (blk_cell BK239.out 1).trans rfl, (blk_cell BK239.out 2).trans rfl, (blk_cell BK239.out 3).trans rfl, (blk_cell BK239.out 4).trans rfl, (blk_cell BK239.out 5).trans rfl⟩ (fun hHeld => ?_)
          clear hK K
          refine norm_ (a' := ?_) ?_ ?_
          rotate_left
          · show Act.put _ (some 17) _ = _
            simp only [Act.put, List.setIfInBounds_toArray, List.set_cons_zero, List.set_cons_succ, i64_w, i32_w]
            rfl
          refine one_ (i := 4) (N := some 18) #[true, true, true, true, true, false] rfl rfl (by kernel_rfl) (by decide) (fun K hK => ?_)
          refine goes_ Try.func21 (by kernel_rfl) rfl #[.agg #[.int .i64 a0_0, .int .i64 a0_1, .int .i64 a0_2, .slice A0_3 l0_3.length c0_3], .agg #[.int .i64 t247, .int .i64 t248, .int .i64 t249, .int .i64 t250, .int .i64 t251, .int .i64 t252]] (by rfl) rfl rfl (by (try simp only [List.map_toArray, List.map_cons, List.map_nil]); first | done | rfl | (simp only [List.length_drop, List.length_take]; rfl)) ?_
          with_reducible refine (bivouacref16_How.calls k1 a0_0 a0_1 a0_2 _ _ l0_3 t247 t248 t249 t250 t251 t252 t253 _ ?side1 ?side2 A9.out).mono ?_
          (case side1 => repeat (first | exact (Kd.C_below HR0_3.out HB.out) | (with_reducible refine Kd.C_alloc ?_ _) | (with_reducible refine Kd.C_drewN ?_ _) | (with_reducible refine Kd.C_drew ?_)))
          (case side2 => exact HC0_3.out)
          rintro e w17 ⟨rfl, hb⟩
          refine ⟨_, rfl, ?_⟩
          have n0_ := Aside0.mk (blk_below (g := gb238) (o := .cells #[.int .i64 a0_0, .int .i64 a0_1, .int .i64 a0_2, .slice A0_3 l0_3.length c0_3] 25 (0, 0)) (by (with_reducible repeat (first | refine blk_drewN ?_ _ | refine blk_drew ?_ | refine blk_alloc ?_ _)); exact BK238.out) hb)
          have n1_ := Aside0.mk (blk_below (g := gb239) (o := .cells #[.int .i64 a1_0, .int .i64 a1_1, .int .i64 a1_2, .int .i64 a1_3, .int .i64 a1_4, .int .i64 a1_5] 27 (0, 0)) (by (with_reducible repeat (first | refine blk_drewN ?_ _ | refine blk_drew ?_ | refine blk_alloc ?_ _)); exact BK239.out) hb)
          have n2_ := Aside0.mk (blk_below (g := gb240) (o := .cells #[.int .i64 x241000_1, .int .i64 x241001_1, .int .i64 x241002_1, .int .i64 x241003_1, .int .i64 x241004_1, .int .i64 x241005_1, .int .i64 x241006_1, .int .i64 x241007_1] 38 (0, 0)) (by (with_reducible repeat (first | refine blk_drewN ?_ _ | refine blk_drew ?_ | refine blk_alloc ?_ _)); exact BK240.out) hb)
          have n3_ := Aside0.mk (below_step (by repeat (first | (with_reducible first | exact HB.out | apply below_alloc | apply pw_below_drewN | apply below_drew1 | refine below_set ?_ GE238.out | refine below_set ?_ GE239.out | refine below_set ?_ GE240.out) | exact HB.out)) hb)
          clear BK238
          clear BK239
          clear BK240
          clear HB
          have BK238 := n0_
          have BK239 := n1_
          have BK240 := n2_
          have HB := n3_
          clear n0_ n1_ n2_ n3_
          (try clear hb)
          (try clear hb2)
          (try clear hk)
          (try clear hi)
          refine hK.out _ _ ⟨(blk_cell BK238.out 0).trans rfl, (blk_cell BK238.out 1).trans rfl, (blk_cell BK238.out 2).trans rfl, (blk_cell BK238.out 3).trans rfl, (blk_cell BK239.out 0).trans rfl, (blk_cell BK239.out 1).trans rfl, (blk_cell BK239.out 2).trans rfl, (blk_cell BK239.out 3).trans rfl, (blk_cell BK239.out 4).trans rfl, (blk_cell BK239.out 5).trans rfl⟩ (fun hHeld => ?_)
          clear hK K
          refine norm_ (a' := ?_) ?_ ?_
          rotate_left
          · show Act.put _ (some 18) _ = _
            simp only [Act.put, List.setIfInBounds_toArray, List.set_cons_zero, List.set_cons_succ, i64_w, i32_w]
            rfl
          refine pure_ (i := 5) (N := some 8) (v := ?_) (a' := ?_) #[true, true, true, true, true, true] rfl rfl (by kernel_rfl) (fun _ _ _ h => h) (Or.inl ⟨by rfl, ?_⟩) ?_ ?_
          rotate_left
          · intro w'
            go_simp
            with_reducible rfl
          rotate_left
          · simp only [Act.put, List.setIfInBounds_toArray, List.set_cons_zero, List.set_cons_succ, i64_w, i32_w]
            rfl
          refine done_ (by kernel_rfl) ?_
          have hnb18 := NB239_238.out
          have hnc18 := NB238_239.out
          have hnb19 := NB239_240.out
          have hnc19 := NB240_239.out
          have hcz20_0 : w17.cell? ⟨gb239, 0, none⟩ = some (.int .i64 a1_0) := (blk_cell BK239.out 0).trans rfl
          have hcz20_1 : w17.cell? ⟨gb239, 1, none⟩ = some (.int .i64 a1_1) := (blk_cell BK239.out 1).trans rfl
          have hcz20_2 : w17.cell? ⟨gb239, 2, none⟩ = some (.int .i64 a1_2) := (blk_cell BK239.out 2).trans rfl
          have hcz20_3 : w17.cell? ⟨gb239, 3, none⟩ = some (.int .i64 a1_3) := (blk_cell BK239.out 3).trans rfl
          have hcz20_4 : w17.cell? ⟨gb239, 4, none⟩ = some (.int .i64 a1_4) := (blk_cell BK239.out 4).trans rfl
          have hcz20_5 : w17.cell? ⟨gb239, 5, none⟩ = some (.int .i64 a1_5) := (blk_cell BK239.out 5).trans rfl
          have hfz20_0 := blk_frozen BK239.out 0
          have hfz20_1 := blk_frozen BK239.out 1
          have hfz20_2 := blk_frozen BK239.out 2
          have hfz20_3 := blk_frozen BK239.out 3
          have hfz20_4 := blk_frozen BK239.out 4
          have hfz20_5 := blk_frozen BK239.out 5
          try go_wp2_with (first | ((with_reducible refine gate_callee (f := 16) rfl ?_); refine goesL_ (some 25) rfl rfl Try.func16 (by kernel_rfl) rfl #[.agg #[.int .i64 a1_0, .int .i64 a1_1, .int .i64 a1_2, .int .i64 a1_3, .int .i64 a1_4, .int .i64 a1_5], .int .i64 x7_1] rfl (by (try simp only [List.map_toArray, List.map_cons, List.map_nil]); first | done | rfl | (simp only [List.length_drop, List.length_take]; rfl)) ?_; (with_reducible refine (bivouacref16_At.calls a1_0 a1_1 a1_2 a1_3 a1_4 a1_5 x7_1 t254 t255 t256 t257 t258 t259 _ A14.out).mono ?_); rintro e w21 ⟨rfl, hb⟩; refine ⟨_, rfl, ?_⟩; have n0_ := Aside0.mk (blk_below (g := gb238) (o := .cells #[.int .i64 a0_0, .int .i64 a0_1, .int .i64 a0_2, .slice A0_3 l0_3.length c0_3] 25 (0, 0)) (by (with_reducible repeat (first | refine blk_drewN ?_ _ | refine blk_drew ?_ | refine blk_alloc ?_ _)); exact BK238.out) hb); have n1_ := Aside0.mk (blk_below (g := gb239) (o := .cells #[.int .i64 a1_0, .int .i64 a1_1, .int .i64 a1_2, .int .i64 a1_3, .int .i64 a1_4, .int .i64 a1_5] 27 (0, 0)) (by (with_reducible repeat (first | refine blk_drewN ?_ _ | refine blk_drew ?_ | refine blk_alloc ?_ _)); exact BK239.out) hb); have n2_ := Aside0.mk (blk_below (g := gb240) (o := .cells #[.int .i64 x241000_1, .int .i64 x241001_1, .int .i64 x241002_1, .int .i64 x241003_1, .int .i64 x241004_1, .int .i64 x241005_1, .int .i64 x241006_1, .int .i64 x241007_1] 38 (0, 0)) (by (with_reducible repeat (first | refine blk_drewN ?_ _ | refine blk_drew ?_ | refine blk_alloc ?_ _)); exact BK240.out) hb); have n3_ := Aside0.mk (below_step (by repeat (first | (with_reducible first | exact HB.out | apply below_alloc | apply pw_below_drewN | apply below_drew1 | refine below_set ?_ GE238.out | refine below_set ?_ GE239.out | refine below_set ?_ GE240.out) | exact HB.out)) hb); clear BK238; clear BK239; clear BK240; clear HB; have BK238 := n0_; have BK239 := n1_; have BK240 := n2_; have HB := n3_; clear n0_ n1_ n2_ n3_; (try clear hb); (try clear hb2); (try clear hk); (try clear hi); have hnb22 := NB240_238.out; have hnc22 := NB238_240.out; have hcz23_0 : w21.cell? ⟨gb240, 0, none⟩ = some (.int .i64 x241000_1) := (blk_cell BK240.out 0).trans rfl; have hcz23_1 : w21.cell? ⟨gb240, 1, none⟩ = some (.int .i64 x241001_1) := (blk_cell BK240.out 1).trans rfl; have hcz23_2 : w21.cell? ⟨gb240, 2, none⟩ = some (.int .i64 x241002_1) := (blk_cell BK240.out 2).trans rfl; have hcz23_3 : w21.cell? ⟨gb240, 3, none⟩ = some (.int .i64 x241003_1) := (blk_cell BK240.out 3).trans rfl; have hcz23_4 : w21.cell? ⟨gb240, 4, none⟩ = some (.int .i64 x241004_1) := (blk_cell BK240.out 4).trans rfl; have hcz23_5 : w21.cell? ⟨gb240, 5, none⟩ = some (.int .i64 x241005_1) := (blk_cell BK240.out 5).trans rfl; have hcz23_6 : w21.cell? ⟨gb240, 6, none⟩ = some (.int .i64 x241006_1) := (blk_cell BK240.out 6).trans rfl; have hcz23_7 : w21.cell? ⟨gb240, 7, none⟩ = some (.int .i64 x241007_1) := (blk_cell BK240.out 7).trans rfl; have hfz23_0 := blk_frozen BK240.out 0; have hfz23_1 := blk_frozen BK240.out 1; have hfz23_2 := blk_frozen BK240.out 2; have hfz23_3 := blk_frozen BK240.out 3; have hfz23_4 := blk_frozen BK240.out 4; have hfz23_5 := blk_frozen BK240.out 5; have hfz23_6 := blk_frozen BK240.out 6; have hfz23_7 := blk_frozen BK240.out 7))
          refine bodyPost_ret (results_cell_row rfl _ _ gb240 38 #[.int .i64 x7_1, .int .i64 t253, .int .i64 t254, .int .i64 t255, .int .i64 t256, .int .i64 t257, .int .i64 t258, .int .i64 t259] (0, 0) _ rfl (by (with_reducible repeat (first | refine blk_drewN ?_ _ | refine blk_drew ?_ | refine blk_alloc ?_ _)); refine blk_put (cs := #[.int .i64 x7_1, .int .i64 t253, .int .i64 t254, .int .i64 t255, .int .i64 t256, .int .i64 t257, .int .i64 t258, .int .i64 x241007_1]) ?_ 7 _ rfl; (with_reducible repeat (first | refine blk_drewN ?_ _ | refine blk_drew ?_ | refine blk_alloc ?_ _)); refine blk_put (cs := #[.int .i64 x7_1, .int .i64 t253, .int .i64 t254, .int .i64 t255, .int .i64 t256, .int .i64 t257, .int .i64 x241006_1, .int .i64 x241007_1]) ?_ 6 _ rfl; (with_reducible repeat (first | refine blk_drewN ?_ _ | refine blk_drew ?_ | refine blk_alloc ?_ _)); refine blk_put (cs := #[.int .i64 x7_1, .int .i64 t253, .int .i64 t254, .int .i64 t255, .int .i64 t256, .int .i64 x241005_1, .int .i64 x241006_1, .int .i64 x241007_1]) ?_ 5 _ rfl; (with_reducible repeat (first | refine blk_drewN ?_ _ | refine blk_drew ?_ | refine blk_alloc ?_ _)); refine blk_put (cs := #[.int .i64 x7_1, .int .i64 t253, .int .i64 t254, .int .i64 t255, .int .i64 x241004_1, .int .i64 x241005_1, .int .i64 x241006_1, .int .i64 x241007_1]) ?_ 4 _ rfl; (with_reducible repeat (first | refine blk_drewN ?_ _ | refine blk_drew ?_ | refine blk_alloc ?_ _)); refine blk_put (cs := #[.int .i64 x7_1, .int .i64 t253, .int .i64 t254, .int .i64 x241003_1, .int .i64 x241004_1, .int .i64 x241005_1, .int .i64 x241006_1, .int .i64 x241007_1]) ?_ 3 _ rfl; (with_reducible repeat (first | refine blk_drewN ?_ _ | refine blk_drew ?_ | refine blk_alloc ?_ _)); refine blk_put (cs := #[.int .i64 x7_1, .int .i64 t253, .int .i64 x241002_1, .int .i64 x241003_1, .int .i64 x241004_1, .int .i64 x241005_1, .int .i64 x241006_1, .int .i64 x241007_1]) ?_ 2 _ rfl; (with_reducible repeat (first | refine blk_drewN ?_ _ | refine blk_drew ?_ | refine blk_alloc ?_ _)); refine blk_put (cs := #[.int .i64 x7_1, .int .i64 x241001_1, .int .i64 x241002_1, .int .i64 x241003_1, .int .i64 x241004_1, .int .i64 x241005_1, .int .i64 x241006_1, .int .i64 x241007_1]) ?_ 1 _ rfl; (with_reducible repeat (first | refine blk_drewN ?_ _ | refine blk_drew ?_ | refine blk_alloc ?_ _)); refine blk_put (cs := #[.int .i64 x241000_1, .int .i64 x241001_1, .int .i64 x241002_1, .int .i64 x241003_1, .int .i64 x241004_1, .int .i64 x241005_1, .int .i64 x241006_1, .int .i64 x241007_1]) ?_ 0 _ rfl; (with_reducible repeat (first | refine blk_drewN ?_ _ | refine blk_drew ?_ | refine blk_alloc ?_ _)); exact BK240.out) Try.underlying38 rfl (by kernel_rfl)) rfl ?_
          exact ⟨by first | rfl | (simp [errW_none, errW_some] <;> rfl) | (simp [*, errW_none, errW_some] <;> rfl) | (rw [Int.tdiv_eq_ediv_of_nonneg (by assumption)]; rfl), by repeat (first | (with_reducible first | exact HB.out | apply below_alloc | apply pw_below_drewN | apply below_drew1 | refine below_set ?_ GE238.out | refine below_set ?_ GE239.out | refine below_set ?_ GE240.out) | exact HB.out)⟩
      · rw [if_neg c7] at H
        have c7b0 : decide (x7_1 ≤ a2) = false := decide_eq_false c7
        clear c7
        replace H := Option.bind_eq_some_iff.mp H
        obtain ⟨⟨t241, t242, t243, t244, t245, t246⟩, A240, H⟩ := H
        replace H : (some (a2, 0, t241, t242, t243, t244, t245, t246)) = some (r1, r2, r3, r4, r5, r6, r7, r8) := H
        have A24 := Aside0.mk A240
        clear A240
        simp only [Option.some.injEq, Prod.mk.injEq] at H
        obtain ⟨rfl, rfl, rfl, rfl, rfl, rfl, rfl, rfl⟩ := H
        have hnb25 := NB239_238.out
        have hnc25 := NB238_239.out
        have hnb26 := NB239_240.out
        have hnc26 := NB240_239.out
        have hcz27_0 : wr.cell? ⟨gb239, 0, none⟩ = some (.int .i64 a1_0) := (blk_cell BK239.out 0).trans rfl
        have hcz27_1 : wr.cell? ⟨gb239, 1, none⟩ = some (.int .i64 a1_1) := (blk_cell BK239.out 1).trans rfl
        have hcz27_2 : wr.cell? ⟨gb239, 2, none⟩ = some (.int .i64 a1_2) := (blk_cell BK239.out 2).trans rfl
        have hcz27_3 : wr.cell? ⟨gb239, 3, none⟩ = some (.int .i64 a1_3) := (blk_cell BK239.out 3).trans rfl
        have hcz27_4 : wr.cell? ⟨gb239, 4, none⟩ = some (.int .i64 a1_4) := (blk_cell BK239.out 4).trans rfl
        have hcz27_5 : wr.cell? ⟨gb239, 5, none⟩ = some (.int .i64 a1_5) := (blk_cell BK239.out 5).trans rfl
        have hfz27_0 := blk_frozen BK239.out 0
        have hfz27_1 := blk_frozen BK239.out 1
        have hfz27_2 := blk_frozen BK239.out 2
        have hfz27_3 := blk_frozen BK239.out 3
        have hfz27_4 := blk_frozen BK239.out 4
        have hfz27_5 := blk_frozen BK239.out 5
        go_wp2_with (first | ((with_reducible refine gate_callee (f := 16) rfl ?_); refine goesL_ (some 30) rfl rfl Try.func16 (by kernel_rfl) rfl #[.agg #[.int .i64 a1_0, .int .i64 a1_1, .int .i64 a1_2, .int .i64 a1_3, .int .i64 a1_4, .int .i64 a1_5], .int .i64 a2] rfl (by (try simp only [List.map_toArray, List.map_cons, List.map_nil]); first | done | rfl | (simp only [List.length_drop, List.length_take]; rfl)) ?_; (with_reducible refine (bivouacref16_At.calls a1_0 a1_1 a1_2 a1_3 a1_4 a1_5 a2 t241 t242 t243 t244 t245 t246 _ A24.out).mono ?_); rintro e w28 ⟨rfl, hb⟩; refine ⟨_, rfl, ?_⟩; have n0_ := Aside0.mk (blk_below (g := gb238) (o := .cells #[.int .i64 a0_0, .int .i64 a0_1, .int .i64 a0_2, .slice A0_3 l0_3.length c0_3] 25 (0, 0)) (by (with_reducible repeat (first | refine blk_drewN ?_ _ | refine blk_drew ?_ | refine blk_alloc ?_ _)); exact BK238.out) hb); have n1_ := Aside0.mk (blk_below (g := gb239) (o := .cells #[.int .i64 a1_0, .int .i64 a1_1, .int .i64 a1_2, .int .i64 a1_3, .int .i64 a1_4, .int .i64 a1_5] 27 (0, 0)) (by (with_reducible repeat (first | refine blk_drewN ?_ _ | refine blk_drew ?_ | refine blk_alloc ?_ _)); exact BK239.out) hb); have n2_ := Aside0.mk (blk_below (g := gb240) (o := .cells #[.int .i64 x241000_1, .int .i64 x241001_1, .int .i64 x241002_1, .int .i64 x241003_1, .int .i64 x241004_1, .int .i64 x241005_1, .int .i64 x241006_1, .int .i64 x241007_1] 38 (0, 0)) (by (with_reducible repeat (first | refine blk_drewN ?_ _ | refine blk_drew ?_ | refine blk_alloc ?_ _)); exact BK240.out) hb); have n3_ := Aside0.mk (below_step (by repeat (first | (with_reducible first | exact HB.out | apply below_alloc | apply pw_below_drewN | apply below_drew1 | refine below_set ?_ GE238.out | refine below_set ?_ GE239.out | refine below_set ?_ GE240.out) | exact HB.out)) hb); clear BK238; clear BK239; clear BK240; clear HB; have BK238 := n0_; have BK239 := n1_; have BK240 := n2_; have HB := n3_; clear n0_ n1_ n2_ n3_; (try clear hb); (try clear hb2); (try clear hk); (try clear hi); have hnb29 := NB240_238.out; have hnc29 := NB238_240.out; have hcz30_0 : w28.cell? ⟨gb240, 0, none⟩ = some (.int .i64 x241000_1) := (blk_cell BK240.out 0).trans rfl; have hcz30_1 : w28.cell? ⟨gb240, 1, none⟩ = some (.int .i64 x241001_1) := (blk_cell BK240.out 1).trans rfl; have hcz30_2 : w28.cell? ⟨gb240, 2, none⟩ = some (.int .i64 x241002_1) := (blk_cell BK240.out 2).trans rfl; have hcz30_3 : w28.cell? ⟨gb240, 3, none⟩ = some (.int .i64 x241003_1) := (blk_cell BK240.out 3).trans rfl; have hcz30_4 : w28.cell? ⟨gb240, 4, none⟩ = some (.int .i64 x241004_1) := (blk_cell BK240.out 4).trans rfl; have hcz30_5 : w28.cell? ⟨gb240, 5, none⟩ = some (.int .i64 x241005_1) := (blk_cell BK240.out 5).trans rfl; have hcz30_6 : w28.cell? ⟨gb240, 6, none⟩ = some (.int .i64 x241006_1) := (blk_cell BK240.out 6).trans rfl; have hcz30_7 : w28.cell? ⟨gb240, 7, none⟩ = some (.int .i64 x241007_1) := (blk_cell BK240.out 7).trans rfl; have hfz30_0 := blk_frozen BK240.out 0; have hfz30_1 := blk_frozen BK240.out 1; have hfz30_2 := blk_frozen BK240.out 2; have hfz30_3 := blk_frozen BK240.out 3; have hfz30_4 := blk_frozen BK240.out 4; have hfz30_5 := blk_frozen BK240.out 5; have hfz30_6 := blk_frozen BK240.out 6; have hfz30_7 := blk_frozen BK240.out 7))
        refine bodyPost_ret (results_cell_row rfl _ _ gb240 38 #[.int .i64 a2, .int .i64 0, .int .i64 t241, .int .i64 t242, .int .i64 t243, .int .i64 t244, .int .i64 t245, .int .i64 t246] (0, 0) _ rfl (by (with_reducible repeat (first | refine blk_drewN ?_ _ | refine blk_drew ?_ | refine blk_alloc ?_ _)); refine blk_put (cs := #[.int .i64 a2, .int .i64 0, .int .i64 t241, .int .i64 t242, .int .i64 t243, .int .i64 t244, .int .i64 t245, .int .i64 x241007_1]) ?_ 7 _ rfl; (with_reducible repeat (first | refine blk_drewN ?_ _ | refine blk_drew ?_ | refine blk_alloc ?_ _)); refine blk_put (cs := #[.int .i64 a2, .int .i64 0, .int .i64 t241, .int .i64 t242, .int .i64 t243, .int .i64 t244, .int .i64 x241006_1, .int .i64 x241007_1]) ?_ 6 _ rfl; (with_reducible repeat (first | refine blk_drewN ?_ _ | refine blk_drew ?_ | refine blk_alloc ?_ _)); refine blk_put (cs := #[.int .i64 a2, .int .i64 0, .int .i64 t241, .int .i64 t242, .int .i64 t243, .int .i64 x241005_1, .int .i64 x241006_1, .int .i64 x241007_1]) ?_ 5 _ rfl; (with_reducible repeat (first | refine blk_drewN ?_ _ | refine blk_drew ?_ | refine blk_alloc ?_ _)); refine blk_put (cs := #[.int .i64 a2, .int .i64 0, .int .i64 t241, .int .i64 t242, .int .i64 x241004_1, .int .i64 x241005_1, .int .i64 x241006_1, .int .i64 x241007_1]) ?_ 4 _ rfl; (with_reducible repeat (first | refine blk_drewN ?_ _ | refine blk_drew ?_ | refine blk_alloc ?_ _)); refine blk_put (cs := #[.int .i64 a2, .int .i64 0, .int .i64 t241, .int .i64 x241003_1, .int .i64 x241004_1, .int .i64 x241005_1, .int .i64 x241006_1, .int .i64 x241007_1]) ?_ 3 _ rfl; (with_reducible repeat (first | refine blk_drewN ?_ _ | refine blk_drew ?_ | refine blk_alloc ?_ _)); refine blk_put (cs := #[.int .i64 a2, .int .i64 0, .int .i64 x241002_1, .int .i64 x241003_1, .int .i64 x241004_1, .int .i64 x241005_1, .int .i64 x241006_1, .int .i64 x241007_1]) ?_ 2 _ rfl; (with_reducible repeat (first | refine blk_drewN ?_ _ | refine blk_drew ?_ | refine blk_alloc ?_ _)); refine blk_put (cs := #[.int .i64 a2, .int .i64 x241001_1, .int .i64 x241002_1, .int .i64 x241003_1, .int .i64 x241004_1, .int .i64 x241005_1, .int .i64 x241006_1, .int .i64 x241007_1]) ?_ 1 _ rfl; (with_reducible repeat (first | refine blk_drewN ?_ _ | refine blk_drew ?_ | refine blk_alloc ?_ _)); refine blk_put (cs := #[.int .i64 x241000_1, .int .i64 x241001_1, .int .i64 x241002_1, .int .i64 x241003_1, .int .i64 x241004_1, .int .i64 x241005_1, .int .i64 x241006_1, .int .i64 x241007_1]) ?_ 0 _ rfl; (with_reducible repeat (first | refine blk_drewN ?_ _ | refine blk_drew ?_ | refine blk_alloc ?_ _)); exact BK240.out) Try.underlying38 rfl (by kernel_rfl)) rfl ?_
        exact ⟨by first | rfl | (simp [errW_none, errW_some] <;> rfl) | (simp [*, errW_none, errW_some] <;> rfl) | (rw [Int.tdiv_eq_ediv_of_nonneg (by assumption)]; rfl), by repeat (first | (with_reducible first | exact HB.out | apply below_alloc | apply pw_below_drewN | apply below_drew1 | refine below_set ?_ GE238.out | refine below_set ?_ GE239.out | refine below_set ?_ GE240.out) | exact HB.out)⟩

end Go.Proofs.Ytfcocbkfodmmbaa.PA
