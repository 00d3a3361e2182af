-- WRITTEN BY A PROGRAM OF THIS SESSION (a turned copy of the kit's printer), for this claim. Nothing here is trusted: Lean checks it.
import Derived.Test.YtdmmlidgipedaaaDoorPAx0
import Derived.Test.YtdmmlidgipedaaaDoorPAx2
import Derived.Test.YtdmmlidgipedaaaDoorPAx3
namespace Go.Proofs.YtdmmlidgipedaaaDoor.PA
open Go.RowKit Go.Proofs.YtdmmlidgipedaaaDoorW.PrintWords Go.Proofs.YtdmmlidgipedaaaDoorW.PrintLast Go.Proofs.YtdmmlidgipedaaaDoorW.PrintMore
attribute [local go_sem] max2_int min2_int max_two min_two max_three min_three max_four min_four   -- for this text's walks alone
set_option linter.unusedVariables false
set_option linter.unusedSimpArgs false

/-! ### blast_Hurts: function 5 -/
def blast_Hurts.j0 : Nat → Int → Int → Bool → Int → Int → Int → Int → Option (Int)
 | 0, _, _, _, _, _, _, _ => none
 | k + 1, x1, x2, x19, x111000, x111001, x111002, x111003 => if x19 = true then (some 0) else (if (wrap64 ((wrap64 ((wrap64 (x1 - x111000)) * (wrap64 (x1 - x111000)))) + (wrap64 ((wrap64 (x2 - x111001)) * (wrap64 (x2 - x111001)))))) ≥ (wrap64 ((mx (wrap64 (x111003 * 65536)) 32768) * (mx (wrap64 (x111003 * 65536)) 32768))) then (some 0) else (if (wrap64 ((mx (wrap64 (x111003 * 65536)) 32768) * (mx (wrap64 (x111003 * 65536)) 32768))) = 0 then (none) else (some (wrap64 (Int.tdiv (wrap64 (x111002 * (wrap64 ((wrap64 ((mx (wrap64 (x111003 * 65536)) 32768) * (mx (wrap64 (x111003 * 65536)) 32768))) - (wrap64 ((wrap64 ((wrap64 (x1 - x111000)) * (wrap64 (x1 - x111000)))) + (wrap64 ((wrap64 (x2 - x111001)) * (wrap64 (x2 - x111001)))))))))) (wrap64 ((mx (wrap64 (x111003 * 65536)) 32768) * (mx (wrap64 (x111003 * 65536)) 32768))))))))
def blast_Hurts.f (k : Nat) (a0_0 : Int) (a0_1 : Int) (a0_2 : Int) (a0_3 : Int) (a1 : Int) (a2 : Int) : Option (Int) := (blast_may.f a0_0 a0_1 a0_2 a0_3).bind fun t111 => (if t111 = true then ((blast_span.f a1 a2).bind fun t112 => (blast_Hurts.j0 k a1 a2 (!t112) a0_0 a0_1 a0_2 a0_3)) else (blast_Hurts.j0 k a1 a2 true a0_0 a0_1 a0_2 a0_3))
theorem blast_Hurts.mono_l : ∀ k, (∀ y0 y1 y2 y3 y4 y5 y6, LeO (blast_Hurts.j0 k y0 y1 y2 y3 y4 y5 y6) (blast_Hurts.j0 (k + 1) y0 y1 y2 y3 y4 y5 y6))
 | 0 => fun _ _ _ _ _ _ _ r h => by simp [blast_Hurts.j0] at h
 | k + 1 => by
  have ih0 := blast_Hurts.mono_l k
  ·
   intro y0 y1 y2 y3 y4 y5 y6
   unfold blast_Hurts.j0
   repeat' first
   | (with_reducible exact ih0 _ _ _ _ _ _ _)
   | (with_reducible exact LeO.refl _)
   | (with_reducible exact LeO.none _)
   | (with_reducible refine LeO.ite ?_ ?_)
   | (with_reducible refine LeO.bind ?_ (fun _ => ?_))
   | exact ih0 _ _ _ _ _ _ _
   | exact LeO.none _
   | refine LeO.ite ?_ ?_
   | refine LeO.bind ?_ (fun _ => ?_)
theorem blast_Hurts.mono : ∀ a0 a1 a2 a3 a4 a5 k, LeO (blast_Hurts.f k a0 a1 a2 a3 a4 a5) (blast_Hurts.f (k + 1) a0 a1 a2 a3 a4 a5) := by
 intro a0 a1 a2 a3 a4 a5 k
 have ih0 := blast_Hurts.mono_l k
 unfold blast_Hurts.f
 repeat' first
   | (with_reducible exact ih0 _ _ _ _ _ _ _)
   | (with_reducible exact LeO.refl _)
   | (with_reducible exact LeO.none _)
   | (with_reducible refine LeO.ite ?_ ?_)
   | (with_reducible refine LeO.bind ?_ (fun _ => ?_))
   | exact ih0 _ _ _ _ _ _ _
   | exact LeO.none _
   | refine LeO.ite ?_ ?_
   | refine LeO.bind ?_ (fun _ => ?_)
set_option maxHeartbeats 8000000 in
set_option maxRecDepth 100000 in
theorem blast_Hurts.calls (k : Nat) (a0_0 : Int) (a0_1 : Int) (a0_2 : Int) (a0_3 : Int) (a1 : Int) (a2 : Int) (r : Int) (w : World) (h : blast_Hurts.f k a0_0 a0_1 a0_2 a0_3 a1 a2 = some r) :
  Calls Tryd.prog 5 #[.agg #[.int .i64 a0_0, .int .i64 a0_1, .int .i64 a0_2, .int .i64 a0_3], .int .i64 a1, .int .i64 a2] w fun e w' => e = .returned (.int .i64 r) ∧ Below w.heap.size w w' := by
 have hu33 := Tryd.underlying33
 have HB := Aside0.mk (Below.refl w.heap.size w)
 have H : ((blast_may.f a0_0 a0_1 a0_2 a0_3).bind fun t111 => (if t111 = true then ((blast_span.f a1 a2).bind fun t112 => (blast_Hurts.j0 k a1 a2 (!t112) a0_0 a0_1 a0_2 a0_3)) else (blast_Hurts.j0 k a1 a2 true a0_0 a0_1 a0_2 a0_3))) = some r := h
 clear h
 have HC4 := Aside0.mk H
 clear H
 go_enter Tryd.func5, Tryd.ntmps5
 go_upto_region 1 with (first | ((with_reducible refine gate_dst (N := 3) rfl ?_); refine box_event ?hg (N := 3) ?hd (cs := #[.int .i64 a0_0, .int .i64 a0_1, .int .i64 a0_2, .int .i64 a0_3]) (t := 33) ?hr ?_; (case hd => rfl); (case hg => rfl); (case hr => first | (go_simp; done) | (go_simp; rfl)); intro gb110 hg w5 hbox hb; have n0_ := Aside0.mk (below_step (by repeat (first | (with_reducible first | exact HB.out | apply below_alloc | apply pw_below_drewN | apply below_drew1) | exact HB.out)) hb); have n1_ := Aside0.mk (hbox); have n2_ := Aside0.mk ((by rw [hg]; exact (below_size (by repeat (first | (with_reducible first | exact HB.out | apply below_alloc | apply pw_below_drewN | apply below_drew1) | exact HB.out))) : w.heap.size ≤ gb110)); have n3_ := Aside0.mk ((by rw [hg]; exact (below_size (by repeat (first | (with_reducible first | exact HB.out | apply below_alloc | apply pw_below_drewN | apply below_drew1) | exact HB.out))) : w.heap.size ≤ gb110)); clear HB; have HB := n0_; have BK110 := n1_; have GW110 := n2_; have GE110 := n3_; clear n0_ n1_ n2_ n3_; clear hb hbox hg))
 repeat (go_quiet (first | ((with_reducible refine gate_dst (N := 3) rfl ?_); refine box_event ?hg (N := 3) ?hd (cs := #[.int .i64 a0_0, .int .i64 a0_1, .int .i64 a0_2, .int .i64 a0_3]) (t := 33) ?hr ?_; (case hd => rfl); (case hg => rfl); (case hr => first | (go_simp; done) | (go_simp; rfl)); intro gb110 hg w5 hbox hb; have n0_ := Aside0.mk (below_step (by repeat (first | (with_reducible first | exact HB.out | apply below_alloc | apply pw_below_drewN | apply below_drew1) | exact HB.out)) hb); have n1_ := Aside0.mk (hbox); have n2_ := Aside0.mk ((by rw [hg]; exact (below_size (by repeat (first | (with_reducible first | exact HB.out | apply below_alloc | apply pw_below_drewN | apply below_drew1) | exact HB.out))) : w.heap.size ≤ gb110)); have n3_ := Aside0.mk ((by rw [hg]; exact (below_size (by repeat (first | (with_reducible first | exact HB.out | apply below_alloc | apply pw_below_drewN | apply below_drew1) | exact HB.out))) : w.heap.size ≤ gb110)); clear HB; have HB := n0_; have BK110 := n1_; have GW110 := n2_; have GE110 := n3_; clear n0_ n1_ n2_ n3_; clear hb hbox hg)); go_upto_region 1 with (first | ((with_reducible refine gate_dst (N := 3) rfl ?_); refine box_event ?hg (N := 3) ?hd (cs := #[.int .i64 a0_0, .int .i64 a0_1, .int .i64 a0_2, .int .i64 a0_3]) (t := 33) ?hr ?_; (case hd => rfl); (case hg => rfl); (case hr => first | (go_simp; done) | (go_simp; rfl)); intro gb110 hg w5 hbox hb; have n0_ := Aside0.mk (below_step (by repeat (first | (with_reducible first | exact HB.out | apply below_alloc | apply pw_below_drewN | apply below_drew1) | exact HB.out)) hb); have n1_ := Aside0.mk (hbox); have n2_ := Aside0.mk ((by rw [hg]; exact (below_size (by repeat (first | (with_reducible first | exact HB.out | apply below_alloc | apply pw_below_drewN | apply below_drew1) | exact HB.out))) : w.heap.size ≤ gb110)); have n3_ := Aside0.mk ((by rw [hg]; exact (below_size (by repeat (first | (with_reducible first | exact HB.out | apply below_alloc | apply pw_below_drewN | apply below_drew1) | exact HB.out))) : w.heap.size ≤ gb110)); clear HB; have HB := n0_; have BK110 := n1_; have GW110 := n2_; have GE110 := n3_; clear n0_ n1_ n2_ n3_; clear hb hbox hg)))
 (try simp only [Act.put, List.setIfInBounds_toArray, List.set_cons_zero, List.set_cons_succ])
 go_cut [19] (fun v19 wc => ∃ (kq : Nat) (x19_3 : Bool), v19 = .bool x19_3 ∧ Aside0 (blast_Hurts.j0 kq a1 a2 x19_3 a0_0 a0_1 a0_2 a0_3 = some r) ∧ Aside0 (kq ≤ k) ∧ Aside0 (wc.heap[gb110]? = some (.cells #[.int .i64 a0_0, .int .i64 a0_1, .int .i64 a0_2, .int .i64 a0_3] 33 (0, 0))) ∧ Aside0 (Below w.heap.size w wc))
 case first =>
  have H := HC4.out
  clear HC4
  replace H := Option.bind_eq_some_iff.mp H
  obtain ⟨t111, A60, H⟩ := H
  replace H : (if t111 = true then ((blast_span.f a1 a2).bind fun t112 => (blast_Hurts.j0 k a1 a2 (!t112) a0_0 a0_1 a0_2 a0_3)) else (blast_Hurts.j0 k a1 a2 true a0_0 a0_1 a0_2 a0_3)) = some r := H
  have A6 := Aside0.mk A60
  clear A60
  by_cases c7 : t111 = true
  ·
   subst c7
   have H1 : ((blast_span.f a1 a2).bind fun t112 => (blast_Hurts.j0 k a1 a2 (!t112) a0_0 a0_1 a0_2 a0_3)) = some r := by rw [if_pos rfl] at H; exact H
   clear H
   have H := H1
   clear H1
   replace H := Option.bind_eq_some_iff.mp H
   obtain ⟨t112, A80, H⟩ := H
   replace H : (blast_Hurts.j0 k a1 a2 (!t112) a0_0 a0_1 a0_2 a0_3) = some r := H
   have A8 := Aside0.mk A80
   clear A80
   have H' := Aside0.mk H
   clear H
   have hcz9_0 : w5.cell? ⟨gb110, 0, none⟩ = some (.int .i64 a0_0) := (blk_cell BK110.out 0).trans rfl
   have hcz9_1 : w5.cell? ⟨gb110, 1, none⟩ = some (.int .i64 a0_1) := (blk_cell BK110.out 1).trans rfl
   have hcz9_2 : w5.cell? ⟨gb110, 2, none⟩ = some (.int .i64 a0_2) := (blk_cell BK110.out 2).trans rfl
   have hcz9_3 : w5.cell? ⟨gb110, 3, none⟩ = some (.int .i64 a0_3) := (blk_cell BK110.out 3).trans rfl
   have hfz9_0 := blk_frozen BK110.out 0
   have hfz9_1 := blk_frozen BK110.out 1
   have hfz9_2 := blk_frozen BK110.out 2
   have hfz9_3 := blk_frozen BK110.out 3
   go_wp2_with (first | (go_at_call 8; (with_reducible refine (blast_may.calls a0_0 a0_1 a0_2 a0_3 true _ A6.out).mono ?_); rintro e w10 ⟨rfl, hb⟩; have n0_ := Aside0.mk (blk_below (g := gb110) (o := .cells #[.int .i64 a0_0, .int .i64 a0_1, .int .i64 a0_2, .int .i64 a0_3] 33 (0, 0)) (by (with_reducible repeat (first | refine blk_drewN ?_ _ | refine blk_drew ?_ | refine blk_alloc ?_ _)); exact BK110.out) hb); have n1_ := Aside0.mk (below_step (by repeat (first | (with_reducible first | exact HB.out | apply below_alloc | apply pw_below_drewN | apply below_drew1 | refine below_set ?_ GE110.out) | exact HB.out)) hb); clear BK110; clear HB; have BK110 := n0_; have HB := n1_; clear n0_ n1_; (try clear hb); (try clear hb2); (try clear hk); (try clear hi)) | (go_at_call 9; (with_reducible refine (blast_span.calls a1 a2 t112 _ A8.out).mono ?_); rintro e w' ⟨rfl, ⟨nd, rfl⟩⟩; (try first | exact ⟨rfl, _, World.drewN_drewN _ _ _⟩ | exact ⟨rfl, _, Eq.trans (World.drewN_drewN _ _ _) (congrArg (World.drewN _) (Nat.add_assoc _ _ _))⟩)))
   repeat (go_quiet (first | (go_at_call 8; (with_reducible refine (blast_may.calls a0_0 a0_1 a0_2 a0_3 true _ A6.out).mono ?_); rintro e w10 ⟨rfl, hb⟩; have n0_ := Aside0.mk (blk_below (g := gb110) (o := .cells #[.int .i64 a0_0, .int .i64 a0_1, .int .i64 a0_2, .int .i64 a0_3] 33 (0, 0)) (by (with_reducible repeat (first | refine blk_drewN ?_ _ | refine blk_drew ?_ | refine blk_alloc ?_ _)); exact BK110.out) hb); have n1_ := Aside0.mk (below_step (by repeat (first | (with_reducible first | exact HB.out | apply below_alloc | apply pw_below_drewN | apply below_drew1 | refine below_set ?_ GE110.out) | exact HB.out)) hb); clear BK110; clear HB; have BK110 := n0_; have HB := n1_; clear n0_ n1_; (try clear hb); (try clear hb2); (try clear hk); (try clear hi)) | (go_at_call 9; (with_reducible refine (blast_span.calls a1 a2 t112 _ A8.out).mono ?_); rintro e w' ⟨rfl, ⟨nd, rfl⟩⟩; (try first | exact ⟨rfl, _, World.drewN_drewN _ _ _⟩ | exact ⟨rfl, _, Eq.trans (World.drewN_drewN _ _ _) (congrArg (World.drewN _) (Nat.add_assoc _ _ _))⟩))); try go_wp2_with (first | (go_at_call 8; (with_reducible refine (blast_may.calls a0_0 a0_1 a0_2 a0_3 true _ A6.out).mono ?_); rintro e w10 ⟨rfl, hb⟩; have n0_ := Aside0.mk (blk_below (g := gb110) (o := .cells #[.int .i64 a0_0, .int .i64 a0_1, .int .i64 a0_2, .int .i64 a0_3] 33 (0, 0)) (by (with_reducible repeat (first | refine blk_drewN ?_ _ | refine blk_drew ?_ | refine blk_alloc ?_ _)); exact BK110.out) hb); have n1_ := Aside0.mk (below_step (by repeat (first | (with_reducible first | exact HB.out | apply below_alloc | apply pw_below_drewN | apply below_drew1 | refine below_set ?_ GE110.out) | exact HB.out)) hb); clear BK110; clear HB; have BK110 := n0_; have HB := n1_; clear n0_ n1_; (try clear hb); (try clear hb2); (try clear hk); (try clear hi)) | (go_at_call 9; (with_reducible refine (blast_span.calls a1 a2 t112 _ A8.out).mono ?_); rintro e w' ⟨rfl, ⟨nd, rfl⟩⟩; (try first | exact ⟨rfl, _, World.drewN_drewN _ _ _⟩ | exact ⟨rfl, _, Eq.trans (World.drewN_drewN _ _ _) (congrArg (World.drewN _) (Nat.add_assoc _ _ _))⟩))))
   go_meet
   case rel => exact ⟨_, (!t112), (by first | rfl | (simp; done) | (simp [*]; done)), H', ⟨by first | omega | exact Nat.le_refl _⟩, ⟨by (with_reducible repeat (first | refine blk_drewN ?_ _ | refine blk_drew ?_ | refine blk_alloc ?_ _)); exact BK110.out⟩, ⟨by repeat (first | (with_reducible first | exact HB.out | apply below_alloc | apply pw_below_drewN | apply below_drew1 | refine below_set ?_ GE110.out) | exact HB.out)⟩⟩
  ·
   replace c7 := Bool.eq_false_iff.mpr c7
   subst c7
   have H1 : (blast_Hurts.j0 k a1 a2 true a0_0 a0_1 a0_2 a0_3) = some r := by rw [if_neg (show ¬ (false = true) by decide)] at H; exact H
   clear H
   have H := H1
   clear H1
   have H' := Aside0.mk H
   clear H
   have hcz11_0 : w5.cell? ⟨gb110, 0, none⟩ = some (.int .i64 a0_0) := (blk_cell BK110.out 0).trans rfl
   have hcz11_1 : w5.cell? ⟨gb110, 1, none⟩ = some (.int .i64 a0_1) := (blk_cell BK110.out 1).trans rfl
   have hcz11_2 : w5.cell? ⟨gb110, 2, none⟩ = some (.int .i64 a0_2) := (blk_cell BK110.out 2).trans rfl
   have hcz11_3 : w5.cell? ⟨gb110, 3, none⟩ = some (.int .i64 a0_3) := (blk_cell BK110.out 3).trans rfl
   have hfz11_0 := blk_frozen BK110.out 0
   have hfz11_1 := blk_frozen BK110.out 1
   have hfz11_2 := blk_frozen BK110.out 2
   have hfz11_3 := blk_frozen BK110.out 3
   go_wp2_with (first | (go_at_call 8; (with_reducible refine (blast_may.calls a0_0 a0_1 a0_2 a0_3 false _ A6.out).mono ?_); rintro e w12 ⟨rfl, hb⟩; have n0_ := Aside0.mk (blk_below (g := gb110) (o := .cells #[.int .i64 a0_0, .int .i64 a0_1, .int .i64 a0_2, .int .i64 a0_3] 33 (0, 0)) (by (with_reducible repeat (first | refine blk_drewN ?_ _ | refine blk_drew ?_ | refine blk_alloc ?_ _)); exact BK110.out) hb); have n1_ := Aside0.mk (below_step (by repeat (first | (with_reducible first | exact HB.out | apply below_alloc | apply pw_below_drewN | apply below_drew1 | refine below_set ?_ GE110.out) | exact HB.out)) hb); clear BK110; clear HB; have BK110 := n0_; have HB := n1_; clear n0_ n1_; (try clear hb); (try clear hb2); (try clear hk); (try clear hi)))
   repeat (go_quiet (first | (go_at_call 8; (with_reducible refine (blast_may.calls a0_0 a0_1 a0_2 a0_3 false _ A6.out).mono ?_); rintro e w12 ⟨rfl, hb⟩; have n0_ := Aside0.mk (blk_below (g := gb110) (o := .cells #[.int .i64 a0_0, .int .i64 a0_1, .int .i64 a0_2, .int .i64 a0_3] 33 (0, 0)) (by (with_reducible repeat (first | refine blk_drewN ?_ _ | refine blk_drew ?_ | refine blk_alloc ?_ _)); exact BK110.out) hb); have n1_ := Aside0.mk (below_step (by repeat (first | (with_reducible first | exact HB.out | apply below_alloc | apply pw_below_drewN | apply below_drew1 | refine below_set ?_ GE110.out) | exact HB.out)) hb); clear BK110; clear HB; have BK110 := n0_; have HB := n1_; clear n0_ n1_; (try clear hb); (try clear hb2); (try clear hk); (try clear hi))); try go_wp2_with (first | (go_at_call 8; (with_reducible refine (blast_may.calls a0_0 a0_1 a0_2 a0_3 false _ A6.out).mono ?_); rintro e w12 ⟨rfl, hb⟩; have n0_ := Aside0.mk (blk_below (g := gb110) (o := .cells #[.int .i64 a0_0, .int .i64 a0_1, .int .i64 a0_2, .int .i64 a0_3] 33 (0, 0)) (by (with_reducible repeat (first | refine blk_drewN ?_ _ | refine blk_drew ?_ | refine blk_alloc ?_ _)); exact BK110.out) hb); have n1_ := Aside0.mk (below_step (by repeat (first | (with_reducible first | exact HB.out | apply below_alloc | apply pw_below_drewN | apply below_drew1 | refine below_set ?_ GE110.out) | exact HB.out)) hb); clear BK110; clear HB; have BK110 := n0_; have HB := n1_; clear n0_ n1_; (try clear hb); (try clear hb2); (try clear hk); (try clear hi))))
   go_meet
   case rel => exact ⟨_, (true), (by first | rfl | (simp; done) | (simp [*]; done)), H', ⟨by first | omega | exact Nat.le_refl _⟩, ⟨by (with_reducible repeat (first | refine blk_drewN ?_ _ | refine blk_drew ?_ | refine blk_alloc ?_ _)); exact BK110.out⟩, ⟨by repeat (first | (with_reducible first | exact HB.out | apply below_alloc | apply pw_below_drewN | apply below_drew1 | refine below_set ?_ GE110.out) | exact HB.out)⟩⟩
 case rest =>
  clear HC4
  try clear p2
  try clear c5
  try clear c7
  try clear hcz11_0
  try clear hcz11_1
  try clear hcz11_2
  try clear hcz11_3
  try clear hcz9_0
  try clear hcz9_1
  try clear hcz9_2
  try clear hcz9_3
  try clear hfz11_0
  try clear hfz11_1
  try clear hfz11_2
  try clear hfz11_3
  try clear hfz9_0
  try clear hfz9_1
  try clear hfz9_2
  try clear hfz9_3
  obtain ⟨kq, x19_3, rfl, HA, HJ3, BK110, HB⟩ := hcut
  cases kq with
  | zero => exact absurd HA.out (by simp [blast_Hurts.j0])
  | succ kj3 =>
   have H := HA.out
   clear HA
   simp only [blast_Hurts.j0] at H
   by_cases c13 : x19_3 = true
   ·
    subst c13
    have H1 : (some 0) = some r := by rw [if_pos rfl] at H; exact H
    clear H
    have H := H1
    clear H1
    obtain rfl := Option.some.inj H
    go_wp2
    repeat (go_quiet (fail); try go_wp2)
    go_ret
    exact ⟨by first | rfl | (simp [errW_none, errW_some] <;> rfl) | (simp [*, errW_none, errW_some] <;> rfl) | (rw [Int.tdiv_eq_ediv_of_nonneg (by assumption)]; rfl), by repeat (first | (with_reducible first | exact HB.out | apply below_alloc | apply pw_below_drewN | apply below_drew1 | refine below_set ?_ GE110.out) | exact HB.out)⟩
   ·
    replace c13 := Bool.eq_false_iff.mpr c13
    subst c13
    have H1 : (if (wrap64 ((wrap64 ((wrap64 (a1 - a0_0)) * (wrap64 (a1 - a0_0)))) + (wrap64 ((wrap64 (a2 - a0_1)) * (wrap64 (a2 - a0_1)))))) ≥ (wrap64 ((mx (wrap64 (a0_3 * 65536)) 32768) * (mx (wrap64 (a0_3 * 65536)) 32768))) then (some 0) else (if (wrap64 ((mx (wrap64 (a0_3 * 65536)) 32768) * (mx (wrap64 (a0_3 * 65536)) 32768))) = 0 then (none) else (some (wrap64 (Int.tdiv (wrap64 (a0_2 * (wrap64 ((wrap64 ((mx (wrap64 (a0_3 * 65536)) 32768) * (mx (wrap64 (a0_3 * 65536)) 32768))) - (wrap64 ((wrap64 ((wrap64 (a1 - a0_0)) * (wrap64 (a1 - a0_0)))) + (wrap64 ((wrap64 (a2 - a0_1)) * (wrap64 (a2 - a0_1)))))))))) (wrap64 ((mx (wrap64 (a0_3 * 65536)) 32768) * (mx (wrap64 (a0_3 * 65536)) 32768)))))))) = some r := by rw [if_neg (show ¬ (false = true) by decide)] at H; exact H
    clear H
    have H := H1
    clear H1
    obtain ⟨ji14, hji14⟩ : ∃ j_ : Int, (mx (wrap64 (a0_3 * 65536)) 32768) = j_ := ⟨_, rfl⟩
    replace H : (if (wrap64 ((wrap64 ((wrap64 (a1 - a0_0)) * (wrap64 (a1 - a0_0)))) + (wrap64 ((wrap64 (a2 - a0_1)) * (wrap64 (a2 - a0_1)))))) ≥ (wrap64 ((ji14) * (ji14))) then (some 0) else (if (wrap64 ((ji14) * (ji14))) = 0 then (none) else (some (wrap64 (Int.tdiv (wrap64 (a0_2 * (wrap64 ((wrap64 ((ji14) * (ji14))) - (wrap64 ((wrap64 ((wrap64 (a1 - a0_0)) * (wrap64 (a1 - a0_0)))) + (wrap64 ((wrap64 (a2 - a0_1)) * (wrap64 (a2 - a0_1)))))))))) (wrap64 ((ji14) * (ji14)))))))) = some r := by first | (rw [hji14] at H; exact H) | (simp only [hji14] at H ⊢; exact H)
    have hji14_ : (if (wrap64 (a0_3 * 65536)) < 32768 then 32768 else (wrap64 (a0_3 * 65536))) = ji14 := hji14
    by_cases c15 : (wrap64 ((wrap64 ((wrap64 (a1 - a0_0)) * (wrap64 (a1 - a0_0)))) + (wrap64 ((wrap64 (a2 - a0_1)) * (wrap64 (a2 - a0_1)))))) ≥ (wrap64 ((ji14) * (ji14)))
    ·
     rw [if_pos c15] at H
     have c15b0 : decide ((wrap64 ((ji14) * (ji14))) ≤ (wrap64 ((wrap64 ((wrap64 (a1 - a0_0)) * (wrap64 (a1 - a0_0)))) + (wrap64 ((wrap64 (a2 - a0_1)) * (wrap64 (a2 - a0_1))))))) = true := decide_eq_true c15
     clear c15
     obtain rfl := Option.some.inj H
     have hcz16_0 : wc.cell? ⟨gb110, 0, none⟩ = some (.int .i64 a0_0) := (blk_cell BK110.out 0).trans rfl
     have hcz16_1 : wc.cell? ⟨gb110, 1, none⟩ = some (.int .i64 a0_1) := (blk_cell BK110.out 1).trans rfl
     have hcz16_2 : wc.cell? ⟨gb110, 2, none⟩ = some (.int .i64 a0_2) := (blk_cell BK110.out 2).trans rfl
     have hcz16_3 : wc.cell? ⟨gb110, 3, none⟩ = some (.int .i64 a0_3) := (blk_cell BK110.out 3).trans rfl
     have hfz16_0 := blk_frozen BK110.out 0
     have hfz16_1 := blk_frozen BK110.out 1
     have hfz16_2 := blk_frozen BK110.out 2
     have hfz16_3 := blk_frozen BK110.out 3
     go_wp2
     repeat (go_quiet (fail); try go_wp2)
     go_ret
     exact ⟨by first | rfl | (simp [errW_none, errW_some] <;> rfl) | (simp only [← hji14]; first | rfl | (simp [errW_none, errW_some] <;> rfl)) | (simp [*, errW_none, errW_some] <;> rfl) | (rw [Int.tdiv_eq_ediv_of_nonneg (by assumption)]; rfl), by repeat (first | (with_reducible first | exact HB.out | apply below_alloc | apply pw_below_drewN | apply below_drew1 | refine below_set ?_ GE110.out) | exact HB.out)⟩
    ·
     rw [if_neg c15] at H
     have c15b0 : decide ((wrap64 ((ji14) * (ji14))) ≤ (wrap64 ((wrap64 ((wrap64 (a1 - a0_0)) * (wrap64 (a1 - a0_0)))) + (wrap64 ((wrap64 (a2 - a0_1)) * (wrap64 (a2 - a0_1))))))) = false := decide_eq_false c15
     clear c15
     by_cases c17 : (wrap64 ((ji14) * (ji14))) = 0
     ·
      rw [if_pos c17] at H
      exact absurd H (by simp)
     ·
      rw [if_neg c17] at H
      have c17b0 : ((wrap64 ((ji14) * (ji14))) == 0) = false := beq_eq_false_iff_ne.mpr c17
      have c17b1 : ((wrap64 ((ji14) * (ji14))) != 0) = true := bne_iff_ne.mpr c17
      obtain rfl := Option.some.inj H
      have hcz18_0 : wc.cell? ⟨gb110, 0, none⟩ = some (.int .i64 a0_0) := (blk_cell BK110.out 0).trans rfl
      have hcz18_1 : wc.cell? ⟨gb110, 1, none⟩ = some (.int .i64 a0_1) := (blk_cell BK110.out 1).trans rfl
      have hcz18_2 : wc.cell? ⟨gb110, 2, none⟩ = some (.int .i64 a0_2) := (blk_cell BK110.out 2).trans rfl
      have hcz18_3 : wc.cell? ⟨gb110, 3, none⟩ = some (.int .i64 a0_3) := (blk_cell BK110.out 3).trans rfl
      have hfz18_0 := blk_frozen BK110.out 0
      have hfz18_1 := blk_frozen BK110.out 1
      have hfz18_2 := blk_frozen BK110.out 2
      have hfz18_3 := blk_frozen BK110.out 3
      go_wp2
      repeat (go_quiet (fail); try go_wp2)
      go_ret
      exact ⟨by first | rfl | (simp [errW_none, errW_some] <;> rfl) | (simp only [← hji14]; first | rfl | (simp [errW_none, errW_some] <;> rfl)) | (simp [*, errW_none, errW_some] <;> rfl) | (rw [Int.tdiv_eq_ediv_of_nonneg (by assumption)]; rfl), by repeat (first | (with_reducible first | exact HB.out | apply below_alloc | apply pw_below_drewN | apply below_drew1 | refine below_set ?_ GE110.out) | exact HB.out)⟩

end Go.Proofs.YtdmmlidgipedaaaDoor.PA
