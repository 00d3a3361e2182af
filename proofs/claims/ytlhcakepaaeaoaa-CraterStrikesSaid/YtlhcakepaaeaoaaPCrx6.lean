-- WRITTEN BY A PROGRAM OF THIS SESSION (a turned copy of the kit's printer), for this claim. Nothing here is trusted: Lean checks it.
import Derived.Test.YtlhcakepaaeaoaaPCrx0
import Derived.Test.YtlhcakepaaeaoaaPCrx3
import Derived.Test.YtlhcakepaaeaoaaPCrx4
namespace Go.Proofs.Ytlhcakepaaeaoaa.PCr
open Go.RowKit Go.Proofs.YtlhcakepaaeaoaaW.PrintWords Go.Proofs.YtlhcakepaaeaoaaW.PrintLast Go.Proofs.YtlhcakepaaeaoaaW.PrintMore
attribute [local go_sem] max2_int min2_int max_two min_two max_three min_three max_four min_four   -- for this text's walks alone
set_option linter.unusedVariables false
set_option linter.unusedSimpArgs false

/-! ### bivouacref09_Lowers: function 16 -/
def bivouacref09_Lowers.j0 : Nat → Int → Int → Bool → Int → Int → Int → Int → Option (Int)
 | 0, _, _, _, _, _, _, _ => none
 | k + 1, x1, x2, x21, x112000, x112001, x112002, x112003 => if x21 = true then (some 0) else (if (wrap64 ((wrap64 ((wrap64 (x1 - x112000)) * (wrap64 (x1 - x112000)))) + (wrap64 ((wrap64 (x2 - x112001)) * (wrap64 (x2 - x112001)))))) ≥ (wrap64 (x112002 * x112002)) then (some 0) else (if (wrap64 (x112002 * x112002)) = 0 then (none) else (some (wrap64 (Int.tdiv (wrap64 (x112003 * (wrap64 ((wrap64 (x112002 * x112002)) - (wrap64 ((wrap64 ((wrap64 (x1 - x112000)) * (wrap64 (x1 - x112000)))) + (wrap64 ((wrap64 (x2 - x112001)) * (wrap64 (x2 - x112001)))))))))) (wrap64 (x112002 * x112002)))))))
def bivouacref09_Lowers.f (k : Nat) (a0_0 : Int) (a0_1 : Int) (a0_2 : Int) (a0_3 : Int) (a1 : Int) (a2 : Int) : Option (Int) := (bivouacref09_May.f a0_0 a0_1 a0_2 a0_3).bind fun t112 => (if t112 = true then ((bivouacref09_place.f a1).bind fun t113 => (if t113 = true then ((bivouacref09_place.f a2).bind fun t114 => (bivouacref09_Lowers.j0 k a1 a2 (!t114) a0_0 a0_1 a0_2 a0_3)) else (bivouacref09_Lowers.j0 k a1 a2 true a0_0 a0_1 a0_2 a0_3))) else (bivouacref09_Lowers.j0 k a1 a2 true a0_0 a0_1 a0_2 a0_3))
theorem bivouacref09_Lowers.mono_l : ∀ k, (∀ y0 y1 y2 y3 y4 y5 y6, LeO (bivouacref09_Lowers.j0 k y0 y1 y2 y3 y4 y5 y6) (bivouacref09_Lowers.j0 (k + 1) y0 y1 y2 y3 y4 y5 y6))
 | 0 => fun _ _ _ _ _ _ _ r h => by simp [bivouacref09_Lowers.j0] at h
 | k + 1 => by
  have ih0 := bivouacref09_Lowers.mono_l k
  ·
   intro y0 y1 y2 y3 y4 y5 y6
   unfold bivouacref09_Lowers.j0
   repeat' first
   | (with_reducible exact ih0 _ _ _ _ _ _ _)
   | (with_reducible exact LeO.refl _)
   | (with_reducible exact LeO.none _)
   | (with_reducible refine LeO.ite ?_ ?_)
   | (with_reducible refine LeO.bind ?_ (fun _ => ?_))
   | exact ih0 _ _ _ _ _ _ _
   | exact LeO.none _
   | refine LeO.ite ?_ ?_
   | refine LeO.bind ?_ (fun _ => ?_)
theorem bivouacref09_Lowers.mono : ∀ a0 a1 a2 a3 a4 a5 k, LeO (bivouacref09_Lowers.f k a0 a1 a2 a3 a4 a5) (bivouacref09_Lowers.f (k + 1) a0 a1 a2 a3 a4 a5) := by
 intro a0 a1 a2 a3 a4 a5 k
 have ih0 := bivouacref09_Lowers.mono_l k
 unfold bivouacref09_Lowers.f
 repeat' first
   | (with_reducible exact ih0 _ _ _ _ _ _ _)
   | (with_reducible exact LeO.refl _)
   | (with_reducible exact LeO.none _)
   | (with_reducible refine LeO.ite ?_ ?_)
   | (with_reducible refine LeO.bind ?_ (fun _ => ?_))
   | exact ih0 _ _ _ _ _ _ _
   | exact LeO.none _
   | refine LeO.ite ?_ ?_
   | refine LeO.bind ?_ (fun _ => ?_)
set_option maxHeartbeats 8000000 in
set_option maxRecDepth 100000 in
theorem bivouacref09_Lowers.calls (k : Nat) (a0_0 : Int) (a0_1 : Int) (a0_2 : Int) (a0_3 : Int) (a1 : Int) (a2 : Int) (r : Int) (w : World) (h : bivouacref09_Lowers.f k a0_0 a0_1 a0_2 a0_3 a1 a2 = some r) :
  Calls Try.prog 16 #[.agg #[.int .i64 a0_0, .int .i64 a0_1, .int .i64 a0_2, .int .i64 a0_3], .int .i64 a1, .int .i64 a2] w fun e w' => e = .returned (.int .i64 r) ∧ Below w.heap.size w w' := by
 have hu23 := Try.underlying23
 have HB := Aside0.mk (Below.refl w.heap.size w)
 have H : ((bivouacref09_May.f a0_0 a0_1 a0_2 a0_3).bind fun t112 => (if t112 = true then ((bivouacref09_place.f a1).bind fun t113 => (if t113 = true then ((bivouacref09_place.f a2).bind fun t114 => (bivouacref09_Lowers.j0 k a1 a2 (!t114) a0_0 a0_1 a0_2 a0_3)) else (bivouacref09_Lowers.j0 k a1 a2 true a0_0 a0_1 a0_2 a0_3))) else (bivouacref09_Lowers.j0 k a1 a2 true a0_0 a0_1 a0_2 a0_3))) = some r := h
 clear h
 have HC4 := Aside0.mk H
 clear H
 go_enter Try.func16, Try.ntmps16
 go_upto_region 1 with (first | ((with_reducible refine gate_dst (N := 3) rfl ?_); refine box_event ?hg (N := 3) ?hd (cs := #[.int .i64 a0_0, .int .i64 a0_1, .int .i64 a0_2, .int .i64 a0_3]) (t := 23) ?hr ?_; (case hd => rfl); (case hg => rfl); (case hr => first | (go_simp; done) | (go_simp; rfl)); intro gb111 hg w5 hbox hb; have n0_ := Aside0.mk (below_step (by repeat (first | (with_reducible first | exact HB.out | apply below_alloc | apply pw_below_drewN | apply below_drew1) | exact HB.out)) hb); have n1_ := Aside0.mk (hbox); have n2_ := Aside0.mk ((by rw [hg]; exact (below_size (by repeat (first | (with_reducible first | exact HB.out | apply below_alloc | apply pw_below_drewN | apply below_drew1) | exact HB.out))) : w.heap.size ≤ gb111)); have n3_ := Aside0.mk ((by rw [hg]; exact (below_size (by repeat (first | (with_reducible first | exact HB.out | apply below_alloc | apply pw_below_drewN | apply below_drew1) | exact HB.out))) : w.heap.size ≤ gb111)); clear HB; have HB := n0_; have BK111 := n1_; have GW111 := n2_; have GE111 := n3_; clear n0_ n1_ n2_ n3_; clear hb hbox hg))
 (try simp only [Act.put, List.setIfInBounds_toArray, List.set_cons_zero, List.set_cons_succ])
 go_cut [21] (fun v21 wc => ∃ (kq : Nat) (x21_3 : Bool), v21 = .bool x21_3 ∧ Aside0 (bivouacref09_Lowers.j0 kq a1 a2 x21_3 a0_0 a0_1 a0_2 a0_3 = some r) ∧ Aside0 (kq ≤ k) ∧ Aside0 (wc.heap[gb111]? = some (.cells #[.int .i64 a0_0, .int .i64 a0_1, .int .i64 a0_2, .int .i64 a0_3] 23 (0, 0))) ∧ Aside0 (Below w.heap.size w wc))
 case first =>
  have H := HC4.out
  clear HC4
  replace H := Option.bind_eq_some_iff.mp H
  obtain ⟨t112, A60, H⟩ := H
  replace H : (if t112 = true then ((bivouacref09_place.f a1).bind fun t113 => (if t113 = true then ((bivouacref09_place.f a2).bind fun t114 => (bivouacref09_Lowers.j0 k a1 a2 (!t114) a0_0 a0_1 a0_2 a0_3)) else (bivouacref09_Lowers.j0 k a1 a2 true a0_0 a0_1 a0_2 a0_3))) else (bivouacref09_Lowers.j0 k a1 a2 true a0_0 a0_1 a0_2 a0_3)) = some r := H
  have A6 := Aside0.mk A60
  clear A60
  by_cases c7 : t112 = true
  ·
   subst c7
   have H1 : ((bivouacref09_place.f a1).bind fun t113 => (if t113 = true then ((bivouacref09_place.f a2).bind fun t114 => (bivouacref09_Lowers.j0 k a1 a2 (!t114) a0_0 a0_1 a0_2 a0_3)) else (bivouacref09_Lowers.j0 k a1 a2 true a0_0 a0_1 a0_2 a0_3))) = some r := by rw [if_pos rfl] at H; exact H
   clear H
   have H := H1
   clear H1
   replace H := Option.bind_eq_some_iff.mp H
   obtain ⟨t113, A80, H⟩ := H
   replace H : (if t113 = true then ((bivouacref09_place.f a2).bind fun t114 => (bivouacref09_Lowers.j0 k a1 a2 (!t114) a0_0 a0_1 a0_2 a0_3)) else (bivouacref09_Lowers.j0 k a1 a2 true a0_0 a0_1 a0_2 a0_3)) = some r := H
   have A8 := Aside0.mk A80
   clear A80
   by_cases c9 : t113 = true
   ·
    subst c9
    have H1 : ((bivouacref09_place.f a2).bind fun t114 => (bivouacref09_Lowers.j0 k a1 a2 (!t114) a0_0 a0_1 a0_2 a0_3)) = some r := by rw [if_pos rfl] at H; exact H
    clear H
    have H := H1
    clear H1
    replace H := Option.bind_eq_some_iff.mp H
    obtain ⟨t114, A100, H⟩ := H
    replace H : (bivouacref09_Lowers.j0 k a1 a2 (!t114) a0_0 a0_1 a0_2 a0_3) = some r := H
    have A10 := Aside0.mk A100
    clear A100
    have H' := Aside0.mk H
    clear H
    have hcz11_0 : w5.cell? ⟨gb111, 0, none⟩ = some (.int .i64 a0_0) := (blk_cell BK111.out 0).trans rfl
    have hcz11_1 : w5.cell? ⟨gb111, 1, none⟩ = some (.int .i64 a0_1) := (blk_cell BK111.out 1).trans rfl
    have hcz11_2 : w5.cell? ⟨gb111, 2, none⟩ = some (.int .i64 a0_2) := (blk_cell BK111.out 2).trans rfl
    have hcz11_3 : w5.cell? ⟨gb111, 3, none⟩ = some (.int .i64 a0_3) := (blk_cell BK111.out 3).trans rfl
    have hfz11_0 := blk_frozen BK111.out 0
    have hfz11_1 := blk_frozen BK111.out 1
    have hfz11_2 := blk_frozen BK111.out 2
    have hfz11_3 := blk_frozen BK111.out 3
    go_wp2_with (first | ((with_reducible refine gate_callee (f := 14) rfl ?_); refine goesL_ (some 10) rfl rfl Try.func14 (by kernel_rfl) rfl #[.agg #[.int .i64 a0_0, .int .i64 a0_1, .int .i64 a0_2, .int .i64 a0_3]] rfl (by (try simp only [List.map_toArray, List.map_cons, List.map_nil]); first | done | rfl | (simp only [List.length_drop, List.length_take]; rfl)) ?_; (with_reducible refine (bivouacref09_May.calls a0_0 a0_1 a0_2 a0_3 true _ A6.out).mono ?_); rintro e w12 ⟨rfl, hb⟩; refine ⟨_, rfl, ?_⟩; have n0_ := Aside0.mk (blk_below (g := gb111) (o := .cells #[.int .i64 a0_0, .int .i64 a0_1, .int .i64 a0_2, .int .i64 a0_3] 23 (0, 0)) (by (with_reducible repeat (first | refine blk_drewN ?_ _ | refine blk_drew ?_ | refine blk_alloc ?_ _)); exact BK111.out) hb); have n1_ := Aside0.mk (below_step (by repeat (first | (with_reducible first | exact HB.out | apply below_alloc | apply pw_below_drewN | apply below_drew1 | refine below_set ?_ GE111.out) | exact HB.out)) hb); clear BK111; clear HB; have BK111 := n0_; have HB := n1_; clear n0_ n1_; (try clear hb); (try clear hb2); (try clear hk); (try clear hi)) | (go_at_call 35; (with_reducible refine (bivouacref09_place.calls a1 true _ A8.out).mono ?_); rintro e w' ⟨rfl, ⟨nd, rfl⟩⟩) | (go_at_call 35; (with_reducible refine (bivouacref09_place.calls a2 t114 _ A10.out).mono ?_); rintro e w' ⟨rfl, ⟨nd, rfl⟩⟩))
    go_meet
    case rel => exact ⟨_, (!t114), (by first | rfl | (simp; done) | (simp [*]; done)), H', ⟨by first | omega | exact Nat.le_refl _⟩, ⟨by (with_reducible repeat (first | refine blk_drewN ?_ _ | refine blk_drew ?_ | refine blk_alloc ?_ _)); exact BK111.out⟩, ⟨by repeat (first | (with_reducible first | exact HB.out | apply below_alloc | apply pw_below_drewN | apply below_drew1 | refine below_set ?_ GE111.out) | exact HB.out)⟩⟩
   ·
    replace c9 := Bool.eq_false_iff.mpr c9
    subst c9
    have H1 : (bivouacref09_Lowers.j0 k a1 a2 true a0_0 a0_1 a0_2 a0_3) = some r := by rw [if_neg (show ¬ (false = true) by decide)] at H; exact H
    clear H
    have H := H1
    clear H1
    have H' := Aside0.mk H
    clear H
    have hcz13_0 : w5.cell? ⟨gb111, 0, none⟩ = some (.int .i64 a0_0) := (blk_cell BK111.out 0).trans rfl
    have hcz13_1 : w5.cell? ⟨gb111, 1, none⟩ = some (.int .i64 a0_1) := (blk_cell BK111.out 1).trans rfl
    have hcz13_2 : w5.cell? ⟨gb111, 2, none⟩ = some (.int .i64 a0_2) := (blk_cell BK111.out 2).trans rfl
    have hcz13_3 : w5.cell? ⟨gb111, 3, none⟩ = some (.int .i64 a0_3) := (blk_cell BK111.out 3).trans rfl
    have hfz13_0 := blk_frozen BK111.out 0
    have hfz13_1 := blk_frozen BK111.out 1
    have hfz13_2 := blk_frozen BK111.out 2
    have hfz13_3 := blk_frozen BK111.out 3
    go_wp2_with (first | ((with_reducible refine gate_callee (f := 14) rfl ?_); refine goesL_ (some 10) rfl rfl Try.func14 (by kernel_rfl) rfl #[.agg #[.int .i64 a0_0, .int .i64 a0_1, .int .i64 a0_2, .int .i64 a0_3]] rfl (by (try simp only [List.map_toArray, List.map_cons, List.map_nil]); first | done | rfl | (simp only [List.length_drop, List.length_take]; rfl)) ?_; (with_reducible refine (bivouacref09_May.calls a0_0 a0_1 a0_2 a0_3 true _ A6.out).mono ?_); rintro e w14 ⟨rfl, hb⟩; refine ⟨_, rfl, ?_⟩; have n0_ := Aside0.mk (blk_below (g := gb111) (o := .cells #[.int .i64 a0_0, .int .i64 a0_1, .int .i64 a0_2, .int .i64 a0_3] 23 (0, 0)) (by (with_reducible repeat (first | refine blk_drewN ?_ _ | refine blk_drew ?_ | refine blk_alloc ?_ _)); exact BK111.out) hb); have n1_ := Aside0.mk (below_step (by repeat (first | (with_reducible first | exact HB.out | apply below_alloc | apply pw_below_drewN | apply below_drew1 | refine below_set ?_ GE111.out) | exact HB.out)) hb); clear BK111; clear HB; have BK111 := n0_; have HB := n1_; clear n0_ n1_; (try clear hb); (try clear hb2); (try clear hk); (try clear hi)) | (go_at_call 35; (with_reducible refine (bivouacref09_place.calls a1 false _ A8.out).mono ?_); rintro e w' ⟨rfl, ⟨nd, rfl⟩⟩))
    go_meet
    case rel => exact ⟨_, (true), (by first | rfl | (simp; done) | (simp [*]; done)), H', ⟨by first | omega | exact Nat.le_refl _⟩, ⟨by (with_reducible repeat (first | refine blk_drewN ?_ _ | refine blk_drew ?_ | refine blk_alloc ?_ _)); exact BK111.out⟩, ⟨by repeat (first | (with_reducible first | exact HB.out | apply below_alloc | apply pw_below_drewN | apply below_drew1 | refine below_set ?_ GE111.out) | exact HB.out)⟩⟩
  ·
   replace c7 := Bool.eq_false_iff.mpr c7
   subst c7
   have H1 : (bivouacref09_Lowers.j0 k a1 a2 true a0_0 a0_1 a0_2 a0_3) = some r := by rw [if_neg (show ¬ (false = true) by decide)] at H; exact H
   clear H
   have H := H1
   clear H1
   have H' := Aside0.mk H
   clear H
   have hcz15_0 : w5.cell? ⟨gb111, 0, none⟩ = some (.int .i64 a0_0) := (blk_cell BK111.out 0).trans rfl
   have hcz15_1 : w5.cell? ⟨gb111, 1, none⟩ = some (.int .i64 a0_1) := (blk_cell BK111.out 1).trans rfl
   have hcz15_2 : w5.cell? ⟨gb111, 2, none⟩ = some (.int .i64 a0_2) := (blk_cell BK111.out 2).trans rfl
   have hcz15_3 : w5.cell? ⟨gb111, 3, none⟩ = some (.int .i64 a0_3) := (blk_cell BK111.out 3).trans rfl
   have hfz15_0 := blk_frozen BK111.out 0
   have hfz15_1 := blk_frozen BK111.out 1
   have hfz15_2 := blk_frozen BK111.out 2
   have hfz15_3 := blk_frozen BK111.out 3
   go_wp2_with (first | ((with_reducible refine gate_callee (f := 14) rfl ?_); refine goesL_ (some 10) rfl rfl Try.func14 (by kernel_rfl) rfl #[.agg #[.int .i64 a0_0, .int .i64 a0_1, .int .i64 a0_2, .int .i64 a0_3]] rfl (by (try simp only [List.map_toArray, List.map_cons, List.map_nil]); first | done | rfl | (simp only [List.length_drop, List.length_take]; rfl)) ?_; (with_reducible refine (bivouacref09_May.calls a0_0 a0_1 a0_2 a0_3 false _ A6.out).mono ?_); rintro e w16 ⟨rfl, hb⟩; refine ⟨_, rfl, ?_⟩; have n0_ := Aside0.mk (blk_below (g := gb111) (o := .cells #[.int .i64 a0_0, .int .i64 a0_1, .int .i64 a0_2, .int .i64 a0_3] 23 (0, 0)) (by (with_reducible repeat (first | refine blk_drewN ?_ _ | refine blk_drew ?_ | refine blk_alloc ?_ _)); exact BK111.out) hb); have n1_ := Aside0.mk (below_step (by repeat (first | (with_reducible first | exact HB.out | apply below_alloc | apply pw_below_drewN | apply below_drew1 | refine below_set ?_ GE111.out) | exact HB.out)) hb); clear BK111; clear HB; have BK111 := n0_; have HB := n1_; clear n0_ n1_; (try clear hb); (try clear hb2); (try clear hk); (try clear hi)))
   go_meet
   case rel => exact ⟨_, (true), (by first | rfl | (simp; done) | (simp [*]; done)), H', ⟨by first | omega | exact Nat.le_refl _⟩, ⟨by (with_reducible repeat (first | refine blk_drewN ?_ _ | refine blk_drew ?_ | refine blk_alloc ?_ _)); exact BK111.out⟩, ⟨by repeat (first | (with_reducible first | exact HB.out | apply below_alloc | apply pw_below_drewN | apply below_drew1 | refine below_set ?_ GE111.out) | exact HB.out)⟩⟩
 case rest =>
  clear HC4
  try clear c1
  try clear p2
  try clear c7
  try clear c9
  try clear c14
  try clear c16
  try clear hcz11_0
  try clear hcz11_1
  try clear hcz11_2
  try clear hcz11_3
  try clear hcz13_0
  try clear hcz13_1
  try clear hcz13_2
  try clear hcz13_3
  try clear hcz15_0
  try clear hcz15_1
  try clear hcz15_2
  try clear hcz15_3
  try clear hfz11_0
  try clear hfz11_1
  try clear hfz11_2
  try clear hfz11_3
  try clear hfz13_0
  try clear hfz13_1
  try clear hfz13_2
  try clear hfz13_3
  try clear hfz15_0
  try clear hfz15_1
  try clear hfz15_2
  try clear hfz15_3
  obtain ⟨kq, x21_3, rfl, HA, HJ3, BK111, HB⟩ := hcut
  cases kq with
  | zero => exact absurd HA.out (by simp [bivouacref09_Lowers.j0])
  | succ kj3 =>
   have H := HA.out
   clear HA
   simp only [bivouacref09_Lowers.j0] at H
   by_cases c17 : x21_3 = true
   ·
    subst c17
    have H1 : (some 0) = some r := by rw [if_pos rfl] at H; exact H
    clear H
    have H := H1
    clear H1
    obtain rfl := Option.some.inj H
    go_wp2
    go_ret
    exact ⟨by first | rfl | (simp [errW_none, errW_some] <;> rfl) | (simp [*, errW_none, errW_some] <;> rfl) | (rw [Int.tdiv_eq_ediv_of_nonneg (by assumption)]; rfl), by repeat (first | (with_reducible first | exact HB.out | apply below_alloc | apply pw_below_drewN | apply below_drew1 | refine below_set ?_ GE111.out) | exact HB.out)⟩
   ·
    replace c17 := Bool.eq_false_iff.mpr c17
    subst c17
    have H1 : (if (wrap64 ((wrap64 ((wrap64 (a1 - a0_0)) * (wrap64 (a1 - a0_0)))) + (wrap64 ((wrap64 (a2 - a0_1)) * (wrap64 (a2 - a0_1)))))) ≥ (wrap64 (a0_2 * a0_2)) then (some 0) else (if (wrap64 (a0_2 * a0_2)) = 0 then (none) else (some (wrap64 (Int.tdiv (wrap64 (a0_3 * (wrap64 ((wrap64 (a0_2 * a0_2)) - (wrap64 ((wrap64 ((wrap64 (a1 - a0_0)) * (wrap64 (a1 - a0_0)))) + (wrap64 ((wrap64 (a2 - a0_1)) * (wrap64 (a2 - a0_1)))))))))) (wrap64 (a0_2 * a0_2))))))) = some r := by rw [if_neg (show ¬ (false = true) by decide)] at H; exact H
    clear H
    have H := H1
    clear H1
    by_cases c18 : (wrap64 ((wrap64 ((wrap64 (a1 - a0_0)) * (wrap64 (a1 - a0_0)))) + (wrap64 ((wrap64 (a2 - a0_1)) * (wrap64 (a2 - a0_1)))))) ≥ (wrap64 (a0_2 * a0_2))
    ·
     rw [if_pos c18] at H
     have c18b0 : decide ((wrap64 (a0_2 * a0_2)) ≤ (wrap64 ((wrap64 ((wrap64 (a1 - a0_0)) * (wrap64 (a1 - a0_0)))) + (wrap64 ((wrap64 (a2 - a0_1)) * (wrap64 (a2 - a0_1))))))) = true := decide_eq_true c18
     clear c18
     obtain rfl := Option.some.inj H
     have hcz19_0 : wc.cell? ⟨gb111, 0, none⟩ = some (.int .i64 a0_0) := (blk_cell BK111.out 0).trans rfl
     have hcz19_1 : wc.cell? ⟨gb111, 1, none⟩ = some (.int .i64 a0_1) := (blk_cell BK111.out 1).trans rfl
     have hcz19_2 : wc.cell? ⟨gb111, 2, none⟩ = some (.int .i64 a0_2) := (blk_cell BK111.out 2).trans rfl
     have hcz19_3 : wc.cell? ⟨gb111, 3, none⟩ = some (.int .i64 a0_3) := (blk_cell BK111.out 3).trans rfl
     have hfz19_0 := blk_frozen BK111.out 0
     have hfz19_1 := blk_frozen BK111.out 1
     have hfz19_2 := blk_frozen BK111.out 2
     have hfz19_3 := blk_frozen BK111.out 3
     go_wp2
     go_ret
     exact ⟨by first | rfl | (simp [errW_none, errW_some] <;> rfl) | (simp [*, errW_none, errW_some] <;> rfl) | (rw [Int.tdiv_eq_ediv_of_nonneg (by assumption)]; rfl), by repeat (first | (with_reducible first | exact HB.out | apply below_alloc | apply pw_below_drewN | apply below_drew1 | refine below_set ?_ GE111.out) | exact HB.out)⟩
    ·
     rw [if_neg c18] at H
     have c18b0 : decide ((wrap64 (a0_2 * a0_2)) ≤ (wrap64 ((wrap64 ((wrap64 (a1 - a0_0)) * (wrap64 (a1 - a0_0)))) + (wrap64 ((wrap64 (a2 - a0_1)) * (wrap64 (a2 - a0_1))))))) = false := decide_eq_false c18
     clear c18
     by_cases c20 : (wrap64 (a0_2 * a0_2)) = 0
     ·
      rw [if_pos c20] at H
      exact absurd H (by simp)
     ·
      rw [if_neg c20] at H
      have c20b0 : ((wrap64 (a0_2 * a0_2)) == 0) = false := beq_eq_false_iff_ne.mpr c20
      have c20b1 : ((wrap64 (a0_2 * a0_2)) != 0) = true := bne_iff_ne.mpr c20
      obtain rfl := Option.some.inj H
      have hcz21_0 : wc.cell? ⟨gb111, 0, none⟩ = some (.int .i64 a0_0) := (blk_cell BK111.out 0).trans rfl
      have hcz21_1 : wc.cell? ⟨gb111, 1, none⟩ = some (.int .i64 a0_1) := (blk_cell BK111.out 1).trans rfl
      have hcz21_2 : wc.cell? ⟨gb111, 2, none⟩ = some (.int .i64 a0_2) := (blk_cell BK111.out 2).trans rfl
      have hcz21_3 : wc.cell? ⟨gb111, 3, none⟩ = some (.int .i64 a0_3) := (blk_cell BK111.out 3).trans rfl
      have hfz21_0 := blk_frozen BK111.out 0
      have hfz21_1 := blk_frozen BK111.out 1
      have hfz21_2 := blk_frozen BK111.out 2
      have hfz21_3 := blk_frozen BK111.out 3
      go_wp2
      go_ret
      exact ⟨by first | rfl | (simp [errW_none, errW_some] <;> rfl) | (simp [*, errW_none, errW_some] <;> rfl) | (rw [Int.tdiv_eq_ediv_of_nonneg (by assumption)]; rfl), by repeat (first | (with_reducible first | exact HB.out | apply below_alloc | apply pw_below_drewN | apply below_drew1 | refine below_set ?_ GE111.out) | exact HB.out)⟩

end Go.Proofs.Ytlhcakepaaeaoaa.PCr
