-- WRITTEN BY A PROGRAM OF THIS SESSION (a turned copy of the kit's printer), for this claim. Nothing here is trusted: Lean checks it.
import Derived.Test.YtnpippechogagaaPAx0
import Derived.Test.YtnpippechogagaaPAx23
import Derived.Test.YtnpippechogagaaPAx25
namespace Go.Proofs.Ytnpippechogagaa.PA
open Go.RowKit Go.Proofs.YtnpippechogagaaW.PrintWords Go.Proofs.YtnpippechogagaaW.PrintLast Go.Proofs.YtnpippechogagaaW.PrintMore
attribute [local go_sem] max2_int min2_int max_two min_two max_three min_three max_four min_four   -- for this text's walks alone
set_option linter.unusedVariables false
set_option linter.unusedSimpArgs false

/-! ### bivouacref07_Regions: function 18 -/
mutual
def bivouacref07_Regions.l0 : Nat → List Bool → List Int → Int → Int → Int → Int → List Int → Option (List Int)
 | 0, _, _, _, _, _, _, _ => none
 | k + 1, x5, x6, x7, x194000, x194001, x194002, x194003 => if x7 < (x6.length : Int) then (if 0 ≤ x7 then ((some (x6.set (x7 : Int).toNat (-1) : List Int)).bind fun y200 => (if x7 < (x5.length : Int) then (if rdOf false x5 x7 = true then (bivouacref07_Regions.l0 k x5 (y200.set (x7 : Int).toNat x7) (wrap64 (x7 + 1)) x194000 x194001 x194002 x194003) else (bivouacref07_Regions.l0 k x5 y200 (wrap64 (x7 + 1)) x194000 x194001 x194002 x194003)) else (none))) else (none)) else (bivouacref07_Regions.l1 k x5 x6 true x194000 x194001 x194002 x194003)
def bivouacref07_Regions.l1 : Nat → List Bool → List Int → Bool → Int → Int → Int → List Int → Option (List Int)
 | 0, _, _, _, _, _, _, _ => none
 | k + 1, x5, x6, x8, x194000, x194001, x194002, x194003 => if x8 = true then (bivouacref07_Regions.l2 k x5 x6 false 0 x194000 x194001 x194002 x194003) else (some x6)
def bivouacref07_Regions.l2 : Nat → List Bool → List Int → Bool → Int → Int → Int → Int → List Int → Option (List Int)
 | 0, _, _, _, _, _, _, _, _ => none
 | k + 1, x5, x6, x8, x9, x194000, x194001, x194002, x194003 => if x9 < (x6.length : Int) then ((some (([wrap64 (x9 - x194000), wrap64 (x9 - 1), wrap64 (x9 + 1), wrap64 (x9 + x194000)] : List Int) : List Int)).bind fun y203 => (bivouacref07_Regions.l3 k x5 x6 x8 x9 y203 (y203.length : Int) 0 x194000 x194001 x194002 x194003)) else (bivouacref07_Regions.l1 k x5 x6 x8 x194000 x194001 x194002 x194003)
def bivouacref07_Regions.l3 : Nat → List Bool → List Int → Bool → Int → List Int → Int → Int → Int → Int → Int → List Int → Option (List Int)
 | 0, _, _, _, _, _, _, _, _, _, _, _ => none
 | k + 1, x5, x6, x8, x9, x54, x55, x56, x194000, x194001, x194002, x194003 => if x56 < x55 then (if 0 ≤ x56 then (if x56 < (x54.length : Int) then (if (rd x54 x56) ≥ 0 then (if (rd x54 x56) < (x6.length : Int) then (if 0 ≤ x9 then (if x9 < (x5.length : Int) then (if rdOf false x5 x9 = true then (if 0 ≤ (rd x54 x56) then (if (rd x54 x56) < (x5.length : Int) then (if rdOf false x5 (rd x54 x56) = true then ((bivouacref07_Beside.f x9 (rd x54 x56) x194000).bind fun t209 => (if t209 = true then (if x9 < (x6.length : Int) then (if (rd x6 (rd x54 x56)) < (rd x6 x9) then (bivouacref07_Regions.l3 k x5 (x6.set (x9 : Int).toNat (rd x6 (rd x54 x56))) true x9 x54 x55 (wrap64 (x56 + 1)) x194000 x194001 x194002 x194003) else (bivouacref07_Regions.l3 k x5 x6 x8 x9 x54 x55 (wrap64 (x56 + 1)) x194000 x194001 x194002 x194003)) else (none)) else (bivouacref07_Regions.l3 k x5 x6 x8 x9 x54 x55 (wrap64 (x56 + 1)) x194000 x194001 x194002 x194003))) else (bivouacref07_Regions.l3 k x5 x6 x8 x9 x54 x55 (wrap64 (x56 + 1)) x194000 x194001 x194002 x194003)) else (none)) else (none)) else (bivouacref07_Regions.l3 k x5 x6 x8 x9 x54 x55 (wrap64 (x56 + 1)) x194000 x194001 x194002 x194003)) else (none)) else (none)) else (bivouacref07_Regions.l3 k x5 x6 x8 x9 x54 x55 (wrap64 (x56 + 1)) x194000 x194001 x194002 x194003)) else (bivouacref07_Regions.l3 k x5 x6 x8 x9 x54 x55 (wrap64 (x56 + 1)) x194000 x194001 x194002 x194003)) else (none)) else (none)) else (bivouacref07_Regions.l2 k x5 x6 x8 (wrap64 (x9 + 1)) x194000 x194001 x194002 x194003)
end
def bivouacref07_Regions.f (k : Nat) (a0_0 : Int) (a0_1 : Int) (a0_2 : Int) (l0_3 : List Int) (a1 : Int) : Option (List Int) := (bivouacref07_Grid.f k a0_0 a0_1 a0_2 l0_3 a1).bind fun t194 => (if 0 ≤ (t194.length : Int) then (if ((t194.length : Int) : Int).toNat ≤ 35184372088832 then (bivouacref07_Regions.l0 k t194 (List.replicate ((t194.length : Int) : Int).toNat 0) 0 a0_0 a0_1 a0_2 l0_3) else (none)) else (none))
theorem bivouacref07_Regions.mono_l : ∀ k, (∀ y0 y1 y2 y3 y4 y5 y6, LeO (bivouacref07_Regions.l0 k y0 y1 y2 y3 y4 y5 y6) (bivouacref07_Regions.l0 (k + 1) y0 y1 y2 y3 y4 y5 y6)) ∧ (∀ y0 y1 y2 y3 y4 y5 y6, LeO (bivouacref07_Regions.l1 k y0 y1 y2 y3 y4 y5 y6) (bivouacref07_Regions.l1 (k + 1) y0 y1 y2 y3 y4 y5 y6)) ∧ (∀ y0 y1 y2 y3 y4 y5 y6 y7, LeO (bivouacref07_Regions.l2 k y0 y1 y2 y3 y4 y5 y6 y7) (bivouacref07_Regions.l2 (k + 1) y0 y1 y2 y3 y4 y5 y6 y7)) ∧ (∀ y0 y1 y2 y3 y4 y5 y6 y7 y8 y9 y10, LeO (bivouacref07_Regions.l3 k y0 y1 y2 y3 y4 y5 y6 y7 y8 y9 y10) (bivouacref07_Regions.l3 (k + 1) y0 y1 y2 y3 y4 y5 y6 y7 y8 y9 y10))
 | 0 => ⟨fun _ _ _ _ _ _ _ r h => by simp [bivouacref07_Regions.l0] at h, fun _ _ _ _ _ _ _ r h => by simp [bivouacref07_Regions.l1] at h, fun _ _ _ _ _ _ _ _ r h => by simp [bivouacref07_Regions.l2] at h, fun _ _ _ _ _ _ _ _ _ _ _ r h => by simp [bivouacref07_Regions.l3] at h⟩
 | k + 1 => by
  obtain ⟨ih0, ih1, ih2, ih3⟩ := bivouacref07_Regions.mono_l k
  refine ⟨?_, ?_, ?_, ?_⟩
  ·
   intro y0 y1 y2 y3 y4 y5 y6
   unfold bivouacref07_Regions.l0
   repeat' first
   | (with_reducible exact ih0 _ _ _ _ _ _ _)
   | (with_reducible exact ih1 _ _ _ _ _ _ _)
   | (with_reducible exact ih2 _ _ _ _ _ _ _ _)
   | (with_reducible exact ih3 _ _ _ _ _ _ _ _ _ _ _)
   | (with_reducible exact bivouacref07_Grid.mono _ _ _ _ _ _)
   | (with_reducible exact LeO.refl _)
   | (with_reducible exact LeO.none _)
   | (with_reducible refine LeO.ite ?_ ?_)
   | (with_reducible refine LeO.bind ?_ (fun _ => ?_))
   | exact ih0 _ _ _ _ _ _ _
   | exact ih1 _ _ _ _ _ _ _
   | exact ih2 _ _ _ _ _ _ _ _
   | exact ih3 _ _ _ _ _ _ _ _ _ _ _
   | exact bivouacref07_Grid.mono _ _ _ _ _ _
   | exact LeO.none _
   | refine LeO.ite ?_ ?_
   | refine LeO.bind ?_ (fun _ => ?_)
  ·
   intro y0 y1 y2 y3 y4 y5 y6
   unfold bivouacref07_Regions.l1
   repeat' first
   | (with_reducible exact ih0 _ _ _ _ _ _ _)
   | (with_reducible exact ih1 _ _ _ _ _ _ _)
   | (with_reducible exact ih2 _ _ _ _ _ _ _ _)
   | (with_reducible exact ih3 _ _ _ _ _ _ _ _ _ _ _)
   | (with_reducible exact bivouacref07_Grid.mono _ _ _ _ _ _)
   | (with_reducible exact LeO.refl _)
   | (with_reducible exact LeO.none _)
   | (with_reducible refine LeO.ite ?_ ?_)
   | (with_reducible refine LeO.bind ?_ (fun _ => ?_))
   | exact ih0 _ _ _ _ _ _ _
   | exact ih1 _ _ _ _ _ _ _
   | exact ih2 _ _ _ _ _ _ _ _
   | exact ih3 _ _ _ _ _ _ _ _ _ _ _
   | exact bivouacref07_Grid.mono _ _ _ _ _ _
   | exact LeO.none _
   | refine LeO.ite ?_ ?_
   | refine LeO.bind ?_ (fun _ => ?_)
  ·
   intro y0 y1 y2 y3 y4 y5 y6 y7
   unfold bivouacref07_Regions.l2
   repeat' first
   | (with_reducible exact ih0 _ _ _ _ _ _ _)
   | (with_reducible exact ih1 _ _ _ _ _ _ _)
   | (with_reducible exact ih2 _ _ _ _ _ _ _ _)
   | (with_reducible exact ih3 _ _ _ _ _ _ _ _ _ _ _)
   | (with_reducible exact bivouacref07_Grid.mono _ _ _ _ _ _)
   | (with_reducible exact LeO.refl _)
   | (with_reducible exact LeO.none _)
   | (with_reducible refine LeO.ite ?_ ?_)
   | (with_reducible refine LeO.bind ?_ (fun _ => ?_))
   | exact ih0 _ _ _ _ _ _ _
   | exact ih1 _ _ _ _ _ _ _
   | exact ih2 _ _ _ _ _ _ _ _
   | exact ih3 _ _ _ _ _ _ _ _ _ _ _
   | exact bivouacref07_Grid.mono _ _ _ _ _ _
   | exact LeO.none _
   | refine LeO.ite ?_ ?_
   | refine LeO.bind ?_ (fun _ => ?_)
  ·
   intro y0 y1 y2 y3 y4 y5 y6 y7 y8 y9 y10
   unfold bivouacref07_Regions.l3
   repeat' first
   | (with_reducible exact ih0 _ _ _ _ _ _ _)
   | (with_reducible exact ih1 _ _ _ _ _ _ _)
   | (with_reducible exact ih2 _ _ _ _ _ _ _ _)
   | (with_reducible exact ih3 _ _ _ _ _ _ _ _ _ _ _)
   | (with_reducible exact bivouacref07_Grid.mono _ _ _ _ _ _)
   | (with_reducible exact LeO.refl _)
   | (with_reducible exact LeO.none _)
   | (with_reducible refine LeO.ite ?_ ?_)
   | (with_reducible refine LeO.bind ?_ (fun _ => ?_))
   | exact ih0 _ _ _ _ _ _ _
   | exact ih1 _ _ _ _ _ _ _
   | exact ih2 _ _ _ _ _ _ _ _
   | exact ih3 _ _ _ _ _ _ _ _ _ _ _
   | exact bivouacref07_Grid.mono _ _ _ _ _ _
   | exact LeO.none _
   | refine LeO.ite ?_ ?_
   | refine LeO.bind ?_ (fun _ => ?_)
theorem bivouacref07_Regions.mono : ∀ a0 a1 a2 a3 a4 k, LeO (bivouacref07_Regions.f k a0 a1 a2 a3 a4) (bivouacref07_Regions.f (k + 1) a0 a1 a2 a3 a4) := by
 intro a0 a1 a2 a3 a4 k
 obtain ⟨ih0, ih1, ih2, ih3⟩ := bivouacref07_Regions.mono_l k
 unfold bivouacref07_Regions.f
 repeat' first
   | (with_reducible exact ih0 _ _ _ _ _ _ _)
   | (with_reducible exact ih1 _ _ _ _ _ _ _)
   | (with_reducible exact ih2 _ _ _ _ _ _ _ _)
   | (with_reducible exact ih3 _ _ _ _ _ _ _ _ _ _ _)
   | (with_reducible exact bivouacref07_Grid.mono _ _ _ _ _ _)
   | (with_reducible exact LeO.refl _)
   | (with_reducible exact LeO.none _)
   | (with_reducible refine LeO.ite ?_ ?_)
   | (with_reducible refine LeO.bind ?_ (fun _ => ?_))
   | exact ih0 _ _ _ _ _ _ _
   | exact ih1 _ _ _ _ _ _ _
   | exact ih2 _ _ _ _ _ _ _ _
   | exact ih3 _ _ _ _ _ _ _ _ _ _ _
   | exact bivouacref07_Grid.mono _ _ _ _ _ _
   | exact LeO.none _
   | refine LeO.ite ?_ ?_
   | refine LeO.bind ?_ (fun _ => ?_)
def bivouacref07_Regions.T18 : Bool × List (List Nat × List Nat) := (true, [([], []), ([0], [0]), ([1], [1]), ([2], [2]), ([2], [2]), ([4, 2], [2, 4]), ([3, 5, 2], [2, 3, 5]), ([2, 6], [2, 6]), ([7, 2], [7]), ([8], [8]), ([8], [8]), ([9, 10, 8], [8, 9, 10]), ([11, 8], [8, 11]), ([8, 12], [8, 12]), ([13, 8], [13]), ([14], [14]), ([14], [14]), ([15, 16, 14], [14, 15, 16]), ([17, 14], [14, 17]), ([14, 18], [14, 18]), ([19, 14], [19]), ([20], [20]), ([20], [20]), ([20], [20]), ([23, 20], [20, 23]), ([21, 22, 24, 20, 20], [20, 21, 22, 24]), ([20, 25], [20, 25]), ([26, 25], [26]), ([27], [27]), ([27], [27]), ([28, 29, 27], [27, 28, 29]), ([30, 27], [27, 30]), ([27], [27]), ([27], [27]), ([32, 33, 27], [27, 32, 33]), ([34, 27], [27, 34]), ([31, 35, 27], [27, 31, 35]), ([27, 36], [27, 36])])
def bivouacref07_Regions.B18 : List Nat := [0, 1, 3, 7, 7, 23, 63, 127, 255, 511, 511, 2047, 4095, 8191, 16383, 32767, 32767, 131071, 262143, 524287, 1048575, 2097151, 2097151, 2097151, 10485759, 33554431, 67108863, 134217727, 268435455, 268435455, 1073741823, 2147483647, 268435455, 268435455, 13153337343, 30333206527, 68719476735, 137438953471]
theorem bivouacref07_Regions.tab18 : rtab .any (opsOf Try.f18 18) = bivouacref07_Regions.T18 := by kernel_rfl
theorem bivouacref07_Regions.bits18 : waitsOk bivouacref07_Regions.T18.2 bivouacref07_Regions.B18 = true := by kernel_rfl
set_option maxHeartbeats 8000000 in
set_option maxRecDepth 100000 in
theorem bivouacref07_Regions.calls (k : Nat) (a0_0 : Int) (a0_1 : Int) (a0_2 : Int) (A0_3 : Option Addr) (c0_3 : Nat) (l0_3 : List Int) (a1 : Int) (r : List Int) (w : World) (hr0_3 : Kd.C (Kd.int .u8) w A0_3 l0_3.length l0_3) (hc0_3 : l0_3.length ≤ c0_3) (h : bivouacref07_Regions.f k a0_0 a0_1 a0_2 l0_3 a1 = some r) :
  Calls Try.prog 18 #[.agg #[.int .i64 a0_0, .int .i64 a0_1, .int .i64 a0_2, .slice A0_3 l0_3.length c0_3], .int .i64 a1] w fun e w' => ∃ v0_ : Value, e = .returned (v0_) ∧ Kd.R (Kd.int .i64) 3 w' w.heap.size (fun _ => True) v0_ r ∧ Below w.heap.size w w' := by
 have hu25 := Try.underlying25
 have HR0_3 := Aside0.mk hr0_3
 have HC0_3 := Aside0.mk hc0_3
 clear hr0_3 hc0_3
 have HB := Aside0.mk (Below.refl w.heap.size w)
 have H : ((bivouacref07_Grid.f k a0_0 a0_1 a0_2 l0_3 a1).bind fun t194 => (if 0 ≤ (t194.length : Int) then (if ((t194.length : Int) : Int).toNat ≤ 35184372088832 then (bivouacref07_Regions.l0 k t194 (List.replicate ((t194.length : Int) : Int).toNat 0) 0 a0_0 a0_1 a0_2 l0_3) else (none)) else (none))) = some r := h
 clear h
 replace H := Option.bind_eq_some_iff.mp H
 obtain ⟨t194, A30, H⟩ := H
 replace H : (if 0 ≤ (t194.length : Int) then (if ((t194.length : Int) : Int).toNat ≤ 35184372088832 then (bivouacref07_Regions.l0 k t194 (List.replicate ((t194.length : Int) : Int).toNat 0) 0 a0_0 a0_1 a0_2 l0_3) else (none)) else (none)) = some r := H
 have A3 := Aside0.mk A30
 clear A30
 by_cases c4 : 0 ≤ (t194.length : Int)
 ·
  rw [if_pos c4] at H
  have c4b0 := eq_true c4
  have c4b1 : decide (0 ≤ (t194.length : Int)) = true := decide_eq_true c4
  clear c4
  by_cases c5 : ((t194.length : Int) : Int).toNat ≤ 35184372088832
  ·
   rw [if_pos c5] at H
   have c5b0 := eq_true c5
   have c5b1 : decide (((t194.length : Int) : Int).toNat ≤ 35184372088832) = true := decide_eq_true c5
   clear c5
   obtain ⟨y197, hy197⟩ : ∃ y_ : List Int, y_ = (List.replicate ((t194.length : Int) : Int).toNat 0) := ⟨_, rfl⟩
   replace H : (bivouacref07_Regions.l0 k t194 y197 0 a0_0 a0_1 a0_2 l0_3) = some r := by first | (rw [hy197]; with_reducible exact H) | (have H2_ := (Option.bind_some _ _).symm.trans H; rw [hy197]; with_reducible exact H2_) | (have H2_ := (Option.bind_some _ _).symm.trans H; with_reducible exact H2_) | with_reducible exact H | (rw [hy197]; exact H) | exact H
   have Ny197 := Aside0.mk hy197
   clear hy197
   have H' := Aside0.mk H
   clear H
   go_enter Try.func18, Try.ntmps18
   go_wp2_with (first | ((with_reducible refine gate_dst (N := 2) rfl ?_); (try (refine gate_guard (by rfl) ?_; dsimp only)); refine box_event ?hg (N := 2) ?hd (cs := #[.int .i64 a0_0, .int .i64 a0_1, .int .i64 a0_2, .slice A0_3 l0_3.length c0_3]) (t := 25) ?hr ?_; (case hd => rfl); (case hg => rfl); (case hr => first | (go_simp; done) | (go_simp; rfl)); intro gb193 hg w6 hbox hb; have n0_ := Aside0.mk (below_step (by repeat (first | (with_reducible first | exact HB.out | apply below_alloc | apply pw_below_drewN | apply below_drew1) | exact HB.out)) hb); have n1_ := Aside0.mk (hbox); have n2_ := Aside0.mk ((by rw [hg]; exact (below_size (by repeat (first | (with_reducible first | exact HB.out | apply below_alloc | apply pw_below_drewN | apply below_drew1) | exact HB.out))) : w.heap.size ≤ gb193)); have n3_ := Aside0.mk ((by rw [hg]; exact (below_size (by repeat (first | (with_reducible first | exact HB.out | apply below_alloc | apply pw_below_drewN | apply below_drew1) | exact HB.out))) : w.heap.size ≤ gb193)); clear HB; have HB := n0_; have BK193 := n1_; have GW193 := n2_; have GE193 := n3_; clear n0_ n1_ n2_ n3_; clear hb hbox hg; have hcz7_0 : w6.cell? ⟨gb193, 0, none⟩ = some (.int .i64 a0_0) := (blk_cell BK193.out 0).trans rfl; have hcz7_1 : w6.cell? ⟨gb193, 1, none⟩ = some (.int .i64 a0_1) := (blk_cell BK193.out 1).trans rfl; have hcz7_2 : w6.cell? ⟨gb193, 2, none⟩ = some (.int .i64 a0_2) := (blk_cell BK193.out 2).trans rfl; have hcz7_3 : w6.cell? ⟨gb193, 3, none⟩ = some (.slice A0_3 l0_3.length c0_3) := (blk_cell BK193.out 3).trans rfl; have hfz7_0 := blk_frozen BK193.out 0; have hfz7_1 := blk_frozen BK193.out 1; have hfz7_2 := blk_frozen BK193.out 2; have hfz7_3 := blk_frozen BK193.out 3) | ((with_reducible refine gate_callee (f := 15) rfl ?_); refine goesL_ (some 14) rfl rfl Try.func15 (by kernel_rfl) rfl #[.agg #[.int .i64 a0_0, .int .i64 a0_1, .int .i64 a0_2, .slice A0_3 l0_3.length c0_3], .int .i64 a1] rfl (by (try simp only [List.map_toArray, List.map_cons, List.map_nil]); first | done | rfl | (simp only [List.length_drop, List.length_take]; rfl)) ?_; (with_reducible refine (bivouacref07_Grid.calls k a0_0 a0_1 a0_2 _ _ l0_3 a1 t194 _ ?side1 ?side2 A3.out).mono ?_); (case side1 => repeat (first | exact (Kd.C_below HR0_3.out HB.out) | (with_reducible refine Kd.C_alloc ?_ _) | (with_reducible refine Kd.C_drewN ?_ _) | (with_reducible refine Kd.C_drew ?_))); (case side2 => exact HC0_3.out); rintro e w8 ⟨v195, rfl, ho0, hb⟩; refine ⟨_, rfl, ?_⟩; have n0_ := Aside0.mk (Kd.R_lower ho0 (below_size (by repeat (first | (with_reducible first | exact HB.out | apply below_alloc | apply pw_below_drewN | apply below_drew1 | refine below_set ?_ GE193.out) | exact HB.out)))); have n1_ := Aside0.mk (blk_below (g := gb193) (o := .cells #[.int .i64 a0_0, .int .i64 a0_1, .int .i64 a0_2, .slice A0_3 l0_3.length c0_3] 25 (0, 0)) (by (with_reducible repeat (first | refine blk_drewN ?_ _ | refine blk_drew ?_ | refine blk_alloc ?_ _)); exact BK193.out) hb); have n2_ := Aside0.mk (below_step (by repeat (first | (with_reducible first | exact HB.out | apply below_alloc | apply pw_below_drewN | apply below_drew1 | refine below_set ?_ GE193.out) | exact HB.out)) hb); clear BK193; clear HB; have HO196 := n0_; have BK193 := n1_; have HB := n2_; clear n0_ n1_ n2_; (try clear hb); (try clear hb2); (try clear hk); (try clear hi); (try clear ho0); obtain ⟨Ao9, co9, eo9⟩ := Kd.R_slice HO196.out; subst eo9) | ((with_reducible refine gate_dst (N := 17) rfl ?_); (try (refine gate_guard (by rfl) ?_; dsimp only)); refine Kd.R_make (Kd.int .i64) _ 3 rfl (N := 17) rfl 39 _ _ rfl (t194.length : Int) rfl rfl Try.underlying39 (.int .i64 0) 8 info3 rfl (by decide) (by omega) 0 (ok := fun _ => True) (okp := fun _ => True) rfl (fun _ hk => hk) trivial (of_decide_eq_true (by first | (with_reducible assumption) | assumption)) (Nat.le_trans (Nat.mul_le_mul_right _ (of_decide_eq_true (by first | (with_reducible assumption) | assumption) : (t194.length : Int).toNat ≤ 35184372088832)) (by omega)) (Below.refl _ _) (Nat.le_refl _) ?_; intro v198 w10 ho11 hb hg_ hnew_; clear hg_ hnew_; (first | rw [← Ny197.out] at ho11 | (simp only [Int.reduceToNat] at ho11; rw [← Ny197.out] at ho11)); have n0_ := Aside0.mk (Kd.R_below (by (with_reducible repeat (first | apply Kd.R_alloc | apply Kd.R_drewN | apply Kd.R_drew)); exact HO196.out) hb); have n1_ := Aside0.mk (Kd.R_lower ho11 (below_size (by repeat (first | (with_reducible first | exact HB.out | apply below_alloc | apply pw_below_drewN | apply below_drew1 | refine below_set ?_ GE193.out) | exact HB.out)))); have n2_ := Aside0.mk (blk_below (g := gb193) (o := .cells #[.int .i64 a0_0, .int .i64 a0_1, .int .i64 a0_2, .slice A0_3 l0_3.length c0_3] 25 (0, 0)) (by (with_reducible repeat (first | refine blk_drewN ?_ _ | refine blk_drew ?_ | refine blk_alloc ?_ _)); exact BK193.out) hb); have n3_ := Aside0.mk (below_step (by repeat (first | (with_reducible first | exact HB.out | apply below_alloc | apply pw_below_drewN | apply below_drew1 | refine below_set ?_ GE193.out) | exact HB.out)) hb); clear HO196; clear BK193; clear HB; have HO196 := n0_; have HO199 := n1_; have BK193 := n2_; have HB := n3_; clear n0_ n1_ n2_ n3_; clear hb ho11))
   go_loopg [7] k (fun kq v7 w' => ∃ (x6_1 : List Int) (x7_1 : Int), v7 = .int .i64 x7_1 ∧ Aside0 (bivouacref07_Regions.l0 kq t194 x6_1 x7_1 a0_0 a0_1 a0_2 l0_3 = some r) ∧ Aside0 (kq ≤ k) ∧ Aside0 (Kd.R Kd.bool 4 w' w.heap.size (fun _ => True) (.slice Ao9 t194.length co9) t194) ∧ Aside0 (Kd.R (Kd.int .i64) 3 w' w.heap.size (fun _ => True) v198 x6_1) ∧ Aside0 (w'.heap[gb193]? = some (.cells #[.int .i64 a0_0, .int .i64 a0_1, .int .i64 a0_2, (.slice A0_3 l0_3.length c0_3)] 25 (0, 0))) ∧ Aside0 (Below w.heap.size w w'))
   case atStart => exact ⟨(y197), (0), (by first | rfl | (simp; done) | (simp [*]; done)), H', ⟨Nat.le_refl _⟩, ⟨by (with_reducible repeat (first | apply Kd.R_alloc | apply Kd.R_drewN | apply Kd.R_drew)); exact HO196.out⟩, ⟨by (with_reducible repeat (first | apply Kd.R_alloc | apply Kd.R_drewN | apply Kd.R_drew)); exact HO199.out⟩, ⟨by (with_reducible repeat (first | refine blk_drewN ?_ _ | refine blk_drew ?_ | refine blk_alloc ?_ _)); exact BK193.out⟩, ⟨by repeat (first | (with_reducible first | exact HB.out | apply below_alloc | apply pw_below_drewN | apply below_drew1 | refine below_set ?_ GE193.out) | exact HB.out)⟩⟩
   case round =>
    clear H'
    try clear c1
    try clear p2
    try clear c4
    try clear c4b0
    try clear c4b1
    try clear c5
    try clear c5b0
    try clear c5b1
    try clear hcz7_0
    try clear hcz7_1
    try clear hcz7_2
    try clear hcz7_3
    try clear hfz7_0
    try clear hfz7_1
    try clear hfz7_2
    try clear hfz7_3
    obtain ⟨x6_1, x7_1, rfl, HA, HK1, HO_5, HO_6, BK193, HB⟩ := hrel
    cases gk with
    | zero => exact absurd HA.out (by simp [bivouacref07_Regions.l0])
    | succ k1 =>
     have H := HA.out
     clear HA
     simp only [bivouacref07_Regions.l0] at H
     by_cases c12 : x7_1 < (x6_1.length : Int)
     ·
      rw [if_pos c12] at H
      have c12b0 : decide (x7_1 < (x6_1.length : Int)) = true := decide_eq_true c12
      clear c12
      by_cases c13 : 0 ≤ x7_1
      ·
       rw [if_pos c13] at H
       have c13b0 : decide (0 ≤ x7_1) = true := decide_eq_true c13
       clear c13
       obtain ⟨y200, hy200⟩ : ∃ y_ : List Int, y_ = (x6_1.set (x7_1 : Int).toNat (-1)) := ⟨_, rfl⟩
       replace H : (if x7_1 < (t194.length : Int) then (if rdOf false t194 x7_1 = true then (bivouacref07_Regions.l0 k1 t194 (y200.set (x7_1 : Int).toNat x7_1) (wrap64 (x7_1 + 1)) a0_0 a0_1 a0_2 l0_3) else (bivouacref07_Regions.l0 k1 t194 y200 (wrap64 (x7_1 + 1)) a0_0 a0_1 a0_2 l0_3)) else (none)) = some r := by first | (rw [hy200]; with_reducible exact H) | (have H2_ := (Option.bind_some _ _).symm.trans H; rw [hy200]; with_reducible exact H2_) | (have H2_ := (Option.bind_some _ _).symm.trans H; with_reducible exact H2_) | with_reducible exact H | (rw [hy200]; exact H) | exact H
       have Ny200 := Aside0.mk hy200
       clear hy200
       by_cases c15 : x7_1 < (t194.length : Int)
       ·
        rw [if_pos c15] at H
        have c15b0 : decide (x7_1 < (t194.length : Int)) = true := decide_eq_true c15
        clear c15
        obtain ⟨bq16, hbq16⟩ : ∃ b_ : Bool, b_ = (rdOf false t194 x7_1) := ⟨_, rfl⟩
        replace H : (if bq16 = true then (bivouacref07_Regions.l0 k1 t194 (y200.set (x7_1 : Int).toNat x7_1) (wrap64 (x7_1 + 1)) a0_0 a0_1 a0_2 l0_3) else (bivouacref07_Regions.l0 k1 t194 y200 (wrap64 (x7_1 + 1)) a0_0 a0_1 a0_2 l0_3)) = some r := by rw [← hbq16] at H; exact H
        have Nbq16 := Aside0.mk hbq16
        clear hbq16
        by_cases c17 : bq16 = true
        ·
         subst c17
         have H1 : (bivouacref07_Regions.l0 k1 t194 (y200.set (x7_1 : Int).toNat x7_1) (wrap64 (x7_1 + 1)) a0_0 a0_1 a0_2 l0_3) = some r := by rw [if_pos rfl] at H; exact H
         clear H
         have H := H1
         clear H1
         obtain ⟨y202, hy202⟩ : ∃ y_ : List Int, y_ = (y200.set (x7_1 : Int).toNat x7_1) := ⟨_, rfl⟩
         replace H : (bivouacref07_Regions.l0 k1 t194 y202 (wrap64 (x7_1 + 1)) a0_0 a0_1 a0_2 l0_3) = some r := by first | (rw [hy202]; with_reducible exact H) | (have H2_ := (Option.bind_some _ _).symm.trans H; rw [hy202]; with_reducible exact H2_) | (have H2_ := (Option.bind_some _ _).symm.trans H; with_reducible exact H2_) | with_reducible exact H | (rw [hy202]; exact H) | exact H
         have Ny202 := Aside0.mk hy202
         clear hy202
         have H' := Aside0.mk H
         clear H
         obtain ⟨Ao19, co19, eo19⟩ := Kd.R_slice HO_6.out
         subst eo19
         have p14 : 0 ≤ (x7_1 : Int) := of_decide_eq_true (by first | (with_reducible assumption) | assumption)
         have q14 : (x7_1 : Int) < ((x6_1.length : Int) : Int) := of_decide_eq_true (by first | (with_reducible assumption) | assumption)
         obtain ⟨go14, co14, eo14, gb14, gl14, cl14, HG14⟩ := Kd.R_form HO_6.out (by omega)
         (first | cases eo14 | (injection eo14 with ea_ en_ ec_; (first | subst ea_ | (injection ea_ with ea_; subst ea_)); subst ec_; clear en_))
         have GB14 := Aside0.mk gb14
         have GG14 := Aside0.mk HG14
         clear gb14 gl14 HG14
         obtain ⟨hx14_0, hf14_0⟩ := Kd.R_celln 0 HO_6.out (x7_1 : Int) p14 q14
         replace p14 := eq_true p14
         replace q14 := eq_true q14
         have HP20 := Kd.R_putg HO_6.out (x7_1 : Int) (-1)
         go_wp2_with (first | ((with_reducible refine gate_store (t := 3) (p := 26) rfl ?_); refine store_event (t := 3) (p := 26) (v := ?vo_w21) (w1 := (wr.setCell ⟨go14, (x7_1 : Int).toNat, none⟩ (.int .i64 (-1)))) ?hg ?ho ?hn ?hr ?_; (case ho => rfl); (case hg => rfl); (case hn => rfl); (case hr => first | (go_simp; done) | (go_simp; rfl)); intro w21 hw; have hg : wr.grownBy w21 (some go14) := (by rw [hw]; exact HP20.2); have hp_ : Kd.R (Kd.int .i64) 3 w21 w.heap.size (fun _ => True) (.slice (some ⟨go14, 0, none⟩) x6_1.length co19) y200 := (by rw [hw, Ny200.out]; exact HP20.1); clear HP20; have n0_ := Aside0.mk (Kd.R_over' (v := (.slice (some ⟨go14, 0, none⟩) x6_1.length co19)) (by (with_reducible repeat (first | apply Kd.R_alloc | apply Kd.R_drewN | apply Kd.R_drew)); exact HO_5.out) (Kd.R_typed HO_6.out) (by decide) hg); have n1_ := Aside0.mk (hp_); have n2_ := Aside0.mk (blk_grown (g := gb193) (o := .cells #[.int .i64 a0_0, .int .i64 a0_1, .int .i64 a0_2, .slice A0_3 l0_3.length c0_3] 25 (0, 0)) (by (with_reducible repeat (first | refine blk_drewN ?_ _ | refine blk_drew ?_ | refine blk_alloc ?_ _)); exact BK193.out) hg (Kd.R_ne HO_6.out BK193.out (by decide))); have n3_ := Aside0.mk ((by rw [hw]; exact below_set (HB.out) GB14.out : Below w.heap.size w w21)); clear HO_5; clear HO_6; clear BK193; clear HB; have HO_5 := n0_; have HO_6 := n1_; have BK193 := n2_; have HB := n3_; clear n0_ n1_ n2_ n3_; clear hg hw hp_; have p201 : 0 ≤ (x7_1 : Int) := of_decide_eq_true (by first | (with_reducible assumption) | assumption); have q201 : x7_1 < (t194.length : Int) := of_decide_eq_true (by first | (with_reducible assumption) | assumption); obtain ⟨ad201, e201, hx201_0⟩ := Kd.at_bool (Kd.R_reads' HO_5.out).2.2 x7_1 p201 q201; (try rw [← Nbq16.out] at hx201_0); cases e201; replace p201 := eq_true p201; replace q201 := eq_true q201; have p18 : 0 ≤ (x7_1 : Int) := of_decide_eq_true (by first | (with_reducible assumption) | assumption); have q18 : (x7_1 : Int) < ((x6_1.length : Int) : Int) := of_decide_eq_true (by first | (with_reducible assumption) | assumption); obtain ⟨hx18_0, hf18_0⟩ := Kd.R_celln 0 HO_6.out (x7_1 : Int) p18 q18; replace p18 := eq_true p18; replace q18 := eq_true q18; obtain ⟨hy22_, hz22_⟩ := Kd.R_celln 0 HO_6.out (x7_1 : Int) (of_decide_eq_true (by first | (with_reducible assumption) | assumption)) (of_decide_eq_true (by first | (with_reducible assumption) | assumption)); have HP22 := Kd.R_putg HO_6.out (x7_1 : Int) x7_1) | ((with_reducible refine gate_store (t := 3) (p := 34) rfl ?_); refine store_event (t := 3) (p := 34) (v := ?vo_w23) (w1 := (w21.setCell ⟨go14, (x7_1 : Int).toNat, none⟩ (.int .i64 x7_1))) ?hg ?ho ?hn ?hr ?_; (case ho => rfl); (case hg => rfl); (case hn => rfl); (case hr => first | (go_simp; done) | (go_simp; rfl)); intro w23 hw; have hg : w21.grownBy w23 (some go14) := (by rw [hw]; exact HP22.2); have hp_ : Kd.R (Kd.int .i64) 3 w23 w.heap.size (fun _ => True) (.slice (some ⟨go14, 0, none⟩) x6_1.length co19) y202 := (by rw [hw, Ny202.out]; exact HP22.1); clear HP22; have n0_ := Aside0.mk (Kd.R_over' (v := (.slice (some ⟨go14, 0, none⟩) x6_1.length co19)) (by (with_reducible repeat (first | apply Kd.R_alloc | apply Kd.R_drewN | apply Kd.R_drew)); exact HO_5.out) (Kd.R_typed HO_6.out) (by decide) hg); have n1_ := Aside0.mk (hp_); have n2_ := Aside0.mk (blk_grown (g := gb193) (o := .cells #[.int .i64 a0_0, .int .i64 a0_1, .int .i64 a0_2, .slice A0_3 l0_3.length c0_3] 25 (0, 0)) (by (with_reducible repeat (first | refine blk_drewN ?_ _ | refine blk_drew ?_ | refine blk_alloc ?_ _)); exact BK193.out) hg (Kd.R_ne HO_6.out BK193.out (by decide))); have n3_ := Aside0.mk ((by rw [hw]; exact below_set (HB.out) GB14.out : Below w.heap.size w w23)); clear HO_5; clear HO_6; clear BK193; clear HB; have HO_5 := n0_; have HO_6 := n1_; have BK193 := n2_; have HB := n3_; clear n0_ n1_ n2_ n3_; clear hg hw hp_))
         go_roundg k1
         case measure => have := HK1.out; omega
         case rel => exact ⟨(y202), (wrap64 (x7_1 + 1)), (by first | rfl | (simp; done) | (simp [*]; done)), H', ⟨by have := HK1.out; omega⟩, ⟨by (with_reducible repeat (first | apply Kd.R_alloc | apply Kd.R_drewN | apply Kd.R_drew)); exact HO_5.out⟩, ⟨by (with_reducible repeat (first | apply Kd.R_alloc | apply Kd.R_drewN | apply Kd.R_drew)); exact HO_6.out⟩, ⟨by (with_reducible repeat (first | refine blk_drewN ?_ _ | refine blk_drew ?_ | refine blk_alloc ?_ _)); exact BK193.out⟩, ⟨by repeat (first | (with_reducible first | exact HB.out | apply below_alloc | apply pw_below_drewN | apply below_drew1 | refine below_set ?_ GE193.out) | exact HB.out)⟩⟩
        ·
         replace c17 := Bool.eq_false_iff.mpr c17
         subst c17
         have H1 : (bivouacref07_Regions.l0 k1 t194 y200 (wrap64 (x7_1 + 1)) a0_0 a0_1 a0_2 l0_3) = some r := by rw [if_neg (show ¬ (false = true) by decide)] at H; exact H
         clear H
         have H := H1
         clear H1
         have H' := Aside0.mk H
         clear H
         obtain ⟨Ao24, co24, eo24⟩ := Kd.R_slice HO_6.out
         subst eo24
         have p14 : 0 ≤ (x7_1 : Int) := of_decide_eq_true (by first | (with_reducible assumption) | assumption)
         have q14 : (x7_1 : Int) < ((x6_1.length : Int) : Int) := of_decide_eq_true (by first | (with_reducible assumption) | assumption)
         obtain ⟨go14, co14, eo14, gb14, gl14, cl14, HG14⟩ := Kd.R_form HO_6.out (by omega)
         (first | cases eo14 | (injection eo14 with ea_ en_ ec_; (first | subst ea_ | (injection ea_ with ea_; subst ea_)); subst ec_; clear en_))
         have GB14 := Aside0.mk gb14
         have GG14 := Aside0.mk HG14
         clear gb14 gl14 HG14
         obtain ⟨hx14_0, hf14_0⟩ := Kd.R_celln 0 HO_6.out (x7_1 : Int) p14 q14
         replace p14 := eq_true p14
         replace q14 := eq_true q14
         have HP25 := Kd.R_putg HO_6.out (x7_1 : Int) (-1)
         go_wp2_with (first | ((with_reducible refine gate_store (t := 3) (p := 26) rfl ?_); refine store_event (t := 3) (p := 26) (v := ?vo_w26) (w1 := (wr.setCell ⟨go14, (x7_1 : Int).toNat, none⟩ (.int .i64 (-1)))) ?hg ?ho ?hn ?hr ?_; (case ho => rfl); (case hg => rfl); (case hn => rfl); (case hr => first | (go_simp; done) | (go_simp; rfl)); intro w26 hw; have hg : wr.grownBy w26 (some go14) := (by rw [hw]; exact HP25.2); have hp_ : Kd.R (Kd.int .i64) 3 w26 w.heap.size (fun _ => True) (.slice (some ⟨go14, 0, none⟩) x6_1.length co24) y200 := (by rw [hw, Ny200.out]; exact HP25.1); clear HP25; have n0_ := Aside0.mk (Kd.R_over' (v := (.slice (some ⟨go14, 0, none⟩) x6_1.length co24)) (by (with_reducible repeat (first | apply Kd.R_alloc | apply Kd.R_drewN | apply Kd.R_drew)); exact HO_5.out) (Kd.R_typed HO_6.out) (by decide) hg); have n1_ := Aside0.mk (hp_); have n2_ := Aside0.mk (blk_grown (g := gb193) (o := .cells #[.int .i64 a0_0, .int .i64 a0_1, .int .i64 a0_2, .slice A0_3 l0_3.length c0_3] 25 (0, 0)) (by (with_reducible repeat (first | refine blk_drewN ?_ _ | refine blk_drew ?_ | refine blk_alloc ?_ _)); exact BK193.out) hg (Kd.R_ne HO_6.out BK193.out (by decide))); have n3_ := Aside0.mk ((by rw [hw]; exact below_set (HB.out) GB14.out : Below w.heap.size w w26)); clear HO_5; clear HO_6; clear BK193; clear HB; have HO_5 := n0_; have HO_6 := n1_; have BK193 := n2_; have HB := n3_; clear n0_ n1_ n2_ n3_; clear hg hw hp_; have p201 : 0 ≤ (x7_1 : Int) := of_decide_eq_true (by first | (with_reducible assumption) | assumption); have q201 : x7_1 < (t194.length : Int) := of_decide_eq_true (by first | (with_reducible assumption) | assumption); obtain ⟨ad201, e201, hx201_0⟩ := Kd.at_bool (Kd.R_reads' HO_5.out).2.2 x7_1 p201 q201; (try rw [← Nbq16.out] at hx201_0); cases e201; replace p201 := eq_true p201; replace q201 := eq_true q201))
         go_roundg k1
         case measure => have := HK1.out; omega
         case rel => exact ⟨(y200), (wrap64 (x7_1 + 1)), (by first | rfl | (simp; done) | (simp [*]; done)), H', ⟨by have := HK1.out; omega⟩, ⟨by (with_reducible repeat (first | apply Kd.R_alloc | apply Kd.R_drewN | apply Kd.R_drew)); exact HO_5.out⟩, ⟨by (with_reducible repeat (first | apply Kd.R_alloc | apply Kd.R_drewN | apply Kd.R_drew)); exact HO_6.out⟩, ⟨by (with_reducible repeat (first | refine blk_drewN ?_ _ | refine blk_drew ?_ | refine blk_alloc ?_ _)); exact BK193.out⟩, ⟨by repeat (first | (with_reducible first | exact HB.out | apply below_alloc | apply pw_below_drewN | apply below_drew1 | refine below_set ?_ GE193.out) | exact HB.out)⟩⟩
       ·
        rw [if_neg c15] at H
        exact absurd H (by simp)
      ·
       rw [if_neg c13] at H
       exact absurd H (by simp)
     ·
      rw [if_neg c12] at H
      have c12b0 : decide (x7_1 < (x6_1.length : Int)) = false := decide_eq_false c12
      clear c12
      have H' := Aside0.mk H
      clear H
      obtain ⟨Ao27, co27, eo27⟩ := Kd.R_slice HO_6.out
      subst eo27
      go_wp2
      go_loopg [8] k1 (fun kq v8 w' => ∃ (x6_2 : List Int) (x8_2 : Bool), v8 = .bool x8_2 ∧ Aside0 (bivouacref07_Regions.l1 kq t194 x6_2 x8_2 a0_0 a0_1 a0_2 l0_3 = some r) ∧ Aside0 (kq ≤ k1) ∧ Aside0 (Kd.R Kd.bool 4 w' w.heap.size (fun _ => True) (.slice Ao9 t194.length co9) t194) ∧ Aside0 (Kd.R (Kd.int .i64) 3 w' w.heap.size (fun _ => True) (.slice Ao27 x6_1.length co27) x6_2) ∧ Aside0 (w'.heap[gb193]? = some (.cells #[.int .i64 a0_0, .int .i64 a0_1, .int .i64 a0_2, (.slice A0_3 l0_3.length c0_3)] 25 (0, 0))) ∧ Aside0 (Below w.heap.size w w'))
      case atStart => exact ⟨(x6_1), (true), (by first | rfl | (simp; done) | (simp [*]; done)), H', ⟨Nat.le_refl _⟩, ⟨by (with_reducible repeat (first | apply Kd.R_alloc | apply Kd.R_drewN | apply Kd.R_drew)); exact HO_5.out⟩, ⟨by (with_reducible repeat (first | apply Kd.R_alloc | apply Kd.R_drewN | apply Kd.R_drew)); exact HO_6.out⟩, ⟨by (with_reducible repeat (first | refine blk_drewN ?_ _ | refine blk_drew ?_ | refine blk_alloc ?_ _)); exact BK193.out⟩, ⟨by repeat (first | (with_reducible first | exact HB.out | apply below_alloc | apply pw_below_drewN | apply below_drew1 | refine below_set ?_ GE193.out) | exact HB.out)⟩⟩
      case round =>
       clear H'
       try clear c1
       try clear p1
       try clear q1
       try clear hx1
       try clear p2
       try clear q2
       try clear hx2
       try clear c4
       try clear c4b0
       try clear c4b1
       try clear c5
       try clear c5b0
       try clear c5b1
       try clear p6
       try clear c12
       try clear c12b0
       try clear c13
       try clear c13b0
       try clear p14
       try clear q14
       try clear hx14
       try clear hf14
       try clear c15
       try clear c15b0
       try clear q16
       try clear c17
       try clear c18
       try clear p18
       try clear q18
       try clear hx18
       try clear hf18
       try clear p20
       try clear q20
       try clear hx20
       try clear hcz7_0
       try clear hcz7_1
       try clear hcz7_2
       try clear hcz7_3
       try clear hfz7_0
       try clear hfz7_1
       try clear hfz7_2
       try clear hfz7_3
       try clear hx14_0
       try clear hx18_0
       try clear hx201_0
       try clear p14
       try clear p18
       try clear p2
       try clear p201
       try clear q14
       try clear q18
       try clear q201
       obtain ⟨x6_2, x8_2, rfl, HA, HK2, HO_5, HO_6, BK193, HB⟩ := hrel
       have hl6_2 := (Kd.R_reads' HO_6.out).1
       rw [hl6_2] at HO_6
       (try simp only [hl6_2])
       (try simp only [hl6_2] at BK193)
       (try simp only [hl6_2] at HO_5)
       cases gk with
       | zero => exact absurd HA.out (by simp [bivouacref07_Regions.l1])
       | succ k2 =>
        have H := HA.out
        clear HA
        simp only [bivouacref07_Regions.l1] at H
        by_cases c28 : x8_2 = true
        ·
         subst c28
         have H1 : (bivouacref07_Regions.l2 k2 t194 x6_2 false 0 a0_0 a0_1 a0_2 l0_3) = some r := by rw [if_pos rfl] at H; exact H
         clear H
         have H := H1
         clear H1
         have H' := Aside0.mk H
         clear H
         go_wp2
         go_loopg [8, 9] k2 (fun kq v8 v9 w' => ∃ (x6_3 : List Int) (x8_3 : Bool) (x9_3 : Int), v8 = .bool x8_3 ∧ v9 = .int .i64 x9_3 ∧ Aside0 (bivouacref07_Regions.l2 kq t194 x6_3 x8_3 x9_3 a0_0 a0_1 a0_2 l0_3 = some r) ∧ Aside0 (kq ≤ k2) ∧ Aside0 (Kd.R Kd.bool 4 w' w.heap.size (fun _ => True) (.slice Ao9 t194.length co9) t194) ∧ Aside0 (Kd.R (Kd.int .i64) 3 w' w.heap.size (fun _ => True) (.slice Ao27 x6_2.length co27) x6_3) ∧ Aside0 (w'.heap[gb193]? = some (.cells #[.int .i64 a0_0, .int .i64 a0_1, .int .i64 a0_2, (.slice A0_3 l0_3.length c0_3)] 25 (0, 0))) ∧ Aside0 (Below w.heap.size w w'))
         case atStart => exact ⟨(x6_2), (false), (0), (by first | rfl | (simp; done) | (simp [*]; done)), (by first | rfl | (simp; done) | (simp [*]; done)), H', ⟨Nat.le_refl _⟩, ⟨by (try simp only [hl6_2]); (with_reducible repeat (first | apply Kd.R_alloc | apply Kd.R_drewN | apply Kd.R_drew)); exact HO_5.out⟩, ⟨by (try simp only [hl6_2]); (with_reducible repeat (first | apply Kd.R_alloc | apply Kd.R_drewN | apply Kd.R_drew)); exact HO_6.out⟩, ⟨by (try simp only [hl6_2]); (with_reducible repeat (first | refine blk_drewN ?_ _ | refine blk_drew ?_ | refine blk_alloc ?_ _)); exact BK193.out⟩, ⟨by repeat (first | (with_reducible first | exact HB.out | apply below_alloc | apply pw_below_drewN | apply below_drew1 | refine below_set ?_ GE193.out) | exact HB.out)⟩⟩
         case round =>
          clear H'
          try clear c1
          try clear p1
          try clear q1
          try clear hx1
          try clear c2
          try clear p2
          try clear q2
          try clear hx2
          try clear c4
          try clear c4b0
          try clear c4b1
          try clear c5
          try clear c5b0
          try clear c5b1
          try clear p6
          try clear c12
          try clear c12b0
          try clear c13
          try clear c13b0
          try clear p14
          try clear q14
          try clear hx14
          try clear hf14
          try clear c15
          try clear c15b0
          try clear q16
          try clear c17
          try clear c18
          try clear p18
          try clear q18
          try clear hx18
          try clear hf18
          try clear p20
          try clear q20
          try clear hx20
          try clear c28
          try clear hcz7_0
          try clear hcz7_1
          try clear hcz7_2
          try clear hcz7_3
          try clear hfz7_0
          try clear hfz7_1
          try clear hfz7_2
          try clear hfz7_3
          try clear hx14_0
          try clear hx18_0
          try clear hx201_0
          try clear p1
          try clear p14
          try clear p18
          try clear p2
          try clear p20
          try clear p201
          try clear p6
          try clear q1
          try clear q14
          try clear q16
          try clear q18
          try clear q2
          try clear q20
          try clear q201
          obtain ⟨x6_3, x8_3, x9_3, rfl, rfl, HA, HK3, HO_5, HO_6, BK193, HB⟩ := hrel
          have hl6_3 := (Kd.R_reads' HO_6.out).1
          rw [hl6_3] at HO_6
          (try simp only [hl6_3])
          (try simp only [hl6_3] at BK193)
          (try simp only [hl6_3] at HO_5)
          cases gk with
          | zero => exact absurd HA.out (by simp [bivouacref07_Regions.l2])
          | succ k3 =>
           have H := HA.out
           clear HA
           simp only [bivouacref07_Regions.l2] at H
           by_cases c29 : x9_3 < (x6_3.length : Int)
           ·
            rw [if_pos c29] at H
            have c29b0 : decide (x9_3 < (x6_3.length : Int)) = true := decide_eq_true c29
            (try simp only [hl6_2] at c29b0)
            (try simp only [hl6_3] at c29b0)
            clear c29
            obtain ⟨y203, hy203⟩ : ∃ y_ : List Int, y_ = (([wrap64 (x9_3 - a0_0), wrap64 (x9_3 - 1), wrap64 (x9_3 + 1), wrap64 (x9_3 + a0_0)] : List Int)) := ⟨_, rfl⟩
            replace H : (bivouacref07_Regions.l3 k3 t194 x6_3 x8_3 x9_3 y203 (y203.length : Int) 0 a0_0 a0_1 a0_2 l0_3) = some r := by first | (rw [hy203]; with_reducible exact H) | (have H2_ := (Option.bind_some _ _).symm.trans H; rw [hy203]; with_reducible exact H2_) | (have H2_ := (Option.bind_some _ _).symm.trans H; with_reducible exact H2_) | with_reducible exact H | (rw [hy203]; exact H) | exact H
            have Ny203 := Aside0.mk hy203
            clear hy203
            have H' := Aside0.mk H
            clear H
            have hcz30_0 : wr.cell? ⟨gb193, 0, none⟩ = some (.int .i64 a0_0) := (blk_cell BK193.out 0).trans rfl
            have hcz30_1 : wr.cell? ⟨gb193, 1, none⟩ = some (.int .i64 a0_1) := (blk_cell BK193.out 1).trans rfl
            have hcz30_2 : wr.cell? ⟨gb193, 2, none⟩ = some (.int .i64 a0_2) := (blk_cell BK193.out 2).trans rfl
            have hcz30_3 : wr.cell? ⟨gb193, 3, none⟩ = some (.slice A0_3 l0_3.length c0_3) := (blk_cell BK193.out 3).trans rfl
            have hfz30_0 := blk_frozen BK193.out 0
            have hfz30_1 := blk_frozen BK193.out 1
            have hfz30_2 := blk_frozen BK193.out 2
            have hfz30_3 := blk_frozen BK193.out 3
            go_wp2_with (first | ((with_reducible refine gate_dst (N := 54) rfl ?_); (try (refine gate_guard (by rfl) ?_; dsimp only)); refine Kd.R_lit (Kd.int .i64) _ 3 ?hg (N := 54) ?hd (xs := ([wrap64 (x9_3 - a0_0), wrap64 (x9_3 - 1), wrap64 (x9_3 + 1), wrap64 (x9_3 + a0_0)] : List Int)) (inner := [.int .i64 (wrap64 (x9_3 - a0_0)), .int .i64 (wrap64 (x9_3 - 1)), .int .i64 (wrap64 (x9_3 + 1)), .int .i64 (wrap64 (x9_3 + a0_0))]) (ok := fun _ => True) (okp := fun _ => True) ?hr ?hp (fun _ hk => hk) trivial (Below.refl _ _) (Nat.le_refl _) (by simp) ?_; (case hd => rfl); (case hg => rfl); (case hr => first | (go_simp; done) | (go_simp; rfl)); (case hp => exact (Reps.one (show Kd.M (Kd.int .i64) _ _ _ (wrap64 (x9_3 - a0_0)) [.int .i64 (wrap64 (x9_3 - a0_0))] from rfl) (Reps.one (show Kd.M (Kd.int .i64) _ _ _ (wrap64 (x9_3 - 1)) [.int .i64 (wrap64 (x9_3 - 1))] from rfl) (Reps.one (show Kd.M (Kd.int .i64) _ _ _ (wrap64 (x9_3 + 1)) [.int .i64 (wrap64 (x9_3 + 1))] from rfl) (Reps.one (show Kd.M (Kd.int .i64) _ _ _ (wrap64 (x9_3 + a0_0)) [.int .i64 (wrap64 (x9_3 + a0_0))] from rfl) (Reps.none _ _)))))); intro v204 w31 ho32 hb hg_ hnew_; clear hg_ hnew_; (first | rw [← Ny203.out] at ho32 | (simp only [Int.reduceToNat] at ho32; rw [← Ny203.out] at ho32)); have n0_ := Aside0.mk (Kd.R_below (by (with_reducible repeat (first | apply Kd.R_alloc | apply Kd.R_drewN | apply Kd.R_drew)); exact HO_5.out) hb); have n1_ := Aside0.mk (Kd.R_elder' (by (with_reducible repeat (first | apply Kd.R_alloc | apply Kd.R_drewN | apply Kd.R_drew)); exact HO_6.out) (Kd.R_base ho32) hb); have n2_ := Aside0.mk (Kd.R_lower (Kd.R_new' ho32 (Kd.R_lt (by (with_reducible repeat (first | apply Kd.R_alloc | apply Kd.R_drewN | apply Kd.R_drew)); exact HO_6.out))) (below_size (by repeat (first | (with_reducible first | exact HB.out | apply below_alloc | apply pw_below_drewN | apply below_drew1 | refine below_set ?_ GE193.out) | exact HB.out)))); have n3_ := Aside0.mk (blk_below (g := gb193) (o := .cells #[.int .i64 a0_0, .int .i64 a0_1, .int .i64 a0_2, .slice A0_3 l0_3.length c0_3] 25 (0, 0)) (by (with_reducible repeat (first | refine blk_drewN ?_ _ | refine blk_drew ?_ | refine blk_alloc ?_ _)); exact BK193.out) hb); have n4_ := Aside0.mk (below_step (by repeat (first | (with_reducible first | exact HB.out | apply below_alloc | apply pw_below_drewN | apply below_drew1 | refine below_set ?_ GE193.out) | exact HB.out)) hb); clear HO_5; clear HO_6; clear BK193; clear HB; have HO_5 := n0_; have HO_6 := n1_; have HO205 := n2_; have BK193 := n3_; have HB := n4_; clear n0_ n1_ n2_ n3_ n4_; clear hb ho32; obtain ⟨Ao33, co33, eo33⟩ := Kd.R_slice HO205.out; subst eo33))
            go_loopg [8, 56] k3 (fun kq v8 v56 w' => ∃ (x6_4 : List Int) (x8_4 : Bool) (x56_4 : Int), v8 = .bool x8_4 ∧ v56 = .int .i64 x56_4 ∧ Aside0 (bivouacref07_Regions.l3 kq t194 x6_4 x8_4 x9_3 y203 (y203.length : Int) x56_4 a0_0 a0_1 a0_2 l0_3 = some r) ∧ Aside0 (kq ≤ k3) ∧ Aside0 (Kd.R Kd.bool 4 w' w.heap.size (fun _ => True) (.slice Ao9 t194.length co9) t194) ∧ Aside0 (Kd.R (Kd.int .i64) 3 w' w.heap.size (fun k_ => some k_ ≠ ((.slice Ao33 y203.length co33) : Value).ownBlock) (.slice Ao27 x6_3.length co27) x6_4) ∧ Aside0 (Kd.R (Kd.int .i64) 3 w' w.heap.size (fun k_ => some k_ ≠ ((.slice Ao27 x6_3.length co27) : Value).ownBlock) (.slice Ao33 y203.length co33) y203) ∧ Aside0 (w'.heap[gb193]? = some (.cells #[.int .i64 a0_0, .int .i64 a0_1, .int .i64 a0_2, (.slice A0_3 l0_3.length c0_3)] 25 (0, 0))) ∧ Aside0 (Below w.heap.size w w'))
            case atStart => exact ⟨(x6_3), (x8_3), (0), (by first | rfl | (simp; done) | (simp [*]; done)), (by first | rfl | (simp; done) | (simp [*]; done)), H', ⟨Nat.le_refl _⟩, ⟨by (try simp only [hl6_2]); (try simp only [hl6_3]); (with_reducible repeat (first | apply Kd.R_alloc | apply Kd.R_drewN | apply Kd.R_drew)); exact HO_5.out⟩, ⟨by (try simp only [hl6_2]); (try simp only [hl6_3]); (with_reducible repeat (first | apply Kd.R_alloc | apply Kd.R_drewN | apply Kd.R_drew)); exact Kd.R_mono HO_6.out (fun _ hk => hk.2)⟩, ⟨by (try simp only [hl6_2]); (try simp only [hl6_3]); (with_reducible repeat (first | apply Kd.R_alloc | apply Kd.R_drewN | apply Kd.R_drew)); exact Kd.R_mono HO205.out (fun _ hk => hk.2)⟩, ⟨by (try simp only [hl6_2]); (try simp only [hl6_3]); (with_reducible repeat (first | refine blk_drewN ?_ _ | refine blk_drew ?_ | refine blk_alloc ?_ _)); exact BK193.out⟩, ⟨by repeat (first | (with_reducible first | exact HB.out | apply below_alloc | apply pw_below_drewN | apply below_drew1 | refine below_set ?_ GE193.out) | exact HB.out)⟩⟩
            case round =>
             clear H'
             try clear c1
             try clear p1
             try clear q1
             try clear hx1
             try clear c2
             try clear p2
             try clear q2
             try clear hx2
             try clear c4
             try clear c4b0
             try clear c4b1
             try clear c5
             try clear c5b0
             try clear c5b1
             try clear p6
             try clear c12
             try clear c12b0
             try clear c13
             try clear c13b0
             try clear p14
             try clear q14
             try clear hx14
             try clear hf14
             try clear c15
             try clear c15b0
             try clear q16
             try clear c17
             try clear c18
             try clear p18
             try clear q18
             try clear hx18
             try clear hf18
             try clear p20
             try clear q20
             try clear hx20
             try clear c28
             try clear c29
             try clear c29b0
             try clear hcz30_0
             try clear hcz30_1
             try clear hcz30_2
             try clear hcz30_3
             try clear hcz7_0
             try clear hcz7_1
             try clear hcz7_2
             try clear hcz7_3
             try clear hfz30_0
             try clear hfz30_1
             try clear hfz30_2
             try clear hfz30_3
             try clear hfz7_0
             try clear hfz7_1
             try clear hfz7_2
             try clear hfz7_3
             try clear hx14_0
             try clear hx18_0
             try clear hx201_0
             try clear p1
             try clear p14
             try clear p18
             try clear p2
             try clear p20
             try clear p201
             try clear p6
             try clear q1
             try clear q14
             try clear q16
             try clear q18
             try clear q2
             try clear q20
             try clear q201
             obtain ⟨x6_4, x8_4, x56_4, rfl, rfl, HA, HK4, HO_5, HO_6, HO_54, BK193, HB⟩ := hrel
             have hl6_4 := (Kd.R_reads' HO_6.out).1
             rw [hl6_4] at HO_6
             (try simp only [hl6_4])
             (try simp only [hl6_4] at BK193)
             (try simp only [hl6_4] at HO_5)
             (try simp only [hl6_4] at HO_54)
             cases gk with
             | zero => exact absurd HA.out (by simp [bivouacref07_Regions.l3])
             | succ k4 =>
              have H := HA.out
              clear HA
              simp only [bivouacref07_Regions.l3] at H
              by_cases c34 : x56_4 < (y203.length : Int)
              ·
               rw [if_pos c34] at H
               have c34b0 : decide (x56_4 < (y203.length : Int)) = true := decide_eq_true c34
               (try simp only [hl6_2] at c34b0)
               (try simp only [hl6_3] at c34b0)
               (try simp only [hl6_4] at c34b0)
               clear c34
               by_cases c35 : 0 ≤ x56_4
               ·
                rw [if_pos c35] at H
                have c35b0 : decide (0 ≤ x56_4) = true := decide_eq_true c35
                (try simp only [hl6_2] at c35b0)
                (try simp only [hl6_3] at c35b0)
                (try simp only [hl6_4] at c35b0)
                clear c35
                by_cases c36 : x56_4 < (y203.length : Int)
                ·
                 rw [if_pos c36] at H
                 have c36b0 : decide (x56_4 < (y203.length : Int)) = true := decide_eq_true c36
                 (try simp only [hl6_2] at c36b0)
                 (try simp only [hl6_3] at c36b0)
                 (try simp only [hl6_4] at c36b0)
                 clear c36
                 by_cases c37 : (rd y203 x56_4) ≥ 0
                 ·
                  rw [if_pos c37] at H
                  have c37b0 : decide (0 ≤ (rd y203 x56_4)) = true := decide_eq_true c37
                  (try simp only [hl6_2] at c37b0)
                  (try simp only [hl6_3] at c37b0)
                  (try simp only [hl6_4] at c37b0)
                  clear c37
                  by_cases c38 : (rd y203 x56_4) < (x6_4.length : Int)
                  ·
                   rw [if_pos c38] at H
                   have c38b0 : decide ((rd y203 x56_4) < (x6_4.length : Int)) = true := decide_eq_true c38
                   (try simp only [hl6_2] at c38b0)
                   (try simp only [hl6_3] at c38b0)
                   (try simp only [hl6_4] at c38b0)
                   clear c38
                   by_cases c39 : 0 ≤ x9_3
                   ·
                    rw [if_pos c39] at H
                    have c39b0 : decide (0 ≤ x9_3) = true := decide_eq_true c39
                    (try simp only [hl6_2] at c39b0)
                    (try simp only [hl6_3] at c39b0)
                    (try simp only [hl6_4] at c39b0)
                    clear c39
                    by_cases c40 : x9_3 < (t194.length : Int)
                    ·
                     rw [if_pos c40] at H
                     have c40b0 : decide (x9_3 < (t194.length : Int)) = true := decide_eq_true c40
                     (try simp only [hl6_2] at c40b0)
                     (try simp only [hl6_3] at c40b0)
                     (try simp only [hl6_4] at c40b0)
                     clear c40
                     obtain ⟨bq41, hbq41⟩ : ∃ b_ : Bool, b_ = (rdOf false t194 x9_3) := ⟨_, rfl⟩
                     replace H : (if bq41 = true then (if 0 ≤ (rd y203 x56_4) then (if (rd y203 x56_4) < (t194.length : Int) then (if rdOf false t194 (rd y203 x56_4) = true then ((bivouacref07_Beside.f x9_3 (rd y203 x56_4) a0_0).bind fun t209 => (if t209 = true then (if x9_3 < (x6_4.length : Int) then (if (rd x6_4 (rd y203 x56_4)) < (rd x6_4 x9_3) then (bivouacref07_Regions.l3 k4 t194 (x6_4.set (x9_3 : Int).toNat (rd x6_4 (rd y203 x56_4))) true x9_3 y203 (y203.length : Int) (wrap64 (x56_4 + 1)) a0_0 a0_1 a0_2 l0_3) else (bivouacref07_Regions.l3 k4 t194 x6_4 x8_4 x9_3 y203 (y203.length : Int) (wrap64 (x56_4 + 1)) a0_0 a0_1 a0_2 l0_3)) else (none)) else (bivouacref07_Regions.l3 k4 t194 x6_4 x8_4 x9_3 y203 (y203.length : Int) (wrap64 (x56_4 + 1)) a0_0 a0_1 a0_2 l0_3))) else (bivouacref07_Regions.l3 k4 t194 x6_4 x8_4 x9_3 y203 (y203.length : Int) (wrap64 (x56_4 + 1)) a0_0 a0_1 a0_2 l0_3)) else (none)) else (none)) else (bivouacref07_Regions.l3 k4 t194 x6_4 x8_4 x9_3 y203 (y203.length : Int) (wrap64 (x56_4 + 1)) a0_0 a0_1 a0_2 l0_3)) = some r := by rw [← hbq41] at H; exact H
                     have Nbq41 := Aside0.mk hbq41
                     clear hbq41
                     by_cases c42 : bq41 = true
                     ·
                      subst c42
                      have H1 : (if 0 ≤ (rd y203 x56_4) then (if (rd y203 x56_4) < (t194.length : Int) then (if rdOf false t194 (rd y203 x56_4) = true then ((bivouacref07_Beside.f x9_3 (rd y203 x56_4) a0_0).bind fun t209 => (if t209 = true then (if x9_3 < (x6_4.length : Int) then (if (rd x6_4 (rd y203 x56_4)) < (rd x6_4 x9_3) then (bivouacref07_Regions.l3 k4 t194 (x6_4.set (x9_3 : Int).toNat (rd x6_4 (rd y203 x56_4))) true x9_3 y203 (y203.length : Int) (wrap64 (x56_4 + 1)) a0_0 a0_1 a0_2 l0_3) else (bivouacref07_Regions.l3 k4 t194 x6_4 x8_4 x9_3 y203 (y203.length : Int) (wrap64 (x56_4 + 1)) a0_0 a0_1 a0_2 l0_3)) else (none)) else (bivouacref07_Regions.l3 k4 t194 x6_4 x8_4 x9_3 y203 (y203.length : Int) (wrap64 (x56_4 + 1)) a0_0 a0_1 a0_2 l0_3))) else (bivouacref07_Regions.l3 k4 t194 x6_4 x8_4 x9_3 y203 (y203.length : Int) (wrap64 (x56_4 + 1)) a0_0 a0_1 a0_2 l0_3)) else (none)) else (none)) = some r := by rw [if_pos rfl] at H; exact H
                      clear H
                      have H := H1
                      clear H1
                      by_cases c43 : 0 ≤ (rd y203 x56_4)
                      ·
                       rw [if_pos c43] at H
                       have c43b0 : decide (0 ≤ (rd y203 x56_4)) = true := decide_eq_true c43
                       (try simp only [hl6_2] at c43b0)
                       (try simp only [hl6_3] at c43b0)
                       (try simp only [hl6_4] at c43b0)
                       clear c43
                       by_cases c44 : (rd y203 x56_4) < (t194.length : Int)
                       ·
                        rw [if_pos c44] at H
                        have c44b0 : decide ((rd y203 x56_4) < (t194.length : Int)) = true := decide_eq_true c44
                        (try simp only [hl6_2] at c44b0)
                        (try simp only [hl6_3] at c44b0)
                        (try simp only [hl6_4] at c44b0)
                        clear c44
                        obtain ⟨bq45, hbq45⟩ : ∃ b_ : Bool, b_ = (rdOf false t194 (rd y203 x56_4)) := ⟨_, rfl⟩
                        replace H : (if bq45 = true then ((bivouacref07_Beside.f x9_3 (rd y203 x56_4) a0_0).bind fun t209 => (if t209 = true then (if x9_3 < (x6_4.length : Int) then (if (rd x6_4 (rd y203 x56_4)) < (rd x6_4 x9_3) then (bivouacref07_Regions.l3 k4 t194 (x6_4.set (x9_3 : Int).toNat (rd x6_4 (rd y203 x56_4))) true x9_3 y203 (y203.length : Int) (wrap64 (x56_4 + 1)) a0_0 a0_1 a0_2 l0_3) else (bivouacref07_Regions.l3 k4 t194 x6_4 x8_4 x9_3 y203 (y203.length : Int) (wrap64 (x56_4 + 1)) a0_0 a0_1 a0_2 l0_3)) else (none)) else (bivouacref07_Regions.l3 k4 t194 x6_4 x8_4 x9_3 y203 (y203.length : Int) (wrap64 (x56_4 + 1)) a0_0 a0_1 a0_2 l0_3))) else (bivouacref07_Regions.l3 k4 t194 x6_4 x8_4 x9_3 y203 (y203.length : Int) (wrap64 (x56_4 + 1)) a0_0 a0_1 a0_2 l0_3)) = some r := by rw [← hbq45] at H; exact H
                        have Nbq45 := Aside0.mk hbq45
                        clear hbq45
                        by_cases c46 : bq45 = true
                        ·
                         subst c46
                         have H1 : ((bivouacref07_Beside.f x9_3 (rd y203 x56_4) a0_0).bind fun t209 => (if t209 = true then (if x9_3 < (x6_4.length : Int) then (if (rd x6_4 (rd y203 x56_4)) < (rd x6_4 x9_3) then (bivouacref07_Regions.l3 k4 t194 (x6_4.set (x9_3 : Int).toNat (rd x6_4 (rd y203 x56_4))) true x9_3 y203 (y203.length : Int) (wrap64 (x56_4 + 1)) a0_0 a0_1 a0_2 l0_3) else (bivouacref07_Regions.l3 k4 t194 x6_4 x8_4 x9_3 y203 (y203.length : Int) (wrap64 (x56_4 + 1)) a0_0 a0_1 a0_2 l0_3)) else (none)) else (bivouacref07_Regions.l3 k4 t194 x6_4 x8_4 x9_3 y203 (y203.length : Int) (wrap64 (x56_4 + 1)) a0_0 a0_1 a0_2 l0_3))) = some r := by rw [if_pos rfl] at H; exact H
                         clear H
                         have H := H1
                         clear H1
                         replace H := Option.bind_eq_some_iff.mp H
                         obtain ⟨t209, A470, H⟩ := H
                         replace H : (if t209 = true then (if x9_3 < (x6_4.length : Int) then (if (rd x6_4 (rd y203 x56_4)) < (rd x6_4 x9_3) then (bivouacref07_Regions.l3 k4 t194 (x6_4.set (x9_3 : Int).toNat (rd x6_4 (rd y203 x56_4))) true x9_3 y203 (y203.length : Int) (wrap64 (x56_4 + 1)) a0_0 a0_1 a0_2 l0_3) else (bivouacref07_Regions.l3 k4 t194 x6_4 x8_4 x9_3 y203 (y203.length : Int) (wrap64 (x56_4 + 1)) a0_0 a0_1 a0_2 l0_3)) else (none)) else (bivouacref07_Regions.l3 k4 t194 x6_4 x8_4 x9_3 y203 (y203.length : Int) (wrap64 (x56_4 + 1)) a0_0 a0_1 a0_2 l0_3)) = some r := H
                         have A47 := Aside0.mk A470
                         clear A470
                         by_cases c48 : t209 = true
                         ·
                          subst c48
                          have H1 : (if x9_3 < (x6_4.length : Int) then (if (rd x6_4 (rd y203 x56_4)) < (rd x6_4 x9_3) then (bivouacref07_Regions.l3 k4 t194 (x6_4.set (x9_3 : Int).toNat (rd x6_4 (rd y203 x56_4))) true x9_3 y203 (y203.length : Int) (wrap64 (x56_4 + 1)) a0_0 a0_1 a0_2 l0_3) else (bivouacref07_Regions.l3 k4 t194 x6_4 x8_4 x9_3 y203 (y203.length : Int) (wrap64 (x56_4 + 1)) a0_0 a0_1 a0_2 l0_3)) else (none)) = some r := by rw [if_pos rfl] at H; exact H
                          clear H
                          have H := H1
                          clear H1
                          by_cases c49 : x9_3 < (x6_4.length : Int)
                          ·
                           rw [if_pos c49] at H
                           have c49b0 : decide (x9_3 < (x6_4.length : Int)) = true := decide_eq_true c49
                           (try simp only [hl6_2] at c49b0)
                           (try simp only [hl6_3] at c49b0)
                           (try simp only [hl6_4] at c49b0)
                           clear c49
                           by_cases c50 : (rd x6_4 (rd y203 x56_4)) < (rd x6_4 x9_3)
                           ·
                            rw [if_pos c50] at H
                            have c50b0 : decide ((rd x6_4 (rd y203 x56_4)) < (rd x6_4 x9_3)) = true := decide_eq_true c50
                            (try simp only [hl6_2] at c50b0)
                            (try simp only [hl6_3] at c50b0)
                            (try simp only [hl6_4] at c50b0)
                            clear c50
                            obtain ⟨y213, hy213⟩ : ∃ y_ : List Int, y_ = (x6_4.set (x9_3 : Int).toNat (rd x6_4 (rd y203 x56_4))) := ⟨_, rfl⟩
                            replace H : (bivouacref07_Regions.l3 k4 t194 y213 true x9_3 y203 (y203.length : Int) (wrap64 (x56_4 + 1)) a0_0 a0_1 a0_2 l0_3) = some r := by first | (rw [hy213]; with_reducible exact H) | (have H2_ := (Option.bind_some _ _).symm.trans H; rw [hy213]; with_reducible exact H2_) | (have H2_ := (Option.bind_some _ _).symm.trans H; with_reducible exact H2_) | with_reducible exact H | (rw [hy213]; exact H) | exact H
                            have Ny213 := Aside0.mk hy213
                            clear hy213
                            have H' := Aside0.mk H
                            clear H
                            have p206 : 0 ≤ (x56_4 : Int) := of_decide_eq_true (by first | (with_reducible assumption) | assumption)
                            have q206 : x56_4 < (y203.length : Int) := of_decide_eq_true (by first | (with_reducible assumption) | assumption)
                            obtain ⟨ad206, e206, hx206_0⟩ := Kd.at_int (Kd.R_reads' HO_54.out).2.2 x56_4 p206 q206
                            cases e206
                            replace p206 := eq_true p206
                            replace q206 := eq_true q206
                            try go_wp2
                            have n0_ := Aside0.mk (Kd.R_drew HO_5.out)
                            have n1_ := Aside0.mk (Kd.R_drew HO_6.out)
                            have n2_ := Aside0.mk (Kd.R_drew HO_54.out)
                            have n3_ := Aside0.mk (blk_drew BK193.out)
                            have n4_ := Aside0.mk (below_drew1 HB.out)
                            clear HO_5
                            clear HO_6
                            clear HO_54
                            clear BK193
                            clear HB
                            have HO_5 := n0_
                            have HO_6 := n1_
                            have HO_54 := n2_
                            have BK193 := n3_
                            have HB := n4_
                            clear n0_ n1_ n2_ n3_ n4_
                            have p207 : 0 ≤ (x9_3 : Int) := of_decide_eq_true (by first | (with_reducible assumption) | assumption)
                            have q207 : x9_3 < (t194.length : Int) := of_decide_eq_true (by first | (with_reducible assumption) | assumption)
                            obtain ⟨ad207, e207, hx207_0⟩ := Kd.at_bool (Kd.R_reads' HO_5.out).2.2 x9_3 p207 q207
                            (try rw [← Nbq41.out] at hx207_0)
                            (try rw [← Nbq45.out] at hx207_0)
                            cases e207
                            replace p207 := eq_true p207
                            replace q207 := eq_true q207
                            have p208 : 0 ≤ ((rd y203 x56_4) : Int) := of_decide_eq_true (by first | (with_reducible assumption) | assumption)
                            have q208 : (rd y203 x56_4) < (t194.length : Int) := of_decide_eq_true (by first | (with_reducible assumption) | assumption)
                            obtain ⟨ad208, e208, hx208_0⟩ := Kd.at_bool (Kd.R_reads' HO_5.out).2.2 (rd y203 x56_4) p208 q208
                            (try rw [← Nbq41.out] at hx208_0)
                            (try rw [← Nbq45.out] at hx208_0)
                            obtain rfl : ad207 = ad208 := (by injection e208)
                            replace p208 := eq_true p208
                            replace q208 := eq_true q208
                            have p210 : 0 ≤ ((rd y203 x56_4) : Int) := of_decide_eq_true (by first | (with_reducible assumption) | assumption)
                            have q210 : (rd y203 x56_4) < (x6_4.length : Int) := of_decide_eq_true (by first | (with_reducible assumption) | assumption)
                            obtain ⟨ad210, e210, hx210_0⟩ := Kd.at_int (Kd.R_reads' HO_6.out).2.2 (rd y203 x56_4) p210 q210
                            cases e210
                            replace p210 := eq_true p210
                            replace q210 := eq_true q210
                            have p211 : 0 ≤ (x9_3 : Int) := of_decide_eq_true (by first | (with_reducible assumption) | assumption)
                            have q211 : x9_3 < (x6_4.length : Int) := of_decide_eq_true (by first | (with_reducible assumption) | assumption)
                            obtain ⟨ad211, e211, hx211_0⟩ := Kd.at_int (Kd.R_reads' HO_6.out).2.2 x9_3 p211 q211
                            obtain rfl : ad210 = ad211 := (by injection e211)
                            replace p211 := eq_true p211
                            replace q211 := eq_true q211
                            refine start_ (n := 38) (S := fun w' => w'.cell? ⟨gb193, 0, none⟩ = some (.int .i64 a0_0) ∧ w'.cell? ⟨gb193, 1, none⟩ = some (.int .i64 a0_1) ∧ w'.cell? ⟨gb193, 2, none⟩ = some (.int .i64 a0_2) ∧ w'.cell? ⟨gb193, 3, none⟩ = some (.slice A0_3 l0_3.length c0_3) ∧ w'.cell? (ad207.add (x9_3).toNat) = some (.bool true) ∧ w'.cell? (ad207.add ((rd y203 x56_4)).toNat) = some (.bool true) ∧ w'.cell? (ad210.add ((rd y203 x56_4)).toNat) = some (.int .i64 (rd x6_4 (rd y203 x56_4))) ∧ w'.cell? (ad210.add (x9_3).toNat) = some (.int .i64 (rd x6_4 x9_3))) (ds := []) (bA 38 0) (by kernel_rfl) rfl rfl ⟨(blk_cell BK193.out 0).trans rfl, (blk_cell BK193.out 1).trans rfl, (blk_cell BK193.out 2).trans rfl, (blk_cell BK193.out 3).trans rfl, hx207_0, hx208_0, hx210_0, hx211_0⟩ (fun hHeld => ?_); refine with_tabW bivouacref07_Regions.tab18 bivouacref07_Regions.bits18 (fun HT_ HW_ => ?_)
                            generalize wr.drew = w52 at HO_5 HO_6 HO_54 BK193 HB hx207_0 hx208_0 hx210_0 hx211_0 hHeld ⊢
                            refine pure_ (i := 0) (N := some 60) (v := ?_) (a' := ?_) (bA 38 1) rfl rfl (any_of HT_.out (by kernel_rfl)) (fun _ _ _ h => h) (Or.inl ⟨by rfl, ?_⟩) ?_ ?_
                            rotate_left
                            ·
                             intro w'
                             go_simp
                             with_reducible rfl
                            rotate_left
                            ·
                             simp only [Act.put, sA, sB, sC, i64_w, i32_w]
                             rfl
                            refine pure_ (i := 1) (N := some 61) (v := ?_) (a' := ?_) (bA 38 3) rfl rfl (any_of HT_.out (by kernel_rfl)) (fun _ _ _ h => h) (Or.inl ⟨by rfl, ?_⟩) ?_ ?_
                            rotate_left
                            ·
                             intro w'
                             go_simp
                             with_reducible rfl
                            rotate_left
                            ·
                             simp only [Act.put, sA, sB, sC, i64_w, i32_w]
                             rfl
                            refine pure_ (i := 2) (N := some 62) (v := ?_) (a' := ?_) (bA 38 7) rfl rfl (any_of HT_.out (by kernel_rfl)) (fun _ _ _ h => h) (Or.inl ⟨by rfl, ?_⟩) ?_ ?_
                            rotate_left
                            ·
                             intro w'
                             go_simp
                             with_reducible rfl
                            rotate_left
                            ·
                             simp only [Act.put, sA, sB, sC, i64_w, i32_w]
                             rfl
                            refine pure_ (i := 3) (N := some 63) (v := ?_) (a' := ?_) (bA 38 15) rfl rfl (any_of HT_.out (by kernel_rfl)) (fun _ _ _ h => h) (Or.inl ⟨by rfl, ?_⟩) ?_ ?_
                            rotate_left
                            ·
                             intro w'
                             go_simp
                             with_reducible rfl
                            rotate_left
                            ·
                             simp only [Act.put, sA, sB, sC, i64_w, i32_w]
                             rfl
                            refine pure_ (i := 4) (N := some 64) (v := ?_) (a' := ?_) (bA 38 31) rfl rfl (any_of HT_.out (by kernel_rfl)) (fun _ _ _ h => h) (Or.inl ⟨by rfl, ?_⟩) ?_ ?_
                            rotate_left
                            ·
                             intro w'
                             go_simp
                             with_reducible rfl
                            rotate_left
                            ·
                             simp only [Act.put, sA, sB, sC, i64_w, i32_w]
                             rfl
                            refine pure_ (i := 5) (N := some 65) (v := ?_) (a' := ?_) (bA 38 63) rfl rfl (any_of HT_.out (by kernel_rfl)) (fun _ _ _ h => h) (Or.inl ⟨by rfl, ?_⟩) ?_ ?_
                            rotate_left
                            ·
                             intro w'
                             go_simp
                             with_reducible rfl
                            rotate_left
                            ·
                             simp only [Act.put, sA, sB, sC, i64_w, i32_w]
                             rfl
                            refine pure_ (i := 6) (N := some 66) (v := ?_) (a' := ?_) (bA 38 127) rfl rfl (any_of HT_.out (by kernel_rfl)) (fun _ _ _ h => h) (Or.inl ⟨by rfl, ?_⟩) ?_ ?_
                            rotate_left
                            ·
                             intro w'
                             go_simp
                             with_reducible rfl
                            rotate_left
                            ·
                             simp only [Act.put, sA, sB, sC, i64_w, i32_w]
                             rfl
                            refine pure_ (i := 7) (N := some 67) (v := ?_) (a' := ?_) (bA 38 255) rfl rfl (any_of HT_.out (by kernel_rfl)) (fun _ _ _ h => h) (Or.inl ⟨by rfl, ?_⟩) ?_ ?_
                            rotate_left
                            ·
                             intro w'
                             go_simp
                             with_reducible rfl
                            rotate_left
                            ·
                             simp only [Act.put, sA, sB, sC, i64_w, i32_w]
                             rfl
                            refine pure_ (i := 8) (N := some 68) (v := ?_) (a' := ?_) (bA 38 511) rfl rfl (any_of HT_.out (by kernel_rfl)) (fun _ _ _ h => h) (Or.inl ⟨by rfl, ?_⟩) ?_ ?_
                            rotate_left
                            ·
                             intro w'
                             go_simp
                             with_reducible rfl
                            rotate_left
                            ·
                             simp only [Act.put, sA, sB, sC, i64_w, i32_w]
                             rfl
                            refine pure_ (i := 9) (N := some 69) (v := ?_) (a' := ?_) (bA 38 1023) rfl rfl (any_of HT_.out (by kernel_rfl)) (fun _ _ _ h => h) (Or.inl ⟨by rfl, ?_⟩) ?_ ?_
                            rotate_left
                            ·
                             intro w'
                             go_simp
                             with_reducible rfl
                            rotate_left
                            ·
                             simp only [Act.put, sA, sB, sC, i64_w, i32_w]
                             rfl
                            refine pure_ (i := 10) (N := some 70) (v := ?_) (a' := ?_) (bA 38 2047) rfl rfl (any_of HT_.out (by kernel_rfl)) (fun _ _ _ h => h) (Or.inl ⟨by rfl, ?_⟩) ?_ ?_
                            rotate_left
                            ·
                             intro w'
                             go_simp
                             with_reducible rfl
                            rotate_left
                            ·
                             simp only [Act.put, sA, sB, sC, i64_w, i32_w]
                             rfl
                            refine pure_ (i := 11) (N := some 71) (v := ?_) (a' := ?_) (bA 38 4095) rfl rfl (any_of HT_.out (by kernel_rfl)) (fun _ _ _ h => h) (Or.inl ⟨by rfl, ?_⟩) ?_ ?_
                            rotate_left
                            ·
                             intro w'
                             go_simp
                             with_reducible rfl
                            rotate_left
                            ·
                             simp only [Act.put, sA, sB, sC, i64_w, i32_w]
                             rfl
                            refine take_ (i := 12) (N := some 72) (v := ?_) (a' := ?_) (bA 38 8191) rfl rfl (take_ofW HT_.out HW_.out (by kernel_rfl)) (fun _ _ _ h => h) (Or.inl ⟨by rfl, ?_⟩) hHeld ?_ ?_
                            rotate_left
                            ·
                             rintro w' ⟨s0, s1, s2, s3, s4, s5, s6, s7⟩
                             go_simp
                             with_reducible rfl
                            rotate_left
                            ·
                             simp only [Act.put, sA, sB, sC, i64_w, i32_w]
                             rfl
                            refine pure_ (i := 13) (N := some 73) (v := ?_) (a' := ?_) (bA 38 16383) rfl rfl (any_of HT_.out (by kernel_rfl)) (fun _ _ _ h => h) (Or.inl ⟨by rfl, ?_⟩) ?_ ?_
                            rotate_left
                            ·
                             intro w'
                             go_simp
                             with_reducible rfl
                            rotate_left
                            ·
                             simp only [Act.put, sA, sB, sC, i64_w, i32_w]
                             rfl
                            refine pure_ (i := 14) (N := some 74) (v := ?_) (a' := ?_) (bA 38 32767) rfl rfl (any_of HT_.out (by kernel_rfl)) (fun _ _ _ h => h) (Or.inl ⟨by rfl, ?_⟩) ?_ ?_
                            rotate_left
                            ·
                             intro w'
                             go_simp
                             with_reducible rfl
                            rotate_left
                            ·
                             simp only [Act.put, sA, sB, sC, i64_w, i32_w]
                             rfl
                            refine pure_ (i := 15) (N := some 75) (v := ?_) (a' := ?_) (bA 38 65535) rfl rfl (any_of HT_.out (by kernel_rfl)) (fun _ _ _ h => h) (Or.inl ⟨by rfl, ?_⟩) ?_ ?_
                            rotate_left
                            ·
                             intro w'
                             go_simp
                             with_reducible rfl
                            rotate_left
                            ·
                             simp only [Act.put, sA, sB, sC, i64_w, i32_w]
                             rfl
                            refine pure_ (i := 16) (N := some 76) (v := ?_) (a' := ?_) (bA 38 131071) rfl rfl (any_of HT_.out (by kernel_rfl)) (fun _ _ _ h => h) (Or.inl ⟨by rfl, ?_⟩) ?_ ?_
                            rotate_left
                            ·
                             intro w'
                             go_simp
                             with_reducible rfl
                            rotate_left
                            ·
                             simp only [Act.put, sA, sB, sC, i64_w, i32_w]
                             rfl
                            refine pure_ (i := 17) (N := some 77) (v := ?_) (a' := ?_) (bA 38 262143) rfl rfl (any_of HT_.out (by kernel_rfl)) (fun _ _ _ h => h) (Or.inl ⟨by rfl, ?_⟩) ?_ ?_
                            rotate_left
                            ·
                             intro w'
                             go_simp
                             with_reducible rfl
                            rotate_left
                            ·
                             simp only [Act.put, sA, sB, sC, i64_w, i32_w]
                             rfl
                            refine take_ (i := 18) (N := some 78) (v := ?_) (a' := ?_) (bA 38 524287) rfl rfl (take_ofW HT_.out HW_.out (by kernel_rfl)) (fun _ _ _ h => h) (Or.inl ⟨by rfl, ?_⟩) hHeld ?_ ?_
                            rotate_left
                            ·
                             rintro w' ⟨s0, s1, s2, s3, s4, s5, s6, s7⟩
                             go_simp
                             with_reducible rfl
                            rotate_left
                            ·
                             simp only [Act.put, sA, sB, sC, i64_w, i32_w]
                             rfl
                            refine pure_ (i := 19) (N := some 79) (v := ?_) (a' := ?_) (bA 38 1048575) rfl rfl (any_of HT_.out (by kernel_rfl)) (fun _ _ _ h => h) (Or.inl ⟨by rfl, ?_⟩) ?_ ?_
                            rotate_left
                            ·
                             intro w'
                             go_simp
                             with_reducible rfl
                            rotate_left
                            ·
                             simp only [Act.put, sA, sB, sC, i64_w, i32_w]
                             rfl
                            refine pure_ (i := 20) (N := some 80) (v := ?_) (a' := ?_) (bA 38 2097151) rfl rfl (any_of HT_.out (by kernel_rfl)) (fun _ _ _ h => h) (Or.inl ⟨by rfl, ?_⟩) ?_ ?_
                            rotate_left
                            ·
                             intro w'
                             go_simp
                             with_reducible rfl
                            rotate_left
                            ·
                             simp only [Act.put, sA, sB, sC, i64_w, i32_w]
                             rfl
                            refine pure_ (i := 21) (N := some 81) (v := ?_) (a' := ?_) (bA 38 4194303) rfl rfl (any_of HT_.out (by kernel_rfl)) (fun _ _ _ h => h) (Or.inl ⟨by rfl, ?_⟩) ?_ ?_
                            rotate_left
                            ·
                             intro w'
                             go_simp
                             with_reducible rfl
                            rotate_left
                            ·
                             simp only [Act.put, sA, sB, sC, i64_w, i32_w]
                             rfl
                            refine pure_ (i := 22) (N := some 82) (v := ?_) (a' := ?_) (bA 38 8388607) rfl rfl (any_of HT_.out (by kernel_rfl)) (fun _ _ _ h => h) (Or.inl ⟨by rfl, ?_⟩) ?_ ?_
                            rotate_left
                            ·
                             intro w'
                             go_simp
                             with_reducible rfl
                            rotate_left
                            ·
                             simp only [Act.put, sA, sB, sC, i64_w, i32_w]
                             rfl
                            refine pure_ (i := 23) (N := some 83) (v := ?_) (a' := ?_) (bA 38 16777215) rfl rfl (any_of HT_.out (by kernel_rfl)) (fun _ _ _ h => h) (Or.inl ⟨by rfl, ?_⟩) ?_ ?_
                            rotate_left
                            ·
                             intro w'
                             go_simp
                             with_reducible rfl
                            rotate_left
                            ·
                             simp only [Act.put, sA, sB, sC, i64_w, i32_w]
                             rfl
                            refine take_ (i := 24) (N := some 84) (v := ?_) (a' := ?_) (bA 38 33554431) rfl rfl (take_ofW HT_.out HW_.out (by kernel_rfl)) (fun _ _ _ h => h) (Or.inl ⟨by rfl, ?_⟩) hHeld ?_ ?_
                            rotate_left
                            ·
                             rintro w' ⟨s0, s1, s2, s3, s4, s5, s6, s7⟩
                             go_simp
                             with_reducible rfl
                            rotate_left
                            ·
                             simp only [Act.put, sA, sB, sC, i64_w, i32_w]
                             rfl
                            refine one_ (i := 25) (N := some 85) (bA 38 67108863) rfl rfl (one_of HT_.out (by kernel_rfl)) (by decide) (fun K hK => ?_)
                            refine goes_ Try.func27 (by kernel_rfl) rfl #[.int .i64 x9_3, .int .i64 (rd y203 x56_4), .int .i64 a0_0] (by rfl) rfl rfl (by (try simp only [List.map_toArray, List.map_cons, List.map_nil]); first | done | rfl | (simp only [List.length_drop, List.length_take]; rfl)) ?_
                            with_reducible refine (bivouacref07_Beside.calls x9_3 (rd y203 x56_4) a0_0 true _ A47.out).mono ?_
                            rintro e w' ⟨rfl, ⟨nd, rfl⟩⟩
                            refine ⟨_, rfl, ?_⟩
                            refine hK.out _ _ ⟨(blk_cell BK193.out 0).trans rfl, (blk_cell BK193.out 1).trans rfl, (blk_cell BK193.out 2).trans rfl, (blk_cell BK193.out 3).trans rfl, hHeld.2.2.2.2.1, hHeld.2.2.2.2.2.1, hHeld.2.2.2.2.2.2.1, hHeld.2.2.2.2.2.2.2⟩ (fun hHeld => ?_)
                            clear hK K
                            refine norm_ (a' := ?_) ?_ ?_
                            rotate_left
                            ·
                             show Act.put _ (some 85) _ = _
                             simp only [Act.put, sA, sB, sC, i64_w, i32_w]
                             rfl
                            refine pure_ (i := 26) (N := some 86) (v := ?_) (a' := ?_) (bA 38 134217727) rfl rfl (any_of HT_.out (by kernel_rfl)) (fun _ _ _ h => h) (Or.inl ⟨by rfl, ?_⟩) ?_ ?_
                            rotate_left
                            ·
                             intro w'
                             go_simp
                             with_reducible rfl
                            rotate_left
                            ·
                             simp only [Act.put, sA, sB, sC, i64_w, i32_w]
                             rfl
                            refine pure_ (i := 27) (N := some 87) (v := ?_) (a' := ?_) (bA 38 268435455) rfl rfl (any_of HT_.out (by kernel_rfl)) (fun _ _ _ h => h) (Or.inl ⟨by rfl, ?_⟩) ?_ ?_
                            rotate_left
                            ·
                             intro w'
                             go_simp
                             with_reducible rfl
                            rotate_left
                            ·
                             simp only [Act.put, sA, sB, sC, i64_w, i32_w]
                             rfl
                            refine pure_ (i := 28) (N := some 88) (v := ?_) (a' := ?_) (bA 38 536870911) rfl rfl (any_of HT_.out (by kernel_rfl)) (fun _ _ _ h => h) (Or.inl ⟨by rfl, ?_⟩) ?_ ?_
                            rotate_left
                            ·
                             intro w'
                             go_simp
                             with_reducible rfl
                            rotate_left
                            ·
                             simp only [Act.put, sA, sB, sC, i64_w, i32_w]
                             rfl
                            refine pure_ (i := 29) (N := some 89) (v := ?_) (a' := ?_) (bA 38 1073741823) rfl rfl (any_of HT_.out (by kernel_rfl)) (fun _ _ _ h => h) (Or.inl ⟨by rfl, ?_⟩) ?_ ?_
                            rotate_left
                            ·
                             intro w'
                             go_simp
                             with_reducible rfl
                            rotate_left
                            ·
                             simp only [Act.put, sA, sB, sC, i64_w, i32_w]
                             rfl
                            refine pure_ (i := 30) (N := some 90) (v := ?_) (a' := ?_) (bA 38 2147483647) rfl rfl (any_of HT_.out (by kernel_rfl)) (fun _ _ _ h => h) (Or.inl ⟨by rfl, ?_⟩) ?_ ?_
                            rotate_left
                            ·
                             intro w'
                             go_simp
                             with_reducible rfl
                            rotate_left
                            ·
                             simp only [Act.put, sA, sB, sC, i64_w, i32_w]
                             rfl
                            refine pure_ (i := 32) (N := some 92) (v := ?_) (a' := ?_) (bA 38 6442450943) rfl rfl (any_of HT_.out (by kernel_rfl)) (fun _ _ _ h => h) (Or.inl ⟨by rfl, ?_⟩) ?_ ?_
                            rotate_left
                            ·
                             intro w'
                             go_simp
                             with_reducible rfl
                            rotate_left
                            ·
                             simp only [Act.put, sA, sB, sC, i64_w, i32_w]
                             rfl
                            refine pure_ (i := 33) (N := some 93) (v := ?_) (a' := ?_) (bA 38 15032385535) rfl rfl (any_of HT_.out (by kernel_rfl)) (fun _ _ _ h => h) (Or.inl ⟨by rfl, ?_⟩) ?_ ?_
                            rotate_left
                            ·
                             intro w'
                             go_simp
                             with_reducible rfl
                            rotate_left
                            ·
                             simp only [Act.put, sA, sB, sC, i64_w, i32_w]
                             rfl
                            refine pure_ (i := 34) (N := some 94) (v := ?_) (a' := ?_) (bA 38 32212254719) rfl rfl (any_of HT_.out (by kernel_rfl)) (fun _ _ _ h => h) (Or.inl ⟨by rfl, ?_⟩) ?_ ?_
                            rotate_left
                            ·
                             intro w'
                             go_simp
                             with_reducible rfl
                            rotate_left
                            ·
                             simp only [Act.put, sA, sB, sC, i64_w, i32_w]
                             rfl
                            refine take_ (i := 31) (N := some 91) (v := ?_) (a' := ?_) (bA 38 34359738367) rfl rfl (take_ofW HT_.out HW_.out (by kernel_rfl)) (fun _ _ _ h => h) (Or.inl ⟨by rfl, ?_⟩) hHeld ?_ ?_
                            rotate_left
                            ·
                             rintro w' ⟨s0, s1, s2, s3, s4, s5, s6, s7⟩
                             go_simp
                             with_reducible rfl
                            rotate_left
                            ·
                             simp only [Act.put, sA, sB, sC, i64_w, i32_w]
                             rfl
                            refine take_ (i := 35) (N := some 95) (v := ?_) (a' := ?_) (bA 38 68719476735) rfl rfl (take_ofW HT_.out HW_.out (by kernel_rfl)) (fun _ _ _ h => h) (Or.inl ⟨by rfl, ?_⟩) hHeld ?_ ?_
                            rotate_left
                            ·
                             rintro w' ⟨s0, s1, s2, s3, s4, s5, s6, s7⟩
                             go_simp
                             with_reducible rfl
                            rotate_left
                            ·
                             simp only [Act.put, sA, sB, sC, i64_w, i32_w]
                             rfl
                            refine pure_ (i := 36) (N := some 96) (v := ?_) (a' := ?_) (bA 38 137438953471) rfl rfl (any_of HT_.out (by kernel_rfl)) (fun _ _ _ h => h) (Or.inl ⟨by rfl, ?_⟩) ?_ ?_
                            rotate_left
                            ·
                             intro w'
                             go_simp
                             with_reducible rfl
                            rotate_left
                            ·
                             simp only [Act.put, sA, sB, sC, i64_w, i32_w]
                             rfl
                            refine pure_ (i := 37) (N := some 97) (v := ?_) (a' := ?_) (bA 38 274877906943) rfl rfl (any_of HT_.out (by kernel_rfl)) (fun _ _ _ h => h) (Or.inl ⟨by rfl, ?_⟩) ?_ ?_
                            rotate_left
                            ·
                             intro w'
                             go_simp
                             with_reducible rfl
                            rotate_left
                            ·
                             simp only [Act.put, sA, sB, sC, i64_w, i32_w]
                             rfl
                            refine done_ (done_of HT_.out (by kernel_rfl)) ?_
                            have p212 : 0 ≤ ((rd y203 x56_4) : Int) := of_decide_eq_true (by first | (with_reducible assumption) | assumption)
                            have q212 : (rd y203 x56_4) < (x6_4.length : Int) := of_decide_eq_true (by first | (with_reducible assumption) | assumption)
                            obtain ⟨ad212, e212, hx212_0⟩ := Kd.at_int (Kd.R_reads' HO_6.out).2.2 (rd y203 x56_4) p212 q212
                            obtain rfl : ad210 = ad212 := (by injection e212)
                            replace p212 := eq_true p212
                            replace q212 := eq_true q212
                            have p51 : 0 ≤ (x9_3 : Int) := of_decide_eq_true (by first | (with_reducible assumption) | assumption)
                            have q51 : (x9_3 : Int) < ((x6_4.length : Int) : Int) := of_decide_eq_true (by first | (with_reducible assumption) | assumption)
                            obtain ⟨go51, co51, eo51, gb51, gl51, cl51, HG51⟩ := Kd.R_form HO_6.out (by omega)
                            (first | cases eo51 | (injection eo51 with ea_ en_ ec_; (first | subst ea_ | (injection ea_ with ea_; subst ea_)); subst ec_; clear en_))
                            have GB51 := Aside0.mk gb51
                            have GG51 := Aside0.mk HG51
                            clear gb51 gl51 HG51
                            (first | simp only [add_plain] at hx210_0 | skip)
                            (first | simp only [add_plain] at hx211_0 | skip)
                            (first | simp only [add_plain] at hx212_0 | skip)
                            obtain ⟨hx51_0, hf51_0⟩ := Kd.R_celln 0 HO_6.out (x9_3 : Int) p51 q51
                            replace p51 := eq_true p51
                            replace q51 := eq_true q51
                            obtain ⟨hy53_, hz53_⟩ := Kd.R_celln 0 HO_6.out (x9_3 : Int) (of_decide_eq_true (by first | (with_reducible assumption) | assumption)) (of_decide_eq_true (by first | (with_reducible assumption) | assumption))
                            have HP53 := Kd.R_putg (Kd.R_drewN HO_6.out nd) (x9_3 : Int) (rd x6_4 (rd y203 x56_4))
                            try go_wp2_with (first | ((with_reducible refine gate_store (t := 3) (p := 104) rfl ?_); refine store_event (t := 3) (p := 104) (v := ?vo_w54) (w1 := ((w52.drewN nd).setCell ⟨go51, (x9_3 : Int).toNat, none⟩ (.int .i64 (rd x6_4 (rd y203 x56_4))))) ?hg ?ho ?hn ?hr ?_; (case ho => rfl); (case hg => rfl); (case hn => rfl); (case hr => first | (go_simp; done) | (go_simp; rfl)); intro w54 hw; have hg : w52.grownBy w54 (some go51) := (by rw [hw]; exact ⟨HP53.2.os, HP53.2.tape, HP53.2.output, HP53.2.size, HP53.2.block⟩); have hp_ : Kd.R (Kd.int .i64) 3 w54 w.heap.size (fun k_ => some k_ ≠ (.slice (some ad206) y203.length co33 : Value).ownBlock) (.slice (some ⟨go51, 0, none⟩) x6_4.length co27) y213 := (by rw [hw, Ny213.out]; exact HP53.1); clear HP53; have n0_ := Aside0.mk (Kd.R_over' (v := (.slice (some ⟨go51, 0, none⟩) x6_4.length co27)) (by (with_reducible repeat (first | apply Kd.R_alloc | apply Kd.R_drewN | apply Kd.R_drew)); exact HO_5.out) (Kd.R_typed HO_6.out) (by decide) hg); have n1_ := Aside0.mk (hp_); have n2_ := Aside0.mk (Kd.R_after (v := (.slice (some ⟨go51, 0, none⟩) x6_4.length co27)) (v1 := (.slice (some ⟨go51, 0, none⟩) x6_4.length co27)) (ok := (fun _ => True)) (by (with_reducible repeat (first | apply Kd.R_alloc | apply Kd.R_drewN | apply Kd.R_drew)); exact Kd.R_mono HO_54.out (fun _ hk => ⟨trivial, hk⟩)) hg (.inl rfl)); have n3_ := Aside0.mk (blk_grown (g := gb193) (o := .cells #[.int .i64 a0_0, .int .i64 a0_1, .int .i64 a0_2, .slice A0_3 l0_3.length c0_3] 25 (0, 0)) (by (with_reducible repeat (first | refine blk_drewN ?_ _ | refine blk_drew ?_ | refine blk_alloc ?_ _)); exact BK193.out) hg (Kd.R_ne HO_6.out BK193.out (by decide))); have n4_ := Aside0.mk ((by rw [hw]; exact below_set (pw_below_drewN HB.out nd) GB51.out : Below w.heap.size w w54)); clear HO_5; clear HO_6; clear HO_54; clear BK193; clear HB; have HO_5 := n0_; have HO_6 := n1_; have HO_54 := n2_; have BK193 := n3_; have HB := n4_; clear n0_ n1_ n2_ n3_ n4_; clear hg hw hp_))
                            (try simp only [← hl6_4])
                            go_roundg k4
                            case measure => have := HK1.out; have := HK2.out; have := HK3.out; have := HK4.out; omega
                            case rel => exact ⟨(y213), (true), (wrap64 (x56_4 + 1)), (by first | rfl | (simp; done) | (simp [*]; done)), (by first | rfl | (simp; done) | (simp [*]; done)), H', ⟨by have := HK1.out; have := HK2.out; have := HK3.out; have := HK4.out; omega⟩, ⟨by (try simp only [hl6_2]); (try simp only [hl6_3]); (try simp only [hl6_4]); (with_reducible repeat (first | apply Kd.R_alloc | apply Kd.R_drewN | apply Kd.R_drew)); exact HO_5.out⟩, ⟨by (try simp only [hl6_2]); (try simp only [hl6_3]); (try simp only [hl6_4]); (with_reducible repeat (first | apply Kd.R_alloc | apply Kd.R_drewN | apply Kd.R_drew)); exact HO_6.out⟩, ⟨by (try simp only [hl6_2]); (try simp only [hl6_3]); (try simp only [hl6_4]); (with_reducible repeat (first | apply Kd.R_alloc | apply Kd.R_drewN | apply Kd.R_drew)); exact Kd.R_mono HO_54.out (fun _ hk => hk.2)⟩, ⟨by (try simp only [hl6_2]); (try simp only [hl6_3]); (try simp only [hl6_4]); (with_reducible repeat (first | refine blk_drewN ?_ _ | refine blk_drew ?_ | refine blk_alloc ?_ _)); exact BK193.out⟩, ⟨by repeat (first | (with_reducible first | exact HB.out | apply below_alloc | apply pw_below_drewN | apply below_drew1 | refine below_set ?_ GE193.out) | exact HB.out)⟩⟩
                           ·
                            rw [if_neg c50] at H
                            have c50b0 : decide ((rd x6_4 (rd y203 x56_4)) < (rd x6_4 x9_3)) = false := decide_eq_false c50
                            (try simp only [hl6_2] at c50b0)
                            (try simp only [hl6_3] at c50b0)
                            (try simp only [hl6_4] at c50b0)
                            clear c50
                            have H' := Aside0.mk H
                            clear H
                            have p206 : 0 ≤ (x56_4 : Int) := of_decide_eq_true (by first | (with_reducible assumption) | assumption)
                            have q206 : x56_4 < (y203.length : Int) := of_decide_eq_true (by first | (with_reducible assumption) | assumption)
                            obtain ⟨ad206, e206, hx206_0⟩ := Kd.at_int (Kd.R_reads' HO_54.out).2.2 x56_4 p206 q206
                            cases e206
                            replace p206 := eq_true p206
                            replace q206 := eq_true q206
                            try go_wp2
                            have n0_ := Aside0.mk (Kd.R_drew HO_5.out)
                            have n1_ := Aside0.mk (Kd.R_drew HO_6.out)
                            have n2_ := Aside0.mk (Kd.R_drew HO_54.out)
                            have n3_ := Aside0.mk (blk_drew BK193.out)
                            have n4_ := Aside0.mk (below_drew1 HB.out)
                            clear HO_5
                            clear HO_6
                            clear HO_54
                            clear BK193
                            clear HB
                            have HO_5 := n0_
                            have HO_6 := n1_
                            have HO_54 := n2_
                            have BK193 := n3_
                            have HB := n4_
                            clear n0_ n1_ n2_ n3_ n4_
                            have p207 : 0 ≤ (x9_3 : Int) := of_decide_eq_true (by first | (with_reducible assumption) | assumption)
                            have q207 : x9_3 < (t194.length : Int) := of_decide_eq_true (by first | (with_reducible assumption) | assumption)
                            obtain ⟨ad207, e207, hx207_0⟩ := Kd.at_bool (Kd.R_reads' HO_5.out).2.2 x9_3 p207 q207
                            (try rw [← Nbq41.out] at hx207_0)
                            (try rw [← Nbq45.out] at hx207_0)
                            cases e207
                            replace p207 := eq_true p207
                            replace q207 := eq_true q207
                            have p208 : 0 ≤ ((rd y203 x56_4) : Int) := of_decide_eq_true (by first | (with_reducible assumption) | assumption)
                            have q208 : (rd y203 x56_4) < (t194.length : Int) := of_decide_eq_true (by first | (with_reducible assumption) | assumption)
                            obtain ⟨ad208, e208, hx208_0⟩ := Kd.at_bool (Kd.R_reads' HO_5.out).2.2 (rd y203 x56_4) p208 q208
                            (try rw [← Nbq41.out] at hx208_0)
                            (try rw [← Nbq45.out] at hx208_0)
                            obtain rfl : ad207 = ad208 := (by injection e208)
                            replace p208 := eq_true p208
                            replace q208 := eq_true q208
                            have p210 : 0 ≤ ((rd y203 x56_4) : Int) := of_decide_eq_true (by first | (with_reducible assumption) | assumption)
                            have q210 : (rd y203 x56_4) < (x6_4.length : Int) := of_decide_eq_true (by first | (with_reducible assumption) | assumption)
                            obtain ⟨ad210, e210, hx210_0⟩ := Kd.at_int (Kd.R_reads' HO_6.out).2.2 (rd y203 x56_4) p210 q210
                            cases e210
                            replace p210 := eq_true p210
                            replace q210 := eq_true q210
                            have p211 : 0 ≤ (x9_3 : Int) := of_decide_eq_true (by first | (with_reducible assumption) | assumption)
                            have q211 : x9_3 < (x6_4.length : Int) := of_decide_eq_true (by first | (with_reducible assumption) | assumption)
                            obtain ⟨ad211, e211, hx211_0⟩ := Kd.at_int (Kd.R_reads' HO_6.out).2.2 x9_3 p211 q211
                            obtain rfl : ad210 = ad211 := (by injection e211)
                            replace p211 := eq_true p211
                            replace q211 := eq_true q211
                            refine start_ (n := 38) (S := fun w' => w'.cell? ⟨gb193, 0, none⟩ = some (.int .i64 a0_0) ∧ w'.cell? ⟨gb193, 1, none⟩ = some (.int .i64 a0_1) ∧ w'.cell? ⟨gb193, 2, none⟩ = some (.int .i64 a0_2) ∧ w'.cell? ⟨gb193, 3, none⟩ = some (.slice A0_3 l0_3.length c0_3) ∧ w'.cell? (ad207.add (x9_3).toNat) = some (.bool true) ∧ w'.cell? (ad207.add ((rd y203 x56_4)).toNat) = some (.bool true) ∧ w'.cell? (ad210.add ((rd y203 x56_4)).toNat) = some (.int .i64 (rd x6_4 (rd y203 x56_4))) ∧ w'.cell? (ad210.add (x9_3).toNat) = some (.int .i64 (rd x6_4 x9_3))) (ds := []) (bA 38 0) (by kernel_rfl) rfl rfl ⟨(blk_cell BK193.out 0).trans rfl, (blk_cell BK193.out 1).trans rfl, (blk_cell BK193.out 2).trans rfl, (blk_cell BK193.out 3).trans rfl, hx207_0, hx208_0, hx210_0, hx211_0⟩ (fun hHeld => ?_); refine with_tabW bivouacref07_Regions.tab18 bivouacref07_Regions.bits18 (fun HT_ HW_ => ?_)
                            generalize wr.drew = w55 at HO_5 HO_6 HO_54 BK193 HB hx207_0 hx208_0 hx210_0 hx211_0 hHeld ⊢
                            refine pure_ (i := 0) (N := some 60) (v := ?_) (a' := ?_) (bA 38 1) rfl rfl (any_of HT_.out (by kernel_rfl)) (fun _ _ _ h => h) (Or.inl ⟨by rfl, ?_⟩) ?_ ?_
                            rotate_left
                            ·
                             intro w'
                             go_simp
                             with_reducible rfl
                            rotate_left
                            ·
                             simp only [Act.put, sA, sB, sC, i64_w, i32_w]
                             rfl
                            refine pure_ (i := 1) (N := some 61) (v := ?_) (a' := ?_) (bA 38 3) rfl rfl (any_of HT_.out (by kernel_rfl)) (fun _ _ _ h => h) (Or.inl ⟨by rfl, ?_⟩) ?_ ?_
                            rotate_left
                            ·
                             intro w'
                             go_simp
                             with_reducible rfl
                            rotate_left
                            ·
                             simp only [Act.put, sA, sB, sC, i64_w, i32_w]
                             rfl
                            refine pure_ (i := 2) (N := some 62) (v := ?_) (a' := ?_) (bA 38 7) rfl rfl (any_of HT_.out (by kernel_rfl)) (fun _ _ _ h => h) (Or.inl ⟨by rfl, ?_⟩) ?_ ?_
                            rotate_left
                            ·
                             intro w'
                             go_simp
                             with_reducible rfl
                            rotate_left
                            ·
                             simp only [Act.put, sA, sB, sC, i64_w, i32_w]
                             rfl
                            refine pure_ (i := 3) (N := some 63) (v := ?_) (a' := ?_) (bA 38 15) rfl rfl (any_of HT_.out (by kernel_rfl)) (fun _ _ _ h => h) (Or.inl ⟨by rfl, ?_⟩) ?_ ?_
                            rotate_left
                            ·
                             intro w'
                             go_simp
                             with_reducible rfl
                            rotate_left
                            ·
                             simp only [Act.put, sA, sB, sC, i64_w, i32_w]
                             rfl
                            refine pure_ (i := 4) (N := some 64) (v := ?_) (a' := ?_) (bA 38 31) rfl rfl (any_of HT_.out (by kernel_rfl)) (fun _ _ _ h => h) (Or.inl ⟨by rfl, ?_⟩) ?_ ?_
                            rotate_left
                            ·
                             intro w'
                             go_simp
                             with_reducible rfl
                            rotate_left
                            ·
                             simp only [Act.put, sA, sB, sC, i64_w, i32_w]
                             rfl
                            refine pure_ (i := 5) (N := some 65) (v := ?_) (a' := ?_) (bA 38 63) rfl rfl (any_of HT_.out (by kernel_rfl)) (fun _ _ _ h => h) (Or.inl ⟨by rfl, ?_⟩) ?_ ?_
                            rotate_left
                            ·
                             intro w'
                             go_simp
                             with_reducible rfl
                            rotate_left
                            ·
                             simp only [Act.put, sA, sB, sC, i64_w, i32_w]
                             rfl
                            refine pure_ (i := 6) (N := some 66) (v := ?_) (a' := ?_) (bA 38 127) rfl rfl (any_of HT_.out (by kernel_rfl)) (fun _ _ _ h => h) (Or.inl ⟨by rfl, ?_⟩) ?_ ?_
                            rotate_left
                            ·
                             intro w'
                             go_simp
                             with_reducible rfl
                            rotate_left
                            ·
                             simp only [Act.put, sA, sB, sC, i64_w, i32_w]
                             rfl
                            refine pure_ (i := 7) (N := some 67) (v := ?_) (a' := ?_) (bA 38 255) rfl rfl (any_of HT_.out (by kernel_rfl)) (fun _ _ _ h => h) (Or.inl ⟨by rfl, ?_⟩) ?_ ?_
                            rotate_left
                            ·
                             intro w'
                             go_simp
                             with_reducible rfl
                            rotate_left
                            ·
                             simp only [Act.put, sA, sB, sC, i64_w, i32_w]
                             rfl
                            refine pure_ (i := 8) (N := some 68) (v := ?_) (a' := ?_) (bA 38 511) rfl rfl (any_of HT_.out (by kernel_rfl)) (fun _ _ _ h => h) (Or.inl ⟨by rfl, ?_⟩) ?_ ?_
                            rotate_left
                            ·
                             intro w'
                             go_simp
                             with_reducible rfl
                            rotate_left
                            ·
                             simp only [Act.put, sA, sB, sC, i64_w, i32_w]
                             rfl
                            refine pure_ (i := 9) (N := some 69) (v := ?_) (a' := ?_) (bA 38 1023) rfl rfl (any_of HT_.out (by kernel_rfl)) (fun _ _ _ h => h) (Or.inl ⟨by rfl, ?_⟩) ?_ ?_
                            rotate_left
                            ·
                             intro w'
                             go_simp
                             with_reducible rfl
                            rotate_left
                            ·
                             simp only [Act.put, sA, sB, sC, i64_w, i32_w]
                             rfl
                            refine pure_ (i := 10) (N := some 70) (v := ?_) (a' := ?_) (bA 38 2047) rfl rfl (any_of HT_.out (by kernel_rfl)) (fun _ _ _ h => h) (Or.inl ⟨by rfl, ?_⟩) ?_ ?_
                            rotate_left
                            ·
                             intro w'
                             go_simp
                             with_reducible rfl
                            rotate_left
                            ·
                             simp only [Act.put, sA, sB, sC, i64_w, i32_w]
                             rfl
                            refine pure_ (i := 11) (N := some 71) (v := ?_) (a' := ?_) (bA 38 4095) rfl rfl (any_of HT_.out (by kernel_rfl)) (fun _ _ _ h => h) (Or.inl ⟨by rfl, ?_⟩) ?_ ?_
                            rotate_left
                            ·
                             intro w'
                             go_simp
                             with_reducible rfl
                            rotate_left
                            ·
                             simp only [Act.put, sA, sB, sC, i64_w, i32_w]
                             rfl
                            refine take_ (i := 12) (N := some 72) (v := ?_) (a' := ?_) (bA 38 8191) rfl rfl (take_ofW HT_.out HW_.out (by kernel_rfl)) (fun _ _ _ h => h) (Or.inl ⟨by rfl, ?_⟩) hHeld ?_ ?_
                            rotate_left
                            ·
                             rintro w' ⟨s0, s1, s2, s3, s4, s5, s6, s7⟩
                             go_simp
                             with_reducible rfl
                            rotate_left
                            ·
                             simp only [Act.put, sA, sB, sC, i64_w, i32_w]
                             rfl
                            refine pure_ (i := 13) (N := some 73) (v := ?_) (a' := ?_) (bA 38 16383) rfl rfl (any_of HT_.out (by kernel_rfl)) (fun _ _ _ h => h) (Or.inl ⟨by rfl, ?_⟩) ?_ ?_
                            rotate_left
                            ·
                             intro w'
                             go_simp
                             with_reducible rfl
                            rotate_left
                            ·
                             simp only [Act.put, sA, sB, sC, i64_w, i32_w]
                             rfl
                            refine pure_ (i := 14) (N := some 74) (v := ?_) (a' := ?_) (bA 38 32767) rfl rfl (any_of HT_.out (by kernel_rfl)) (fun _ _ _ h => h) (Or.inl ⟨by rfl, ?_⟩) ?_ ?_
                            rotate_left
                            ·
                             intro w'
                             go_simp
                             with_reducible rfl
                            rotate_left
                            ·
                             simp only [Act.put, sA, sB, sC, i64_w, i32_w]
                             rfl
                            refine pure_ (i := 15) (N := some 75) (v := ?_) (a' := ?_) (bA 38 65535) rfl rfl (any_of HT_.out (by kernel_rfl)) (fun _ _ _ h => h) (Or.inl ⟨by rfl, ?_⟩) ?_ ?_
                            rotate_left
                            ·
                             intro w'
                             go_simp
                             with_reducible rfl
                            rotate_left
                            ·
                             simp only [Act.put, sA, sB, sC, i64_w, i32_w]
                             rfl
                            refine pure_ (i := 16) (N := some 76) (v := ?_) (a' := ?_) (bA 38 131071) rfl rfl (any_of HT_.out (by kernel_rfl)) (fun _ _ _ h => h) (Or.inl ⟨by rfl, ?_⟩) ?_ ?_
                            rotate_left
                            ·
                             intro w'
                             go_simp
                             with_reducible rfl
                            rotate_left
                            ·
                             simp only [Act.put, sA, sB, sC, i64_w, i32_w]
                             rfl
                            refine pure_ (i := 17) (N := some 77) (v := ?_) (a' := ?_) (bA 38 262143) rfl rfl (any_of HT_.out (by kernel_rfl)) (fun _ _ _ h => h) (Or.inl ⟨by rfl, ?_⟩) ?_ ?_
                            rotate_left
                            ·
                             intro w'
                             go_simp
                             with_reducible rfl
                            rotate_left
                            ·
                             simp only [Act.put, sA, sB, sC, i64_w, i32_w]
                             rfl
                            refine take_ (i := 18) (N := some 78) (v := ?_) (a' := ?_) (bA 38 524287) rfl rfl (take_ofW HT_.out HW_.out (by kernel_rfl)) (fun _ _ _ h => h) (Or.inl ⟨by rfl, ?_⟩) hHeld ?_ ?_
                            rotate_left
                            ·
                             rintro w' ⟨s0, s1, s2, s3, s4, s5, s6, s7⟩
                             go_simp
                             with_reducible rfl
                            rotate_left
                            ·
                             simp only [Act.put, sA, sB, sC, i64_w, i32_w]
                             rfl
                            refine pure_ (i := 19) (N := some 79) (v := ?_) (a' := ?_) (bA 38 1048575) rfl rfl (any_of HT_.out (by kernel_rfl)) (fun _ _ _ h => h) (Or.inl ⟨by rfl, ?_⟩) ?_ ?_
                            rotate_left
                            ·
                             intro w'
                             go_simp
                             with_reducible rfl
                            rotate_left
                            ·
                             simp only [Act.put, sA, sB, sC, i64_w, i32_w]
                             rfl
                            refine pure_ (i := 20) (N := some 80) (v := ?_) (a' := ?_) (bA 38 2097151) rfl rfl (any_of HT_.out (by kernel_rfl)) (fun _ _ _ h => h) (Or.inl ⟨by rfl, ?_⟩) ?_ ?_
                            rotate_left
                            ·
                             intro w'
                             go_simp
                             with_reducible rfl
                            rotate_left
                            ·
                             simp only [Act.put, sA, sB, sC, i64_w, i32_w]
                             rfl
                            refine pure_ (i := 21) (N := some 81) (v := ?_) (a' := ?_) (bA 38 4194303) rfl rfl (any_of HT_.out (by kernel_rfl)) (fun _ _ _ h => h) (Or.inl ⟨by rfl, ?_⟩) ?_ ?_
                            rotate_left
                            ·
                             intro w'
                             go_simp
                             with_reducible rfl
                            rotate_left
                            ·
                             simp only [Act.put, sA, sB, sC, i64_w, i32_w]
                             rfl
                            refine pure_ (i := 22) (N := some 82) (v := ?_) (a' := ?_) (bA 38 8388607) rfl rfl (any_of HT_.out (by kernel_rfl)) (fun _ _ _ h => h) (Or.inl ⟨by rfl, ?_⟩) ?_ ?_
                            rotate_left
                            ·
                             intro w'
                             go_simp
                             with_reducible rfl
                            rotate_left
                            ·
                             simp only [Act.put, sA, sB, sC, i64_w, i32_w]
                             rfl
                            refine pure_ (i := 23) (N := some 83) (v := ?_) (a' := ?_) (bA 38 16777215) rfl rfl (any_of HT_.out (by kernel_rfl)) (fun _ _ _ h => h) (Or.inl ⟨by rfl, ?_⟩) ?_ ?_
                            rotate_left
                            ·
                             intro w'
                             go_simp
                             with_reducible rfl
                            rotate_left
                            ·
                             simp only [Act.put, sA, sB, sC, i64_w, i32_w]
                             rfl
                            refine take_ (i := 24) (N := some 84) (v := ?_) (a' := ?_) (bA 38 33554431) rfl rfl (take_ofW HT_.out HW_.out (by kernel_rfl)) (fun _ _ _ h => h) (Or.inl ⟨by rfl, ?_⟩) hHeld ?_ ?_
                            rotate_left
                            ·
                             rintro w' ⟨s0, s1, s2, s3, s4, s5, s6, s7⟩
                             go_simp
                             with_reducible rfl
                            rotate_left
                            ·
                             simp only [Act.put, sA, sB, sC, i64_w, i32_w]
                             rfl
                            refine one_ (i := 25) (N := some 85) (bA 38 67108863) rfl rfl (one_of HT_.out (by kernel_rfl)) (by decide) (fun K hK => ?_)
                            refine goes_ Try.func27 (by kernel_rfl) rfl #[.int .i64 x9_3, .int .i64 (rd y203 x56_4), .int .i64 a0_0] (by rfl) rfl rfl (by (try simp only [List.map_toArray, List.map_cons, List.map_nil]); first | done | rfl | (simp only [List.length_drop, List.length_take]; rfl)) ?_
                            with_reducible refine (bivouacref07_Beside.calls x9_3 (rd y203 x56_4) a0_0 true _ A47.out).mono ?_
                            rintro e w' ⟨rfl, ⟨nd, rfl⟩⟩
                            refine ⟨_, rfl, ?_⟩
                            refine hK.out _ _ ⟨(blk_cell BK193.out 0).trans rfl, (blk_cell BK193.out 1).trans rfl, (blk_cell BK193.out 2).trans rfl, (blk_cell BK193.out 3).trans rfl, hHeld.2.2.2.2.1, hHeld.2.2.2.2.2.1, hHeld.2.2.2.2.2.2.1, hHeld.2.2.2.2.2.2.2⟩ (fun hHeld => ?_)
                            clear hK K
                            refine norm_ (a' := ?_) ?_ ?_
                            rotate_left
                            ·
                             show Act.put _ (some 85) _ = _
                             simp only [Act.put, sA, sB, sC, i64_w, i32_w]
                             rfl
                            refine pure_ (i := 26) (N := some 86) (v := ?_) (a' := ?_) (bA 38 134217727) rfl rfl (any_of HT_.out (by kernel_rfl)) (fun _ _ _ h => h) (Or.inl ⟨by rfl, ?_⟩) ?_ ?_
                            rotate_left
                            ·
                             intro w'
                             go_simp
                             with_reducible rfl
                            rotate_left
                            ·
                             simp only [Act.put, sA, sB, sC, i64_w, i32_w]
                             rfl
                            refine pure_ (i := 27) (N := some 87) (v := ?_) (a' := ?_) (bA 38 268435455) rfl rfl (any_of HT_.out (by kernel_rfl)) (fun _ _ _ h => h) (Or.inl ⟨by rfl, ?_⟩) ?_ ?_
                            rotate_left
                            ·
                             intro w'
                             go_simp
                             with_reducible rfl
                            rotate_left
                            ·
                             simp only [Act.put, sA, sB, sC, i64_w, i32_w]
                             rfl
                            refine pure_ (i := 28) (N := some 88) (v := ?_) (a' := ?_) (bA 38 536870911) rfl rfl (any_of HT_.out (by kernel_rfl)) (fun _ _ _ h => h) (Or.inl ⟨by rfl, ?_⟩) ?_ ?_
                            rotate_left
                            ·
                             intro w'
                             go_simp
                             with_reducible rfl
                            rotate_left
                            ·
                             simp only [Act.put, sA, sB, sC, i64_w, i32_w]
                             rfl
                            refine pure_ (i := 29) (N := some 89) (v := ?_) (a' := ?_) (bA 38 1073741823) rfl rfl (any_of HT_.out (by kernel_rfl)) (fun _ _ _ h => h) (Or.inl ⟨by rfl, ?_⟩) ?_ ?_
                            rotate_left
                            ·
                             intro w'
                             go_simp
                             with_reducible rfl
                            rotate_left
                            ·
                             simp only [Act.put, sA, sB, sC, i64_w, i32_w]
                             rfl
                            refine pure_ (i := 30) (N := some 90) (v := ?_) (a' := ?_) (bA 38 2147483647) rfl rfl (any_of HT_.out (by kernel_rfl)) (fun _ _ _ h => h) (Or.inl ⟨by rfl, ?_⟩) ?_ ?_
                            rotate_left
                            ·
                             intro w'
                             go_simp
                             with_reducible rfl
                            rotate_left
                            ·
                             simp only [Act.put, sA, sB, sC, i64_w, i32_w]
                             rfl
                            refine pure_ (i := 32) (N := some 92) (v := ?_) (a' := ?_) (bA 38 6442450943) rfl rfl (any_of HT_.out (by kernel_rfl)) (fun _ _ _ h => h) (Or.inl ⟨by rfl, ?_⟩) ?_ ?_
                            rotate_left
                            ·
                             intro w'
                             go_simp
                             with_reducible rfl
                            rotate_left
                            ·
                             simp only [Act.put, sA, sB, sC, i64_w, i32_w]
                             rfl
                            refine pure_ (i := 33) (N := some 93) (v := ?_) (a' := ?_) (bA 38 15032385535) rfl rfl (any_of HT_.out (by kernel_rfl)) (fun _ _ _ h => h) (Or.inl ⟨by rfl, ?_⟩) ?_ ?_
                            rotate_left
                            ·
                             intro w'
                             go_simp
                             with_reducible rfl
                            rotate_left
                            ·
                             simp only [Act.put, sA, sB, sC, i64_w, i32_w]
                             rfl
                            refine pure_ (i := 34) (N := some 94) (v := ?_) (a' := ?_) (bA 38 32212254719) rfl rfl (any_of HT_.out (by kernel_rfl)) (fun _ _ _ h => h) (Or.inl ⟨by rfl, ?_⟩) ?_ ?_
                            rotate_left
                            ·
                             intro w'
                             go_simp
                             with_reducible rfl
                            rotate_left
                            ·
                             simp only [Act.put, sA, sB, sC, i64_w, i32_w]
                             rfl
                            refine take_ (i := 31) (N := some 91) (v := ?_) (a' := ?_) (bA 38 34359738367) rfl rfl (take_ofW HT_.out HW_.out (by kernel_rfl)) (fun _ _ _ h => h) (Or.inl ⟨by rfl, ?_⟩) hHeld ?_ ?_
                            rotate_left
                            ·
                             rintro w' ⟨s0, s1, s2, s3, s4, s5, s6, s7⟩
                             go_simp
                             with_reducible rfl
                            rotate_left
                            ·
                             simp only [Act.put, sA, sB, sC, i64_w, i32_w]
                             rfl
                            refine take_ (i := 35) (N := some 95) (v := ?_) (a' := ?_) (bA 38 68719476735) rfl rfl (take_ofW HT_.out HW_.out (by kernel_rfl)) (fun _ _ _ h => h) (Or.inl ⟨by rfl, ?_⟩) hHeld ?_ ?_
                            rotate_left
                            ·
                             rintro w' ⟨s0, s1, s2, s3, s4, s5, s6, s7⟩
                             go_simp
                             with_reducible rfl
                            rotate_left
                            ·
                             simp only [Act.put, sA, sB, sC, i64_w, i32_w]
                             rfl
                            refine pure_ (i := 36) (N := some 96) (v := ?_) (a' := ?_) (bA 38 137438953471) rfl rfl (any_of HT_.out (by kernel_rfl)) (fun _ _ _ h => h) (Or.inl ⟨by rfl, ?_⟩) ?_ ?_
                            rotate_left
                            ·
                             intro w'
                             go_simp
                             with_reducible rfl
                            rotate_left
                            ·
                             simp only [Act.put, sA, sB, sC, i64_w, i32_w]
                             rfl
                            refine pure_ (i := 37) (N := some 97) (v := ?_) (a' := ?_) (bA 38 274877906943) rfl rfl (any_of HT_.out (by kernel_rfl)) (fun _ _ _ h => h) (Or.inl ⟨by rfl, ?_⟩) ?_ ?_
                            rotate_left
                            ·
                             intro w'
                             go_simp
                             with_reducible rfl
                            rotate_left
                            ·
                             simp only [Act.put, sA, sB, sC, i64_w, i32_w]
                             rfl
                            refine done_ (done_of HT_.out (by kernel_rfl)) ?_
                            try go_wp2
                            (try simp only [← hl6_4])
                            go_roundg k4
                            case measure => have := HK1.out; have := HK2.out; have := HK3.out; have := HK4.out; omega
                            case rel => exact ⟨(x6_4), (x8_4), (wrap64 (x56_4 + 1)), (by first | rfl | (simp; done) | (simp [*]; done)), (by first | rfl | (simp; done) | (simp [*]; done)), H', ⟨by have := HK1.out; have := HK2.out; have := HK3.out; have := HK4.out; omega⟩, ⟨by (try simp only [hl6_2]); (try simp only [hl6_3]); (try simp only [hl6_4]); (with_reducible repeat (first | apply Kd.R_alloc | apply Kd.R_drewN | apply Kd.R_drew)); exact HO_5.out⟩, ⟨by (try simp only [hl6_2]); (try simp only [hl6_3]); (try simp only [hl6_4]); (with_reducible repeat (first | apply Kd.R_alloc | apply Kd.R_drewN | apply Kd.R_drew)); exact HO_6.out⟩, ⟨by (try simp only [hl6_2]); (try simp only [hl6_3]); (try simp only [hl6_4]); (with_reducible repeat (first | apply Kd.R_alloc | apply Kd.R_drewN | apply Kd.R_drew)); exact HO_54.out⟩, ⟨by (try simp only [hl6_2]); (try simp only [hl6_3]); (try simp only [hl6_4]); (with_reducible repeat (first | refine blk_drewN ?_ _ | refine blk_drew ?_ | refine blk_alloc ?_ _)); exact BK193.out⟩, ⟨by repeat (first | (with_reducible first | exact HB.out | apply below_alloc | apply pw_below_drewN | apply below_drew1 | refine below_set ?_ GE193.out) | exact HB.out)⟩⟩
                          ·
                           rw [if_neg c49] at H
                           exact absurd H (by simp)
                         ·
                          replace c48 := Bool.eq_false_iff.mpr c48
                          subst c48
                          have H1 : (bivouacref07_Regions.l3 k4 t194 x6_4 x8_4 x9_3 y203 (y203.length : Int) (wrap64 (x56_4 + 1)) a0_0 a0_1 a0_2 l0_3) = some r := by rw [if_neg (show ¬ (false = true) by decide)] at H; exact H
                          clear H
                          have H := H1
                          clear H1
                          have H' := Aside0.mk H
                          clear H
                          have p206 : 0 ≤ (x56_4 : Int) := of_decide_eq_true (by first | (with_reducible assumption) | assumption)
                          have q206 : x56_4 < (y203.length : Int) := of_decide_eq_true (by first | (with_reducible assumption) | assumption)
                          obtain ⟨ad206, e206, hx206_0⟩ := Kd.at_int (Kd.R_reads' HO_54.out).2.2 x56_4 p206 q206
                          cases e206
                          replace p206 := eq_true p206
                          replace q206 := eq_true q206
                          try go_wp2
                          have n0_ := Aside0.mk (Kd.R_drew HO_5.out)
                          have n1_ := Aside0.mk (Kd.R_drew HO_6.out)
                          have n2_ := Aside0.mk (Kd.R_drew HO_54.out)
                          have n3_ := Aside0.mk (blk_drew BK193.out)
                          have n4_ := Aside0.mk (below_drew1 HB.out)
                          clear HO_5
                          clear HO_6
                          clear HO_54
                          clear BK193
                          clear HB
                          have HO_5 := n0_
                          have HO_6 := n1_
                          have HO_54 := n2_
                          have BK193 := n3_
                          have HB := n4_
                          clear n0_ n1_ n2_ n3_ n4_
                          have p207 : 0 ≤ (x9_3 : Int) := of_decide_eq_true (by first | (with_reducible assumption) | assumption)
                          have q207 : x9_3 < (t194.length : Int) := of_decide_eq_true (by first | (with_reducible assumption) | assumption)
                          obtain ⟨ad207, e207, hx207_0⟩ := Kd.at_bool (Kd.R_reads' HO_5.out).2.2 x9_3 p207 q207
                          (try rw [← Nbq41.out] at hx207_0)
                          (try rw [← Nbq45.out] at hx207_0)
                          cases e207
                          replace p207 := eq_true p207
                          replace q207 := eq_true q207
                          have p208 : 0 ≤ ((rd y203 x56_4) : Int) := of_decide_eq_true (by first | (with_reducible assumption) | assumption)
                          have q208 : (rd y203 x56_4) < (t194.length : Int) := of_decide_eq_true (by first | (with_reducible assumption) | assumption)
                          obtain ⟨ad208, e208, hx208_0⟩ := Kd.at_bool (Kd.R_reads' HO_5.out).2.2 (rd y203 x56_4) p208 q208
                          (try rw [← Nbq41.out] at hx208_0)
                          (try rw [← Nbq45.out] at hx208_0)
                          obtain rfl : ad207 = ad208 := (by injection e208)
                          replace p208 := eq_true p208
                          replace q208 := eq_true q208
                          refine start_ (n := 38) (S := fun w' => w'.cell? ⟨gb193, 0, none⟩ = some (.int .i64 a0_0) ∧ w'.cell? ⟨gb193, 1, none⟩ = some (.int .i64 a0_1) ∧ w'.cell? ⟨gb193, 2, none⟩ = some (.int .i64 a0_2) ∧ w'.cell? ⟨gb193, 3, none⟩ = some (.slice A0_3 l0_3.length c0_3) ∧ w'.cell? (ad207.add (x9_3).toNat) = some (.bool true) ∧ w'.cell? (ad207.add ((rd y203 x56_4)).toNat) = some (.bool true)) (ds := []) (bA 38 0) (by kernel_rfl) rfl rfl ⟨(blk_cell BK193.out 0).trans rfl, (blk_cell BK193.out 1).trans rfl, (blk_cell BK193.out 2).trans rfl, (blk_cell BK193.out 3).trans rfl, hx207_0, hx208_0⟩ (fun hHeld => ?_); refine with_tabW bivouacref07_Regions.tab18 bivouacref07_Regions.bits18 (fun HT_ HW_ => ?_)
                          generalize wr.drew = w56 at HO_5 HO_6 HO_54 BK193 HB hx207_0 hx208_0 hHeld ⊢
                          refine pure_ (i := 0) (N := some 60) (v := ?_) (a' := ?_) (bA 38 1) rfl rfl (any_of HT_.out (by kernel_rfl)) (fun _ _ _ h => h) (Or.inl ⟨by rfl, ?_⟩) ?_ ?_
                          rotate_left
                          ·
                           intro w'
                           go_simp
                           with_reducible rfl
                          rotate_left
                          ·
                           simp only [Act.put, sA, sB, sC, i64_w, i32_w]
                           rfl
                          refine pure_ (i := 1) (N := some 61) (v := ?_) (a' := ?_) (bA 38 3) rfl rfl (any_of HT_.out (by kernel_rfl)) (fun _ _ _ h => h) (Or.inl ⟨by rfl, ?_⟩) ?_ ?_
                          rotate_left
                          ·
                           intro w'
                           go_simp
                           with_reducible rfl
                          rotate_left
                          ·
                           simp only [Act.put, sA, sB, sC, i64_w, i32_w]
                           rfl
                          refine pure_ (i := 2) (N := some 62) (v := ?_) (a' := ?_) (bA 38 7) rfl rfl (any_of HT_.out (by kernel_rfl)) (fun _ _ _ h => h) (Or.inl ⟨by rfl, ?_⟩) ?_ ?_
                          rotate_left
                          ·
                           intro w'
                           go_simp
                           with_reducible rfl
                          rotate_left
                          ·
                           simp only [Act.put, sA, sB, sC, i64_w, i32_w]
                           rfl
                          refine pure_ (i := 3) (N := some 63) (v := ?_) (a' := ?_) (bA 38 15) rfl rfl (any_of HT_.out (by kernel_rfl)) (fun _ _ _ h => h) (Or.inl ⟨by rfl, ?_⟩) ?_ ?_
                          rotate_left
                          ·
                           intro w'
                           go_simp
                           with_reducible rfl
                          rotate_left
                          ·
                           simp only [Act.put, sA, sB, sC, i64_w, i32_w]
                           rfl
                          refine pure_ (i := 4) (N := some 64) (v := ?_) (a' := ?_) (bA 38 31) rfl rfl (any_of HT_.out (by kernel_rfl)) (fun _ _ _ h => h) (Or.inl ⟨by rfl, ?_⟩) ?_ ?_
                          rotate_left
                          ·
                           intro w'
                           go_simp
                           with_reducible rfl
                          rotate_left
                          ·
                           simp only [Act.put, sA, sB, sC, i64_w, i32_w]
                           rfl
                          refine pure_ (i := 5) (N := some 65) (v := ?_) (a' := ?_) (bA 38 63) rfl rfl (any_of HT_.out (by kernel_rfl)) (fun _ _ _ h => h) (Or.inl ⟨by rfl, ?_⟩) ?_ ?_
                          rotate_left
                          ·
                           intro w'
                           go_simp
                           with_reducible rfl
                          rotate_left
                          ·
                           simp only [Act.put, sA, sB, sC, i64_w, i32_w]
                           rfl
                          refine pure_ (i := 6) (N := some 66) (v := ?_) (a' := ?_) (bA 38 127) rfl rfl (any_of HT_.out (by kernel_rfl)) (fun _ _ _ h => h) (Or.inl ⟨by rfl, ?_⟩) ?_ ?_
                          rotate_left
                          ·
                           intro w'
                           go_simp
                           with_reducible rfl
                          rotate_left
                          ·
                           simp only [Act.put, sA, sB, sC, i64_w, i32_w]
                           rfl
                          refine pure_ (i := 7) (N := some 67) (v := ?_) (a' := ?_) (bA 38 255) rfl rfl (any_of HT_.out (by kernel_rfl)) (fun _ _ _ h => h) (Or.inl ⟨by rfl, ?_⟩) ?_ ?_
                          rotate_left
                          ·
                           intro w'
                           go_simp
                           with_reducible rfl
                          rotate_left
                          ·
                           simp only [Act.put, sA, sB, sC, i64_w, i32_w]
                           rfl
                          refine pure_ (i := 8) (N := some 68) (v := ?_) (a' := ?_) (bA 38 511) rfl rfl (any_of HT_.out (by kernel_rfl)) (fun _ _ _ h => h) (Or.inl ⟨by rfl, ?_⟩) ?_ ?_
                          rotate_left
                          ·
                           intro w'
                           go_simp
                           with_reducible rfl
                          rotate_left
                          ·
                           simp only [Act.put, sA, sB, sC, i64_w, i32_w]
                           rfl
                          refine pure_ (i := 9) (N := some 69) (v := ?_) (a' := ?_) (bA 38 1023) rfl rfl (any_of HT_.out (by kernel_rfl)) (fun _ _ _ h => h) (Or.inl ⟨by rfl, ?_⟩) ?_ ?_
                          rotate_left
                          ·
                           intro w'
                           go_simp
                           with_reducible rfl
                          rotate_left
                          ·
                           simp only [Act.put, sA, sB, sC, i64_w, i32_w]
                           rfl
                          refine pure_ (i := 10) (N := some 70) (v := ?_) (a' := ?_) (bA 38 2047) rfl rfl (any_of HT_.out (by kernel_rfl)) (fun _ _ _ h => h) (Or.inl ⟨by rfl, ?_⟩) ?_ ?_
                          rotate_left
                          ·
                           intro w'
                           go_simp
                           with_reducible rfl
                          rotate_left
                          ·
                           simp only [Act.put, sA, sB, sC, i64_w, i32_w]
                           rfl
                          refine pure_ (i := 11) (N := some 71) (v := ?_) (a' := ?_) (bA 38 4095) rfl rfl (any_of HT_.out (by kernel_rfl)) (fun _ _ _ h => h) (Or.inl ⟨by rfl, ?_⟩) ?_ ?_
                          rotate_left
                          ·
                           intro w'
                           go_simp
                           with_reducible rfl
                          rotate_left
                          ·
                           simp only [Act.put, sA, sB, sC, i64_w, i32_w]
                           rfl
                          refine take_ (i := 12) (N := some 72) (v := ?_) (a' := ?_) (bA 38 8191) rfl rfl (take_ofW HT_.out HW_.out (by kernel_rfl)) (fun _ _ _ h => h) (Or.inl ⟨by rfl, ?_⟩) hHeld ?_ ?_
                          rotate_left
                          ·
                           rintro w' ⟨s0, s1, s2, s3, s4, s5⟩
                           go_simp
                           with_reducible rfl
                          rotate_left
                          ·
                           simp only [Act.put, sA, sB, sC, i64_w, i32_w]
                           rfl
                          refine pure_ (i := 13) (N := some 73) (v := ?_) (a' := ?_) (bA 38 16383) rfl rfl (any_of HT_.out (by kernel_rfl)) (fun _ _ _ h => h) (Or.inl ⟨by rfl, ?_⟩) ?_ ?_
                          rotate_left
                          ·
                           intro w'
                           go_simp
                           with_reducible rfl
                          rotate_left
                          ·
                           simp only [Act.put, sA, sB, sC, i64_w, i32_w]
                           rfl
                          refine pure_ (i := 14) (N := some 74) (v := ?_) (a' := ?_) (bA 38 32767) rfl rfl (any_of HT_.out (by kernel_rfl)) (fun _ _ _ h => h) (Or.inl ⟨by rfl, ?_⟩) ?_ ?_
                          rotate_left
                          ·
                           intro w'
                           go_simp
                           with_reducible rfl
                          rotate_left
                          ·
                           simp only [Act.put, sA, sB, sC, i64_w, i32_w]
                           rfl
                          refine pure_ (i := 15) (N := some 75) (v := ?_) (a' := ?_) (bA 38 65535) rfl rfl (any_of HT_.out (by kernel_rfl)) (fun _ _ _ h => h) (Or.inl ⟨by rfl, ?_⟩) ?_ ?_
                          rotate_left
                          ·
                           intro w'
                           go_simp
                           with_reducible rfl
                          rotate_left
                          ·
                           simp only [Act.put, sA, sB, sC, i64_w, i32_w]
                           rfl
                          refine pure_ (i := 16) (N := some 76) (v := ?_) (a' := ?_) (bA 38 131071) rfl rfl (any_of HT_.out (by kernel_rfl)) (fun _ _ _ h => h) (Or.inl ⟨by rfl, ?_⟩) ?_ ?_
                          rotate_left
                          ·
                           intro w'
                           go_simp
                           with_reducible rfl
                          rotate_left
                          ·
                           simp only [Act.put, sA, sB, sC, i64_w, i32_w]
                           rfl
                          refine pure_ (i := 17) (N := some 77) (v := ?_) (a' := ?_) (bA 38 262143) rfl rfl (any_of HT_.out (by kernel_rfl)) (fun _ _ _ h => h) (Or.inl ⟨by rfl, ?_⟩) ?_ ?_
                          rotate_left
                          ·
                           intro w'
                           go_simp
                           with_reducible rfl
                          rotate_left
                          ·
                           simp only [Act.put, sA, sB, sC, i64_w, i32_w]
                           rfl
                          refine take_ (i := 18) (N := some 78) (v := ?_) (a' := ?_) (bA 38 524287) rfl rfl (take_ofW HT_.out HW_.out (by kernel_rfl)) (fun _ _ _ h => h) (Or.inl ⟨by rfl, ?_⟩) hHeld ?_ ?_
                          rotate_left
                          ·
                           rintro w' ⟨s0, s1, s2, s3, s4, s5⟩
                           go_simp
                           with_reducible rfl
                          rotate_left
                          ·
                           simp only [Act.put, sA, sB, sC, i64_w, i32_w]
                           rfl
                          refine pure_ (i := 19) (N := some 79) (v := ?_) (a' := ?_) (bA 38 1048575) rfl rfl (any_of HT_.out (by kernel_rfl)) (fun _ _ _ h => h) (Or.inl ⟨by rfl, ?_⟩) ?_ ?_
                          rotate_left
                          ·
                           intro w'
                           go_simp
                           with_reducible rfl
                          rotate_left
                          ·
                           simp only [Act.put, sA, sB, sC, i64_w, i32_w]
                           rfl
                          refine pure_ (i := 20) (N := some 80) (v := ?_) (a' := ?_) (bA 38 2097151) rfl rfl (any_of HT_.out (by kernel_rfl)) (fun _ _ _ h => h) (Or.inl ⟨by rfl, ?_⟩) ?_ ?_
                          rotate_left
                          ·
                           intro w'
                           go_simp
                           with_reducible rfl
                          rotate_left
                          ·
                           simp only [Act.put, sA, sB, sC, i64_w, i32_w]
                           rfl
                          refine pure_ (i := 21) (N := some 81) (v := ?_) (a' := ?_) (bA 38 4194303) rfl rfl (any_of HT_.out (by kernel_rfl)) (fun _ _ _ h => h) (Or.inl ⟨by rfl, ?_⟩) ?_ ?_
                          rotate_left
                          ·
                           intro w'
                           go_simp
                           with_reducible rfl
                          rotate_left
                          ·
                           simp only [Act.put, sA, sB, sC, i64_w, i32_w]
                           rfl
                          refine pure_ (i := 22) (N := some 82) (v := ?_) (a' := ?_) (bA 38 8388607) rfl rfl (any_of HT_.out (by kernel_rfl)) (fun _ _ _ h => h) (Or.inl ⟨by rfl, ?_⟩) ?_ ?_
                          rotate_left
                          ·
                           intro w'
                           go_simp
                           with_reducible rfl
                          rotate_left
                          ·
                           simp only [Act.put, sA, sB, sC, i64_w, i32_w]
                           rfl
                          refine pure_ (i := 23) (N := some 83) (v := ?_) (a' := ?_) (bA 38 16777215) rfl rfl (any_of HT_.out (by kernel_rfl)) (fun _ _ _ h => h) (Or.inl ⟨by rfl, ?_⟩) ?_ ?_
                          rotate_left
                          ·
                           intro w'
                           go_simp
                           with_reducible rfl
                          rotate_left
                          ·
                           simp only [Act.put, sA, sB, sC, i64_w, i32_w]
                           rfl
                          refine take_ (i := 24) (N := some 84) (v := ?_) (a' := ?_) (bA 38 33554431) rfl rfl (take_ofW HT_.out HW_.out (by kernel_rfl)) (fun _ _ _ h => h) (Or.inl ⟨by rfl, ?_⟩) hHeld ?_ ?_
                          rotate_left
                          ·
                           rintro w' ⟨s0, s1, s2, s3, s4, s5⟩
                           go_simp
                           with_reducible rfl
                          rotate_left
                          ·
                           simp only [Act.put, sA, sB, sC, i64_w, i32_w]
                           rfl
                          refine one_ (i := 25) (N := some 85) (bA 38 67108863) rfl rfl (one_of HT_.out (by kernel_rfl)) (by decide) (fun K hK => ?_)
                          refine goes_ Try.func27 (by kernel_rfl) rfl #[.int .i64 x9_3, .int .i64 (rd y203 x56_4), .int .i64 a0_0] (by rfl) rfl rfl (by (try simp only [List.map_toArray, List.map_cons, List.map_nil]); first | done | rfl | (simp only [List.length_drop, List.length_take]; rfl)) ?_
                          with_reducible refine (bivouacref07_Beside.calls x9_3 (rd y203 x56_4) a0_0 false _ A47.out).mono ?_
                          rintro e w' ⟨rfl, ⟨nd, rfl⟩⟩
                          refine ⟨_, rfl, ?_⟩
                          refine hK.out _ _ ⟨(blk_cell BK193.out 0).trans rfl, (blk_cell BK193.out 1).trans rfl, (blk_cell BK193.out 2).trans rfl, (blk_cell BK193.out 3).trans rfl, hHeld.2.2.2.2.1, hHeld.2.2.2.2.2⟩ (fun hHeld => ?_)
                          clear hK K
                          refine norm_ (a' := ?_) ?_ ?_
                          rotate_left
                          ·
                           show Act.put _ (some 85) _ = _
                           simp only [Act.put, sA, sB, sC, i64_w, i32_w]
                           rfl
                          refine pure_ (i := 26) (N := some 86) (v := ?_) (a' := ?_) (bA 38 134217727) rfl rfl (any_of HT_.out (by kernel_rfl)) (fun _ _ _ h => h) (Or.inl ⟨by rfl, ?_⟩) ?_ ?_
                          rotate_left
                          ·
                           intro w'
                           go_simp
                           with_reducible rfl
                          rotate_left
                          ·
                           simp only [Act.put, sA, sB, sC, i64_w, i32_w]
                           rfl
                          refine pure_ (i := 27) (N := some 87) (v := ?_) (a' := ?_) (bA 38 268435455) rfl rfl (any_of HT_.out (by kernel_rfl)) (fun _ _ _ h => h) (Or.inl ⟨by rfl, ?_⟩) ?_ ?_
                          rotate_left
                          ·
                           intro w'
                           go_simp
                           with_reducible rfl
                          rotate_left
                          ·
                           simp only [Act.put, sA, sB, sC, i64_w, i32_w]
                           rfl
                          refine pure_ (i := 28) (N := some 88) (v := undef) (a' := ?_) (bA 38 536870911) rfl rfl (any_of HT_.out (by kernel_rfl)) (fun _ _ _ h => h) (Or.inr ⟨by rfl, rfl⟩) ?_ ?_
                          rotate_left
                          ·
                           simp only [Act.put, sA, sB, sC, i64_w, i32_w]
                           rfl
                          refine pure_ (i := 29) (N := some 89) (v := undef) (a' := ?_) (bA 38 1073741823) rfl rfl (any_of HT_.out (by kernel_rfl)) (fun _ _ _ h => h) (Or.inr ⟨by rfl, rfl⟩) ?_ ?_
                          rotate_left
                          ·
                           simp only [Act.put, sA, sB, sC, i64_w, i32_w]
                           rfl
                          refine pure_ (i := 30) (N := some 90) (v := undef) (a' := ?_) (bA 38 2147483647) rfl rfl (any_of HT_.out (by kernel_rfl)) (fun _ _ _ h => h) (Or.inr ⟨by rfl, rfl⟩) ?_ ?_
                          rotate_left
                          ·
                           simp only [Act.put, sA, sB, sC, i64_w, i32_w]
                           rfl
                          refine pure_ (i := 31) (N := some 91) (v := undef) (a' := ?_) (bA 38 4294967295) rfl rfl (any_of HT_.out (by kernel_rfl)) (fun _ _ _ h => h) (Or.inr ⟨by rfl, rfl⟩) ?_ ?_
                          rotate_left
                          ·
                           simp only [Act.put, sA, sB, sC, i64_w, i32_w]
                           rfl
                          refine pure_ (i := 32) (N := some 92) (v := undef) (a' := ?_) (bA 38 8589934591) rfl rfl (any_of HT_.out (by kernel_rfl)) (fun _ _ _ h => h) (Or.inr ⟨by rfl, rfl⟩) ?_ ?_
                          rotate_left
                          ·
                           simp only [Act.put, sA, sB, sC, i64_w, i32_w]
                           rfl
                          refine pure_ (i := 33) (N := some 93) (v := undef) (a' := ?_) (bA 38 17179869183) rfl rfl (any_of HT_.out (by kernel_rfl)) (fun _ _ _ h => h) (Or.inr ⟨by rfl, rfl⟩) ?_ ?_
                          rotate_left
                          ·
                           simp only [Act.put, sA, sB, sC, i64_w, i32_w]
                           rfl
                          refine pure_ (i := 34) (N := some 94) (v := undef) (a' := ?_) (bA 38 34359738367) rfl rfl (any_of HT_.out (by kernel_rfl)) (fun _ _ _ h => h) (Or.inr ⟨by rfl, rfl⟩) ?_ ?_
                          rotate_left
                          ·
                           simp only [Act.put, sA, sB, sC, i64_w, i32_w]
                           rfl
                          refine pure_ (i := 35) (N := some 95) (v := undef) (a' := ?_) (bA 38 68719476735) rfl rfl (any_of HT_.out (by kernel_rfl)) (fun _ _ _ h => h) (Or.inr ⟨by rfl, rfl⟩) ?_ ?_
                          rotate_left
                          ·
                           simp only [Act.put, sA, sB, sC, i64_w, i32_w]
                           rfl
                          refine pure_ (i := 36) (N := some 96) (v := undef) (a' := ?_) (bA 38 137438953471) rfl rfl (any_of HT_.out (by kernel_rfl)) (fun _ _ _ h => h) (Or.inr ⟨by rfl, rfl⟩) ?_ ?_
                          rotate_left
                          ·
                           simp only [Act.put, sA, sB, sC, i64_w, i32_w]
                           rfl
                          refine pure_ (i := 37) (N := some 97) (v := ?_) (a' := ?_) (bA 38 274877906943) rfl rfl (any_of HT_.out (by kernel_rfl)) (fun _ _ _ h => h) (Or.inl ⟨by rfl, ?_⟩) ?_ ?_
                          rotate_left
                          ·
                           intro w'
                           go_simp
                           with_reducible rfl
                          rotate_left
                          ·
                           simp only [Act.put, sA, sB, sC, i64_w, i32_w]
                           rfl
                          refine done_ (done_of HT_.out (by kernel_rfl)) ?_
                          try go_wp2
                          (try simp only [← hl6_4])
                          go_roundg k4
                          case measure => have := HK1.out; have := HK2.out; have := HK3.out; have := HK4.out; omega
                          case rel => exact ⟨(x6_4), (x8_4), (wrap64 (x56_4 + 1)), (by first | rfl | (simp; done) | (simp [*]; done)), (by first | rfl | (simp; done) | (simp [*]; done)), H', ⟨by have := HK1.out; have := HK2.out; have := HK3.out; have := HK4.out; omega⟩, ⟨by (try simp only [hl6_2]); (try simp only [hl6_3]); (try simp only [hl6_4]); (with_reducible repeat (first | apply Kd.R_alloc | apply Kd.R_drewN | apply Kd.R_drew)); exact HO_5.out⟩, ⟨by (try simp only [hl6_2]); (try simp only [hl6_3]); (try simp only [hl6_4]); (with_reducible repeat (first | apply Kd.R_alloc | apply Kd.R_drewN | apply Kd.R_drew)); exact HO_6.out⟩, ⟨by (try simp only [hl6_2]); (try simp only [hl6_3]); (try simp only [hl6_4]); (with_reducible repeat (first | apply Kd.R_alloc | apply Kd.R_drewN | apply Kd.R_drew)); exact HO_54.out⟩, ⟨by (try simp only [hl6_2]); (try simp only [hl6_3]); (try simp only [hl6_4]); (with_reducible repeat (first | refine blk_drewN ?_ _ | refine blk_drew ?_ | refine blk_alloc ?_ _)); exact BK193.out⟩, ⟨by repeat (first | (with_reducible first | exact HB.out | apply below_alloc | apply pw_below_drewN | apply below_drew1 | refine below_set ?_ GE193.out) | exact HB.out)⟩⟩
                        ·
                         replace c46 := Bool.eq_false_iff.mpr c46
                         subst c46
                         have H1 : (bivouacref07_Regions.l3 k4 t194 x6_4 x8_4 x9_3 y203 (y203.length : Int) (wrap64 (x56_4 + 1)) a0_0 a0_1 a0_2 l0_3) = some r := by rw [if_neg (show ¬ (false = true) by decide)] at H; exact H
                         clear H
                         have H := H1
                         clear H1
                         have H' := Aside0.mk H
                         clear H
                         have p206 : 0 ≤ (x56_4 : Int) := of_decide_eq_true (by first | (with_reducible assumption) | assumption)
                         have q206 : x56_4 < (y203.length : Int) := of_decide_eq_true (by first | (with_reducible assumption) | assumption)
                         obtain ⟨ad206, e206, hx206_0⟩ := Kd.at_int (Kd.R_reads' HO_54.out).2.2 x56_4 p206 q206
                         cases e206
                         replace p206 := eq_true p206
                         replace q206 := eq_true q206
                         try go_wp2
                         have n0_ := Aside0.mk (Kd.R_drew HO_5.out)
                         have n1_ := Aside0.mk (Kd.R_drew HO_6.out)
                         have n2_ := Aside0.mk (Kd.R_drew HO_54.out)
                         have n3_ := Aside0.mk (blk_drew BK193.out)
                         have n4_ := Aside0.mk (below_drew1 HB.out)
                         clear HO_5
                         clear HO_6
                         clear HO_54
                         clear BK193
                         clear HB
                         have HO_5 := n0_
                         have HO_6 := n1_
                         have HO_54 := n2_
                         have BK193 := n3_
                         have HB := n4_
                         clear n0_ n1_ n2_ n3_ n4_
                         have p207 : 0 ≤ (x9_3 : Int) := of_decide_eq_true (by first | (with_reducible assumption) | assumption)
                         have q207 : x9_3 < (t194.length : Int) := of_decide_eq_true (by first | (with_reducible assumption) | assumption)
                         obtain ⟨ad207, e207, hx207_0⟩ := Kd.at_bool (Kd.R_reads' HO_5.out).2.2 x9_3 p207 q207
                         (try rw [← Nbq41.out] at hx207_0)
                         (try rw [← Nbq45.out] at hx207_0)
                         cases e207
                         replace p207 := eq_true p207
                         replace q207 := eq_true q207
                         have p208 : 0 ≤ ((rd y203 x56_4) : Int) := of_decide_eq_true (by first | (with_reducible assumption) | assumption)
                         have q208 : (rd y203 x56_4) < (t194.length : Int) := of_decide_eq_true (by first | (with_reducible assumption) | assumption)
                         obtain ⟨ad208, e208, hx208_0⟩ := Kd.at_bool (Kd.R_reads' HO_5.out).2.2 (rd y203 x56_4) p208 q208
                         (try rw [← Nbq41.out] at hx208_0)
                         (try rw [← Nbq45.out] at hx208_0)
                         obtain rfl : ad207 = ad208 := (by injection e208)
                         replace p208 := eq_true p208
                         replace q208 := eq_true q208
                         refine start_ (n := 38) (S := fun w' => w'.cell? (ad207.add (x9_3).toNat) = some (.bool true) ∧ w'.cell? (ad207.add ((rd y203 x56_4)).toNat) = some (.bool false)) (ds := []) (bA 38 0) (by kernel_rfl) rfl rfl ⟨hx207_0, hx208_0⟩ (fun hHeld => ?_); refine with_tabW bivouacref07_Regions.tab18 bivouacref07_Regions.bits18 (fun HT_ HW_ => ?_)
                         generalize wr.drew = w57 at HO_5 HO_6 HO_54 BK193 HB hx207_0 hx208_0 hHeld ⊢
                         refine pure_ (i := 0) (N := some 60) (v := ?_) (a' := ?_) (bA 38 1) rfl rfl (any_of HT_.out (by kernel_rfl)) (fun _ _ _ h => h) (Or.inl ⟨by rfl, ?_⟩) ?_ ?_
                         rotate_left
                         ·
                          intro w'
                          go_simp
                          with_reducible rfl
                         rotate_left
                         ·
                          simp only [Act.put, sA, sB, sC, i64_w, i32_w]
                          rfl
                         refine pure_ (i := 1) (N := some 61) (v := ?_) (a' := ?_) (bA 38 3) rfl rfl (any_of HT_.out (by kernel_rfl)) (fun _ _ _ h => h) (Or.inl ⟨by rfl, ?_⟩) ?_ ?_
                         rotate_left
                         ·
                          intro w'
                          go_simp
                          with_reducible rfl
                         rotate_left
                         ·
                          simp only [Act.put, sA, sB, sC, i64_w, i32_w]
                          rfl
                         refine pure_ (i := 2) (N := some 62) (v := ?_) (a' := ?_) (bA 38 7) rfl rfl (any_of HT_.out (by kernel_rfl)) (fun _ _ _ h => h) (Or.inl ⟨by rfl, ?_⟩) ?_ ?_
                         rotate_left
                         ·
                          intro w'
                          go_simp
                          with_reducible rfl
                         rotate_left
                         ·
                          simp only [Act.put, sA, sB, sC, i64_w, i32_w]
                          rfl
                         refine pure_ (i := 3) (N := some 63) (v := ?_) (a' := ?_) (bA 38 15) rfl rfl (any_of HT_.out (by kernel_rfl)) (fun _ _ _ h => h) (Or.inl ⟨by rfl, ?_⟩) ?_ ?_
                         rotate_left
                         ·
                          intro w'
                          go_simp
                          with_reducible rfl
                         rotate_left
                         ·
                          simp only [Act.put, sA, sB, sC, i64_w, i32_w]
                          rfl
                         refine pure_ (i := 4) (N := some 64) (v := ?_) (a' := ?_) (bA 38 31) rfl rfl (any_of HT_.out (by kernel_rfl)) (fun _ _ _ h => h) (Or.inl ⟨by rfl, ?_⟩) ?_ ?_
                         rotate_left
                         ·
                          intro w'
                          go_simp
                          with_reducible rfl
                         rotate_left
                         ·
                          simp only [Act.put, sA, sB, sC, i64_w, i32_w]
                          rfl
                         refine pure_ (i := 5) (N := some 65) (v := ?_) (a' := ?_) (bA 38 63) rfl rfl (any_of HT_.out (by kernel_rfl)) (fun _ _ _ h => h) (Or.inl ⟨by rfl, ?_⟩) ?_ ?_
                         rotate_left
                         ·
                          intro w'
                          go_simp
                          with_reducible rfl
                         rotate_left
                         ·
                          simp only [Act.put, sA, sB, sC, i64_w, i32_w]
                          rfl
                         refine pure_ (i := 6) (N := some 66) (v := ?_) (a' := ?_) (bA 38 127) rfl rfl (any_of HT_.out (by kernel_rfl)) (fun _ _ _ h => h) (Or.inl ⟨by rfl, ?_⟩) ?_ ?_
                         rotate_left
                         ·
                          intro w'
                          go_simp
                          with_reducible rfl
                         rotate_left
                         ·
                          simp only [Act.put, sA, sB, sC, i64_w, i32_w]
                          rfl
                         refine pure_ (i := 7) (N := some 67) (v := ?_) (a' := ?_) (bA 38 255) rfl rfl (any_of HT_.out (by kernel_rfl)) (fun _ _ _ h => h) (Or.inl ⟨by rfl, ?_⟩) ?_ ?_
                         rotate_left
                         ·
                          intro w'
                          go_simp
                          with_reducible rfl
                         rotate_left
                         ·
                          simp only [Act.put, sA, sB, sC, i64_w, i32_w]
                          rfl
                         refine pure_ (i := 8) (N := some 68) (v := ?_) (a' := ?_) (bA 38 511) rfl rfl (any_of HT_.out (by kernel_rfl)) (fun _ _ _ h => h) (Or.inl ⟨by rfl, ?_⟩) ?_ ?_
                         rotate_left
                         ·
                          intro w'
                          go_simp
                          with_reducible rfl
                         rotate_left
                         ·
                          simp only [Act.put, sA, sB, sC, i64_w, i32_w]
                          rfl
                         refine pure_ (i := 9) (N := some 69) (v := ?_) (a' := ?_) (bA 38 1023) rfl rfl (any_of HT_.out (by kernel_rfl)) (fun _ _ _ h => h) (Or.inl ⟨by rfl, ?_⟩) ?_ ?_
                         rotate_left
                         ·
                          intro w'
                          go_simp
                          with_reducible rfl
                         rotate_left
                         ·
                          simp only [Act.put, sA, sB, sC, i64_w, i32_w]
                          rfl
                         refine pure_ (i := 10) (N := some 70) (v := ?_) (a' := ?_) (bA 38 2047) rfl rfl (any_of HT_.out (by kernel_rfl)) (fun _ _ _ h => h) (Or.inl ⟨by rfl, ?_⟩) ?_ ?_
                         rotate_left
                         ·
                          intro w'
                          go_simp
                          with_reducible rfl
                         rotate_left
                         ·
                          simp only [Act.put, sA, sB, sC, i64_w, i32_w]
                          rfl
                         refine pure_ (i := 11) (N := some 71) (v := ?_) (a' := ?_) (bA 38 4095) rfl rfl (any_of HT_.out (by kernel_rfl)) (fun _ _ _ h => h) (Or.inl ⟨by rfl, ?_⟩) ?_ ?_
                         rotate_left
                         ·
                          intro w'
                          go_simp
                          with_reducible rfl
                         rotate_left
                         ·
                          simp only [Act.put, sA, sB, sC, i64_w, i32_w]
                          rfl
                         refine take_ (i := 12) (N := some 72) (v := ?_) (a' := ?_) (bA 38 8191) rfl rfl (take_ofW HT_.out HW_.out (by kernel_rfl)) (fun _ _ _ h => h) (Or.inl ⟨by rfl, ?_⟩) hHeld ?_ ?_
                         rotate_left
                         ·
                          rintro w' ⟨s0, s1⟩
                          go_simp
                          with_reducible rfl
                         rotate_left
                         ·
                          simp only [Act.put, sA, sB, sC, i64_w, i32_w]
                          rfl
                         refine pure_ (i := 13) (N := some 73) (v := ?_) (a' := ?_) (bA 38 16383) rfl rfl (any_of HT_.out (by kernel_rfl)) (fun _ _ _ h => h) (Or.inl ⟨by rfl, ?_⟩) ?_ ?_
                         rotate_left
                         ·
                          intro w'
                          go_simp
                          with_reducible rfl
                         rotate_left
                         ·
                          simp only [Act.put, sA, sB, sC, i64_w, i32_w]
                          rfl
                         refine pure_ (i := 14) (N := some 74) (v := ?_) (a' := ?_) (bA 38 32767) rfl rfl (any_of HT_.out (by kernel_rfl)) (fun _ _ _ h => h) (Or.inl ⟨by rfl, ?_⟩) ?_ ?_
                         rotate_left
                         ·
                          intro w'
                          go_simp
                          with_reducible rfl
                         rotate_left
                         ·
                          simp only [Act.put, sA, sB, sC, i64_w, i32_w]
                          rfl
                         refine pure_ (i := 15) (N := some 75) (v := ?_) (a' := ?_) (bA 38 65535) rfl rfl (any_of HT_.out (by kernel_rfl)) (fun _ _ _ h => h) (Or.inl ⟨by rfl, ?_⟩) ?_ ?_
                         rotate_left
                         ·
                          intro w'
                          go_simp
                          with_reducible rfl
                         rotate_left
                         ·
                          simp only [Act.put, sA, sB, sC, i64_w, i32_w]
                          rfl
                         refine pure_ (i := 16) (N := some 76) (v := ?_) (a' := ?_) (bA 38 131071) rfl rfl (any_of HT_.out (by kernel_rfl)) (fun _ _ _ h => h) (Or.inl ⟨by rfl, ?_⟩) ?_ ?_
                         rotate_left
                         ·
                          intro w'
                          go_simp
                          with_reducible rfl
                         rotate_left
                         ·
                          simp only [Act.put, sA, sB, sC, i64_w, i32_w]
                          rfl
                         refine pure_ (i := 17) (N := some 77) (v := ?_) (a' := ?_) (bA 38 262143) rfl rfl (any_of HT_.out (by kernel_rfl)) (fun _ _ _ h => h) (Or.inl ⟨by rfl, ?_⟩) ?_ ?_
                         rotate_left
                         ·
                          intro w'
                          go_simp
                          with_reducible rfl
                         rotate_left
                         ·
                          simp only [Act.put, sA, sB, sC, i64_w, i32_w]
                          rfl
                         refine take_ (i := 18) (N := some 78) (v := ?_) (a' := ?_) (bA 38 524287) rfl rfl (take_ofW HT_.out HW_.out (by kernel_rfl)) (fun _ _ _ h => h) (Or.inl ⟨by rfl, ?_⟩) hHeld ?_ ?_
                         rotate_left
                         ·
                          rintro w' ⟨s0, s1⟩
                          go_simp
                          with_reducible rfl
                         rotate_left
                         ·
                          simp only [Act.put, sA, sB, sC, i64_w, i32_w]
                          rfl
                         refine pure_ (i := 19) (N := some 79) (v := ?_) (a' := ?_) (bA 38 1048575) rfl rfl (any_of HT_.out (by kernel_rfl)) (fun _ _ _ h => h) (Or.inl ⟨by rfl, ?_⟩) ?_ ?_
                         rotate_left
                         ·
                          intro w'
                          go_simp
                          with_reducible rfl
                         rotate_left
                         ·
                          simp only [Act.put, sA, sB, sC, i64_w, i32_w]
                          rfl
                         refine pure_ (i := 20) (N := some 80) (v := ?_) (a' := ?_) (bA 38 2097151) rfl rfl (any_of HT_.out (by kernel_rfl)) (fun _ _ _ h => h) (Or.inl ⟨by rfl, ?_⟩) ?_ ?_
                         rotate_left
                         ·
                          intro w'
                          go_simp
                          with_reducible rfl
                         rotate_left
                         ·
                          simp only [Act.put, sA, sB, sC, i64_w, i32_w]
                          rfl
                         refine pure_ (i := 21) (N := some 81) (v := undef) (a' := ?_) (bA 38 4194303) rfl rfl (any_of HT_.out (by kernel_rfl)) (fun _ _ _ h => h) (Or.inr ⟨by rfl, rfl⟩) ?_ ?_
                         rotate_left
                         ·
                          simp only [Act.put, sA, sB, sC, i64_w, i32_w]
                          rfl
                         refine pure_ (i := 22) (N := some 82) (v := undef) (a' := ?_) (bA 38 8388607) rfl rfl (any_of HT_.out (by kernel_rfl)) (fun _ _ _ h => h) (Or.inr ⟨by rfl, rfl⟩) ?_ ?_
                         rotate_left
                         ·
                          simp only [Act.put, sA, sB, sC, i64_w, i32_w]
                          rfl
                         refine pure_ (i := 23) (N := some 83) (v := undef) (a' := ?_) (bA 38 16777215) rfl rfl (any_of HT_.out (by kernel_rfl)) (fun _ _ _ h => h) (Or.inr ⟨by rfl, rfl⟩) ?_ ?_
                         rotate_left
                         ·
                          simp only [Act.put, sA, sB, sC, i64_w, i32_w]
                          rfl
                         refine pure_ (i := 24) (N := some 84) (v := undef) (a' := ?_) (bA 38 33554431) rfl rfl (any_of HT_.out (by kernel_rfl)) (fun _ _ _ h => h) (Or.inr ⟨by rfl, rfl⟩) ?_ ?_
                         rotate_left
                         ·
                          simp only [Act.put, sA, sB, sC, i64_w, i32_w]
                          rfl
                         refine pure_ (i := 25) (N := some 85) (v := undef) (a' := ?_) (bA 38 67108863) rfl rfl (any_of HT_.out (by kernel_rfl)) (fun _ _ _ h => h) (Or.inr ⟨by rfl, rfl⟩) ?_ ?_
                         rotate_left
                         ·
                          simp only [Act.put, sA, sB, sC, i64_w, i32_w]
                          rfl
                         refine pure_ (i := 26) (N := some 86) (v := ?_) (a' := ?_) (bA 38 134217727) rfl rfl (any_of HT_.out (by kernel_rfl)) (fun _ _ _ h => h) (Or.inl ⟨by rfl, ?_⟩) ?_ ?_
                         rotate_left
                         ·
                          intro w'
                          go_simp
                          with_reducible rfl
                         rotate_left
                         ·
                          simp only [Act.put, sA, sB, sC, i64_w, i32_w]
                          rfl
                         refine pure_ (i := 27) (N := some 87) (v := ?_) (a' := ?_) (bA 38 268435455) rfl rfl (any_of HT_.out (by kernel_rfl)) (fun _ _ _ h => h) (Or.inl ⟨by rfl, ?_⟩) ?_ ?_
                         rotate_left
                         ·
                          intro w'
                          go_simp
                          with_reducible rfl
                         rotate_left
                         ·
                          simp only [Act.put, sA, sB, sC, i64_w, i32_w]
                          rfl
                         refine pure_ (i := 28) (N := some 88) (v := undef) (a' := ?_) (bA 38 536870911) rfl rfl (any_of HT_.out (by kernel_rfl)) (fun _ _ _ h => h) (Or.inr ⟨by rfl, rfl⟩) ?_ ?_
                         rotate_left
                         ·
                          simp only [Act.put, sA, sB, sC, i64_w, i32_w]
                          rfl
                         refine pure_ (i := 29) (N := some 89) (v := undef) (a' := ?_) (bA 38 1073741823) rfl rfl (any_of HT_.out (by kernel_rfl)) (fun _ _ _ h => h) (Or.inr ⟨by rfl, rfl⟩) ?_ ?_
                         rotate_left
                         ·
                          simp only [Act.put, sA, sB, sC, i64_w, i32_w]
                          rfl
                         refine pure_ (i := 30) (N := some 90) (v := undef) (a' := ?_) (bA 38 2147483647) rfl rfl (any_of HT_.out (by kernel_rfl)) (fun _ _ _ h => h) (Or.inr ⟨by rfl, rfl⟩) ?_ ?_
                         rotate_left
                         ·
                          simp only [Act.put, sA, sB, sC, i64_w, i32_w]
                          rfl
                         refine pure_ (i := 31) (N := some 91) (v := undef) (a' := ?_) (bA 38 4294967295) rfl rfl (any_of HT_.out (by kernel_rfl)) (fun _ _ _ h => h) (Or.inr ⟨by rfl, rfl⟩) ?_ ?_
                         rotate_left
                         ·
                          simp only [Act.put, sA, sB, sC, i64_w, i32_w]
                          rfl
                         refine pure_ (i := 32) (N := some 92) (v := undef) (a' := ?_) (bA 38 8589934591) rfl rfl (any_of HT_.out (by kernel_rfl)) (fun _ _ _ h => h) (Or.inr ⟨by rfl, rfl⟩) ?_ ?_
                         rotate_left
                         ·
                          simp only [Act.put, sA, sB, sC, i64_w, i32_w]
                          rfl
                         refine pure_ (i := 33) (N := some 93) (v := undef) (a' := ?_) (bA 38 17179869183) rfl rfl (any_of HT_.out (by kernel_rfl)) (fun _ _ _ h => h) (Or.inr ⟨by rfl, rfl⟩) ?_ ?_
                         rotate_left
                         ·
                          simp only [Act.put, sA, sB, sC, i64_w, i32_w]
                          rfl
                         refine pure_ (i := 34) (N := some 94) (v := undef) (a' := ?_) (bA 38 34359738367) rfl rfl (any_of HT_.out (by kernel_rfl)) (fun _ _ _ h => h) (Or.inr ⟨by rfl, rfl⟩) ?_ ?_
                         rotate_left
                         ·
                          simp only [Act.put, sA, sB, sC, i64_w, i32_w]
                          rfl
                         refine pure_ (i := 35) (N := some 95) (v := undef) (a' := ?_) (bA 38 68719476735) rfl rfl (any_of HT_.out (by kernel_rfl)) (fun _ _ _ h => h) (Or.inr ⟨by rfl, rfl⟩) ?_ ?_
                         rotate_left
                         ·
                          simp only [Act.put, sA, sB, sC, i64_w, i32_w]
                          rfl
                         refine pure_ (i := 36) (N := some 96) (v := undef) (a' := ?_) (bA 38 137438953471) rfl rfl (any_of HT_.out (by kernel_rfl)) (fun _ _ _ h => h) (Or.inr ⟨by rfl, rfl⟩) ?_ ?_
                         rotate_left
                         ·
                          simp only [Act.put, sA, sB, sC, i64_w, i32_w]
                          rfl
                         refine pure_ (i := 37) (N := some 97) (v := ?_) (a' := ?_) (bA 38 274877906943) rfl rfl (any_of HT_.out (by kernel_rfl)) (fun _ _ _ h => h) (Or.inl ⟨by rfl, ?_⟩) ?_ ?_
                         rotate_left
                         ·
                          intro w'
                          go_simp
                          with_reducible rfl
                         rotate_left
                         ·
                          simp only [Act.put, sA, sB, sC, i64_w, i32_w]
                          rfl
                         refine done_ (done_of HT_.out (by kernel_rfl)) ?_
                         try go_wp2
                         (try simp only [← hl6_4])
                         go_roundg k4
                         case measure => have := HK1.out; have := HK2.out; have := HK3.out; have := HK4.out; omega
                         case rel => exact ⟨(x6_4), (x8_4), (wrap64 (x56_4 + 1)), (by first | rfl | (simp; done) | (simp [*]; done)), (by first | rfl | (simp; done) | (simp [*]; done)), H', ⟨by have := HK1.out; have := HK2.out; have := HK3.out; have := HK4.out; omega⟩, ⟨by (try simp only [hl6_2]); (try simp only [hl6_3]); (try simp only [hl6_4]); (with_reducible repeat (first | apply Kd.R_alloc | apply Kd.R_drewN | apply Kd.R_drew)); exact HO_5.out⟩, ⟨by (try simp only [hl6_2]); (try simp only [hl6_3]); (try simp only [hl6_4]); (with_reducible repeat (first | apply Kd.R_alloc | apply Kd.R_drewN | apply Kd.R_drew)); exact HO_6.out⟩, ⟨by (try simp only [hl6_2]); (try simp only [hl6_3]); (try simp only [hl6_4]); (with_reducible repeat (first | apply Kd.R_alloc | apply Kd.R_drewN | apply Kd.R_drew)); exact HO_54.out⟩, ⟨by (try simp only [hl6_2]); (try simp only [hl6_3]); (try simp only [hl6_4]); (with_reducible repeat (first | refine blk_drewN ?_ _ | refine blk_drew ?_ | refine blk_alloc ?_ _)); exact BK193.out⟩, ⟨by repeat (first | (with_reducible first | exact HB.out | apply below_alloc | apply pw_below_drewN | apply below_drew1 | refine below_set ?_ GE193.out) | exact HB.out)⟩⟩
                       ·
                        rw [if_neg c44] at H
                        exact absurd H (by simp)
                      ·
                       rw [if_neg c43] at H
                       exact absurd H (by simp)
                     ·
                      replace c42 := Bool.eq_false_iff.mpr c42
                      subst c42
                      have H1 : (bivouacref07_Regions.l3 k4 t194 x6_4 x8_4 x9_3 y203 (y203.length : Int) (wrap64 (x56_4 + 1)) a0_0 a0_1 a0_2 l0_3) = some r := by rw [if_neg (show ¬ (false = true) by decide)] at H; exact H
                      clear H
                      have H := H1
                      clear H1
                      have H' := Aside0.mk H
                      clear H
                      have p206 : 0 ≤ (x56_4 : Int) := of_decide_eq_true (by first | (with_reducible assumption) | assumption)
                      have q206 : x56_4 < (y203.length : Int) := of_decide_eq_true (by first | (with_reducible assumption) | assumption)
                      obtain ⟨ad206, e206, hx206_0⟩ := Kd.at_int (Kd.R_reads' HO_54.out).2.2 x56_4 p206 q206
                      cases e206
                      replace p206 := eq_true p206
                      replace q206 := eq_true q206
                      try go_wp2
                      have n0_ := Aside0.mk (Kd.R_drew HO_5.out)
                      have n1_ := Aside0.mk (Kd.R_drew HO_6.out)
                      have n2_ := Aside0.mk (Kd.R_drew HO_54.out)
                      have n3_ := Aside0.mk (blk_drew BK193.out)
                      have n4_ := Aside0.mk (below_drew1 HB.out)
                      clear HO_5
                      clear HO_6
                      clear HO_54
                      clear BK193
                      clear HB
                      have HO_5 := n0_
                      have HO_6 := n1_
                      have HO_54 := n2_
                      have BK193 := n3_
                      have HB := n4_
                      clear n0_ n1_ n2_ n3_ n4_
                      have p207 : 0 ≤ (x9_3 : Int) := of_decide_eq_true (by first | (with_reducible assumption) | assumption)
                      have q207 : x9_3 < (t194.length : Int) := of_decide_eq_true (by first | (with_reducible assumption) | assumption)
                      obtain ⟨ad207, e207, hx207_0⟩ := Kd.at_bool (Kd.R_reads' HO_5.out).2.2 x9_3 p207 q207
                      (try rw [← Nbq41.out] at hx207_0)
                      cases e207
                      replace p207 := eq_true p207
                      replace q207 := eq_true q207
                      refine start_ (n := 38) (S := fun w' => w'.cell? (ad207.add (x9_3).toNat) = some (.bool false)) (ds := []) (bA 38 0) (by kernel_rfl) rfl rfl (hx207_0) (fun hHeld => ?_); refine with_tabW bivouacref07_Regions.tab18 bivouacref07_Regions.bits18 (fun HT_ HW_ => ?_)
                      generalize wr.drew = w58 at HO_5 HO_6 HO_54 BK193 HB hx207_0 hHeld ⊢
                      refine pure_ (i := 0) (N := some 60) (v := ?_) (a' := ?_) (bA 38 1) rfl rfl (any_of HT_.out (by kernel_rfl)) (fun _ _ _ h => h) (Or.inl ⟨by rfl, ?_⟩) ?_ ?_
                      rotate_left
                      ·
                       intro w'
                       go_simp
                       with_reducible rfl
                      rotate_left
                      ·
                       simp only [Act.put, sA, sB, sC, i64_w, i32_w]
                       rfl
                      refine pure_ (i := 1) (N := some 61) (v := ?_) (a' := ?_) (bA 38 3) rfl rfl (any_of HT_.out (by kernel_rfl)) (fun _ _ _ h => h) (Or.inl ⟨by rfl, ?_⟩) ?_ ?_
                      rotate_left
                      ·
                       intro w'
                       go_simp
                       with_reducible rfl
                      rotate_left
                      ·
                       simp only [Act.put, sA, sB, sC, i64_w, i32_w]
                       rfl
                      refine pure_ (i := 2) (N := some 62) (v := ?_) (a' := ?_) (bA 38 7) rfl rfl (any_of HT_.out (by kernel_rfl)) (fun _ _ _ h => h) (Or.inl ⟨by rfl, ?_⟩) ?_ ?_
                      rotate_left
                      ·
                       intro w'
                       go_simp
                       with_reducible rfl
                      rotate_left
                      ·
                       simp only [Act.put, sA, sB, sC, i64_w, i32_w]
                       rfl
                      refine pure_ (i := 3) (N := some 63) (v := ?_) (a' := ?_) (bA 38 15) rfl rfl (any_of HT_.out (by kernel_rfl)) (fun _ _ _ h => h) (Or.inl ⟨by rfl, ?_⟩) ?_ ?_
                      rotate_left
                      ·
                       intro w'
                       go_simp
                       with_reducible rfl
                      rotate_left
                      ·
                       simp only [Act.put, sA, sB, sC, i64_w, i32_w]
                       rfl
                      refine pure_ (i := 4) (N := some 64) (v := ?_) (a' := ?_) (bA 38 31) rfl rfl (any_of HT_.out (by kernel_rfl)) (fun _ _ _ h => h) (Or.inl ⟨by rfl, ?_⟩) ?_ ?_
                      rotate_left
                      ·
                       intro w'
                       go_simp
                       with_reducible rfl
                      rotate_left
                      ·
                       simp only [Act.put, sA, sB, sC, i64_w, i32_w]
                       rfl
                      refine pure_ (i := 5) (N := some 65) (v := ?_) (a' := ?_) (bA 38 63) rfl rfl (any_of HT_.out (by kernel_rfl)) (fun _ _ _ h => h) (Or.inl ⟨by rfl, ?_⟩) ?_ ?_
                      rotate_left
                      ·
                       intro w'
                       go_simp
                       with_reducible rfl
                      rotate_left
                      ·
                       simp only [Act.put, sA, sB, sC, i64_w, i32_w]
                       rfl
                      refine pure_ (i := 6) (N := some 66) (v := ?_) (a' := ?_) (bA 38 127) rfl rfl (any_of HT_.out (by kernel_rfl)) (fun _ _ _ h => h) (Or.inl ⟨by rfl, ?_⟩) ?_ ?_
                      rotate_left
                      ·
                       intro w'
                       go_simp
                       with_reducible rfl
                      rotate_left
                      ·
                       simp only [Act.put, sA, sB, sC, i64_w, i32_w]
                       rfl
                      refine pure_ (i := 7) (N := some 67) (v := ?_) (a' := ?_) (bA 38 255) rfl rfl (any_of HT_.out (by kernel_rfl)) (fun _ _ _ h => h) (Or.inl ⟨by rfl, ?_⟩) ?_ ?_
                      rotate_left
                      ·
                       intro w'
                       go_simp
                       with_reducible rfl
                      rotate_left
                      ·
                       simp only [Act.put, sA, sB, sC, i64_w, i32_w]
                       rfl
                      refine pure_ (i := 8) (N := some 68) (v := ?_) (a' := ?_) (bA 38 511) rfl rfl (any_of HT_.out (by kernel_rfl)) (fun _ _ _ h => h) (Or.inl ⟨by rfl, ?_⟩) ?_ ?_
                      rotate_left
                      ·
                       intro w'
                       go_simp
                       with_reducible rfl
                      rotate_left
                      ·
                       simp only [Act.put, sA, sB, sC, i64_w, i32_w]
                       rfl
                      refine pure_ (i := 9) (N := some 69) (v := ?_) (a' := ?_) (bA 38 1023) rfl rfl (any_of HT_.out (by kernel_rfl)) (fun _ _ _ h => h) (Or.inl ⟨by rfl, ?_⟩) ?_ ?_
                      rotate_left
                      ·
                       intro w'
                       go_simp
                       with_reducible rfl
                      rotate_left
                      ·
                       simp only [Act.put, sA, sB, sC, i64_w, i32_w]
                       rfl
                      refine pure_ (i := 10) (N := some 70) (v := ?_) (a' := ?_) (bA 38 2047) rfl rfl (any_of HT_.out (by kernel_rfl)) (fun _ _ _ h => h) (Or.inl ⟨by rfl, ?_⟩) ?_ ?_
                      rotate_left
                      ·
                       intro w'
                       go_simp
                       with_reducible rfl
                      rotate_left
                      ·
                       simp only [Act.put, sA, sB, sC, i64_w, i32_w]
                       rfl
                      refine pure_ (i := 11) (N := some 71) (v := ?_) (a' := ?_) (bA 38 4095) rfl rfl (any_of HT_.out (by kernel_rfl)) (fun _ _ _ h => h) (Or.inl ⟨by rfl, ?_⟩) ?_ ?_
                      rotate_left
                      ·
                       intro w'
                       go_simp
                       with_reducible rfl
                      rotate_left
                      ·
                       simp only [Act.put, sA, sB, sC, i64_w, i32_w]
                       rfl
                      refine take_ (i := 12) (N := some 72) (v := ?_) (a' := ?_) (bA 38 8191) rfl rfl (take_ofW HT_.out HW_.out (by kernel_rfl)) (fun _ _ _ h => h) (Or.inl ⟨by rfl, ?_⟩) hHeld ?_ ?_
                      rotate_left
                      ·
                       intro w' s0
                       go_simp
                       with_reducible rfl
                      rotate_left
                      ·
                       simp only [Act.put, sA, sB, sC, i64_w, i32_w]
                       rfl
                      refine pure_ (i := 13) (N := some 73) (v := ?_) (a' := ?_) (bA 38 16383) rfl rfl (any_of HT_.out (by kernel_rfl)) (fun _ _ _ h => h) (Or.inl ⟨by rfl, ?_⟩) ?_ ?_
                      rotate_left
                      ·
                       intro w'
                       go_simp
                       with_reducible rfl
                      rotate_left
                      ·
                       simp only [Act.put, sA, sB, sC, i64_w, i32_w]
                       rfl
                      refine pure_ (i := 14) (N := some 74) (v := ?_) (a' := ?_) (bA 38 32767) rfl rfl (any_of HT_.out (by kernel_rfl)) (fun _ _ _ h => h) (Or.inl ⟨by rfl, ?_⟩) ?_ ?_
                      rotate_left
                      ·
                       intro w'
                       go_simp
                       with_reducible rfl
                      rotate_left
                      ·
                       simp only [Act.put, sA, sB, sC, i64_w, i32_w]
                       rfl
                      refine pure_ (i := 15) (N := some 75) (v := undef) (a' := ?_) (bA 38 65535) rfl rfl (any_of HT_.out (by kernel_rfl)) (fun _ _ _ h => h) (Or.inr ⟨by rfl, rfl⟩) ?_ ?_
                      rotate_left
                      ·
                       simp only [Act.put, sA, sB, sC, i64_w, i32_w]
                       rfl
                      refine pure_ (i := 16) (N := some 76) (v := undef) (a' := ?_) (bA 38 131071) rfl rfl (any_of HT_.out (by kernel_rfl)) (fun _ _ _ h => h) (Or.inr ⟨by rfl, rfl⟩) ?_ ?_
                      rotate_left
                      ·
                       simp only [Act.put, sA, sB, sC, i64_w, i32_w]
                       rfl
                      refine pure_ (i := 17) (N := some 77) (v := undef) (a' := ?_) (bA 38 262143) rfl rfl (any_of HT_.out (by kernel_rfl)) (fun _ _ _ h => h) (Or.inr ⟨by rfl, rfl⟩) ?_ ?_
                      rotate_left
                      ·
                       simp only [Act.put, sA, sB, sC, i64_w, i32_w]
                       rfl
                      refine pure_ (i := 18) (N := some 78) (v := undef) (a' := ?_) (bA 38 524287) rfl rfl (any_of HT_.out (by kernel_rfl)) (fun _ _ _ h => h) (Or.inr ⟨by rfl, rfl⟩) ?_ ?_
                      rotate_left
                      ·
                       simp only [Act.put, sA, sB, sC, i64_w, i32_w]
                       rfl
                      refine pure_ (i := 19) (N := some 79) (v := ?_) (a' := ?_) (bA 38 1048575) rfl rfl (any_of HT_.out (by kernel_rfl)) (fun _ _ _ h => h) (Or.inl ⟨by rfl, ?_⟩) ?_ ?_
                      rotate_left
                      ·
                       intro w'
                       go_simp
                       with_reducible rfl
                      rotate_left
                      ·
                       simp only [Act.put, sA, sB, sC, i64_w, i32_w]
                       rfl
                      refine pure_ (i := 20) (N := some 80) (v := ?_) (a' := ?_) (bA 38 2097151) rfl rfl (any_of HT_.out (by kernel_rfl)) (fun _ _ _ h => h) (Or.inl ⟨by rfl, ?_⟩) ?_ ?_
                      rotate_left
                      ·
                       intro w'
                       go_simp
                       with_reducible rfl
                      rotate_left
                      ·
                       simp only [Act.put, sA, sB, sC, i64_w, i32_w]
                       rfl
                      refine pure_ (i := 21) (N := some 81) (v := undef) (a' := ?_) (bA 38 4194303) rfl rfl (any_of HT_.out (by kernel_rfl)) (fun _ _ _ h => h) (Or.inr ⟨by rfl, rfl⟩) ?_ ?_
                      rotate_left
                      ·
                       simp only [Act.put, sA, sB, sC, i64_w, i32_w]
                       rfl
                      refine pure_ (i := 22) (N := some 82) (v := undef) (a' := ?_) (bA 38 8388607) rfl rfl (any_of HT_.out (by kernel_rfl)) (fun _ _ _ h => h) (Or.inr ⟨by rfl, rfl⟩) ?_ ?_
                      rotate_left
                      ·
                       simp only [Act.put, sA, sB, sC, i64_w, i32_w]
                       rfl
                      refine pure_ (i := 23) (N := some 83) (v := undef) (a' := ?_) (bA 38 16777215) rfl rfl (any_of HT_.out (by kernel_rfl)) (fun _ _ _ h => h) (Or.inr ⟨by rfl, rfl⟩) ?_ ?_
                      rotate_left
                      ·
                       simp only [Act.put, sA, sB, sC, i64_w, i32_w]
                       rfl
                      refine pure_ (i := 24) (N := some 84) (v := undef) (a' := ?_) (bA 38 33554431) rfl rfl (any_of HT_.out (by kernel_rfl)) (fun _ _ _ h => h) (Or.inr ⟨by rfl, rfl⟩) ?_ ?_
                      rotate_left
                      ·
                       simp only [Act.put, sA, sB, sC, i64_w, i32_w]
                       rfl
                      refine pure_ (i := 25) (N := some 85) (v := undef) (a' := ?_) (bA 38 67108863) rfl rfl (any_of HT_.out (by kernel_rfl)) (fun _ _ _ h => h) (Or.inr ⟨by rfl, rfl⟩) ?_ ?_
                      rotate_left
                      ·
                       simp only [Act.put, sA, sB, sC, i64_w, i32_w]
                       rfl
                      refine pure_ (i := 26) (N := some 86) (v := ?_) (a' := ?_) (bA 38 134217727) rfl rfl (any_of HT_.out (by kernel_rfl)) (fun _ _ _ h => h) (Or.inl ⟨by rfl, ?_⟩) ?_ ?_
                      rotate_left
                      ·
                       intro w'
                       go_simp
                       with_reducible rfl
                      rotate_left
                      ·
                       simp only [Act.put, sA, sB, sC, i64_w, i32_w]
                       rfl
                      refine pure_ (i := 27) (N := some 87) (v := ?_) (a' := ?_) (bA 38 268435455) rfl rfl (any_of HT_.out (by kernel_rfl)) (fun _ _ _ h => h) (Or.inl ⟨by rfl, ?_⟩) ?_ ?_
                      rotate_left
                      ·
                       intro w'
                       go_simp
                       with_reducible rfl
                      rotate_left
                      ·
                       simp only [Act.put, sA, sB, sC, i64_w, i32_w]
                       rfl
                      refine pure_ (i := 28) (N := some 88) (v := undef) (a' := ?_) (bA 38 536870911) rfl rfl (any_of HT_.out (by kernel_rfl)) (fun _ _ _ h => h) (Or.inr ⟨by rfl, rfl⟩) ?_ ?_
                      rotate_left
                      ·
                       simp only [Act.put, sA, sB, sC, i64_w, i32_w]
                       rfl
                      refine pure_ (i := 29) (N := some 89) (v := undef) (a' := ?_) (bA 38 1073741823) rfl rfl (any_of HT_.out (by kernel_rfl)) (fun _ _ _ h => h) (Or.inr ⟨by rfl, rfl⟩) ?_ ?_
                      rotate_left
                      ·
                       simp only [Act.put, sA, sB, sC, i64_w, i32_w]
                       rfl
                      refine pure_ (i := 30) (N := some 90) (v := undef) (a' := ?_) (bA 38 2147483647) rfl rfl (any_of HT_.out (by kernel_rfl)) (fun _ _ _ h => h) (Or.inr ⟨by rfl, rfl⟩) ?_ ?_
                      rotate_left
                      ·
                       simp only [Act.put, sA, sB, sC, i64_w, i32_w]
                       rfl
                      refine pure_ (i := 31) (N := some 91) (v := undef) (a' := ?_) (bA 38 4294967295) rfl rfl (any_of HT_.out (by kernel_rfl)) (fun _ _ _ h => h) (Or.inr ⟨by rfl, rfl⟩) ?_ ?_
                      rotate_left
                      ·
                       simp only [Act.put, sA, sB, sC, i64_w, i32_w]
                       rfl
                      refine pure_ (i := 32) (N := some 92) (v := undef) (a' := ?_) (bA 38 8589934591) rfl rfl (any_of HT_.out (by kernel_rfl)) (fun _ _ _ h => h) (Or.inr ⟨by rfl, rfl⟩) ?_ ?_
                      rotate_left
                      ·
                       simp only [Act.put, sA, sB, sC, i64_w, i32_w]
                       rfl
                      refine pure_ (i := 33) (N := some 93) (v := undef) (a' := ?_) (bA 38 17179869183) rfl rfl (any_of HT_.out (by kernel_rfl)) (fun _ _ _ h => h) (Or.inr ⟨by rfl, rfl⟩) ?_ ?_
                      rotate_left
                      ·
                       simp only [Act.put, sA, sB, sC, i64_w, i32_w]
                       rfl
                      refine pure_ (i := 34) (N := some 94) (v := undef) (a' := ?_) (bA 38 34359738367) rfl rfl (any_of HT_.out (by kernel_rfl)) (fun _ _ _ h => h) (Or.inr ⟨by rfl, rfl⟩) ?_ ?_
                      rotate_left
                      ·
                       simp only [Act.put, sA, sB, sC, i64_w, i32_w]
                       rfl
                      refine pure_ (i := 35) (N := some 95) (v := undef) (a' := ?_) (bA 38 68719476735) rfl rfl (any_of HT_.out (by kernel_rfl)) (fun _ _ _ h => h) (Or.inr ⟨by rfl, rfl⟩) ?_ ?_
                      rotate_left
                      ·
                       simp only [Act.put, sA, sB, sC, i64_w, i32_w]
                       rfl
                      refine pure_ (i := 36) (N := some 96) (v := undef) (a' := ?_) (bA 38 137438953471) rfl rfl (any_of HT_.out (by kernel_rfl)) (fun _ _ _ h => h) (Or.inr ⟨by rfl, rfl⟩) ?_ ?_
                      rotate_left
                      ·
                       simp only [Act.put, sA, sB, sC, i64_w, i32_w]
                       rfl
                      refine pure_ (i := 37) (N := some 97) (v := ?_) (a' := ?_) (bA 38 274877906943) rfl rfl (any_of HT_.out (by kernel_rfl)) (fun _ _ _ h => h) (Or.inl ⟨by rfl, ?_⟩) ?_ ?_
                      rotate_left
                      ·
                       intro w'
                       go_simp
                       with_reducible rfl
                      rotate_left
                      ·
                       simp only [Act.put, sA, sB, sC, i64_w, i32_w]
                       rfl
                      refine done_ (done_of HT_.out (by kernel_rfl)) ?_
                      try go_wp2
                      (try simp only [← hl6_4])
                      go_roundg k4
                      case measure => have := HK1.out; have := HK2.out; have := HK3.out; have := HK4.out; omega
                      case rel => exact ⟨(x6_4), (x8_4), (wrap64 (x56_4 + 1)), (by first | rfl | (simp; done) | (simp [*]; done)), (by first | rfl | (simp; done) | (simp [*]; done)), H', ⟨by have := HK1.out; have := HK2.out; have := HK3.out; have := HK4.out; omega⟩, ⟨by (try simp only [hl6_2]); (try simp only [hl6_3]); (try simp only [hl6_4]); (with_reducible repeat (first | apply Kd.R_alloc | apply Kd.R_drewN | apply Kd.R_drew)); exact HO_5.out⟩, ⟨by (try simp only [hl6_2]); (try simp only [hl6_3]); (try simp only [hl6_4]); (with_reducible repeat (first | apply Kd.R_alloc | apply Kd.R_drewN | apply Kd.R_drew)); exact HO_6.out⟩, ⟨by (try simp only [hl6_2]); (try simp only [hl6_3]); (try simp only [hl6_4]); (with_reducible repeat (first | apply Kd.R_alloc | apply Kd.R_drewN | apply Kd.R_drew)); exact HO_54.out⟩, ⟨by (try simp only [hl6_2]); (try simp only [hl6_3]); (try simp only [hl6_4]); (with_reducible repeat (first | refine blk_drewN ?_ _ | refine blk_drew ?_ | refine blk_alloc ?_ _)); exact BK193.out⟩, ⟨by repeat (first | (with_reducible first | exact HB.out | apply below_alloc | apply pw_below_drewN | apply below_drew1 | refine below_set ?_ GE193.out) | exact HB.out)⟩⟩
                    ·
                     rw [if_neg c40] at H
                     exact absurd H (by simp)
                   ·
                    rw [if_neg c39] at H
                    exact absurd H (by simp)
                  ·
                   rw [if_neg c38] at H
                   have c38b0 : decide ((rd y203 x56_4) < (x6_4.length : Int)) = false := decide_eq_false c38
                   (try simp only [hl6_2] at c38b0)
                   (try simp only [hl6_3] at c38b0)
                   (try simp only [hl6_4] at c38b0)
                   clear c38
                   have H' := Aside0.mk H
                   clear H
                   have p206 : 0 ≤ (x56_4 : Int) := of_decide_eq_true (by first | (with_reducible assumption) | assumption)
                   have q206 : x56_4 < (y203.length : Int) := of_decide_eq_true (by first | (with_reducible assumption) | assumption)
                   obtain ⟨ad206, e206, hx206_0⟩ := Kd.at_int (Kd.R_reads' HO_54.out).2.2 x56_4 p206 q206
                   cases e206
                   replace p206 := eq_true p206
                   replace q206 := eq_true q206
                   try go_wp2
                   have n0_ := Aside0.mk (Kd.R_drew HO_5.out)
                   have n1_ := Aside0.mk (Kd.R_drew HO_6.out)
                   have n2_ := Aside0.mk (Kd.R_drew HO_54.out)
                   have n3_ := Aside0.mk (blk_drew BK193.out)
                   have n4_ := Aside0.mk (below_drew1 HB.out)
                   clear HO_5
                   clear HO_6
                   clear HO_54
                   clear BK193
                   clear HB
                   have HO_5 := n0_
                   have HO_6 := n1_
                   have HO_54 := n2_
                   have BK193 := n3_
                   have HB := n4_
                   clear n0_ n1_ n2_ n3_ n4_
                   refine start_ (n := 38) (S := fun w' => True) (ds := []) (bA 38 0) (by kernel_rfl) rfl rfl trivial (fun hHeld => ?_); refine with_tabW bivouacref07_Regions.tab18 bivouacref07_Regions.bits18 (fun HT_ HW_ => ?_)
                   generalize wr.drew = w59 at HO_5 HO_6 HO_54 BK193 HB hHeld ⊢
                   refine pure_ (i := 0) (N := some 60) (v := ?_) (a' := ?_) (bA 38 1) rfl rfl (any_of HT_.out (by kernel_rfl)) (fun _ _ _ h => h) (Or.inl ⟨by rfl, ?_⟩) ?_ ?_
                   rotate_left
                   ·
                    intro w'
                    go_simp
                    with_reducible rfl
                   rotate_left
                   ·
                    simp only [Act.put, sA, sB, sC, i64_w, i32_w]
                    rfl
                   refine pure_ (i := 1) (N := some 61) (v := ?_) (a' := ?_) (bA 38 3) rfl rfl (any_of HT_.out (by kernel_rfl)) (fun _ _ _ h => h) (Or.inl ⟨by rfl, ?_⟩) ?_ ?_
                   rotate_left
                   ·
                    intro w'
                    go_simp
                    with_reducible rfl
                   rotate_left
                   ·
                    simp only [Act.put, sA, sB, sC, i64_w, i32_w]
                    rfl
                   refine pure_ (i := 2) (N := some 62) (v := ?_) (a' := ?_) (bA 38 7) rfl rfl (any_of HT_.out (by kernel_rfl)) (fun _ _ _ h => h) (Or.inl ⟨by rfl, ?_⟩) ?_ ?_
                   rotate_left
                   ·
                    intro w'
                    go_simp
                    with_reducible rfl
                   rotate_left
                   ·
                    simp only [Act.put, sA, sB, sC, i64_w, i32_w]
                    rfl
                   refine pure_ (i := 3) (N := some 63) (v := ?_) (a' := ?_) (bA 38 15) rfl rfl (any_of HT_.out (by kernel_rfl)) (fun _ _ _ h => h) (Or.inl ⟨by rfl, ?_⟩) ?_ ?_
                   rotate_left
                   ·
                    intro w'
                    go_simp
                    with_reducible rfl
                   rotate_left
                   ·
                    simp only [Act.put, sA, sB, sC, i64_w, i32_w]
                    rfl
                   refine pure_ (i := 4) (N := some 64) (v := ?_) (a' := ?_) (bA 38 31) rfl rfl (any_of HT_.out (by kernel_rfl)) (fun _ _ _ h => h) (Or.inl ⟨by rfl, ?_⟩) ?_ ?_
                   rotate_left
                   ·
                    intro w'
                    go_simp
                    with_reducible rfl
                   rotate_left
                   ·
                    simp only [Act.put, sA, sB, sC, i64_w, i32_w]
                    rfl
                   refine pure_ (i := 5) (N := some 65) (v := ?_) (a' := ?_) (bA 38 63) rfl rfl (any_of HT_.out (by kernel_rfl)) (fun _ _ _ h => h) (Or.inl ⟨by rfl, ?_⟩) ?_ ?_
                   rotate_left
                   ·
                    intro w'
                    go_simp
                    with_reducible rfl
                   rotate_left
                   ·
                    simp only [Act.put, sA, sB, sC, i64_w, i32_w]
                    rfl
                   refine pure_ (i := 6) (N := some 66) (v := ?_) (a' := ?_) (bA 38 127) rfl rfl (any_of HT_.out (by kernel_rfl)) (fun _ _ _ h => h) (Or.inl ⟨by rfl, ?_⟩) ?_ ?_
                   rotate_left
                   ·
                    intro w'
                    go_simp
                    with_reducible rfl
                   rotate_left
                   ·
                    simp only [Act.put, sA, sB, sC, i64_w, i32_w]
                    rfl
                   refine pure_ (i := 7) (N := some 67) (v := ?_) (a' := ?_) (bA 38 255) rfl rfl (any_of HT_.out (by kernel_rfl)) (fun _ _ _ h => h) (Or.inl ⟨by rfl, ?_⟩) ?_ ?_
                   rotate_left
                   ·
                    intro w'
                    go_simp
                    with_reducible rfl
                   rotate_left
                   ·
                    simp only [Act.put, sA, sB, sC, i64_w, i32_w]
                    rfl
                   refine pure_ (i := 8) (N := some 68) (v := ?_) (a' := ?_) (bA 38 511) rfl rfl (any_of HT_.out (by kernel_rfl)) (fun _ _ _ h => h) (Or.inl ⟨by rfl, ?_⟩) ?_ ?_
                   rotate_left
                   ·
                    intro w'
                    go_simp
                    with_reducible rfl
                   rotate_left
                   ·
                    simp only [Act.put, sA, sB, sC, i64_w, i32_w]
                    rfl
                   refine pure_ (i := 9) (N := some 69) (v := undef) (a' := ?_) (bA 38 1023) rfl rfl (any_of HT_.out (by kernel_rfl)) (fun _ _ _ h => h) (Or.inr ⟨by rfl, rfl⟩) ?_ ?_
                   rotate_left
                   ·
                    simp only [Act.put, sA, sB, sC, i64_w, i32_w]
                    rfl
                   refine pure_ (i := 10) (N := some 70) (v := undef) (a' := ?_) (bA 38 2047) rfl rfl (any_of HT_.out (by kernel_rfl)) (fun _ _ _ h => h) (Or.inr ⟨by rfl, rfl⟩) ?_ ?_
                   rotate_left
                   ·
                    simp only [Act.put, sA, sB, sC, i64_w, i32_w]
                    rfl
                   refine pure_ (i := 11) (N := some 71) (v := undef) (a' := ?_) (bA 38 4095) rfl rfl (any_of HT_.out (by kernel_rfl)) (fun _ _ _ h => h) (Or.inr ⟨by rfl, rfl⟩) ?_ ?_
                   rotate_left
                   ·
                    simp only [Act.put, sA, sB, sC, i64_w, i32_w]
                    rfl
                   refine pure_ (i := 12) (N := some 72) (v := undef) (a' := ?_) (bA 38 8191) rfl rfl (any_of HT_.out (by kernel_rfl)) (fun _ _ _ h => h) (Or.inr ⟨by rfl, rfl⟩) ?_ ?_
                   rotate_left
                   ·
                    simp only [Act.put, sA, sB, sC, i64_w, i32_w]
                    rfl
                   refine pure_ (i := 13) (N := some 73) (v := ?_) (a' := ?_) (bA 38 16383) rfl rfl (any_of HT_.out (by kernel_rfl)) (fun _ _ _ h => h) (Or.inl ⟨by rfl, ?_⟩) ?_ ?_
                   rotate_left
                   ·
                    intro w'
                    go_simp
                    with_reducible rfl
                   rotate_left
                   ·
                    simp only [Act.put, sA, sB, sC, i64_w, i32_w]
                    rfl
                   refine pure_ (i := 14) (N := some 74) (v := ?_) (a' := ?_) (bA 38 32767) rfl rfl (any_of HT_.out (by kernel_rfl)) (fun _ _ _ h => h) (Or.inl ⟨by rfl, ?_⟩) ?_ ?_
                   rotate_left
                   ·
                    intro w'
                    go_simp
                    with_reducible rfl
                   rotate_left
                   ·
                    simp only [Act.put, sA, sB, sC, i64_w, i32_w]
                    rfl
                   refine pure_ (i := 15) (N := some 75) (v := undef) (a' := ?_) (bA 38 65535) rfl rfl (any_of HT_.out (by kernel_rfl)) (fun _ _ _ h => h) (Or.inr ⟨by rfl, rfl⟩) ?_ ?_
                   rotate_left
                   ·
                    simp only [Act.put, sA, sB, sC, i64_w, i32_w]
                    rfl
                   refine pure_ (i := 16) (N := some 76) (v := undef) (a' := ?_) (bA 38 131071) rfl rfl (any_of HT_.out (by kernel_rfl)) (fun _ _ _ h => h) (Or.inr ⟨by rfl, rfl⟩) ?_ ?_
                   rotate_left
                   ·
                    simp only [Act.put, sA, sB, sC, i64_w, i32_w]
                    rfl
                   refine pure_ (i := 17) (N := some 77) (v := undef) (a' := ?_) (bA 38 262143) rfl rfl (any_of HT_.out (by kernel_rfl)) (fun _ _ _ h => h) (Or.inr ⟨by rfl, rfl⟩) ?_ ?_
                   rotate_left
                   ·
                    simp only [Act.put, sA, sB, sC, i64_w, i32_w]
                    rfl
                   refine pure_ (i := 18) (N := some 78) (v := undef) (a' := ?_) (bA 38 524287) rfl rfl (any_of HT_.out (by kernel_rfl)) (fun _ _ _ h => h) (Or.inr ⟨by rfl, rfl⟩) ?_ ?_
                   rotate_left
                   ·
                    simp only [Act.put, sA, sB, sC, i64_w, i32_w]
                    rfl
                   refine pure_ (i := 19) (N := some 79) (v := ?_) (a' := ?_) (bA 38 1048575) rfl rfl (any_of HT_.out (by kernel_rfl)) (fun _ _ _ h => h) (Or.inl ⟨by rfl, ?_⟩) ?_ ?_
                   rotate_left
                   ·
                    intro w'
                    go_simp
                    with_reducible rfl
                   rotate_left
                   ·
                    simp only [Act.put, sA, sB, sC, i64_w, i32_w]
                    rfl
                   refine pure_ (i := 20) (N := some 80) (v := ?_) (a' := ?_) (bA 38 2097151) rfl rfl (any_of HT_.out (by kernel_rfl)) (fun _ _ _ h => h) (Or.inl ⟨by rfl, ?_⟩) ?_ ?_
                   rotate_left
                   ·
                    intro w'
                    go_simp
                    with_reducible rfl
                   rotate_left
                   ·
                    simp only [Act.put, sA, sB, sC, i64_w, i32_w]
                    rfl
                   refine pure_ (i := 21) (N := some 81) (v := undef) (a' := ?_) (bA 38 4194303) rfl rfl (any_of HT_.out (by kernel_rfl)) (fun _ _ _ h => h) (Or.inr ⟨by rfl, rfl⟩) ?_ ?_
                   rotate_left
                   ·
                    simp only [Act.put, sA, sB, sC, i64_w, i32_w]
                    rfl
                   refine pure_ (i := 22) (N := some 82) (v := undef) (a' := ?_) (bA 38 8388607) rfl rfl (any_of HT_.out (by kernel_rfl)) (fun _ _ _ h => h) (Or.inr ⟨by rfl, rfl⟩) ?_ ?_
                   rotate_left
                   ·
                    simp only [Act.put, sA, sB, sC, i64_w, i32_w]
                    rfl
                   refine pure_ (i := 23) (N := some 83) (v := undef) (a' := ?_) (bA 38 16777215) rfl rfl (any_of HT_.out (by kernel_rfl)) (fun _ _ _ h => h) (Or.inr ⟨by rfl, rfl⟩) ?_ ?_
                   rotate_left
                   ·
                    simp only [Act.put, sA, sB, sC, i64_w, i32_w]
                    rfl
                   refine pure_ (i := 24) (N := some 84) (v := undef) (a' := ?_) (bA 38 33554431) rfl rfl (any_of HT_.out (by kernel_rfl)) (fun _ _ _ h => h) (Or.inr ⟨by rfl, rfl⟩) ?_ ?_
                   rotate_left
                   ·
                    simp only [Act.put, sA, sB, sC, i64_w, i32_w]
                    rfl
                   refine pure_ (i := 25) (N := some 85) (v := undef) (a' := ?_) (bA 38 67108863) rfl rfl (any_of HT_.out (by kernel_rfl)) (fun _ _ _ h => h) (Or.inr ⟨by rfl, rfl⟩) ?_ ?_
                   rotate_left
                   ·
                    simp only [Act.put, sA, sB, sC, i64_w, i32_w]
                    rfl
                   refine pure_ (i := 26) (N := some 86) (v := ?_) (a' := ?_) (bA 38 134217727) rfl rfl (any_of HT_.out (by kernel_rfl)) (fun _ _ _ h => h) (Or.inl ⟨by rfl, ?_⟩) ?_ ?_
                   rotate_left
                   ·
                    intro w'
                    go_simp
                    with_reducible rfl
                   rotate_left
                   ·
                    simp only [Act.put, sA, sB, sC, i64_w, i32_w]
                    rfl
                   refine pure_ (i := 27) (N := some 87) (v := ?_) (a' := ?_) (bA 38 268435455) rfl rfl (any_of HT_.out (by kernel_rfl)) (fun _ _ _ h => h) (Or.inl ⟨by rfl, ?_⟩) ?_ ?_
                   rotate_left
                   ·
                    intro w'
                    go_simp
                    with_reducible rfl
                   rotate_left
                   ·
                    simp only [Act.put, sA, sB, sC, i64_w, i32_w]
                    rfl
                   refine pure_ (i := 28) (N := some 88) (v := undef) (a' := ?_) (bA 38 536870911) rfl rfl (any_of HT_.out (by kernel_rfl)) (fun _ _ _ h => h) (Or.inr ⟨by rfl, rfl⟩) ?_ ?_
                   rotate_left
                   ·
                    simp only [Act.put, sA, sB, sC, i64_w, i32_w]
                    rfl
                   refine pure_ (i := 29) (N := some 89) (v := undef) (a' := ?_) (bA 38 1073741823) rfl rfl (any_of HT_.out (by kernel_rfl)) (fun _ _ _ h => h) (Or.inr ⟨by rfl, rfl⟩) ?_ ?_
                   rotate_left
                   ·
                    simp only [Act.put, sA, sB, sC, i64_w, i32_w]
                    rfl
                   refine pure_ (i := 30) (N := some 90) (v := undef) (a' := ?_) (bA 38 2147483647) rfl rfl (any_of HT_.out (by kernel_rfl)) (fun _ _ _ h => h) (Or.inr ⟨by rfl, rfl⟩) ?_ ?_
                   rotate_left
                   ·
                    simp only [Act.put, sA, sB, sC, i64_w, i32_w]
                    rfl
                   refine pure_ (i := 31) (N := some 91) (v := undef) (a' := ?_) (bA 38 4294967295) rfl rfl (any_of HT_.out (by kernel_rfl)) (fun _ _ _ h => h) (Or.inr ⟨by rfl, rfl⟩) ?_ ?_
                   rotate_left
                   ·
                    simp only [Act.put, sA, sB, sC, i64_w, i32_w]
                    rfl
                   refine pure_ (i := 32) (N := some 92) (v := undef) (a' := ?_) (bA 38 8589934591) rfl rfl (any_of HT_.out (by kernel_rfl)) (fun _ _ _ h => h) (Or.inr ⟨by rfl, rfl⟩) ?_ ?_
                   rotate_left
                   ·
                    simp only [Act.put, sA, sB, sC, i64_w, i32_w]
                    rfl
                   refine pure_ (i := 33) (N := some 93) (v := undef) (a' := ?_) (bA 38 17179869183) rfl rfl (any_of HT_.out (by kernel_rfl)) (fun _ _ _ h => h) (Or.inr ⟨by rfl, rfl⟩) ?_ ?_
                   rotate_left
                   ·
                    simp only [Act.put, sA, sB, sC, i64_w, i32_w]
                    rfl
                   refine pure_ (i := 34) (N := some 94) (v := undef) (a' := ?_) (bA 38 34359738367) rfl rfl (any_of HT_.out (by kernel_rfl)) (fun _ _ _ h => h) (Or.inr ⟨by rfl, rfl⟩) ?_ ?_
                   rotate_left
                   ·
                    simp only [Act.put, sA, sB, sC, i64_w, i32_w]
                    rfl
                   refine pure_ (i := 35) (N := some 95) (v := undef) (a' := ?_) (bA 38 68719476735) rfl rfl (any_of HT_.out (by kernel_rfl)) (fun _ _ _ h => h) (Or.inr ⟨by rfl, rfl⟩) ?_ ?_
                   rotate_left
                   ·
                    simp only [Act.put, sA, sB, sC, i64_w, i32_w]
                    rfl
                   refine pure_ (i := 36) (N := some 96) (v := undef) (a' := ?_) (bA 38 137438953471) rfl rfl (any_of HT_.out (by kernel_rfl)) (fun _ _ _ h => h) (Or.inr ⟨by rfl, rfl⟩) ?_ ?_
                   rotate_left
                   ·
                    simp only [Act.put, sA, sB, sC, i64_w, i32_w]
                    rfl
                   refine pure_ (i := 37) (N := some 97) (v := ?_) (a' := ?_) (bA 38 274877906943) rfl rfl (any_of HT_.out (by kernel_rfl)) (fun _ _ _ h => h) (Or.inl ⟨by rfl, ?_⟩) ?_ ?_
                   rotate_left
                   ·
                    intro w'
                    go_simp
                    with_reducible rfl
                   rotate_left
                   ·
                    simp only [Act.put, sA, sB, sC, i64_w, i32_w]
                    rfl
                   refine done_ (done_of HT_.out (by kernel_rfl)) ?_
                   try go_wp2
                   (try simp only [← hl6_4])
                   go_roundg k4
                   case measure => have := HK1.out; have := HK2.out; have := HK3.out; have := HK4.out; omega
                   case rel => exact ⟨(x6_4), (x8_4), (wrap64 (x56_4 + 1)), (by first | rfl | (simp; done) | (simp [*]; done)), (by first | rfl | (simp; done) | (simp [*]; done)), H', ⟨by have := HK1.out; have := HK2.out; have := HK3.out; have := HK4.out; omega⟩, ⟨by (try simp only [hl6_2]); (try simp only [hl6_3]); (try simp only [hl6_4]); (with_reducible repeat (first | apply Kd.R_alloc | apply Kd.R_drewN | apply Kd.R_drew)); exact HO_5.out⟩, ⟨by (try simp only [hl6_2]); (try simp only [hl6_3]); (try simp only [hl6_4]); (with_reducible repeat (first | apply Kd.R_alloc | apply Kd.R_drewN | apply Kd.R_drew)); exact HO_6.out⟩, ⟨by (try simp only [hl6_2]); (try simp only [hl6_3]); (try simp only [hl6_4]); (with_reducible repeat (first | apply Kd.R_alloc | apply Kd.R_drewN | apply Kd.R_drew)); exact HO_54.out⟩, ⟨by (try simp only [hl6_2]); (try simp only [hl6_3]); (try simp only [hl6_4]); (with_reducible repeat (first | refine blk_drewN ?_ _ | refine blk_drew ?_ | refine blk_alloc ?_ _)); exact BK193.out⟩, ⟨by repeat (first | (with_reducible first | exact HB.out | apply below_alloc | apply pw_below_drewN | apply below_drew1 | refine below_set ?_ GE193.out) | exact HB.out)⟩⟩
                 ·
                  rw [if_neg c37] at H
                  have c37b0 : decide (0 ≤ (rd y203 x56_4)) = false := decide_eq_false c37
                  (try simp only [hl6_2] at c37b0)
                  (try simp only [hl6_3] at c37b0)
                  (try simp only [hl6_4] at c37b0)
                  clear c37
                  have H' := Aside0.mk H
                  clear H
                  have p206 : 0 ≤ (x56_4 : Int) := of_decide_eq_true (by first | (with_reducible assumption) | assumption)
                  have q206 : x56_4 < (y203.length : Int) := of_decide_eq_true (by first | (with_reducible assumption) | assumption)
                  obtain ⟨ad206, e206, hx206_0⟩ := Kd.at_int (Kd.R_reads' HO_54.out).2.2 x56_4 p206 q206
                  cases e206
                  replace p206 := eq_true p206
                  replace q206 := eq_true q206
                  try go_wp2
                  have n0_ := Aside0.mk (Kd.R_drew HO_5.out)
                  have n1_ := Aside0.mk (Kd.R_drew HO_6.out)
                  have n2_ := Aside0.mk (Kd.R_drew HO_54.out)
                  have n3_ := Aside0.mk (blk_drew BK193.out)
                  have n4_ := Aside0.mk (below_drew1 HB.out)
                  clear HO_5
                  clear HO_6
                  clear HO_54
                  clear BK193
                  clear HB
                  have HO_5 := n0_
                  have HO_6 := n1_
                  have HO_54 := n2_
                  have BK193 := n3_
                  have HB := n4_
                  clear n0_ n1_ n2_ n3_ n4_
                  refine start_ (n := 38) (S := fun w' => True) (ds := []) (bA 38 0) (by kernel_rfl) rfl rfl trivial (fun hHeld => ?_); refine with_tabW bivouacref07_Regions.tab18 bivouacref07_Regions.bits18 (fun HT_ HW_ => ?_)
                  generalize wr.drew = w60 at HO_5 HO_6 HO_54 BK193 HB hHeld ⊢
                  refine pure_ (i := 0) (N := some 60) (v := ?_) (a' := ?_) (bA 38 1) rfl rfl (any_of HT_.out (by kernel_rfl)) (fun _ _ _ h => h) (Or.inl ⟨by rfl, ?_⟩) ?_ ?_
                  rotate_left
                  ·
                   intro w'
                   go_simp
                   with_reducible rfl
                  rotate_left
                  ·
                   simp only [Act.put, sA, sB, sC, i64_w, i32_w]
                   rfl
                  refine pure_ (i := 1) (N := some 61) (v := ?_) (a' := ?_) (bA 38 3) rfl rfl (any_of HT_.out (by kernel_rfl)) (fun _ _ _ h => h) (Or.inl ⟨by rfl, ?_⟩) ?_ ?_
                  rotate_left
                  ·
                   intro w'
                   go_simp
                   with_reducible rfl
                  rotate_left
                  ·
                   simp only [Act.put, sA, sB, sC, i64_w, i32_w]
                   rfl
                  refine pure_ (i := 2) (N := some 62) (v := ?_) (a' := ?_) (bA 38 7) rfl rfl (any_of HT_.out (by kernel_rfl)) (fun _ _ _ h => h) (Or.inl ⟨by rfl, ?_⟩) ?_ ?_
                  rotate_left
                  ·
                   intro w'
                   go_simp
                   with_reducible rfl
                  rotate_left
                  ·
                   simp only [Act.put, sA, sB, sC, i64_w, i32_w]
                   rfl
                  refine pure_ (i := 3) (N := some 63) (v := undef) (a' := ?_) (bA 38 15) rfl rfl (any_of HT_.out (by kernel_rfl)) (fun _ _ _ h => h) (Or.inr ⟨by rfl, rfl⟩) ?_ ?_
                  rotate_left
                  ·
                   simp only [Act.put, sA, sB, sC, i64_w, i32_w]
                   rfl
                  refine pure_ (i := 4) (N := some 64) (v := undef) (a' := ?_) (bA 38 31) rfl rfl (any_of HT_.out (by kernel_rfl)) (fun _ _ _ h => h) (Or.inr ⟨by rfl, rfl⟩) ?_ ?_
                  rotate_left
                  ·
                   simp only [Act.put, sA, sB, sC, i64_w, i32_w]
                   rfl
                  refine pure_ (i := 5) (N := some 65) (v := undef) (a' := ?_) (bA 38 63) rfl rfl (any_of HT_.out (by kernel_rfl)) (fun _ _ _ h => h) (Or.inr ⟨by rfl, rfl⟩) ?_ ?_
                  rotate_left
                  ·
                   simp only [Act.put, sA, sB, sC, i64_w, i32_w]
                   rfl
                  refine pure_ (i := 6) (N := some 66) (v := undef) (a' := ?_) (bA 38 127) rfl rfl (any_of HT_.out (by kernel_rfl)) (fun _ _ _ h => h) (Or.inr ⟨by rfl, rfl⟩) ?_ ?_
                  rotate_left
                  ·
                   simp only [Act.put, sA, sB, sC, i64_w, i32_w]
                   rfl
                  refine pure_ (i := 7) (N := some 67) (v := ?_) (a' := ?_) (bA 38 255) rfl rfl (any_of HT_.out (by kernel_rfl)) (fun _ _ _ h => h) (Or.inl ⟨by rfl, ?_⟩) ?_ ?_
                  rotate_left
                  ·
                   intro w'
                   go_simp
                   with_reducible rfl
                  rotate_left
                  ·
                   simp only [Act.put, sA, sB, sC, i64_w, i32_w]
                   rfl
                  refine pure_ (i := 8) (N := some 68) (v := ?_) (a' := ?_) (bA 38 511) rfl rfl (any_of HT_.out (by kernel_rfl)) (fun _ _ _ h => h) (Or.inl ⟨by rfl, ?_⟩) ?_ ?_
                  rotate_left
                  ·
                   intro w'
                   go_simp
                   with_reducible rfl
                  rotate_left
                  ·
                   simp only [Act.put, sA, sB, sC, i64_w, i32_w]
                   rfl
                  refine pure_ (i := 9) (N := some 69) (v := undef) (a' := ?_) (bA 38 1023) rfl rfl (any_of HT_.out (by kernel_rfl)) (fun _ _ _ h => h) (Or.inr ⟨by rfl, rfl⟩) ?_ ?_
                  rotate_left
                  ·
                   simp only [Act.put, sA, sB, sC, i64_w, i32_w]
                   rfl
                  refine pure_ (i := 10) (N := some 70) (v := undef) (a' := ?_) (bA 38 2047) rfl rfl (any_of HT_.out (by kernel_rfl)) (fun _ _ _ h => h) (Or.inr ⟨by rfl, rfl⟩) ?_ ?_
                  rotate_left
                  ·
                   simp only [Act.put, sA, sB, sC, i64_w, i32_w]
                   rfl
                  refine pure_ (i := 11) (N := some 71) (v := undef) (a' := ?_) (bA 38 4095) rfl rfl (any_of HT_.out (by kernel_rfl)) (fun _ _ _ h => h) (Or.inr ⟨by rfl, rfl⟩) ?_ ?_
                  rotate_left
                  ·
                   simp only [Act.put, sA, sB, sC, i64_w, i32_w]
                   rfl
                  refine pure_ (i := 12) (N := some 72) (v := undef) (a' := ?_) (bA 38 8191) rfl rfl (any_of HT_.out (by kernel_rfl)) (fun _ _ _ h => h) (Or.inr ⟨by rfl, rfl⟩) ?_ ?_
                  rotate_left
                  ·
                   simp only [Act.put, sA, sB, sC, i64_w, i32_w]
                   rfl
                  refine pure_ (i := 13) (N := some 73) (v := ?_) (a' := ?_) (bA 38 16383) rfl rfl (any_of HT_.out (by kernel_rfl)) (fun _ _ _ h => h) (Or.inl ⟨by rfl, ?_⟩) ?_ ?_
                  rotate_left
                  ·
                   intro w'
                   go_simp
                   with_reducible rfl
                  rotate_left
                  ·
                   simp only [Act.put, sA, sB, sC, i64_w, i32_w]
                   rfl
                  refine pure_ (i := 14) (N := some 74) (v := ?_) (a' := ?_) (bA 38 32767) rfl rfl (any_of HT_.out (by kernel_rfl)) (fun _ _ _ h => h) (Or.inl ⟨by rfl, ?_⟩) ?_ ?_
                  rotate_left
                  ·
                   intro w'
                   go_simp
                   with_reducible rfl
                  rotate_left
                  ·
                   simp only [Act.put, sA, sB, sC, i64_w, i32_w]
                   rfl
                  refine pure_ (i := 15) (N := some 75) (v := undef) (a' := ?_) (bA 38 65535) rfl rfl (any_of HT_.out (by kernel_rfl)) (fun _ _ _ h => h) (Or.inr ⟨by rfl, rfl⟩) ?_ ?_
                  rotate_left
                  ·
                   simp only [Act.put, sA, sB, sC, i64_w, i32_w]
                   rfl
                  refine pure_ (i := 16) (N := some 76) (v := undef) (a' := ?_) (bA 38 131071) rfl rfl (any_of HT_.out (by kernel_rfl)) (fun _ _ _ h => h) (Or.inr ⟨by rfl, rfl⟩) ?_ ?_
                  rotate_left
                  ·
                   simp only [Act.put, sA, sB, sC, i64_w, i32_w]
                   rfl
                  refine pure_ (i := 17) (N := some 77) (v := undef) (a' := ?_) (bA 38 262143) rfl rfl (any_of HT_.out (by kernel_rfl)) (fun _ _ _ h => h) (Or.inr ⟨by rfl, rfl⟩) ?_ ?_
                  rotate_left
                  ·
                   simp only [Act.put, sA, sB, sC, i64_w, i32_w]
                   rfl
                  refine pure_ (i := 18) (N := some 78) (v := undef) (a' := ?_) (bA 38 524287) rfl rfl (any_of HT_.out (by kernel_rfl)) (fun _ _ _ h => h) (Or.inr ⟨by rfl, rfl⟩) ?_ ?_
                  rotate_left
                  ·
                   simp only [Act.put, sA, sB, sC, i64_w, i32_w]
                   rfl
                  refine pure_ (i := 19) (N := some 79) (v := ?_) (a' := ?_) (bA 38 1048575) rfl rfl (any_of HT_.out (by kernel_rfl)) (fun _ _ _ h => h) (Or.inl ⟨by rfl, ?_⟩) ?_ ?_
                  rotate_left
                  ·
                   intro w'
                   go_simp
                   with_reducible rfl
                  rotate_left
                  ·
                   simp only [Act.put, sA, sB, sC, i64_w, i32_w]
                   rfl
                  refine pure_ (i := 20) (N := some 80) (v := ?_) (a' := ?_) (bA 38 2097151) rfl rfl (any_of HT_.out (by kernel_rfl)) (fun _ _ _ h => h) (Or.inl ⟨by rfl, ?_⟩) ?_ ?_
                  rotate_left
                  ·
                   intro w'
                   go_simp
                   with_reducible rfl
                  rotate_left
                  ·
                   simp only [Act.put, sA, sB, sC, i64_w, i32_w]
                   rfl
                  refine pure_ (i := 21) (N := some 81) (v := undef) (a' := ?_) (bA 38 4194303) rfl rfl (any_of HT_.out (by kernel_rfl)) (fun _ _ _ h => h) (Or.inr ⟨by rfl, rfl⟩) ?_ ?_
                  rotate_left
                  ·
                   simp only [Act.put, sA, sB, sC, i64_w, i32_w]
                   rfl
                  refine pure_ (i := 22) (N := some 82) (v := undef) (a' := ?_) (bA 38 8388607) rfl rfl (any_of HT_.out (by kernel_rfl)) (fun _ _ _ h => h) (Or.inr ⟨by rfl, rfl⟩) ?_ ?_
                  rotate_left
                  ·
                   simp only [Act.put, sA, sB, sC, i64_w, i32_w]
                   rfl
                  refine pure_ (i := 23) (N := some 83) (v := undef) (a' := ?_) (bA 38 16777215) rfl rfl (any_of HT_.out (by kernel_rfl)) (fun _ _ _ h => h) (Or.inr ⟨by rfl, rfl⟩) ?_ ?_
                  rotate_left
                  ·
                   simp only [Act.put, sA, sB, sC, i64_w, i32_w]
                   rfl
                  refine pure_ (i := 24) (N := some 84) (v := undef) (a' := ?_) (bA 38 33554431) rfl rfl (any_of HT_.out (by kernel_rfl)) (fun _ _ _ h => h) (Or.inr ⟨by rfl, rfl⟩) ?_ ?_
                  rotate_left
                  ·
                   simp only [Act.put, sA, sB, sC, i64_w, i32_w]
                   rfl
                  refine pure_ (i := 25) (N := some 85) (v := undef) (a' := ?_) (bA 38 67108863) rfl rfl (any_of HT_.out (by kernel_rfl)) (fun _ _ _ h => h) (Or.inr ⟨by rfl, rfl⟩) ?_ ?_
                  rotate_left
                  ·
                   simp only [Act.put, sA, sB, sC, i64_w, i32_w]
                   rfl
                  refine pure_ (i := 26) (N := some 86) (v := ?_) (a' := ?_) (bA 38 134217727) rfl rfl (any_of HT_.out (by kernel_rfl)) (fun _ _ _ h => h) (Or.inl ⟨by rfl, ?_⟩) ?_ ?_
                  rotate_left
                  ·
                   intro w'
                   go_simp
                   with_reducible rfl
                  rotate_left
                  ·
                   simp only [Act.put, sA, sB, sC, i64_w, i32_w]
                   rfl
                  refine pure_ (i := 27) (N := some 87) (v := ?_) (a' := ?_) (bA 38 268435455) rfl rfl (any_of HT_.out (by kernel_rfl)) (fun _ _ _ h => h) (Or.inl ⟨by rfl, ?_⟩) ?_ ?_
                  rotate_left
                  ·
                   intro w'
                   go_simp
                   with_reducible rfl
                  rotate_left
                  ·
                   simp only [Act.put, sA, sB, sC, i64_w, i32_w]
                   rfl
                  refine pure_ (i := 28) (N := some 88) (v := undef) (a' := ?_) (bA 38 536870911) rfl rfl (any_of HT_.out (by kernel_rfl)) (fun _ _ _ h => h) (Or.inr ⟨by rfl, rfl⟩) ?_ ?_
                  rotate_left
                  ·
                   simp only [Act.put, sA, sB, sC, i64_w, i32_w]
                   rfl
                  refine pure_ (i := 29) (N := some 89) (v := undef) (a' := ?_) (bA 38 1073741823) rfl rfl (any_of HT_.out (by kernel_rfl)) (fun _ _ _ h => h) (Or.inr ⟨by rfl, rfl⟩) ?_ ?_
                  rotate_left
                  ·
                   simp only [Act.put, sA, sB, sC, i64_w, i32_w]
                   rfl
                  refine pure_ (i := 30) (N := some 90) (v := undef) (a' := ?_) (bA 38 2147483647) rfl rfl (any_of HT_.out (by kernel_rfl)) (fun _ _ _ h => h) (Or.inr ⟨by rfl, rfl⟩) ?_ ?_
                  rotate_left
                  ·
                   simp only [Act.put, sA, sB, sC, i64_w, i32_w]
                   rfl
                  refine pure_ (i := 31) (N := some 91) (v := undef) (a' := ?_) (bA 38 4294967295) rfl rfl (any_of HT_.out (by kernel_rfl)) (fun _ _ _ h => h) (Or.inr ⟨by rfl, rfl⟩) ?_ ?_
                  rotate_left
                  ·
                   simp only [Act.put, sA, sB, sC, i64_w, i32_w]
                   rfl
                  refine pure_ (i := 32) (N := some 92) (v := undef) (a' := ?_) (bA 38 8589934591) rfl rfl (any_of HT_.out (by kernel_rfl)) (fun _ _ _ h => h) (Or.inr ⟨by rfl, rfl⟩) ?_ ?_
                  rotate_left
                  ·
                   simp only [Act.put, sA, sB, sC, i64_w, i32_w]
                   rfl
                  refine pure_ (i := 33) (N := some 93) (v := undef) (a' := ?_) (bA 38 17179869183) rfl rfl (any_of HT_.out (by kernel_rfl)) (fun _ _ _ h => h) (Or.inr ⟨by rfl, rfl⟩) ?_ ?_
                  rotate_left
                  ·
                   simp only [Act.put, sA, sB, sC, i64_w, i32_w]
                   rfl
                  refine pure_ (i := 34) (N := some 94) (v := undef) (a' := ?_) (bA 38 34359738367) rfl rfl (any_of HT_.out (by kernel_rfl)) (fun _ _ _ h => h) (Or.inr ⟨by rfl, rfl⟩) ?_ ?_
                  rotate_left
                  ·
                   simp only [Act.put, sA, sB, sC, i64_w, i32_w]
                   rfl
                  refine pure_ (i := 35) (N := some 95) (v := undef) (a' := ?_) (bA 38 68719476735) rfl rfl (any_of HT_.out (by kernel_rfl)) (fun _ _ _ h => h) (Or.inr ⟨by rfl, rfl⟩) ?_ ?_
                  rotate_left
                  ·
                   simp only [Act.put, sA, sB, sC, i64_w, i32_w]
                   rfl
                  refine pure_ (i := 36) (N := some 96) (v := undef) (a' := ?_) (bA 38 137438953471) rfl rfl (any_of HT_.out (by kernel_rfl)) (fun _ _ _ h => h) (Or.inr ⟨by rfl, rfl⟩) ?_ ?_
                  rotate_left
                  ·
                   simp only [Act.put, sA, sB, sC, i64_w, i32_w]
                   rfl
                  refine pure_ (i := 37) (N := some 97) (v := ?_) (a' := ?_) (bA 38 274877906943) rfl rfl (any_of HT_.out (by kernel_rfl)) (fun _ _ _ h => h) (Or.inl ⟨by rfl, ?_⟩) ?_ ?_
                  rotate_left
                  ·
                   intro w'
                   go_simp
                   with_reducible rfl
                  rotate_left
                  ·
                   simp only [Act.put, sA, sB, sC, i64_w, i32_w]
                   rfl
                  refine done_ (done_of HT_.out (by kernel_rfl)) ?_
                  try go_wp2
                  (try simp only [← hl6_4])
                  go_roundg k4
                  case measure => have := HK1.out; have := HK2.out; have := HK3.out; have := HK4.out; omega
                  case rel => exact ⟨(x6_4), (x8_4), (wrap64 (x56_4 + 1)), (by first | rfl | (simp; done) | (simp [*]; done)), (by first | rfl | (simp; done) | (simp [*]; done)), H', ⟨by have := HK1.out; have := HK2.out; have := HK3.out; have := HK4.out; omega⟩, ⟨by (try simp only [hl6_2]); (try simp only [hl6_3]); (try simp only [hl6_4]); (with_reducible repeat (first | apply Kd.R_alloc | apply Kd.R_drewN | apply Kd.R_drew)); exact HO_5.out⟩, ⟨by (try simp only [hl6_2]); (try simp only [hl6_3]); (try simp only [hl6_4]); (with_reducible repeat (first | apply Kd.R_alloc | apply Kd.R_drewN | apply Kd.R_drew)); exact HO_6.out⟩, ⟨by (try simp only [hl6_2]); (try simp only [hl6_3]); (try simp only [hl6_4]); (with_reducible repeat (first | apply Kd.R_alloc | apply Kd.R_drewN | apply Kd.R_drew)); exact HO_54.out⟩, ⟨by (try simp only [hl6_2]); (try simp only [hl6_3]); (try simp only [hl6_4]); (with_reducible repeat (first | refine blk_drewN ?_ _ | refine blk_drew ?_ | refine blk_alloc ?_ _)); exact BK193.out⟩, ⟨by repeat (first | (with_reducible first | exact HB.out | apply below_alloc | apply pw_below_drewN | apply below_drew1 | refine below_set ?_ GE193.out) | exact HB.out)⟩⟩
                ·
                 rw [if_neg c36] at H
                 exact absurd H (by simp)
               ·
                rw [if_neg c35] at H
                exact absurd H (by simp)
              ·
               rw [if_neg c34] at H
               have c34b0 : decide (x56_4 < (y203.length : Int)) = false := decide_eq_false c34
               (try simp only [hl6_2] at c34b0)
               (try simp only [hl6_3] at c34b0)
               (try simp only [hl6_4] at c34b0)
               clear c34
               have H' := Aside0.mk H
               clear H
               go_wp2
               (try simp only [← hl6_3, ← hl6_4])
               go_roundg k4
               case measure => have := HK1.out; have := HK2.out; have := HK3.out; have := HK4.out; omega
               case rel => exact ⟨(x6_4), (x8_4), (wrap64 (x9_3 + 1)), (by first | rfl | (simp; done) | (simp [*]; done)), (by first | rfl | (simp; done) | (simp [*]; done)), H', ⟨by have := HK1.out; have := HK2.out; have := HK3.out; have := HK4.out; omega⟩, ⟨by (try simp only [hl6_2]); (try simp only [hl6_3]); (try simp only [hl6_4]); (with_reducible repeat (first | apply Kd.R_alloc | apply Kd.R_drewN | apply Kd.R_drew)); exact HO_5.out⟩, ⟨by (try simp only [hl6_2]); (try simp only [hl6_3]); (try simp only [hl6_4]); (with_reducible repeat (first | apply Kd.R_alloc | apply Kd.R_drewN | apply Kd.R_drew)); exact Kd.R_mono HO_6.out (fun _ hk => trivial)⟩, ⟨by (try simp only [hl6_2]); (try simp only [hl6_3]); (try simp only [hl6_4]); (with_reducible repeat (first | refine blk_drewN ?_ _ | refine blk_drew ?_ | refine blk_alloc ?_ _)); exact BK193.out⟩, ⟨by repeat (first | (with_reducible first | exact HB.out | apply below_alloc | apply pw_below_drewN | apply below_drew1 | refine below_set ?_ GE193.out) | exact HB.out)⟩⟩
           ·
            rw [if_neg c29] at H
            have c29b0 : decide (x9_3 < (x6_3.length : Int)) = false := decide_eq_false c29
            (try simp only [hl6_2] at c29b0)
            (try simp only [hl6_3] at c29b0)
            clear c29
            have H' := Aside0.mk H
            clear H
            go_wp2
            (try simp only [← hl6_2, ← hl6_3])
            go_roundg k3
            case measure => have := HK1.out; have := HK2.out; have := HK3.out; omega
            case rel => exact ⟨(x6_3), (x8_3), (by first | rfl | (simp; done) | (simp [*]; done)), H', ⟨by have := HK1.out; have := HK2.out; have := HK3.out; omega⟩, ⟨by (try simp only [hl6_2]); (try simp only [hl6_3]); (with_reducible repeat (first | apply Kd.R_alloc | apply Kd.R_drewN | apply Kd.R_drew)); exact HO_5.out⟩, ⟨by (try simp only [hl6_2]); (try simp only [hl6_3]); (with_reducible repeat (first | apply Kd.R_alloc | apply Kd.R_drewN | apply Kd.R_drew)); exact HO_6.out⟩, ⟨by (try simp only [hl6_2]); (try simp only [hl6_3]); (with_reducible repeat (first | refine blk_drewN ?_ _ | refine blk_drew ?_ | refine blk_alloc ?_ _)); exact BK193.out⟩, ⟨by repeat (first | (with_reducible first | exact HB.out | apply below_alloc | apply pw_below_drewN | apply below_drew1 | refine below_set ?_ GE193.out) | exact HB.out)⟩⟩
        ·
         replace c28 := Bool.eq_false_iff.mpr c28
         subst c28
         have H1 : (some x6_2) = some r := by rw [if_neg (show ¬ (false = true) by decide)] at H; exact H
         clear H
         have H := H1
         clear H1
         obtain rfl := Option.some.inj H
         go_wp2
         go_ret
         exact ⟨_, by first | rfl | (simp [errW_none, errW_some] <;> rfl) | (simp [*, errW_none, errW_some] <;> rfl) | (rw [Int.tdiv_eq_ediv_of_nonneg (by assumption)]; rfl), by (with_reducible repeat (first | apply Kd.R_alloc | apply Kd.R_drewN | apply Kd.R_drew)); exact HO_6.out, by repeat (first | (with_reducible first | exact HB.out | apply below_alloc | apply pw_below_drewN | apply below_drew1 | refine below_set ?_ GE193.out) | exact HB.out)⟩
  ·
   rw [if_neg c5] at H
   exact absurd H (by simp)
 ·
  rw [if_neg c4] at H
  exact absurd H (by simp)

end Go.Proofs.Ytnpippechogagaa.PA
