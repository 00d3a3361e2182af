-- WRITTEN BY A PROGRAM OF THIS SESSION (a turned copy of the kit's printer), for this claim. Nothing here is trusted: Lean checks it.
import Derived.Test.YtincnaejgimlbaaPAx0
import Derived.Test.YtincnaejgimlbaaPAx15
import Derived.Test.YtincnaejgimlbaaPAx16
import Derived.Test.YtincnaejgimlbaaPAx20
import Derived.Test.YtincnaejgimlbaaGAraySees
namespace Go.Proofs.Ytincnaejgimlbaa.PA
open Go.RowKit Go.Proofs.YtincnaejgimlbaaW.PrintWords Go.Proofs.YtincnaejgimlbaaW.PrintLast Go.Proofs.YtincnaejgimlbaaW.PrintMore
attribute [local go_sem] max2_int min2_int max_two min_two max_three min_three max_four min_four   -- for this text's walks alone
set_option linter.unusedVariables false
set_option linter.unusedSimpArgs false

/-! ### bivouaclaw08_RayHigher: function 7 -/
def bivouaclaw08_RayHigher.j0 : Nat → Int → Bool → Int → Bool → Int → Int → Int → List Int → Int → Int → Int → Int → Int → Int → Int → Int → Int → List Int → Int → Int → Int → Int → Option (Bool)
 | 0, _, _, _, _, _, _, _, _, _, _, _, _, _, _, _, _, _, _, _, _, _, _ => none
 | k + 1, x1, x8, x9, x58, x260000, x260001, x260002, x260003, x260004, x260005, x260006, x260007, x260008, x260009, x267000, x267001, x267002, x267003, x268000, x268001, x269000, x269001 => if x58 = true then (if x9 = 0 then ((bivouaclaw08_awake.f k).bind fun t271 => (some t271)) else (if x8 = true then (some false) else ((bivouaclaw08_awake.f k).bind fun t272 => (some t272)))) else ((ray_Sees.f k x267000 x267001 x267002 x267003 x268000 x268001 x269000 x269001 (wrap64 (x260008 + x1)) x260009).bind fun bt273 => ((ray_Sees.f k x267000 x267001 x267002 x267003 x268000 x268001 x269000 x269001 x260008 (wrap64 (x260009 + x1))).bind fun bt275 => ((bivouacref08_Long.f x260004 x260005 x260006 x260007).bind fun t277 => (if bt273.2 = 0 then (if bt275.2 = 0 then (if x8 = true then (if bt273.1 = true then (if bt275.1 = true then (if t277 ≤ 1 then ((bivouaclaw08_awake.f k).bind fun t278 => (some t278)) else ((bivouaclaw08_awake.f k).bind fun t279 => (some t279))) else (some false)) else (some false)) else (if t277 ≤ 1 then (some false) else ((bivouaclaw08_awake.f k).bind fun t280 => (some t280)))) else (some false)) else (some false)))))
def bivouaclaw08_RayHigher.f (k : Nat) (a0_0 : Int) (a0_1 : Int) (a0_2 : Int) (l0_3 : List Int) (a0_4 : Int) (a0_5 : Int) (a0_6 : Int) (a0_7 : Int) (a0_8 : Int) (a0_9 : Int) (a1 : Int) : Option (Bool) := (bivouaclaw08_few.f a0_0 a0_1 a0_2 l0_3).bind fun bt260 => ((ray_Sees.f k bt260.1 bt260.2.1 bt260.2.2.1 bt260.2.2.2 a0_4 a0_5 a0_6 a0_7 a0_8 a0_9).bind fun bt269 => (if bt269.2 = 0 then (if a1 < 0 then (bivouaclaw08_RayHigher.j0 k a1 bt269.1 bt269.2 true a0_0 a0_1 a0_2 l0_3 a0_4 a0_5 a0_6 a0_7 a0_8 a0_9 bt260.1 bt260.2.1 bt260.2.2.1 bt260.2.2.2 a0_4 a0_5 a0_6 a0_7) else (if a1 > (wrap64 (255 - a0_8)) then (bivouaclaw08_RayHigher.j0 k a1 bt269.1 bt269.2 true a0_0 a0_1 a0_2 l0_3 a0_4 a0_5 a0_6 a0_7 a0_8 a0_9 bt260.1 bt260.2.1 bt260.2.2.1 bt260.2.2.2 a0_4 a0_5 a0_6 a0_7) else (bivouaclaw08_RayHigher.j0 k a1 bt269.1 bt269.2 (decide (a1 > (wrap64 (255 - a0_9)))) a0_0 a0_1 a0_2 l0_3 a0_4 a0_5 a0_6 a0_7 a0_8 a0_9 bt260.1 bt260.2.1 bt260.2.2.1 bt260.2.2.2 a0_4 a0_5 a0_6 a0_7))) else (bivouaclaw08_RayHigher.j0 k a1 bt269.1 bt269.2 true a0_0 a0_1 a0_2 l0_3 a0_4 a0_5 a0_6 a0_7 a0_8 a0_9 bt260.1 bt260.2.1 bt260.2.2.1 bt260.2.2.2 a0_4 a0_5 a0_6 a0_7)))
theorem bivouaclaw08_RayHigher.mono_l : ∀ k, (∀ y0 y1 y2 y3 y4 y5 y6 y7 y8 y9 y10 y11 y12 y13 y14 y15 y16 y17 y18 y19 y20 y21, LeO (bivouaclaw08_RayHigher.j0 k y0 y1 y2 y3 y4 y5 y6 y7 y8 y9 y10 y11 y12 y13 y14 y15 y16 y17 y18 y19 y20 y21) (bivouaclaw08_RayHigher.j0 (k + 1) y0 y1 y2 y3 y4 y5 y6 y7 y8 y9 y10 y11 y12 y13 y14 y15 y16 y17 y18 y19 y20 y21))
 | 0 => fun _ _ _ _ _ _ _ _ _ _ _ _ _ _ _ _ _ _ _ _ _ _ r h => by simp [bivouaclaw08_RayHigher.j0] at h
 | k + 1 => by
  have ih0 := bivouaclaw08_RayHigher.mono_l k
  ·
   intro y0 y1 y2 y3 y4 y5 y6 y7 y8 y9 y10 y11 y12 y13 y14 y15 y16 y17 y18 y19 y20 y21
   unfold bivouaclaw08_RayHigher.j0
   repeat' first
   | (with_reducible exact ih0 _ _ _ _ _ _ _ _ _ _ _ _ _ _ _ _ _ _ _ _ _ _)
   | (with_reducible exact bivouaclaw08_awake.mono _)
   | (with_reducible exact ray_Sees.mono _ _ _ _ _ _ _ _ _ _ _)
   | (with_reducible exact LeO.refl _)
   | (with_reducible exact LeO.none _)
   | (with_reducible refine LeO.ite ?_ ?_)
   | (with_reducible refine LeO.bind ?_ (fun _ => ?_))
   | exact ih0 _ _ _ _ _ _ _ _ _ _ _ _ _ _ _ _ _ _ _ _ _ _
   | exact bivouaclaw08_awake.mono _
   | exact ray_Sees.mono _ _ _ _ _ _ _ _ _ _ _
   | exact LeO.none _
   | refine LeO.ite ?_ ?_
   | refine LeO.bind ?_ (fun _ => ?_)
theorem bivouaclaw08_RayHigher.mono : ∀ a0 a1 a2 a3 a4 a5 a6 a7 a8 a9 a10 k, LeO (bivouaclaw08_RayHigher.f k a0 a1 a2 a3 a4 a5 a6 a7 a8 a9 a10) (bivouaclaw08_RayHigher.f (k + 1) a0 a1 a2 a3 a4 a5 a6 a7 a8 a9 a10) := by
 intro a0 a1 a2 a3 a4 a5 a6 a7 a8 a9 a10 k
 have ih0 := bivouaclaw08_RayHigher.mono_l k
 unfold bivouaclaw08_RayHigher.f
 repeat' first
   | (with_reducible exact ih0 _ _ _ _ _ _ _ _ _ _ _ _ _ _ _ _ _ _ _ _ _ _)
   | (with_reducible exact bivouaclaw08_awake.mono _)
   | (with_reducible exact ray_Sees.mono _ _ _ _ _ _ _ _ _ _ _)
   | (with_reducible exact LeO.refl _)
   | (with_reducible exact LeO.none _)
   | (with_reducible refine LeO.ite ?_ ?_)
   | (with_reducible refine LeO.bind ?_ (fun _ => ?_))
   | exact ih0 _ _ _ _ _ _ _ _ _ _ _ _ _ _ _ _ _ _ _ _ _ _
   | exact bivouaclaw08_awake.mono _
   | exact ray_Sees.mono _ _ _ _ _ _ _ _ _ _ _
   | exact LeO.none _
   | refine LeO.ite ?_ ?_
   | refine LeO.bind ?_ (fun _ => ?_)
def bivouaclaw08_RayHigher.T2 : Bool × List (List Nat × List Nat) := (true, [([], []), ([0], [0]), ([], []), ([2], [2]), ([1, 3], [1, 3]), ([], []), ([5], [5]), ([], []), ([7], [7]), ([6, 8], [6, 8]), ([], []), ([], []), ([10, 4, 0, 1, 2, 3, 4, 10, 11], [4, 10]), ([11, 9, 12, 0, 1, 2, 3, 4, 5, 6, 7, 8, 9, 10, 11, 12], [9, 11])])
def bivouaclaw08_RayHigher.B2 : List Nat := [0, 1, 0, 4, 15, 0, 32, 0, 128, 480, 0, 0, 3103, 8191]
theorem bivouaclaw08_RayHigher.tab2 : rtab .any (opsOf Try.f7 2) = bivouaclaw08_RayHigher.T2 := by kernel_rfl
theorem bivouaclaw08_RayHigher.bits2 : waitsOk bivouaclaw08_RayHigher.T2.2 bivouaclaw08_RayHigher.B2 = true := by kernel_rfl
set_option maxHeartbeats 8000000 in
set_option maxRecDepth 100000 in
theorem bivouaclaw08_RayHigher.calls (k : Nat) (a0_0 : Int) (a0_1 : Int) (a0_2 : Int) (A0_3 : Option Addr) (c0_3 : Nat) (l0_3 : List Int) (a0_4 : Int) (a0_5 : Int) (a0_6 : Int) (a0_7 : Int) (a0_8 : Int) (a0_9 : Int) (a1 : Int) (r : Bool) (w : World) (hr0_3 : Kd.C (Kd.int .u8) w A0_3 l0_3.length l0_3) (hc0_3 : l0_3.length ≤ c0_3) (h : bivouaclaw08_RayHigher.f k a0_0 a0_1 a0_2 l0_3 a0_4 a0_5 a0_6 a0_7 a0_8 a0_9 a1 = some r) :
  Calls Try.prog 7 #[.agg #[.int .i64 a0_0, .int .i64 a0_1, .int .i64 a0_2, .slice A0_3 l0_3.length c0_3, .int .i64 a0_4, .int .i64 a0_5, .int .i64 a0_6, .int .i64 a0_7, .int .i64 a0_8, .int .i64 a0_9], .int .i64 a1] w fun e w' => e = .returned (.bool r) ∧ Below w.heap.size w w' := by
 have hu26 := Try.underlying26
 have hu24 := Try.underlying24
 have hu36 := Try.underlying36
 have HR0_3 := Aside0.mk hr0_3
 have HC0_3 := Aside0.mk hc0_3
 clear hr0_3 hc0_3
 have HB := Aside0.mk (Below.refl w.heap.size w)
 have H : ((bivouaclaw08_few.f a0_0 a0_1 a0_2 l0_3).bind fun bt260 => ((ray_Sees.f k bt260.1 bt260.2.1 bt260.2.2.1 bt260.2.2.2 a0_4 a0_5 a0_6 a0_7 a0_8 a0_9).bind fun bt269 => (if bt269.2 = 0 then (if a1 < 0 then (bivouaclaw08_RayHigher.j0 k a1 bt269.1 bt269.2 true a0_0 a0_1 a0_2 l0_3 a0_4 a0_5 a0_6 a0_7 a0_8 a0_9 bt260.1 bt260.2.1 bt260.2.2.1 bt260.2.2.2 a0_4 a0_5 a0_6 a0_7) else (if a1 > (wrap64 (255 - a0_8)) then (bivouaclaw08_RayHigher.j0 k a1 bt269.1 bt269.2 true a0_0 a0_1 a0_2 l0_3 a0_4 a0_5 a0_6 a0_7 a0_8 a0_9 bt260.1 bt260.2.1 bt260.2.2.1 bt260.2.2.2 a0_4 a0_5 a0_6 a0_7) else (bivouaclaw08_RayHigher.j0 k a1 bt269.1 bt269.2 (decide (a1 > (wrap64 (255 - a0_9)))) a0_0 a0_1 a0_2 l0_3 a0_4 a0_5 a0_6 a0_7 a0_8 a0_9 bt260.1 bt260.2.1 bt260.2.2.1 bt260.2.2.2 a0_4 a0_5 a0_6 a0_7))) else (bivouaclaw08_RayHigher.j0 k a1 bt269.1 bt269.2 true a0_0 a0_1 a0_2 l0_3 a0_4 a0_5 a0_6 a0_7 a0_8 a0_9 bt260.1 bt260.2.1 bt260.2.2.1 bt260.2.2.2 a0_4 a0_5 a0_6 a0_7)))) = some r := h
 clear h
 replace H := Option.bind_eq_some_iff.mp H
 obtain ⟨⟨t260, t261, t262, t263⟩, A30, H⟩ := H
 replace H : ((ray_Sees.f k t260 t261 t262 t263 a0_4 a0_5 a0_6 a0_7 a0_8 a0_9).bind fun bt269 => (if bt269.2 = 0 then (if a1 < 0 then (bivouaclaw08_RayHigher.j0 k a1 bt269.1 bt269.2 true a0_0 a0_1 a0_2 l0_3 a0_4 a0_5 a0_6 a0_7 a0_8 a0_9 t260 t261 t262 t263 a0_4 a0_5 a0_6 a0_7) else (if a1 > (wrap64 (255 - a0_8)) then (bivouaclaw08_RayHigher.j0 k a1 bt269.1 bt269.2 true a0_0 a0_1 a0_2 l0_3 a0_4 a0_5 a0_6 a0_7 a0_8 a0_9 t260 t261 t262 t263 a0_4 a0_5 a0_6 a0_7) else (bivouaclaw08_RayHigher.j0 k a1 bt269.1 bt269.2 (decide (a1 > (wrap64 (255 - a0_9)))) a0_0 a0_1 a0_2 l0_3 a0_4 a0_5 a0_6 a0_7 a0_8 a0_9 t260 t261 t262 t263 a0_4 a0_5 a0_6 a0_7))) else (bivouaclaw08_RayHigher.j0 k a1 bt269.1 bt269.2 true a0_0 a0_1 a0_2 l0_3 a0_4 a0_5 a0_6 a0_7 a0_8 a0_9 t260 t261 t262 t263 a0_4 a0_5 a0_6 a0_7))) = some r := H
 have A3 := Aside0.mk A30
 clear A30
 replace H := Option.bind_eq_some_iff.mp H
 obtain ⟨⟨t269, t270⟩, A40, H⟩ := H
 replace H : (if t270 = 0 then (if a1 < 0 then (bivouaclaw08_RayHigher.j0 k a1 t269 t270 true a0_0 a0_1 a0_2 l0_3 a0_4 a0_5 a0_6 a0_7 a0_8 a0_9 t260 t261 t262 t263 a0_4 a0_5 a0_6 a0_7) else (if a1 > (wrap64 (255 - a0_8)) then (bivouaclaw08_RayHigher.j0 k a1 t269 t270 true a0_0 a0_1 a0_2 l0_3 a0_4 a0_5 a0_6 a0_7 a0_8 a0_9 t260 t261 t262 t263 a0_4 a0_5 a0_6 a0_7) else (bivouaclaw08_RayHigher.j0 k a1 t269 t270 (decide (a1 > (wrap64 (255 - a0_9)))) a0_0 a0_1 a0_2 l0_3 a0_4 a0_5 a0_6 a0_7 a0_8 a0_9 t260 t261 t262 t263 a0_4 a0_5 a0_6 a0_7))) else (bivouaclaw08_RayHigher.j0 k a1 t269 t270 true a0_0 a0_1 a0_2 l0_3 a0_4 a0_5 a0_6 a0_7 a0_8 a0_9 t260 t261 t262 t263 a0_4 a0_5 a0_6 a0_7)) = some r := H
 have A4 := Aside0.mk A40
 clear A40
 have HC5 := Aside0.mk H
 clear H
 go_enter Try.func7, Try.ntmps7
 try go_wp2_with (first | ((with_reducible refine gate_dst (N := 2) rfl ?_); refine box_event ?hg (N := 2) ?hd (cs := #[.int .i64 a0_0, .int .i64 a0_1, .int .i64 a0_2, .slice A0_3 l0_3.length c0_3, .int .i64 a0_4, .int .i64 a0_5, .int .i64 a0_6, .int .i64 a0_7, .int .i64 a0_8, .int .i64 a0_9]) (t := 26) ?hr ?_; (case hd => rfl); (case hg => rfl); (case hr => first | (go_simp; done) | (go_simp; rfl)); intro gb259 hg w6 hbox hb; have n0_ := Aside0.mk (below_step (by repeat (first | (with_reducible first | exact HB.out | apply below_alloc | apply pw_below_drewN | apply below_drew1) | exact HB.out)) hb); have n1_ := Aside0.mk (hbox); have n2_ := Aside0.mk ((by rw [hg]; exact (below_size (by repeat (first | (with_reducible first | exact HB.out | apply below_alloc | apply pw_below_drewN | apply below_drew1) | exact HB.out))) : w.heap.size ≤ gb259)); have n3_ := Aside0.mk ((by rw [hg]; exact (below_size (by repeat (first | (with_reducible first | exact HB.out | apply below_alloc | apply pw_below_drewN | apply below_drew1) | exact HB.out))) : w.heap.size ≤ gb259)); clear HB; have HB := n0_; have BK259 := n1_; have GW259 := n2_; have GE259 := n3_; clear n0_ n1_ n2_ n3_; clear hb hbox hg; have hcz7_0 : w6.cell? ⟨gb259, 0, none⟩ = some (.int .i64 a0_0) := (blk_cell BK259.out 0).trans rfl; have hcz7_1 : w6.cell? ⟨gb259, 1, none⟩ = some (.int .i64 a0_1) := (blk_cell BK259.out 1).trans rfl; have hcz7_2 : w6.cell? ⟨gb259, 2, none⟩ = some (.int .i64 a0_2) := (blk_cell BK259.out 2).trans rfl; have hcz7_3 : w6.cell? ⟨gb259, 3, none⟩ = some (.slice A0_3 l0_3.length c0_3) := (blk_cell BK259.out 3).trans rfl; have hcz7_4 : w6.cell? ⟨gb259, 4, none⟩ = some (.int .i64 a0_4) := (blk_cell BK259.out 4).trans rfl; have hcz7_5 : w6.cell? ⟨gb259, 5, none⟩ = some (.int .i64 a0_5) := (blk_cell BK259.out 5).trans rfl; have hcz7_6 : w6.cell? ⟨gb259, 6, none⟩ = some (.int .i64 a0_6) := (blk_cell BK259.out 6).trans rfl; have hcz7_7 : w6.cell? ⟨gb259, 7, none⟩ = some (.int .i64 a0_7) := (blk_cell BK259.out 7).trans rfl; have hcz7_8 : w6.cell? ⟨gb259, 8, none⟩ = some (.int .i64 a0_8) := (blk_cell BK259.out 8).trans rfl; have hcz7_9 : w6.cell? ⟨gb259, 9, none⟩ = some (.int .i64 a0_9) := (blk_cell BK259.out 9).trans rfl; have hfz7_0 := blk_frozen BK259.out 0; have hfz7_1 := blk_frozen BK259.out 1; have hfz7_2 := blk_frozen BK259.out 2; have hfz7_3 := blk_frozen BK259.out 3; have hfz7_4 := blk_frozen BK259.out 4; have hfz7_5 := blk_frozen BK259.out 5; have hfz7_6 := blk_frozen BK259.out 6; have hfz7_7 := blk_frozen BK259.out 7; have hfz7_8 := blk_frozen BK259.out 8; have hfz7_9 := blk_frozen BK259.out 9) | ((with_reducible refine gate_callee (f := 14) rfl ?_); refine goesL_ (some 17) rfl rfl Try.func14 (by kernel_rfl) rfl #[.agg #[.int .i64 a0_0, .int .i64 a0_1, .int .i64 a0_2, .slice A0_3 l0_3.length c0_3]] rfl (by (try simp only [List.map_toArray, List.map_cons, List.map_nil]); first | done | rfl | (simp only [List.length_drop, List.length_take]; rfl)) ?_; (with_reducible refine (bivouaclaw08_few.calls a0_0 a0_1 a0_2 (fun k_ => k_ < w.heap.size) _ _ l0_3 t260 t261 t262 t263 _ ?side1 A3.out).mono ?_); (case side1 => exact Kd.V_mk HC0_3.out (Kd.F_below (Kd.C_F (Kd.heap_int .u8) HR0_3.out) (by repeat (first | (with_reducible first | exact HB.out | apply below_alloc | apply pw_below_drewN | apply below_drew1 | refine below_set ?_ GE259.out) | exact HB.out)))); rintro e w8 ⟨v264, rfl, ho0, hb⟩; refine ⟨_, rfl, ?_⟩; have n0_ := Aside0.mk (Kd.V_lower (Kd.V_mono (ok' := fun k_ => k_ ≠ gb259) ho0 (fun k_ hk_ => Or.elim hk_ (fun hs_ => fun e_ => Nat.not_le.2 hs_ (by rw [e_]; exact GW259.out)) (fun hn_ => (Kd.freshB (g := gb259) (o := .cells #[.int .i64 a0_0, .int .i64 a0_1, .int .i64 a0_2, .slice A0_3 l0_3.length c0_3, .int .i64 a0_4, .int .i64 a0_5, .int .i64 a0_6, .int .i64 a0_7, .int .i64 a0_8, .int .i64 a0_9] 26 (0, 0)) (by (with_reducible repeat (first | refine blk_drewN ?_ _ | refine blk_drew ?_ | refine blk_alloc ?_ _)); exact BK259.out) k_ hn_)))) (below_size (by repeat (first | (with_reducible first | exact HB.out | apply below_alloc | apply pw_below_drewN | apply below_drew1 | refine below_set ?_ GE259.out) | exact HB.out)))); have n1_ := Aside0.mk (blk_below (g := gb259) (o := .cells #[.int .i64 a0_0, .int .i64 a0_1, .int .i64 a0_2, .slice A0_3 l0_3.length c0_3, .int .i64 a0_4, .int .i64 a0_5, .int .i64 a0_6, .int .i64 a0_7, .int .i64 a0_8, .int .i64 a0_9] 26 (0, 0)) (by (with_reducible repeat (first | refine blk_drewN ?_ _ | refine blk_drew ?_ | refine blk_alloc ?_ _)); exact BK259.out) hb); have n2_ := Aside0.mk (below_step (by repeat (first | (with_reducible first | exact HB.out | apply below_alloc | apply pw_below_drewN | apply below_drew1 | refine below_set ?_ GE259.out) | exact HB.out)) hb); clear BK259; clear HB; have HO265 := n0_; have BK259 := n1_; have HB := n2_; clear n0_ n1_ n2_; (try clear hb); (try clear hb2); (try clear hk); (try clear hi); (try clear ho0)) | ((with_reducible refine gate_dst (N := 5) rfl ?_); refine box_event ?hg (N := 5) ?hd (cs := #[.int .i64 0, .int .i64 0, .int .i64 0, .slice none 0 0]) (t := 24) ?hr ?_; (case hd => rfl); (case hg => rfl); (case hr => first | (go_simp; done) | (go_simp; rfl)); intro gb266 hg w9 hbox hb; have n0_ := Aside0.mk (Kd.V_below (Kd.V_elderB (by (with_reducible repeat (first | apply Kd.V_alloc | apply Kd.V_drewN | apply Kd.V_drew)); exact HO265.out) gb266 (Nat.le_of_eq hg.symm)) hb); have n1_ := Aside0.mk (blk_below (g := gb259) (o := .cells #[.int .i64 a0_0, .int .i64 a0_1, .int .i64 a0_2, .slice A0_3 l0_3.length c0_3, .int .i64 a0_4, .int .i64 a0_5, .int .i64 a0_6, .int .i64 a0_7, .int .i64 a0_8, .int .i64 a0_9] 26 (0, 0)) (by (with_reducible repeat (first | refine blk_drewN ?_ _ | refine blk_drew ?_ | refine blk_alloc ?_ _)); exact BK259.out) hb); have n2_ := Aside0.mk (below_step (by repeat (first | (with_reducible first | exact HB.out | apply below_alloc | apply pw_below_drewN | apply below_drew1 | refine below_set ?_ GE259.out) | exact HB.out)) hb); have n3_ := Aside0.mk (hbox); have n4_ := Aside0.mk ((by rw [hg]; exact (below_size (by repeat (first | (with_reducible first | exact HB.out | apply below_alloc | apply pw_below_drewN | apply below_drew1 | refine below_set ?_ GE259.out) | exact HB.out))) : w.heap.size ≤ gb266)); have n5_ := Aside0.mk ((by rw [hg]; exact (below_size (by repeat (first | (with_reducible first | exact HB.out | apply below_alloc | apply pw_below_drewN | apply below_drew1 | refine below_set ?_ GE259.out) | exact HB.out))) : w.heap.size ≤ gb266)); have n6_ := Aside0.mk ((by rw [hg]; exact Nat.ne_of_lt (blk_lt (g := gb259) (o := .cells #[.int .i64 a0_0, .int .i64 a0_1, .int .i64 a0_2, .slice A0_3 l0_3.length c0_3, .int .i64 a0_4, .int .i64 a0_5, .int .i64 a0_6, .int .i64 a0_7, .int .i64 a0_8, .int .i64 a0_9] 26 (0, 0)) (by (with_reducible repeat (first | refine blk_drewN ?_ _ | refine blk_drew ?_ | refine blk_alloc ?_ _)); exact BK259.out)) : gb259 ≠ gb266)); have n7_ := Aside0.mk ((by rw [hg]; exact Nat.ne_of_gt (blk_lt (g := gb259) (o := .cells #[.int .i64 a0_0, .int .i64 a0_1, .int .i64 a0_2, .slice A0_3 l0_3.length c0_3, .int .i64 a0_4, .int .i64 a0_5, .int .i64 a0_6, .int .i64 a0_7, .int .i64 a0_8, .int .i64 a0_9] 26 (0, 0)) (by (with_reducible repeat (first | refine blk_drewN ?_ _ | refine blk_drew ?_ | refine blk_alloc ?_ _)); exact BK259.out)) : gb266 ≠ gb259)); clear HO265; clear BK259; clear HB; have HO265 := n0_; have BK259 := n1_; have HB := n2_; have BK266 := n3_; have GW266 := n4_; have GE266 := n5_; have NB259_266 := n6_; have NB266_259 := n7_; clear n0_ n1_ n2_ n3_ n4_ n5_ n6_ n7_; clear hb hbox hg; have hnb10 := NB266_259.out; have hnc10 := NB259_266.out; have hcz11_0 : w9.cell? ⟨gb266, 0, none⟩ = some (.int .i64 0) := (blk_cell BK266.out 0).trans rfl; have hcz11_1 : w9.cell? ⟨gb266, 1, none⟩ = some (.int .i64 0) := (blk_cell BK266.out 1).trans rfl; have hcz11_2 : w9.cell? ⟨gb266, 2, none⟩ = some (.int .i64 0) := (blk_cell BK266.out 2).trans rfl; have hcz11_3 : w9.cell? ⟨gb266, 3, none⟩ = some (.slice none 0 0) := (blk_cell BK266.out 3).trans rfl; have hfz11_0 := blk_frozen BK266.out 0; have hfz11_1 := blk_frozen BK266.out 1; have hfz11_2 := blk_frozen BK266.out 2; have hfz11_3 := blk_frozen BK266.out 3; obtain ⟨Ao12, co12, eo12⟩ := Kd.V_slice HO265.out; subst eo12))
 have n0_ : Aside0 (Kd.V (Kd.int .u8) 5 ((((w9.setCell ⟨gb266, 0, none⟩ (.int .i64 t260)).setCell ⟨gb266, 1, none⟩ (.int .i64 t261)).setCell ⟨gb266, 2, none⟩ (.int .i64 t262)).setCell ⟨gb266, 3, none⟩ (.slice Ao12 t263.length co12)) w.heap.size (fun k_ => k_ ≠ gb259 ∧ k_ ≠ gb266) (.slice Ao12 t263.length co12) t263) := ⟨by (with_reducible repeat (first | apply Kd.V_alloc | apply Kd.V_drewN | apply Kd.V_drew)); exact Kd.V_mono (Kd.V_far (p := ⟨gb266, 3, none⟩) (Kd.V_far (p := ⟨gb266, 2, none⟩) (Kd.V_far (p := ⟨gb266, 1, none⟩) (Kd.V_far (p := ⟨gb266, 0, none⟩) (Kd.V_mono HO265.out (fun k_ hk => (⟨hk, hk.2⟩ : _ ∧ k_ ≠ gb266))) (fun _ hk => hk.2) (.int .i64 t260)) (fun _ hk => hk.2) (.int .i64 t261)) (fun _ hk => hk.2) (.int .i64 t262)) (fun _ hk => hk.2) (.slice Ao12 t263.length co12)) (fun _ hk => ⟨hk.1.1, hk.1.2⟩)⟩
 have n1_ : Aside0 (((((w9.setCell ⟨gb266, 0, none⟩ (.int .i64 t260)).setCell ⟨gb266, 1, none⟩ (.int .i64 t261)).setCell ⟨gb266, 2, none⟩ (.int .i64 t262)).setCell ⟨gb266, 3, none⟩ (.slice Ao12 t263.length co12)).heap[gb259]? = some (.cells #[.int .i64 a0_0, .int .i64 a0_1, .int .i64 a0_2, .slice A0_3 l0_3.length c0_3, .int .i64 a0_4, .int .i64 a0_5, .int .i64 a0_6, .int .i64 a0_7, .int .i64 a0_8, .int .i64 a0_9] 26 (0, 0))) := ⟨by (with_reducible repeat (first | refine blk_drewN ?_ _ | refine blk_drew ?_ | refine blk_alloc ?_ _)); refine blk_far ?_ NB259_266.out _; (with_reducible repeat (first | refine blk_drewN ?_ _ | refine blk_drew ?_ | refine blk_alloc ?_ _)); refine blk_far ?_ NB259_266.out _; (with_reducible repeat (first | refine blk_drewN ?_ _ | refine blk_drew ?_ | refine blk_alloc ?_ _)); refine blk_far ?_ NB259_266.out _; (with_reducible repeat (first | refine blk_drewN ?_ _ | refine blk_drew ?_ | refine blk_alloc ?_ _)); refine blk_far ?_ NB259_266.out _; (with_reducible repeat (first | refine blk_drewN ?_ _ | refine blk_drew ?_ | refine blk_alloc ?_ _)); exact BK259.out⟩
 have n2_ : Aside0 (((((w9.setCell ⟨gb266, 0, none⟩ (.int .i64 t260)).setCell ⟨gb266, 1, none⟩ (.int .i64 t261)).setCell ⟨gb266, 2, none⟩ (.int .i64 t262)).setCell ⟨gb266, 3, none⟩ (.slice Ao12 t263.length co12)).heap[gb266]? = some (.cells #[.int .i64 t260, .int .i64 t261, .int .i64 t262, .slice Ao12 t263.length co12] 24 (0, 0))) := ⟨by (with_reducible repeat (first | refine blk_drewN ?_ _ | refine blk_drew ?_ | refine blk_alloc ?_ _)); refine blk_put (cs := #[.int .i64 t260, .int .i64 t261, .int .i64 t262, .slice none 0 0]) ?_ 3 _ rfl; (with_reducible repeat (first | refine blk_drewN ?_ _ | refine blk_drew ?_ | refine blk_alloc ?_ _)); refine blk_put (cs := #[.int .i64 t260, .int .i64 t261, .int .i64 0, .slice none 0 0]) ?_ 2 _ rfl; (with_reducible repeat (first | refine blk_drewN ?_ _ | refine blk_drew ?_ | refine blk_alloc ?_ _)); refine blk_put (cs := #[.int .i64 t260, .int .i64 0, .int .i64 0, .slice none 0 0]) ?_ 1 _ rfl; (with_reducible repeat (first | refine blk_drewN ?_ _ | refine blk_drew ?_ | refine blk_alloc ?_ _)); refine blk_put (cs := #[.int .i64 0, .int .i64 0, .int .i64 0, .slice none 0 0]) ?_ 0 _ rfl; (with_reducible repeat (first | refine blk_drewN ?_ _ | refine blk_drew ?_ | refine blk_alloc ?_ _)); exact BK266.out⟩
 have n3_ : Aside0 (Below w.heap.size w ((((w9.setCell ⟨gb266, 0, none⟩ (.int .i64 t260)).setCell ⟨gb266, 1, none⟩ (.int .i64 t261)).setCell ⟨gb266, 2, none⟩ (.int .i64 t262)).setCell ⟨gb266, 3, none⟩ (.slice Ao12 t263.length co12))) := ⟨by repeat (first | (with_reducible first | exact HB.out | apply below_alloc | apply pw_below_drewN | apply below_drew1 | refine below_set ?_ GE259.out | refine below_set ?_ GE266.out) | exact HB.out)⟩
 (try clear HO265)
 (try clear BK259)
 (try clear BK266)
 (try clear HB)
 generalize ((((w9.setCell ⟨gb266, 0, none⟩ (.int .i64 t260)).setCell ⟨gb266, 1, none⟩ (.int .i64 t261)).setCell ⟨gb266, 2, none⟩ (.int .i64 t262)).setCell ⟨gb266, 3, none⟩ (.slice Ao12 t263.length co12)) = w13 at n0_ n1_ n2_ n3_ ⊢
 have HO265 := n0_
 have BK259 := n1_
 have BK266 := n2_
 have HB := n3_
 clear n0_ n1_ n2_ n3_
 have n0_ := Aside0.mk (Kd.V_drew HO265.out)
 have n1_ := Aside0.mk (blk_drew BK259.out)
 have n2_ := Aside0.mk (blk_drew BK266.out)
 have n3_ := Aside0.mk (below_drew1 HB.out)
 clear HO265
 clear BK259
 clear BK266
 clear HB
 have HO265 := n0_
 have BK259 := n1_
 have BK266 := n2_
 have HB := n3_
 clear n0_ n1_ n2_ n3_
 refine start_ (n := 14) (S := fun w' => w'.cell? ⟨gb259, 0, none⟩ = some (.int .i64 a0_0) ∧ w'.cell? ⟨gb259, 1, none⟩ = some (.int .i64 a0_1) ∧ w'.cell? ⟨gb259, 2, none⟩ = some (.int .i64 a0_2) ∧ w'.cell? ⟨gb259, 3, none⟩ = some (.slice A0_3 l0_3.length c0_3) ∧ w'.cell? ⟨gb259, 4, none⟩ = some (.int .i64 a0_4) ∧ w'.cell? ⟨gb259, 5, none⟩ = some (.int .i64 a0_5) ∧ w'.cell? ⟨gb259, 6, none⟩ = some (.int .i64 a0_6) ∧ w'.cell? ⟨gb259, 7, none⟩ = some (.int .i64 a0_7) ∧ w'.cell? ⟨gb259, 8, none⟩ = some (.int .i64 a0_8) ∧ w'.cell? ⟨gb259, 9, none⟩ = some (.int .i64 a0_9)) (ds := []) #[false, false, false, false, false, false, false, false, false, false, false, false, false, false] (by kernel_rfl) rfl rfl ⟨(blk_cell BK259.out 0).trans rfl, (blk_cell BK259.out 1).trans rfl, (blk_cell BK259.out 2).trans rfl, (blk_cell BK259.out 3).trans rfl, (blk_cell BK259.out 4).trans rfl, (blk_cell BK259.out 5).trans rfl, (blk_cell BK259.out 6).trans rfl, (blk_cell BK259.out 7).trans rfl, (blk_cell BK259.out 8).trans rfl, (blk_cell BK259.out 9).trans rfl⟩ (fun hHeld => ?_); refine with_tabW bivouaclaw08_RayHigher.tab2 bivouaclaw08_RayHigher.bits2 (fun HT_ HW_ => ?_)
 generalize w13.drew = w14 at HO265 BK259 BK266 HB hHeld ⊢
 refine pure_ (i := 0) (N := some 18) (v := ?_) (a' := ?_) #[true, false, false, false, false, false, false, false, false, false, false, false, false, false] rfl rfl (any_of HT_.out (by kernel_rfl)) (fun _ _ _ h => h) (Or.inl ⟨by rfl, ?_⟩) ?_ ?_
 rotate_left
 ·
  intro w'
  go_simp
  with_reducible rfl
 rotate_left
 ·
  simp only [Act.put, List.setIfInBounds_toArray, List.set_cons_zero, List.set_cons_succ, i64_w, i32_w]
  rfl
 refine pure_ (i := 2) (N := some 20) (v := ?_) (a' := ?_) #[true, false, true, false, false, false, false, false, false, false, false, false, false, false] rfl rfl (any_of HT_.out (by kernel_rfl)) (fun _ _ _ h => h) (Or.inl ⟨by rfl, ?_⟩) ?_ ?_
 rotate_left
 ·
  intro w'
  go_simp
  with_reducible rfl
 rotate_left
 ·
  simp only [Act.put, List.setIfInBounds_toArray, List.set_cons_zero, List.set_cons_succ, i64_w, i32_w]
  rfl
 refine pure_ (i := 5) (N := some 23) (v := ?_) (a' := ?_) #[true, false, true, false, false, true, false, false, false, false, false, false, false, false] rfl rfl (any_of HT_.out (by kernel_rfl)) (fun _ _ _ h => h) (Or.inl ⟨by rfl, ?_⟩) ?_ ?_
 rotate_left
 ·
  intro w'
  go_simp
  with_reducible rfl
 rotate_left
 ·
  simp only [Act.put, List.setIfInBounds_toArray, List.set_cons_zero, List.set_cons_succ, i64_w, i32_w]
  rfl
 refine pure_ (i := 7) (N := some 25) (v := ?_) (a' := ?_) #[true, false, true, false, false, true, false, true, false, false, false, false, false, false] rfl rfl (any_of HT_.out (by kernel_rfl)) (fun _ _ _ h => h) (Or.inl ⟨by rfl, ?_⟩) ?_ ?_
 rotate_left
 ·
  intro w'
  go_simp
  with_reducible rfl
 rotate_left
 ·
  simp only [Act.put, List.setIfInBounds_toArray, List.set_cons_zero, List.set_cons_succ, i64_w, i32_w]
  rfl
 refine take_ (i := 1) (N := some 19) (v := ?_) (a' := ?_) #[true, true, true, false, false, true, false, true, false, false, false, false, false, false] rfl rfl (take_ofW HT_.out HW_.out (by kernel_rfl)) (fun _ _ _ h => h) (Or.inl ⟨by rfl, ?_⟩) hHeld ?_ ?_
 rotate_left
 ·
  rintro w' ⟨s0, s1, s2, s3, s4, s5, s6, s7, s8, s9⟩
  go_simp
  with_reducible rfl
 rotate_left
 ·
  simp only [Act.put, List.setIfInBounds_toArray, List.set_cons_zero, List.set_cons_succ, i64_w, i32_w]
  rfl
 refine take_ (i := 3) (N := some 21) (v := ?_) (a' := ?_) #[true, true, true, true, false, true, false, true, false, false, false, false, false, false] rfl rfl (take_ofW HT_.out HW_.out (by kernel_rfl)) (fun _ _ _ h => h) (Or.inl ⟨by rfl, ?_⟩) hHeld ?_ ?_
 rotate_left
 ·
  rintro w' ⟨s0, s1, s2, s3, s4, s5, s6, s7, s8, s9⟩
  go_simp
  with_reducible rfl
 rotate_left
 ·
  simp only [Act.put, List.setIfInBounds_toArray, List.set_cons_zero, List.set_cons_succ, i64_w, i32_w]
  rfl
 refine pure_ (i := 4) (N := some 22) (v := ?_) (a' := ?_) #[true, true, true, true, true, true, false, true, false, false, false, false, false, false] rfl rfl (any_of HT_.out (by kernel_rfl)) (fun _ _ _ h => h) (Or.inl ⟨by rfl, ?_⟩) ?_ ?_
 rotate_left
 ·
  intro w'
  go_simp
  with_reducible rfl
 rotate_left
 ·
  simp only [Act.put, List.setIfInBounds_toArray, List.set_cons_zero, List.set_cons_succ, i64_w, i32_w]
  rfl
 refine take_ (i := 6) (N := some 24) (v := ?_) (a' := ?_) #[true, true, true, true, true, true, true, true, false, false, false, false, false, false] rfl rfl (take_ofW HT_.out HW_.out (by kernel_rfl)) (fun _ _ _ h => h) (Or.inl ⟨by rfl, ?_⟩) hHeld ?_ ?_
 rotate_left
 ·
  rintro w' ⟨s0, s1, s2, s3, s4, s5, s6, s7, s8, s9⟩
  go_simp
  with_reducible rfl
 rotate_left
 ·
  simp only [Act.put, List.setIfInBounds_toArray, List.set_cons_zero, List.set_cons_succ, i64_w, i32_w]
  rfl
 refine take_ (i := 8) (N := some 26) (v := ?_) (a' := ?_) #[true, true, true, true, true, true, true, true, true, false, false, false, false, false] rfl rfl (take_ofW HT_.out HW_.out (by kernel_rfl)) (fun _ _ _ h => h) (Or.inl ⟨by rfl, ?_⟩) hHeld ?_ ?_
 rotate_left
 ·
  rintro w' ⟨s0, s1, s2, s3, s4, s5, s6, s7, s8, s9⟩
  go_simp
  with_reducible rfl
 rotate_left
 ·
  simp only [Act.put, List.setIfInBounds_toArray, List.set_cons_zero, List.set_cons_succ, i64_w, i32_w]
  rfl
 refine pure_ (i := 9) (N := some 27) (v := ?_) (a' := ?_) #[true, true, true, true, true, true, true, true, true, true, false, false, false, false] rfl rfl (any_of HT_.out (by kernel_rfl)) (fun _ _ _ h => h) (Or.inl ⟨by rfl, ?_⟩) ?_ ?_
 rotate_left
 ·
  intro w'
  go_simp
  with_reducible rfl
 rotate_left
 ·
  simp only [Act.put, List.setIfInBounds_toArray, List.set_cons_zero, List.set_cons_succ, i64_w, i32_w]
  rfl
 refine join_ (σ := Nat × Nat) 2 #[true, true, true, true, true, true, true, true, true, true, true, true, false, false] (fun s_ => [(6, .pointer (some ⟨s_.1, 0, none⟩)), (7, .pointer (some ⟨s_.2, 0, none⟩))]) (fun s_ w' => (w'.cell? ⟨gb259, 0, none⟩ = some (.int .i64 a0_0) ∧ w'.cell? ⟨gb259, 1, none⟩ = some (.int .i64 a0_1) ∧ w'.cell? ⟨gb259, 2, none⟩ = some (.int .i64 a0_2) ∧ w'.cell? ⟨gb259, 3, none⟩ = some (.slice A0_3 l0_3.length c0_3) ∧ w'.cell? ⟨gb259, 4, none⟩ = some (.int .i64 a0_4) ∧ w'.cell? ⟨gb259, 5, none⟩ = some (.int .i64 a0_5) ∧ w'.cell? ⟨gb259, 6, none⟩ = some (.int .i64 a0_6) ∧ w'.cell? ⟨gb259, 7, none⟩ = some (.int .i64 a0_7) ∧ w'.cell? ⟨gb259, 8, none⟩ = some (.int .i64 a0_8) ∧ w'.cell? ⟨gb259, 9, none⟩ = some (.int .i64 a0_9)) ∧ (Kd.V (Kd.int .u8) 5 w' w.heap.size (fun k_ => k_ ≠ gb259 ∧ k_ ≠ gb266 ∧ k_ ≠ s_.1 ∧ k_ ≠ s_.2) (.slice Ao12 t263.length co12) t263) ∧ (w'.heap[gb259]? = some (.cells #[.int .i64 a0_0, .int .i64 a0_1, .int .i64 a0_2, .slice A0_3 l0_3.length c0_3, .int .i64 a0_4, .int .i64 a0_5, .int .i64 a0_6, .int .i64 a0_7, .int .i64 a0_8, .int .i64 a0_9] 26 (0, 0))) ∧ (w'.heap[gb266]? = some (.cells #[.int .i64 t260, .int .i64 t261, .int .i64 t262, .slice Ao12 t263.length co12] 24 (0, 0))) ∧ (w'.heap[s_.1]? = some (.cells #[.int .i64 0, .int .i64 0] 36 (0, 0))) ∧ (w'.heap[s_.2]? = some (.cells #[.int .i64 0, .int .i64 0] 36 (0, 0))) ∧ (w.heap.size ≤ s_.1) ∧ (w.heap.size ≤ s_.1) ∧ (gb259 ≠ s_.1) ∧ (s_.1 ≠ gb259) ∧ (gb266 ≠ s_.1) ∧ (s_.1 ≠ gb266) ∧ (s_.2 ≠ s_.1) ∧ (s_.1 ≠ s_.2) ∧ (w.heap.size ≤ s_.2) ∧ (w.heap.size ≤ s_.2) ∧ (gb259 ≠ s_.2) ∧ (s_.2 ≠ gb259) ∧ (gb266 ≠ s_.2) ∧ (s_.2 ≠ gb266) ∧ (Below w.heap.size w w')) ?_ ?_
 rotate_left
 ·
  intro hCont
  refine two_ (i := 10) (j := 11) (Ni := some 6) (Nj := some 7) #[true, true, true, true, true, true, true, true, true, true, true, false, false, false] #[true, true, true, true, true, true, true, true, true, true, false, true, false, false] rfl rfl rfl rfl (two_of HT_.out (by kernel_rfl)) (by decide) (by decide) (fun K hK => ?_) (fun K hK => ?_)
  ·
   skip
   refine box_step ?hg (N := 6) ?hd (cs := #[.int .i64 0, .int .i64 0]) (t := 36) ?hr ?_; (case hd => rfl); (case hg => rfl); (case hr => first | (go_simp; done) | (go_simp; rfl))
   intro gb267 hg w15 hbox hb
   have n0_ := Aside0.mk (Kd.V_below (Kd.V_elderB (by (with_reducible repeat (first | apply Kd.V_alloc | apply Kd.V_drewN | apply Kd.V_drew)); exact HO265.out) gb267 (Nat.le_of_eq hg.symm)) hb)
   have n1_ := Aside0.mk (blk_below (g := gb259) (o := .cells #[.int .i64 a0_0, .int .i64 a0_1, .int .i64 a0_2, .slice A0_3 l0_3.length c0_3, .int .i64 a0_4, .int .i64 a0_5, .int .i64 a0_6, .int .i64 a0_7, .int .i64 a0_8, .int .i64 a0_9] 26 (0, 0)) (by (with_reducible repeat (first | refine blk_drewN ?_ _ | refine blk_drew ?_ | refine blk_alloc ?_ _)); exact BK259.out) hb)
   have n2_ := Aside0.mk (blk_below (g := gb266) (o := .cells #[.int .i64 t260, .int .i64 t261, .int .i64 t262, .slice Ao12 t263.length co12] 24 (0, 0)) (by (with_reducible repeat (first | refine blk_drewN ?_ _ | refine blk_drew ?_ | refine blk_alloc ?_ _)); exact BK266.out) hb)
   have n3_ := Aside0.mk (below_step (by repeat (first | (with_reducible first | exact HB.out | apply below_alloc | apply pw_below_drewN | apply below_drew1 | refine below_set ?_ GE259.out | refine below_set ?_ GE266.out) | exact HB.out)) hb)
   have n4_ := Aside0.mk (hbox)
   have n5_ := Aside0.mk ((by rw [hg]; exact (below_size (by repeat (first | (with_reducible first | exact HB.out | apply below_alloc | apply pw_below_drewN | apply below_drew1 | refine below_set ?_ GE259.out | refine below_set ?_ GE266.out) | exact HB.out))) : w.heap.size ≤ gb267))
   have n6_ := Aside0.mk ((by rw [hg]; exact (below_size (by repeat (first | (with_reducible first | exact HB.out | apply below_alloc | apply pw_below_drewN | apply below_drew1 | refine below_set ?_ GE259.out | refine below_set ?_ GE266.out) | exact HB.out))) : w.heap.size ≤ gb267))
   have n7_ := Aside0.mk ((by rw [hg]; exact Nat.ne_of_lt (blk_lt (g := gb259) (o := .cells #[.int .i64 a0_0, .int .i64 a0_1, .int .i64 a0_2, .slice A0_3 l0_3.length c0_3, .int .i64 a0_4, .int .i64 a0_5, .int .i64 a0_6, .int .i64 a0_7, .int .i64 a0_8, .int .i64 a0_9] 26 (0, 0)) (by (with_reducible repeat (first | refine blk_drewN ?_ _ | refine blk_drew ?_ | refine blk_alloc ?_ _)); exact BK259.out)) : gb259 ≠ gb267))
   have n8_ := Aside0.mk ((by rw [hg]; exact Nat.ne_of_gt (blk_lt (g := gb259) (o := .cells #[.int .i64 a0_0, .int .i64 a0_1, .int .i64 a0_2, .slice A0_3 l0_3.length c0_3, .int .i64 a0_4, .int .i64 a0_5, .int .i64 a0_6, .int .i64 a0_7, .int .i64 a0_8, .int .i64 a0_9] 26 (0, 0)) (by (with_reducible repeat (first | refine blk_drewN ?_ _ | refine blk_drew ?_ | refine blk_alloc ?_ _)); exact BK259.out)) : gb267 ≠ gb259))
   have n9_ := Aside0.mk ((by rw [hg]; exact Nat.ne_of_lt (blk_lt (g := gb266) (o := .cells #[.int .i64 t260, .int .i64 t261, .int .i64 t262, .slice Ao12 t263.length co12] 24 (0, 0)) (by (with_reducible repeat (first | refine blk_drewN ?_ _ | refine blk_drew ?_ | refine blk_alloc ?_ _)); exact BK266.out)) : gb266 ≠ gb267))
   have n10_ := Aside0.mk ((by rw [hg]; exact Nat.ne_of_gt (blk_lt (g := gb266) (o := .cells #[.int .i64 t260, .int .i64 t261, .int .i64 t262, .slice Ao12 t263.length co12] 24 (0, 0)) (by (with_reducible repeat (first | refine blk_drewN ?_ _ | refine blk_drew ?_ | refine blk_alloc ?_ _)); exact BK266.out)) : gb267 ≠ gb266))
   clear HO265
   clear BK259
   clear BK266
   clear HB
   have HO265 := n0_
   have BK259 := n1_
   have BK266 := n2_
   have HB := n3_
   have BK267 := n4_
   have GW267 := n5_
   have GE267 := n6_
   have NB259_267 := n7_
   have NB267_259 := n8_
   have NB266_267 := n9_
   have NB267_266 := n10_
   clear n0_ n1_ n2_ n3_ n4_ n5_ n6_ n7_ n8_ n9_ n10_
   clear hb hbox hg
   refine hK.out _ _ ⟨(blk_cell BK259.out 0).trans rfl, (blk_cell BK259.out 1).trans rfl, (blk_cell BK259.out 2).trans rfl, (blk_cell BK259.out 3).trans rfl, (blk_cell BK259.out 4).trans rfl, (blk_cell BK259.out 5).trans rfl, (blk_cell BK259.out 6).trans rfl, (blk_cell BK259.out 7).trans rfl, (blk_cell BK259.out 8).trans rfl, (blk_cell BK259.out 9).trans rfl⟩ (fun hHeld => ?_)
   clear hK K
   refine norm_ (a' := ?_) ?_ ?_
   rotate_left
   ·
    show Act.put _ (some 6) _ = _
    simp only [Act.put, List.setIfInBounds_toArray, List.set_cons_zero, List.set_cons_succ, i64_w, i32_w]
    rfl
   refine one_ (i := 11) (N := some 7) #[true, true, true, true, true, true, true, true, true, true, true, true, false, false] rfl rfl (one_of HT_.out (by kernel_rfl)) (by decide) (fun K hK => ?_)
   refine box_step ?hg (N := 7) ?hd (cs := #[.int .i64 0, .int .i64 0]) (t := 36) ?hr ?_; (case hd => rfl); (case hg => rfl); (case hr => first | (go_simp; done) | (go_simp; rfl))
   intro gb268 hg w16 hbox hb
   have n0_ := Aside0.mk (Kd.V_below (Kd.V_elderB (by (with_reducible repeat (first | apply Kd.V_alloc | apply Kd.V_drewN | apply Kd.V_drew)); exact HO265.out) gb268 (Nat.le_of_eq hg.symm)) hb)
   have n1_ := Aside0.mk (blk_below (g := gb259) (o := .cells #[.int .i64 a0_0, .int .i64 a0_1, .int .i64 a0_2, .slice A0_3 l0_3.length c0_3, .int .i64 a0_4, .int .i64 a0_5, .int .i64 a0_6, .int .i64 a0_7, .int .i64 a0_8, .int .i64 a0_9] 26 (0, 0)) (by (with_reducible repeat (first | refine blk_drewN ?_ _ | refine blk_drew ?_ | refine blk_alloc ?_ _)); exact BK259.out) hb)
   have n2_ := Aside0.mk (blk_below (g := gb266) (o := .cells #[.int .i64 t260, .int .i64 t261, .int .i64 t262, .slice Ao12 t263.length co12] 24 (0, 0)) (by (with_reducible repeat (first | refine blk_drewN ?_ _ | refine blk_drew ?_ | refine blk_alloc ?_ _)); exact BK266.out) hb)
   have n3_ := Aside0.mk (blk_below (g := gb267) (o := .cells #[.int .i64 0, .int .i64 0] 36 (0, 0)) (by (with_reducible repeat (first | refine blk_drewN ?_ _ | refine blk_drew ?_ | refine blk_alloc ?_ _)); exact BK267.out) hb)
   have n4_ := Aside0.mk (below_step (by repeat (first | (with_reducible first | exact HB.out | apply below_alloc | apply pw_below_drewN | apply below_drew1 | refine below_set ?_ GE259.out | refine below_set ?_ GE266.out | refine below_set ?_ GE267.out) | exact HB.out)) hb)
   have n5_ := Aside0.mk (hbox)
   have n6_ := Aside0.mk ((by rw [hg]; exact (below_size (by repeat (first | (with_reducible first | exact HB.out | apply below_alloc | apply pw_below_drewN | apply below_drew1 | refine below_set ?_ GE259.out | refine below_set ?_ GE266.out | refine below_set ?_ GE267.out) | exact HB.out))) : w.heap.size ≤ gb268))
   have n7_ := Aside0.mk ((by rw [hg]; exact (below_size (by repeat (first | (with_reducible first | exact HB.out | apply below_alloc | apply pw_below_drewN | apply below_drew1 | refine below_set ?_ GE259.out | refine below_set ?_ GE266.out | refine below_set ?_ GE267.out) | exact HB.out))) : w.heap.size ≤ gb268))
   have n8_ := Aside0.mk ((by rw [hg]; exact Nat.ne_of_lt (blk_lt (g := gb259) (o := .cells #[.int .i64 a0_0, .int .i64 a0_1, .int .i64 a0_2, .slice A0_3 l0_3.length c0_3, .int .i64 a0_4, .int .i64 a0_5, .int .i64 a0_6, .int .i64 a0_7, .int .i64 a0_8, .int .i64 a0_9] 26 (0, 0)) (by (with_reducible repeat (first | refine blk_drewN ?_ _ | refine blk_drew ?_ | refine blk_alloc ?_ _)); exact BK259.out)) : gb259 ≠ gb268))
   have n9_ := Aside0.mk ((by rw [hg]; exact Nat.ne_of_gt (blk_lt (g := gb259) (o := .cells #[.int .i64 a0_0, .int .i64 a0_1, .int .i64 a0_2, .slice A0_3 l0_3.length c0_3, .int .i64 a0_4, .int .i64 a0_5, .int .i64 a0_6, .int .i64 a0_7, .int .i64 a0_8, .int .i64 a0_9] 26 (0, 0)) (by (with_reducible repeat (first | refine blk_drewN ?_ _ | refine blk_drew ?_ | refine blk_alloc ?_ _)); exact BK259.out)) : gb268 ≠ gb259))
   have n10_ := Aside0.mk ((by rw [hg]; exact Nat.ne_of_lt (blk_lt (g := gb266) (o := .cells #[.int .i64 t260, .int .i64 t261, .int .i64 t262, .slice Ao12 t263.length co12] 24 (0, 0)) (by (with_reducible repeat (first | refine blk_drewN ?_ _ | refine blk_drew ?_ | refine blk_alloc ?_ _)); exact BK266.out)) : gb266 ≠ gb268))
   have n11_ := Aside0.mk ((by rw [hg]; exact Nat.ne_of_gt (blk_lt (g := gb266) (o := .cells #[.int .i64 t260, .int .i64 t261, .int .i64 t262, .slice Ao12 t263.length co12] 24 (0, 0)) (by (with_reducible repeat (first | refine blk_drewN ?_ _ | refine blk_drew ?_ | refine blk_alloc ?_ _)); exact BK266.out)) : gb268 ≠ gb266))
   have n12_ := Aside0.mk ((by rw [hg]; exact Nat.ne_of_lt (blk_lt (g := gb267) (o := .cells #[.int .i64 0, .int .i64 0] 36 (0, 0)) (by (with_reducible repeat (first | refine blk_drewN ?_ _ | refine blk_drew ?_ | refine blk_alloc ?_ _)); exact BK267.out)) : gb267 ≠ gb268))
   have n13_ := Aside0.mk ((by rw [hg]; exact Nat.ne_of_gt (blk_lt (g := gb267) (o := .cells #[.int .i64 0, .int .i64 0] 36 (0, 0)) (by (with_reducible repeat (first | refine blk_drewN ?_ _ | refine blk_drew ?_ | refine blk_alloc ?_ _)); exact BK267.out)) : gb268 ≠ gb267))
   clear HO265
   clear BK259
   clear BK266
   clear BK267
   clear HB
   have HO265 := n0_
   have BK259 := n1_
   have BK266 := n2_
   have BK267 := n3_
   have HB := n4_
   have BK268 := n5_
   have GW268 := n6_
   have GE268 := n7_
   have NB259_268 := n8_
   have NB268_259 := n9_
   have NB266_268 := n10_
   have NB268_266 := n11_
   have NB267_268 := n12_
   have NB268_267 := n13_
   clear n0_ n1_ n2_ n3_ n4_ n5_ n6_ n7_ n8_ n9_ n10_ n11_ n12_ n13_
   clear hb hbox hg
   refine hK.out _ _ ⟨(blk_cell BK259.out 0).trans rfl, (blk_cell BK259.out 1).trans rfl, (blk_cell BK259.out 2).trans rfl, (blk_cell BK259.out 3).trans rfl, (blk_cell BK259.out 4).trans rfl, (blk_cell BK259.out 5).trans rfl, (blk_cell BK259.out 6).trans rfl, (blk_cell BK259.out 7).trans rfl, (blk_cell BK259.out 8).trans rfl, (blk_cell BK259.out 9).trans rfl⟩ (fun hHeld => ?_)
   clear hK K
   refine norm_ (a' := ?_) ?_ ?_
   rotate_left
   ·
    show Act.put _ (some 7) _ = _
    simp only [Act.put, List.setIfInBounds_toArray, List.set_cons_zero, List.set_cons_succ, i64_w, i32_w]
    rfl
   exact norm_ (by simp only [putAll, Act.put, List.setIfInBounds_toArray, List.set_cons_zero, List.set_cons_succ]) (hCont (gb267, gb268) _ ⟨hHeld, (by (with_reducible repeat (first | apply Kd.V_alloc | apply Kd.V_drewN | apply Kd.V_drew)); exact Kd.V_mono HO265.out (fun _ hk => ⟨hk.1.1.1, ⟨hk.1.1.2, ⟨hk.1.2, hk.2⟩⟩⟩)), (by (with_reducible repeat (first | refine blk_drewN ?_ _ | refine blk_drew ?_ | refine blk_alloc ?_ _)); exact BK259.out), (by (with_reducible repeat (first | refine blk_drewN ?_ _ | refine blk_drew ?_ | refine blk_alloc ?_ _)); exact BK266.out), (by (with_reducible repeat (first | refine blk_drewN ?_ _ | refine blk_drew ?_ | refine blk_alloc ?_ _)); exact BK267.out), (by (with_reducible repeat (first | refine blk_drewN ?_ _ | refine blk_drew ?_ | refine blk_alloc ?_ _)); exact BK268.out), GW267.out, GE267.out, NB259_267.out, NB267_259.out, NB266_267.out, NB267_266.out, NB268_267.out, NB267_268.out, GW268.out, GE268.out, NB259_268.out, NB268_259.out, NB266_268.out, NB268_266.out, (by repeat (first | (with_reducible first | exact HB.out | apply below_alloc | apply pw_below_drewN | apply below_drew1 | refine below_set ?_ GE259.out | refine below_set ?_ GE266.out | refine below_set ?_ GE267.out | refine below_set ?_ GE268.out) | exact HB.out))⟩)
  ·
   skip
   refine box_step ?hg (N := 7) ?hd (cs := #[.int .i64 0, .int .i64 0]) (t := 36) ?hr ?_; (case hd => rfl); (case hg => rfl); (case hr => first | (go_simp; done) | (go_simp; rfl))
   intro gb268 hg w15 hbox hb
   have n0_ := Aside0.mk (Kd.V_below (Kd.V_elderB (by (with_reducible repeat (first | apply Kd.V_alloc | apply Kd.V_drewN | apply Kd.V_drew)); exact HO265.out) gb268 (Nat.le_of_eq hg.symm)) hb)
   have n1_ := Aside0.mk (blk_below (g := gb259) (o := .cells #[.int .i64 a0_0, .int .i64 a0_1, .int .i64 a0_2, .slice A0_3 l0_3.length c0_3, .int .i64 a0_4, .int .i64 a0_5, .int .i64 a0_6, .int .i64 a0_7, .int .i64 a0_8, .int .i64 a0_9] 26 (0, 0)) (by (with_reducible repeat (first | refine blk_drewN ?_ _ | refine blk_drew ?_ | refine blk_alloc ?_ _)); exact BK259.out) hb)
   have n2_ := Aside0.mk (blk_below (g := gb266) (o := .cells #[.int .i64 t260, .int .i64 t261, .int .i64 t262, .slice Ao12 t263.length co12] 24 (0, 0)) (by (with_reducible repeat (first | refine blk_drewN ?_ _ | refine blk_drew ?_ | refine blk_alloc ?_ _)); exact BK266.out) hb)
   have n3_ := Aside0.mk (below_step (by repeat (first | (with_reducible first | exact HB.out | apply below_alloc | apply pw_below_drewN | apply below_drew1 | refine below_set ?_ GE259.out | refine below_set ?_ GE266.out) | exact HB.out)) hb)
   have n4_ := Aside0.mk (hbox)
   have n5_ := Aside0.mk ((by rw [hg]; exact (below_size (by repeat (first | (with_reducible first | exact HB.out | apply below_alloc | apply pw_below_drewN | apply below_drew1 | refine below_set ?_ GE259.out | refine below_set ?_ GE266.out) | exact HB.out))) : w.heap.size ≤ gb268))
   have n6_ := Aside0.mk ((by rw [hg]; exact (below_size (by repeat (first | (with_reducible first | exact HB.out | apply below_alloc | apply pw_below_drewN | apply below_drew1 | refine below_set ?_ GE259.out | refine below_set ?_ GE266.out) | exact HB.out))) : w.heap.size ≤ gb268))
   have n7_ := Aside0.mk ((by rw [hg]; exact Nat.ne_of_lt (blk_lt (g := gb259) (o := .cells #[.int .i64 a0_0, .int .i64 a0_1, .int .i64 a0_2, .slice A0_3 l0_3.length c0_3, .int .i64 a0_4, .int .i64 a0_5, .int .i64 a0_6, .int .i64 a0_7, .int .i64 a0_8, .int .i64 a0_9] 26 (0, 0)) (by (with_reducible repeat (first | refine blk_drewN ?_ _ | refine blk_drew ?_ | refine blk_alloc ?_ _)); exact BK259.out)) : gb259 ≠ gb268))
   have n8_ := Aside0.mk ((by rw [hg]; exact Nat.ne_of_gt (blk_lt (g := gb259) (o := .cells #[.int .i64 a0_0, .int .i64 a0_1, .int .i64 a0_2, .slice A0_3 l0_3.length c0_3, .int .i64 a0_4, .int .i64 a0_5, .int .i64 a0_6, .int .i64 a0_7, .int .i64 a0_8, .int .i64 a0_9] 26 (0, 0)) (by (with_reducible repeat (first | refine blk_drewN ?_ _ | refine blk_drew ?_ | refine blk_alloc ?_ _)); exact BK259.out)) : gb268 ≠ gb259))
   have n9_ := Aside0.mk ((by rw [hg]; exact Nat.ne_of_lt (blk_lt (g := gb266) (o := .cells #[.int .i64 t260, .int .i64 t261, .int .i64 t262, .slice Ao12 t263.length co12] 24 (0, 0)) (by (with_reducible repeat (first | refine blk_drewN ?_ _ | refine blk_drew ?_ | refine blk_alloc ?_ _)); exact BK266.out)) : gb266 ≠ gb268))
   have n10_ := Aside0.mk ((by rw [hg]; exact Nat.ne_of_gt (blk_lt (g := gb266) (o := .cells #[.int .i64 t260, .int .i64 t261, .int .i64 t262, .slice Ao12 t263.length co12] 24 (0, 0)) (by (with_reducible repeat (first | refine blk_drewN ?_ _ | refine blk_drew ?_ | refine blk_alloc ?_ _)); exact BK266.out)) : gb268 ≠ gb266))
   clear HO265
   clear BK259
   clear BK266
   clear HB
   have HO265 := n0_
   have BK259 := n1_
   have BK266 := n2_
   have HB := n3_
   have BK268 := n4_
   have GW268 := n5_
   have GE268 := n6_
   have NB259_268 := n7_
   have NB268_259 := n8_
   have NB266_268 := n9_
   have NB268_266 := n10_
   clear n0_ n1_ n2_ n3_ n4_ n5_ n6_ n7_ n8_ n9_ n10_
   clear hb hbox hg
   refine hK.out _ _ ⟨(blk_cell BK259.out 0).trans rfl, (blk_cell BK259.out 1).trans rfl, (blk_cell BK259.out 2).trans rfl, (blk_cell BK259.out 3).trans rfl, (blk_cell BK259.out 4).trans rfl, (blk_cell BK259.out 5).trans rfl, (blk_cell BK259.out 6).trans rfl, (blk_cell BK259.out 7).trans rfl, (blk_cell BK259.out 8).trans rfl, (blk_cell BK259.out 9).trans rfl⟩ (fun hHeld => ?_)
   clear hK K
   refine norm_ (a' := ?_) ?_ ?_
   rotate_left
   ·
    show Act.put _ (some 7) _ = _
    simp only [Act.put, List.setIfInBounds_toArray, List.set_cons_zero, List.set_cons_succ, i64_w, i32_w]
    rfl
   refine one_ (i := 10) (N := some 6) #[true, true, true, true, true, true, true, true, true, true, true, true, false, false] rfl rfl (one_of HT_.out (by kernel_rfl)) (by decide) (fun K hK => ?_)
   refine box_step ?hg (N := 6) ?hd (cs := #[.int .i64 0, .int .i64 0]) (t := 36) ?hr ?_; (case hd => rfl); (case hg => rfl); (case hr => first | (go_simp; done) | (go_simp; rfl))
   intro gb267 hg w16 hbox hb
   have n0_ := Aside0.mk (Kd.V_below (Kd.V_elderB (by (with_reducible repeat (first | apply Kd.V_alloc | apply Kd.V_drewN | apply Kd.V_drew)); exact HO265.out) gb267 (Nat.le_of_eq hg.symm)) hb)
   have n1_ := Aside0.mk (blk_below (g := gb259) (o := .cells #[.int .i64 a0_0, .int .i64 a0_1, .int .i64 a0_2, .slice A0_3 l0_3.length c0_3, .int .i64 a0_4, .int .i64 a0_5, .int .i64 a0_6, .int .i64 a0_7, .int .i64 a0_8, .int .i64 a0_9] 26 (0, 0)) (by (with_reducible repeat (first | refine blk_drewN ?_ _ | refine blk_drew ?_ | refine blk_alloc ?_ _)); exact BK259.out) hb)
   have n2_ := Aside0.mk (blk_below (g := gb266) (o := .cells #[.int .i64 t260, .int .i64 t261, .int .i64 t262, .slice Ao12 t263.length co12] 24 (0, 0)) (by (with_reducible repeat (first | refine blk_drewN ?_ _ | refine blk_drew ?_ | refine blk_alloc ?_ _)); exact BK266.out) hb)
   have n3_ := Aside0.mk (blk_below (g := gb268) (o := .cells #[.int .i64 0, .int .i64 0] 36 (0, 0)) (by (with_reducible repeat (first | refine blk_drewN ?_ _ | refine blk_drew ?_ | refine blk_alloc ?_ _)); exact BK268.out) hb)
   have n4_ := Aside0.mk (below_step (by repeat (first | (with_reducible first | exact HB.out | apply below_alloc | apply pw_below_drewN | apply below_drew1 | refine below_set ?_ GE259.out | refine below_set ?_ GE266.out | refine below_set ?_ GE268.out) | exact HB.out)) hb)
   have n5_ := Aside0.mk (hbox)
   have n6_ := Aside0.mk ((by rw [hg]; exact (below_size (by repeat (first | (with_reducible first | exact HB.out | apply below_alloc | apply pw_below_drewN | apply below_drew1 | refine below_set ?_ GE259.out | refine below_set ?_ GE266.out | refine below_set ?_ GE268.out) | exact HB.out))) : w.heap.size ≤ gb267))
   have n7_ := Aside0.mk ((by rw [hg]; exact (below_size (by repeat (first | (with_reducible first | exact HB.out | apply below_alloc | apply pw_below_drewN | apply below_drew1 | refine below_set ?_ GE259.out | refine below_set ?_ GE266.out | refine below_set ?_ GE268.out) | exact HB.out))) : w.heap.size ≤ gb267))
   have n8_ := Aside0.mk ((by rw [hg]; exact Nat.ne_of_lt (blk_lt (g := gb259) (o := .cells #[.int .i64 a0_0, .int .i64 a0_1, .int .i64 a0_2, .slice A0_3 l0_3.length c0_3, .int .i64 a0_4, .int .i64 a0_5, .int .i64 a0_6, .int .i64 a0_7, .int .i64 a0_8, .int .i64 a0_9] 26 (0, 0)) (by (with_reducible repeat (first | refine blk_drewN ?_ _ | refine blk_drew ?_ | refine blk_alloc ?_ _)); exact BK259.out)) : gb259 ≠ gb267))
   have n9_ := Aside0.mk ((by rw [hg]; exact Nat.ne_of_gt (blk_lt (g := gb259) (o := .cells #[.int .i64 a0_0, .int .i64 a0_1, .int .i64 a0_2, .slice A0_3 l0_3.length c0_3, .int .i64 a0_4, .int .i64 a0_5, .int .i64 a0_6, .int .i64 a0_7, .int .i64 a0_8, .int .i64 a0_9] 26 (0, 0)) (by (with_reducible repeat (first | refine blk_drewN ?_ _ | refine blk_drew ?_ | refine blk_alloc ?_ _)); exact BK259.out)) : gb267 ≠ gb259))
   have n10_ := Aside0.mk ((by rw [hg]; exact Nat.ne_of_lt (blk_lt (g := gb266) (o := .cells #[.int .i64 t260, .int .i64 t261, .int .i64 t262, .slice Ao12 t263.length co12] 24 (0, 0)) (by (with_reducible repeat (first | refine blk_drewN ?_ _ | refine blk_drew ?_ | refine blk_alloc ?_ _)); exact BK266.out)) : gb266 ≠ gb267))
   have n11_ := Aside0.mk ((by rw [hg]; exact Nat.ne_of_gt (blk_lt (g := gb266) (o := .cells #[.int .i64 t260, .int .i64 t261, .int .i64 t262, .slice Ao12 t263.length co12] 24 (0, 0)) (by (with_reducible repeat (first | refine blk_drewN ?_ _ | refine blk_drew ?_ | refine blk_alloc ?_ _)); exact BK266.out)) : gb267 ≠ gb266))
   have n12_ := Aside0.mk ((by rw [hg]; exact Nat.ne_of_lt (blk_lt (g := gb268) (o := .cells #[.int .i64 0, .int .i64 0] 36 (0, 0)) (by (with_reducible repeat (first | refine blk_drewN ?_ _ | refine blk_drew ?_ | refine blk_alloc ?_ _)); exact BK268.out)) : gb268 ≠ gb267))
   have n13_ := Aside0.mk ((by rw [hg]; exact Nat.ne_of_gt (blk_lt (g := gb268) (o := .cells #[.int .i64 0, .int .i64 0] 36 (0, 0)) (by (with_reducible repeat (first | refine blk_drewN ?_ _ | refine blk_drew ?_ | refine blk_alloc ?_ _)); exact BK268.out)) : gb267 ≠ gb268))
   clear HO265
   clear BK259
   clear BK266
   clear BK268
   clear HB
   have HO265 := n0_
   have BK259 := n1_
   have BK266 := n2_
   have BK268 := n3_
   have HB := n4_
   have BK267 := n5_
   have GW267 := n6_
   have GE267 := n7_
   have NB259_267 := n8_
   have NB267_259 := n9_
   have NB266_267 := n10_
   have NB267_266 := n11_
   have NB268_267 := n12_
   have NB267_268 := n13_
   clear n0_ n1_ n2_ n3_ n4_ n5_ n6_ n7_ n8_ n9_ n10_ n11_ n12_ n13_
   clear hb hbox hg
   refine hK.out _ _ ⟨(blk_cell BK259.out 0).trans rfl, (blk_cell BK259.out 1).trans rfl, (blk_cell BK259.out 2).trans rfl, (blk_cell BK259.out 3).trans rfl, (blk_cell BK259.out 4).trans rfl, (blk_cell BK259.out 5).trans rfl, (blk_cell BK259.out 6).trans rfl, (blk_cell BK259.out 7).trans rfl, (blk_cell BK259.out 8).trans rfl, (blk_cell BK259.out 9).trans rfl⟩ (fun hHeld => ?_)
   clear hK K
   refine norm_ (a' := ?_) ?_ ?_
   rotate_left
   ·
    show Act.put _ (some 6) _ = _
    simp only [Act.put, List.setIfInBounds_toArray, List.set_cons_zero, List.set_cons_succ, i64_w, i32_w]
    rfl
   exact norm_ (by simp only [putAll, Act.put, List.setIfInBounds_toArray, List.set_cons_zero, List.set_cons_succ]) (hCont (gb267, gb268) _ ⟨hHeld, (by (with_reducible repeat (first | apply Kd.V_alloc | apply Kd.V_drewN | apply Kd.V_drew)); exact Kd.V_mono HO265.out (fun _ hk => ⟨hk.1.1.1, ⟨hk.1.1.2, ⟨hk.2, hk.1.2⟩⟩⟩)), (by (with_reducible repeat (first | refine blk_drewN ?_ _ | refine blk_drew ?_ | refine blk_alloc ?_ _)); exact BK259.out), (by (with_reducible repeat (first | refine blk_drewN ?_ _ | refine blk_drew ?_ | refine blk_alloc ?_ _)); exact BK266.out), (by (with_reducible repeat (first | refine blk_drewN ?_ _ | refine blk_drew ?_ | refine blk_alloc ?_ _)); exact BK267.out), (by (with_reducible repeat (first | refine blk_drewN ?_ _ | refine blk_drew ?_ | refine blk_alloc ?_ _)); exact BK268.out), GW267.out, GE267.out, NB259_267.out, NB267_259.out, NB266_267.out, NB267_266.out, NB268_267.out, NB267_268.out, GW268.out, GE268.out, NB259_268.out, NB268_259.out, NB266_268.out, NB268_266.out, (by repeat (first | (with_reducible first | exact HB.out | apply below_alloc | apply pw_below_drewN | apply below_drew1 | refine below_set ?_ GE259.out | refine below_set ?_ GE266.out | refine below_set ?_ GE268.out | refine below_set ?_ GE267.out) | exact HB.out))⟩)
 rintro ⟨gb267, gb268⟩ w17 ⟨hS_, h0_, h1_, h2_, h3_, h4_, h5_, h6_, h7_, h8_, h9_, h10_, h11_, h12_, h13_, h14_, h15_, h16_, h17_, h18_, h19_⟩
 have n0_ : Aside0 (Kd.V (Kd.int .u8) 5 w17 w.heap.size (fun k_ => k_ ≠ gb259 ∧ k_ ≠ gb266 ∧ k_ ≠ gb267 ∧ k_ ≠ gb268) (.slice Ao12 t263.length co12) t263) := ⟨h0_⟩
 have n1_ : Aside0 (w17.heap[gb259]? = some (.cells #[.int .i64 a0_0, .int .i64 a0_1, .int .i64 a0_2, .slice A0_3 l0_3.length c0_3, .int .i64 a0_4, .int .i64 a0_5, .int .i64 a0_6, .int .i64 a0_7, .int .i64 a0_8, .int .i64 a0_9] 26 (0, 0))) := ⟨h1_⟩
 have n2_ : Aside0 (w17.heap[gb266]? = some (.cells #[.int .i64 t260, .int .i64 t261, .int .i64 t262, .slice Ao12 t263.length co12] 24 (0, 0))) := ⟨h2_⟩
 have n3_ : Aside0 (w17.heap[gb267]? = some (.cells #[.int .i64 0, .int .i64 0] 36 (0, 0))) := ⟨h3_⟩
 have n4_ : Aside0 (w17.heap[gb268]? = some (.cells #[.int .i64 0, .int .i64 0] 36 (0, 0))) := ⟨h4_⟩
 have n5_ : Aside0 (w.heap.size ≤ gb267) := ⟨h5_⟩
 have n6_ : Aside0 (w.heap.size ≤ gb267) := ⟨h6_⟩
 have n7_ : Aside0 (gb259 ≠ gb267) := ⟨h7_⟩
 have n8_ : Aside0 (gb267 ≠ gb259) := ⟨h8_⟩
 have n9_ : Aside0 (gb266 ≠ gb267) := ⟨h9_⟩
 have n10_ : Aside0 (gb267 ≠ gb266) := ⟨h10_⟩
 have n11_ : Aside0 (gb268 ≠ gb267) := ⟨h11_⟩
 have n12_ : Aside0 (gb267 ≠ gb268) := ⟨h12_⟩
 have n13_ : Aside0 (w.heap.size ≤ gb268) := ⟨h13_⟩
 have n14_ : Aside0 (w.heap.size ≤ gb268) := ⟨h14_⟩
 have n15_ : Aside0 (gb259 ≠ gb268) := ⟨h15_⟩
 have n16_ : Aside0 (gb268 ≠ gb259) := ⟨h16_⟩
 have n17_ : Aside0 (gb266 ≠ gb268) := ⟨h17_⟩
 have n18_ : Aside0 (gb268 ≠ gb266) := ⟨h18_⟩
 have n19_ : Aside0 (Below w.heap.size w w17) := ⟨h19_⟩
 clear HO265
 clear BK259
 clear BK266
 clear HB
 clear h0_ h1_ h2_ h3_ h4_ h5_ h6_ h7_ h8_ h9_ h10_ h11_ h12_ h13_ h14_ h15_ h16_ h17_ h18_ h19_
 have HO265 := n0_
 have BK259 := n1_
 have BK266 := n2_
 have BK267 := n3_
 have BK268 := n4_
 have GW267 := n5_
 have GE267 := n6_
 have NB259_267 := n7_
 have NB267_259 := n8_
 have NB266_267 := n9_
 have NB267_266 := n10_
 have NB268_267 := n11_
 have NB267_268 := n12_
 have GW268 := n13_
 have GE268 := n14_
 have NB259_268 := n15_
 have NB268_259 := n16_
 have NB266_268 := n17_
 have NB268_266 := n18_
 have HB := n19_
 clear n0_ n1_ n2_ n3_ n4_ n5_ n6_ n7_ n8_ n9_ n10_ n11_ n12_ n13_ n14_ n15_ n16_ n17_ n18_ n19_
 have hHeld : w17.cell? ⟨gb259, 0, none⟩ = some (.int .i64 a0_0) ∧ w17.cell? ⟨gb259, 1, none⟩ = some (.int .i64 a0_1) ∧ w17.cell? ⟨gb259, 2, none⟩ = some (.int .i64 a0_2) ∧ w17.cell? ⟨gb259, 3, none⟩ = some (.slice A0_3 l0_3.length c0_3) ∧ w17.cell? ⟨gb259, 4, none⟩ = some (.int .i64 a0_4) ∧ w17.cell? ⟨gb259, 5, none⟩ = some (.int .i64 a0_5) ∧ w17.cell? ⟨gb259, 6, none⟩ = some (.int .i64 a0_6) ∧ w17.cell? ⟨gb259, 7, none⟩ = some (.int .i64 a0_7) ∧ w17.cell? ⟨gb259, 8, none⟩ = some (.int .i64 a0_8) ∧ w17.cell? ⟨gb259, 9, none⟩ = some (.int .i64 a0_9) := hS_
 refine norm_ (a' := ?_) ?_ ?_
 rotate_left
 ·
  simp only [putAll, Act.put, List.setIfInBounds_toArray, List.set_cons_zero, List.set_cons_succ]
  rfl
 refine one_ (i := 12) (N := none) #[true, true, true, true, true, true, true, true, true, true, true, true, true, false] rfl rfl (one_of HT_.out (by kernel_rfl)) (by decide) (fun K hK => ?_)
 have hs18 : w17.cell? ⟨gb267, 0, none⟩ = some (.int .i64 0) := (blk_cell BK267.out 0).trans rfl
 have hfs18 := blk_frozen BK267.out 0
 have hns18_0 := NB259_267.out
 have hns18_1 := NB266_267.out
 have hns18_3 := NB268_267.out
 have hms18_0 := NB267_259.out
 have hms18_1 := NB267_266.out
 have hms18_3 := NB267_268.out
 have hs19 : w17.cell? ⟨gb267, 1, none⟩ = some (.int .i64 0) := (blk_cell BK267.out 1).trans rfl
 have hfs19 := blk_frozen BK267.out 1
 have hns19_0 := NB259_267.out
 have hns19_1 := NB266_267.out
 have hns19_3 := NB268_267.out
 have hms19_0 := NB267_259.out
 have hms19_1 := NB267_266.out
 have hms19_3 := NB267_268.out
 refine skip_ (w1 := ?_) (by rfl) rfl ?_ ?_
 rotate_left
 ·
  go_simp
  rfl
 refine hK.out _ _ ⟨((cell_far (p := ⟨gb267, _, none⟩) NB259_267.out _).trans (((cell_far (p := ⟨gb267, _, none⟩) NB259_267.out _).trans (hHeld.1)))), ((cell_far (p := ⟨gb267, _, none⟩) NB259_267.out _).trans (((cell_far (p := ⟨gb267, _, none⟩) NB259_267.out _).trans (hHeld.2.1)))), ((cell_far (p := ⟨gb267, _, none⟩) NB259_267.out _).trans (((cell_far (p := ⟨gb267, _, none⟩) NB259_267.out _).trans (hHeld.2.2.1)))), ((cell_far (p := ⟨gb267, _, none⟩) NB259_267.out _).trans (((cell_far (p := ⟨gb267, _, none⟩) NB259_267.out _).trans (hHeld.2.2.2.1)))), ((cell_far (p := ⟨gb267, _, none⟩) NB259_267.out _).trans (((cell_far (p := ⟨gb267, _, none⟩) NB259_267.out _).trans (hHeld.2.2.2.2.1)))), ((cell_far (p := ⟨gb267, _, none⟩) NB259_267.out _).trans (((cell_far (p := ⟨gb267, _, none⟩) NB259_267.out _).trans (hHeld.2.2.2.2.2.1)))), ((cell_far (p := ⟨gb267, _, none⟩) NB259_267.out _).trans (((cell_far (p := ⟨gb267, _, none⟩) NB259_267.out _).trans (hHeld.2.2.2.2.2.2.1)))), ((cell_far (p := ⟨gb267, _, none⟩) NB259_267.out _).trans (((cell_far (p := ⟨gb267, _, none⟩) NB259_267.out _).trans (hHeld.2.2.2.2.2.2.2.1)))), ((cell_far (p := ⟨gb267, _, none⟩) NB259_267.out _).trans (((cell_far (p := ⟨gb267, _, none⟩) NB259_267.out _).trans (hHeld.2.2.2.2.2.2.2.2.1)))), ((cell_far (p := ⟨gb267, _, none⟩) NB259_267.out _).trans (((cell_far (p := ⟨gb267, _, none⟩) NB259_267.out _).trans (hHeld.2.2.2.2.2.2.2.2.2))))⟩ (fun hHeld => ?_)
 clear hK K
 refine one_ (i := 13) (N := none) #[true, true, true, true, true, true, true, true, true, true, true, true, true, true] rfl rfl (one_of HT_.out (by kernel_rfl)) (by decide) (fun K hK => ?_)
 have hs20 : w17.cell? ⟨gb268, 0, none⟩ = some (.int .i64 0) := (blk_cell BK268.out 0).trans rfl
 have hfs20 := blk_frozen BK268.out 0
 have hns20_0 := NB259_268.out
 have hns20_1 := NB266_268.out
 have hns20_2 := NB267_268.out
 have hms20_0 := NB268_259.out
 have hms20_1 := NB268_266.out
 have hms20_2 := NB268_267.out
 have hs21 : w17.cell? ⟨gb268, 1, none⟩ = some (.int .i64 0) := (blk_cell BK268.out 1).trans rfl
 have hfs21 := blk_frozen BK268.out 1
 have hns21_0 := NB259_268.out
 have hns21_1 := NB266_268.out
 have hns21_2 := NB267_268.out
 have hms21_0 := NB268_259.out
 have hms21_1 := NB268_266.out
 have hms21_2 := NB268_267.out
 refine skip_ (w1 := ?_) (by rfl) rfl ?_ ?_
 rotate_left
 ·
  go_simp
  rfl
 refine hK.out _ _ ⟨((cell_far (p := ⟨gb268, _, none⟩) NB259_268.out _).trans (((cell_far (p := ⟨gb268, _, none⟩) NB259_268.out _).trans (hHeld.1)))), ((cell_far (p := ⟨gb268, _, none⟩) NB259_268.out _).trans (((cell_far (p := ⟨gb268, _, none⟩) NB259_268.out _).trans (hHeld.2.1)))), ((cell_far (p := ⟨gb268, _, none⟩) NB259_268.out _).trans (((cell_far (p := ⟨gb268, _, none⟩) NB259_268.out _).trans (hHeld.2.2.1)))), ((cell_far (p := ⟨gb268, _, none⟩) NB259_268.out _).trans (((cell_far (p := ⟨gb268, _, none⟩) NB259_268.out _).trans (hHeld.2.2.2.1)))), ((cell_far (p := ⟨gb268, _, none⟩) NB259_268.out _).trans (((cell_far (p := ⟨gb268, _, none⟩) NB259_268.out _).trans (hHeld.2.2.2.2.1)))), ((cell_far (p := ⟨gb268, _, none⟩) NB259_268.out _).trans (((cell_far (p := ⟨gb268, _, none⟩) NB259_268.out _).trans (hHeld.2.2.2.2.2.1)))), ((cell_far (p := ⟨gb268, _, none⟩) NB259_268.out _).trans (((cell_far (p := ⟨gb268, _, none⟩) NB259_268.out _).trans (hHeld.2.2.2.2.2.2.1)))), ((cell_far (p := ⟨gb268, _, none⟩) NB259_268.out _).trans (((cell_far (p := ⟨gb268, _, none⟩) NB259_268.out _).trans (hHeld.2.2.2.2.2.2.2.1)))), ((cell_far (p := ⟨gb268, _, none⟩) NB259_268.out _).trans (((cell_far (p := ⟨gb268, _, none⟩) NB259_268.out _).trans (hHeld.2.2.2.2.2.2.2.2.1)))), ((cell_far (p := ⟨gb268, _, none⟩) NB259_268.out _).trans (((cell_far (p := ⟨gb268, _, none⟩) NB259_268.out _).trans (hHeld.2.2.2.2.2.2.2.2.2))))⟩ (fun hHeld => ?_)
 clear hK K
 refine done_ (done_of HT_.out (by kernel_rfl)) ?_
 have hnb22 := NB266_267.out
 have hnc22 := NB267_266.out
 have hnb23 := NB266_268.out
 have hnc23 := NB268_266.out
 have hcz24_0 : w17.cell? ⟨gb266, 0, none⟩ = some (.int .i64 t260) := (blk_cell BK266.out 0).trans rfl
 have hcz24_1 : w17.cell? ⟨gb266, 1, none⟩ = some (.int .i64 t261) := (blk_cell BK266.out 1).trans rfl
 have hcz24_2 : w17.cell? ⟨gb266, 2, none⟩ = some (.int .i64 t262) := (blk_cell BK266.out 2).trans rfl
 have hcz24_3 : w17.cell? ⟨gb266, 3, none⟩ = some (.slice Ao12 t263.length co12) := (blk_cell BK266.out 3).trans rfl
 have hfz24_0 := blk_frozen BK266.out 0
 have hfz24_1 := blk_frozen BK266.out 1
 have hfz24_2 := blk_frozen BK266.out 2
 have hfz24_3 := blk_frozen BK266.out 3
 have hnb25 := NB267_259.out
 have hnc25 := NB259_267.out
 have hnb26 := NB267_268.out
 have hnc26 := NB268_267.out
 have hcz27_0 : w17.cell? ⟨gb267, 0, none⟩ = some (.int .i64 0) := (blk_cell BK267.out 0).trans rfl
 have hcz27_1 : w17.cell? ⟨gb267, 1, none⟩ = some (.int .i64 0) := (blk_cell BK267.out 1).trans rfl
 have hfz27_0 := blk_frozen BK267.out 0
 have hfz27_1 := blk_frozen BK267.out 1
 have hnb28 := NB268_259.out
 have hnc28 := NB259_268.out
 have hcz29_0 : w17.cell? ⟨gb268, 0, none⟩ = some (.int .i64 0) := (blk_cell BK268.out 0).trans rfl
 have hcz29_1 : w17.cell? ⟨gb268, 1, none⟩ = some (.int .i64 0) := (blk_cell BK268.out 1).trans rfl
 have hfz29_0 := blk_frozen BK268.out 0
 have hfz29_1 := blk_frozen BK268.out 1
 have hcz30_0 : w17.cell? ⟨gb259, 0, none⟩ = some (.int .i64 a0_0) := (blk_cell BK259.out 0).trans rfl
 have hcz30_1 : w17.cell? ⟨gb259, 1, none⟩ = some (.int .i64 a0_1) := (blk_cell BK259.out 1).trans rfl
 have hcz30_2 : w17.cell? ⟨gb259, 2, none⟩ = some (.int .i64 a0_2) := (blk_cell BK259.out 2).trans rfl
 have hcz30_3 : w17.cell? ⟨gb259, 3, none⟩ = some (.slice A0_3 l0_3.length c0_3) := (blk_cell BK259.out 3).trans rfl
 have hcz30_4 : w17.cell? ⟨gb259, 4, none⟩ = some (.int .i64 a0_4) := (blk_cell BK259.out 4).trans rfl
 have hcz30_5 : w17.cell? ⟨gb259, 5, none⟩ = some (.int .i64 a0_5) := (blk_cell BK259.out 5).trans rfl
 have hcz30_6 : w17.cell? ⟨gb259, 6, none⟩ = some (.int .i64 a0_6) := (blk_cell BK259.out 6).trans rfl
 have hcz30_7 : w17.cell? ⟨gb259, 7, none⟩ = some (.int .i64 a0_7) := (blk_cell BK259.out 7).trans rfl
 have hcz30_8 : w17.cell? ⟨gb259, 8, none⟩ = some (.int .i64 a0_8) := (blk_cell BK259.out 8).trans rfl
 have hcz30_9 : w17.cell? ⟨gb259, 9, none⟩ = some (.int .i64 a0_9) := (blk_cell BK259.out 9).trans rfl
 have hfz30_0 := blk_frozen BK259.out 0
 have hfz30_1 := blk_frozen BK259.out 1
 have hfz30_2 := blk_frozen BK259.out 2
 have hfz30_3 := blk_frozen BK259.out 3
 have hfz30_4 := blk_frozen BK259.out 4
 have hfz30_5 := blk_frozen BK259.out 5
 have hfz30_6 := blk_frozen BK259.out 6
 have hfz30_7 := blk_frozen BK259.out 7
 have hfz30_8 := blk_frozen BK259.out 8
 have hfz30_9 := blk_frozen BK259.out 9
 go_upto_region 4 with (first | ((with_reducible refine gate_callee (f := 20) rfl ?_); refine goesL_ (some 36) rfl rfl Try.func20 (by kernel_rfl) rfl #[.agg #[.int .i64 t260, .int .i64 t261, .int .i64 t262, .slice Ao12 t263.length co12], .agg #[.int .i64 a0_4, .int .i64 a0_5], .agg #[.int .i64 a0_6, .int .i64 a0_7], .int .i64 a0_8, .int .i64 a0_9] rfl (by (try simp only [List.map_toArray, List.map_cons, List.map_nil]); first | done | rfl | (simp only [List.length_drop, List.length_take]; rfl)) ?_; (with_reducible refine (ray_Sees.calls k t260 t261 t262 _ _ t263 a0_4 a0_5 a0_6 a0_7 a0_8 a0_9 t269 t270 _ ?side1 ?side2 A4.out).mono ?_); (case side1 => refine (Kd.V_reads' (e := 5) (base := w.heap.size) (ok := fun k_ => (k_ ≠ gb259 ∧ (k_ ≠ gb266 ∧ (k_ ≠ gb267 ∧ k_ ≠ gb268)))) (n := t263.length) (c := co12) ?_).2.2; exact (by (with_reducible repeat (first | apply Kd.V_alloc | apply Kd.V_drewN | apply Kd.V_drew)); exact (Kd.V_mono (Kd.V_mono (Kd.V_far (p := ⟨gb268, 1, none⟩) (Kd.V_far (p := ⟨gb268, 0, none⟩) (Kd.V_far (p := ⟨gb267, 1, none⟩) (Kd.V_far (p := ⟨gb267, 0, none⟩) (Kd.V_mono (Kd.V_mono HO265.out (fun k_ hk => (⟨hk, hk.2.2.1⟩ : _ ∧ k_ ≠ gb267))) (fun k_ hk => (⟨hk, hk.1.2.2.2⟩ : _ ∧ k_ ≠ gb268))) (fun _ hk => hk.1.2) (.int .i64 a0_4)) (fun _ hk => hk.1.2) (.int .i64 a0_5)) (fun _ hk => hk.2) (.int .i64 a0_6)) (fun _ hk => hk.2) (.int .i64 a0_7)) (fun _ h_ => h_.1)) (fun _ h_ => h_.1)))); (case side2 => exact (Kd.V_reads' HO265.out).2.1); rintro e w31 ⟨rfl, hb⟩; refine ⟨_, rfl, ?_⟩; have n0_ := Aside0.mk (Kd.V_below (by (with_reducible repeat (first | apply Kd.V_alloc | apply Kd.V_drewN | apply Kd.V_drew)); exact (Kd.V_mono (Kd.V_mono (Kd.V_far (p := ⟨gb268, 1, none⟩) (Kd.V_far (p := ⟨gb268, 0, none⟩) (Kd.V_far (p := ⟨gb267, 1, none⟩) (Kd.V_far (p := ⟨gb267, 0, none⟩) (Kd.V_mono (Kd.V_mono HO265.out (fun k_ hk => (⟨hk, hk.2.2.1⟩ : _ ∧ k_ ≠ gb267))) (fun k_ hk => (⟨hk, hk.1.2.2.2⟩ : _ ∧ k_ ≠ gb268))) (fun _ hk => hk.1.2) (.int .i64 a0_4)) (fun _ hk => hk.1.2) (.int .i64 a0_5)) (fun _ hk => hk.2) (.int .i64 a0_6)) (fun _ hk => hk.2) (.int .i64 a0_7)) (fun _ h_ => h_.1)) (fun _ h_ => h_.1))) hb); have n1_ := Aside0.mk (blk_below (g := gb259) (o := .cells #[.int .i64 a0_0, .int .i64 a0_1, .int .i64 a0_2, .slice A0_3 l0_3.length c0_3, .int .i64 a0_4, .int .i64 a0_5, .int .i64 a0_6, .int .i64 a0_7, .int .i64 a0_8, .int .i64 a0_9] 26 (0, 0)) (by (with_reducible repeat (first | refine blk_drewN ?_ _ | refine blk_drew ?_ | refine blk_alloc ?_ _)); refine blk_far ?_ NB259_268.out _; (with_reducible repeat (first | refine blk_drewN ?_ _ | refine blk_drew ?_ | refine blk_alloc ?_ _)); refine blk_far ?_ NB259_268.out _; (with_reducible repeat (first | refine blk_drewN ?_ _ | refine blk_drew ?_ | refine blk_alloc ?_ _)); refine blk_far ?_ NB259_267.out _; (with_reducible repeat (first | refine blk_drewN ?_ _ | refine blk_drew ?_ | refine blk_alloc ?_ _)); refine blk_far ?_ NB259_267.out _; (with_reducible repeat (first | refine blk_drewN ?_ _ | refine blk_drew ?_ | refine blk_alloc ?_ _)); exact BK259.out) hb); have n2_ := Aside0.mk (blk_below (g := gb266) (o := .cells #[.int .i64 t260, .int .i64 t261, .int .i64 t262, .slice Ao12 t263.length co12] 24 (0, 0)) (by (with_reducible repeat (first | refine blk_drewN ?_ _ | refine blk_drew ?_ | refine blk_alloc ?_ _)); refine blk_far ?_ NB266_268.out _; (with_reducible repeat (first | refine blk_drewN ?_ _ | refine blk_drew ?_ | refine blk_alloc ?_ _)); refine blk_far ?_ NB266_268.out _; (with_reducible repeat (first | refine blk_drewN ?_ _ | refine blk_drew ?_ | refine blk_alloc ?_ _)); refine blk_far ?_ NB266_267.out _; (with_reducible repeat (first | refine blk_drewN ?_ _ | refine blk_drew ?_ | refine blk_alloc ?_ _)); refine blk_far ?_ NB266_267.out _; (with_reducible repeat (first | refine blk_drewN ?_ _ | refine blk_drew ?_ | refine blk_alloc ?_ _)); exact BK266.out) hb); have n3_ := Aside0.mk (blk_below (g := gb267) (o := .cells #[.int .i64 a0_4, .int .i64 a0_5] 36 (0, 0)) (by (with_reducible repeat (first | refine blk_drewN ?_ _ | refine blk_drew ?_ | refine blk_alloc ?_ _)); refine blk_far ?_ NB267_268.out _; (with_reducible repeat (first | refine blk_drewN ?_ _ | refine blk_drew ?_ | refine blk_alloc ?_ _)); refine blk_far ?_ NB267_268.out _; (with_reducible repeat (first | refine blk_drewN ?_ _ | refine blk_drew ?_ | refine blk_alloc ?_ _)); refine blk_put (cs := #[.int .i64 a0_4, .int .i64 0]) ?_ 1 _ rfl; (with_reducible repeat (first | refine blk_drewN ?_ _ | refine blk_drew ?_ | refine blk_alloc ?_ _)); refine blk_put (cs := #[.int .i64 0, .int .i64 0]) ?_ 0 _ rfl; (with_reducible repeat (first | refine blk_drewN ?_ _ | refine blk_drew ?_ | refine blk_alloc ?_ _)); exact BK267.out) hb); have n4_ := Aside0.mk (blk_below (g := gb268) (o := .cells #[.int .i64 a0_6, .int .i64 a0_7] 36 (0, 0)) (by (with_reducible repeat (first | refine blk_drewN ?_ _ | refine blk_drew ?_ | refine blk_alloc ?_ _)); refine blk_put (cs := #[.int .i64 a0_6, .int .i64 0]) ?_ 1 _ rfl; (with_reducible repeat (first | refine blk_drewN ?_ _ | refine blk_drew ?_ | refine blk_alloc ?_ _)); refine blk_put (cs := #[.int .i64 0, .int .i64 0]) ?_ 0 _ rfl; (with_reducible repeat (first | refine blk_drewN ?_ _ | refine blk_drew ?_ | refine blk_alloc ?_ _)); refine blk_far ?_ NB268_267.out _; (with_reducible repeat (first | refine blk_drewN ?_ _ | refine blk_drew ?_ | refine blk_alloc ?_ _)); refine blk_far ?_ NB268_267.out _; (with_reducible repeat (first | refine blk_drewN ?_ _ | refine blk_drew ?_ | refine blk_alloc ?_ _)); exact BK268.out) hb); have n5_ := Aside0.mk (below_step (by repeat (first | (with_reducible first | exact HB.out | apply below_alloc | apply pw_below_drewN | apply below_drew1 | refine below_set ?_ GE259.out | refine below_set ?_ GE266.out | refine below_set ?_ GE267.out | refine below_set ?_ GE268.out) | exact HB.out)) hb); clear HO265; clear BK259; clear BK266; clear BK267; clear BK268; clear HB; have HO265 := n0_; have BK259 := n1_; have BK266 := n2_; have BK267 := n3_; have BK268 := n4_; have HB := n5_; clear n0_ n1_ n2_ n3_ n4_ n5_; (try clear hb); (try clear hb2); (try clear hk); (try clear hi)))
 (try simp only [Act.put, List.setIfInBounds_toArray, List.set_cons_zero, List.set_cons_succ])
 go_cut [58] (fun v58 wc => ∃ (kq : Nat) (x58_4 : Bool), v58 = .bool x58_4 ∧ Aside0 (bivouaclaw08_RayHigher.j0 kq a1 t269 t270 x58_4 a0_0 a0_1 a0_2 l0_3 a0_4 a0_5 a0_6 a0_7 a0_8 a0_9 t260 t261 t262 t263 a0_4 a0_5 a0_6 a0_7 = some r) ∧ Aside0 (kq ≤ k) ∧ Aside0 (Kd.V (Kd.int .u8) 5 wc w.heap.size (fun k_ => k_ ≠ gb259 ∧ k_ ≠ gb266 ∧ k_ ≠ gb267 ∧ k_ ≠ gb268) (.slice Ao12 t263.length co12) t263) ∧ Aside0 (wc.heap[gb259]? = some (.cells #[.int .i64 a0_0, .int .i64 a0_1, .int .i64 a0_2, (.slice A0_3 l0_3.length c0_3), .int .i64 a0_4, .int .i64 a0_5, .int .i64 a0_6, .int .i64 a0_7, .int .i64 a0_8, .int .i64 a0_9] 26 (0, 0))) ∧ Aside0 (wc.heap[gb266]? = some (.cells #[.int .i64 t260, .int .i64 t261, .int .i64 t262, (.slice Ao12 t263.length co12)] 24 (0, 0))) ∧ Aside0 (wc.heap[gb267]? = some (.cells #[.int .i64 a0_4, .int .i64 a0_5] 36 (0, 0))) ∧ Aside0 (wc.heap[gb268]? = some (.cells #[.int .i64 a0_6, .int .i64 a0_7] 36 (0, 0))) ∧ Aside0 (Below w.heap.size w wc))
 case first =>
  have H := HC5.out
  clear HC5
  by_cases c32 : t270 = 0
  ·
   rw [if_pos c32] at H
   have c32b0 : (t270 == 0) = true := beq_iff_eq.mpr c32
   have c32b1 : (t270 != 0) = false := bne_eq_false_iff_eq.mpr c32
   clear c32
   (first | rw [c32b0] | (simp only [i64_w, i32_w]; rw [c32b0]) | skip)
   by_cases c33 : a1 < 0
   ·
    rw [if_pos c33] at H
    have c33b0 : decide (a1 < 0) = true := decide_eq_true c33
    clear c33
    have H' := Aside0.mk H
    clear H
    go_wp2
    go_meet
    case rel => exact ⟨_, (true), (by first | rfl | (simp; done) | (simp [*]; done)), H', ⟨by first | omega | exact Nat.le_refl _⟩, ⟨by (with_reducible repeat (first | apply Kd.V_alloc | apply Kd.V_drewN | apply Kd.V_drew)); exact HO265.out⟩, ⟨by (with_reducible repeat (first | refine blk_drewN ?_ _ | refine blk_drew ?_ | refine blk_alloc ?_ _)); exact BK259.out⟩, ⟨by (with_reducible repeat (first | refine blk_drewN ?_ _ | refine blk_drew ?_ | refine blk_alloc ?_ _)); exact BK266.out⟩, ⟨by (with_reducible repeat (first | refine blk_drewN ?_ _ | refine blk_drew ?_ | refine blk_alloc ?_ _)); exact BK267.out⟩, ⟨by (with_reducible repeat (first | refine blk_drewN ?_ _ | refine blk_drew ?_ | refine blk_alloc ?_ _)); exact BK268.out⟩, ⟨by repeat (first | (with_reducible first | exact HB.out | apply below_alloc | apply pw_below_drewN | apply below_drew1 | refine below_set ?_ GE259.out | refine below_set ?_ GE266.out | refine below_set ?_ GE267.out | refine below_set ?_ GE268.out) | exact HB.out)⟩⟩
   ·
    rw [if_neg c33] at H
    have c33b0 : decide (a1 < 0) = false := decide_eq_false c33
    clear c33
    by_cases c34 : a1 > (wrap64 (255 - a0_8))
    ·
     rw [if_pos c34] at H
     have c34b0 : decide ((wrap64 (255 - a0_8)) < a1) = true := decide_eq_true c34
     clear c34
     have H' := Aside0.mk H
     clear H
     have hnb35 := NB259_266.out
     have hnc35 := NB266_259.out
     have hnb36 := NB259_267.out
     have hnc36 := NB267_259.out
     have hnb37 := NB259_268.out
     have hnc37 := NB268_259.out
     have hcz38_0 : w31.cell? ⟨gb259, 0, none⟩ = some (.int .i64 a0_0) := (blk_cell BK259.out 0).trans rfl
     have hcz38_1 : w31.cell? ⟨gb259, 1, none⟩ = some (.int .i64 a0_1) := (blk_cell BK259.out 1).trans rfl
     have hcz38_2 : w31.cell? ⟨gb259, 2, none⟩ = some (.int .i64 a0_2) := (blk_cell BK259.out 2).trans rfl
     have hcz38_3 : w31.cell? ⟨gb259, 3, none⟩ = some (.slice A0_3 l0_3.length c0_3) := (blk_cell BK259.out 3).trans rfl
     have hcz38_4 : w31.cell? ⟨gb259, 4, none⟩ = some (.int .i64 a0_4) := (blk_cell BK259.out 4).trans rfl
     have hcz38_5 : w31.cell? ⟨gb259, 5, none⟩ = some (.int .i64 a0_5) := (blk_cell BK259.out 5).trans rfl
     have hcz38_6 : w31.cell? ⟨gb259, 6, none⟩ = some (.int .i64 a0_6) := (blk_cell BK259.out 6).trans rfl
     have hcz38_7 : w31.cell? ⟨gb259, 7, none⟩ = some (.int .i64 a0_7) := (blk_cell BK259.out 7).trans rfl
     have hcz38_8 : w31.cell? ⟨gb259, 8, none⟩ = some (.int .i64 a0_8) := (blk_cell BK259.out 8).trans rfl
     have hcz38_9 : w31.cell? ⟨gb259, 9, none⟩ = some (.int .i64 a0_9) := (blk_cell BK259.out 9).trans rfl
     have hfz38_0 := blk_frozen BK259.out 0
     have hfz38_1 := blk_frozen BK259.out 1
     have hfz38_2 := blk_frozen BK259.out 2
     have hfz38_3 := blk_frozen BK259.out 3
     have hfz38_4 := blk_frozen BK259.out 4
     have hfz38_5 := blk_frozen BK259.out 5
     have hfz38_6 := blk_frozen BK259.out 6
     have hfz38_7 := blk_frozen BK259.out 7
     have hfz38_8 := blk_frozen BK259.out 8
     have hfz38_9 := blk_frozen BK259.out 9
     go_wp2
     go_meet
     case rel => exact ⟨_, (true), (by first | rfl | (simp; done) | (simp [*]; done)), H', ⟨by first | omega | exact Nat.le_refl _⟩, ⟨by (with_reducible repeat (first | apply Kd.V_alloc | apply Kd.V_drewN | apply Kd.V_drew)); exact HO265.out⟩, ⟨by (with_reducible repeat (first | refine blk_drewN ?_ _ | refine blk_drew ?_ | refine blk_alloc ?_ _)); exact BK259.out⟩, ⟨by (with_reducible repeat (first | refine blk_drewN ?_ _ | refine blk_drew ?_ | refine blk_alloc ?_ _)); exact BK266.out⟩, ⟨by (with_reducible repeat (first | refine blk_drewN ?_ _ | refine blk_drew ?_ | refine blk_alloc ?_ _)); exact BK267.out⟩, ⟨by (with_reducible repeat (first | refine blk_drewN ?_ _ | refine blk_drew ?_ | refine blk_alloc ?_ _)); exact BK268.out⟩, ⟨by repeat (first | (with_reducible first | exact HB.out | apply below_alloc | apply pw_below_drewN | apply below_drew1 | refine below_set ?_ GE259.out | refine below_set ?_ GE266.out | refine below_set ?_ GE267.out | refine below_set ?_ GE268.out) | exact HB.out)⟩⟩
    ·
     rw [if_neg c34] at H
     have c34b0 : decide ((wrap64 (255 - a0_8)) < a1) = false := decide_eq_false c34
     clear c34
     have H' := Aside0.mk H
     clear H
     have hnb39 := NB259_266.out
     have hnc39 := NB266_259.out
     have hnb40 := NB259_267.out
     have hnc40 := NB267_259.out
     have hnb41 := NB259_268.out
     have hnc41 := NB268_259.out
     have hcz42_0 : w31.cell? ⟨gb259, 0, none⟩ = some (.int .i64 a0_0) := (blk_cell BK259.out 0).trans rfl
     have hcz42_1 : w31.cell? ⟨gb259, 1, none⟩ = some (.int .i64 a0_1) := (blk_cell BK259.out 1).trans rfl
     have hcz42_2 : w31.cell? ⟨gb259, 2, none⟩ = some (.int .i64 a0_2) := (blk_cell BK259.out 2).trans rfl
     have hcz42_3 : w31.cell? ⟨gb259, 3, none⟩ = some (.slice A0_3 l0_3.length c0_3) := (blk_cell BK259.out 3).trans rfl
     have hcz42_4 : w31.cell? ⟨gb259, 4, none⟩ = some (.int .i64 a0_4) := (blk_cell BK259.out 4).trans rfl
     have hcz42_5 : w31.cell? ⟨gb259, 5, none⟩ = some (.int .i64 a0_5) := (blk_cell BK259.out 5).trans rfl
     have hcz42_6 : w31.cell? ⟨gb259, 6, none⟩ = some (.int .i64 a0_6) := (blk_cell BK259.out 6).trans rfl
     have hcz42_7 : w31.cell? ⟨gb259, 7, none⟩ = some (.int .i64 a0_7) := (blk_cell BK259.out 7).trans rfl
     have hcz42_8 : w31.cell? ⟨gb259, 8, none⟩ = some (.int .i64 a0_8) := (blk_cell BK259.out 8).trans rfl
     have hcz42_9 : w31.cell? ⟨gb259, 9, none⟩ = some (.int .i64 a0_9) := (blk_cell BK259.out 9).trans rfl
     have hfz42_0 := blk_frozen BK259.out 0
     have hfz42_1 := blk_frozen BK259.out 1
     have hfz42_2 := blk_frozen BK259.out 2
     have hfz42_3 := blk_frozen BK259.out 3
     have hfz42_4 := blk_frozen BK259.out 4
     have hfz42_5 := blk_frozen BK259.out 5
     have hfz42_6 := blk_frozen BK259.out 6
     have hfz42_7 := blk_frozen BK259.out 7
     have hfz42_8 := blk_frozen BK259.out 8
     have hfz42_9 := blk_frozen BK259.out 9
     go_wp2
     go_meet
     case rel => exact ⟨_, (decide (a1 > (wrap64 (255 - a0_9)))), (by first | rfl | (simp; done) | (simp [*]; done)), H', ⟨by first | omega | exact Nat.le_refl _⟩, ⟨by (with_reducible repeat (first | apply Kd.V_alloc | apply Kd.V_drewN | apply Kd.V_drew)); exact HO265.out⟩, ⟨by (with_reducible repeat (first | refine blk_drewN ?_ _ | refine blk_drew ?_ | refine blk_alloc ?_ _)); exact BK259.out⟩, ⟨by (with_reducible repeat (first | refine blk_drewN ?_ _ | refine blk_drew ?_ | refine blk_alloc ?_ _)); exact BK266.out⟩, ⟨by (with_reducible repeat (first | refine blk_drewN ?_ _ | refine blk_drew ?_ | refine blk_alloc ?_ _)); exact BK267.out⟩, ⟨by (with_reducible repeat (first | refine blk_drewN ?_ _ | refine blk_drew ?_ | refine blk_alloc ?_ _)); exact BK268.out⟩, ⟨by repeat (first | (with_reducible first | exact HB.out | apply below_alloc | apply pw_below_drewN | apply below_drew1 | refine below_set ?_ GE259.out | refine below_set ?_ GE266.out | refine below_set ?_ GE267.out | refine below_set ?_ GE268.out) | exact HB.out)⟩⟩
  ·
   rw [if_neg c32] at H
   have c32b0 : (t270 == 0) = false := beq_eq_false_iff_ne.mpr c32
   have c32b1 : (t270 != 0) = true := bne_iff_ne.mpr c32
   (first | rw [c32b0] | (simp only [i64_w, i32_w]; rw [c32b0]) | skip)
   have H' := Aside0.mk H
   clear H
   go_wp2
   go_meet
   case rel => exact ⟨_, (true), (by first | rfl | (simp; done) | (simp [*]; done)), H', ⟨by first | omega | exact Nat.le_refl _⟩, ⟨by (with_reducible repeat (first | apply Kd.V_alloc | apply Kd.V_drewN | apply Kd.V_drew)); exact HO265.out⟩, ⟨by (with_reducible repeat (first | refine blk_drewN ?_ _ | refine blk_drew ?_ | refine blk_alloc ?_ _)); exact BK259.out⟩, ⟨by (with_reducible repeat (first | refine blk_drewN ?_ _ | refine blk_drew ?_ | refine blk_alloc ?_ _)); exact BK266.out⟩, ⟨by (with_reducible repeat (first | refine blk_drewN ?_ _ | refine blk_drew ?_ | refine blk_alloc ?_ _)); exact BK267.out⟩, ⟨by (with_reducible repeat (first | refine blk_drewN ?_ _ | refine blk_drew ?_ | refine blk_alloc ?_ _)); exact BK268.out⟩, ⟨by repeat (first | (with_reducible first | exact HB.out | apply below_alloc | apply pw_below_drewN | apply below_drew1 | refine below_set ?_ GE259.out | refine below_set ?_ GE266.out | refine below_set ?_ GE267.out | refine below_set ?_ GE268.out) | exact HB.out)⟩⟩
 case rest =>
  clear HC5
  try clear c1
  try clear c2
  try clear p2
  try clear c3
  try clear c4
  try clear p6
  try clear c7
  try clear c10
  try clear c14
  try clear c20
  try clear c22
  try clear c23
  try clear c25
  try clear c26
  try clear c28
  try clear c32
  try clear c32b0
  try clear c32b1
  try clear c33
  try clear c33b0
  try clear c34
  try clear c34b0
  try clear c35
  try clear c36
  try clear c37
  try clear c39
  try clear c40
  try clear c41
  try clear hcz11_0
  try clear hcz11_1
  try clear hcz11_2
  try clear hcz11_3
  try clear hcz24_0
  try clear hcz24_1
  try clear hcz24_2
  try clear hcz24_3
  try clear hcz27_0
  try clear hcz27_1
  try clear hcz29_0
  try clear hcz29_1
  try clear hcz30_0
  try clear hcz30_1
  try clear hcz30_2
  try clear hcz30_3
  try clear hcz30_4
  try clear hcz30_5
  try clear hcz30_6
  try clear hcz30_7
  try clear hcz30_8
  try clear hcz30_9
  try clear hcz38_0
  try clear hcz38_1
  try clear hcz38_2
  try clear hcz38_3
  try clear hcz38_4
  try clear hcz38_5
  try clear hcz38_6
  try clear hcz38_7
  try clear hcz38_8
  try clear hcz38_9
  try clear hcz42_0
  try clear hcz42_1
  try clear hcz42_2
  try clear hcz42_3
  try clear hcz42_4
  try clear hcz42_5
  try clear hcz42_6
  try clear hcz42_7
  try clear hcz42_8
  try clear hcz42_9
  try clear hcz7_0
  try clear hcz7_1
  try clear hcz7_2
  try clear hcz7_3
  try clear hcz7_4
  try clear hcz7_5
  try clear hcz7_6
  try clear hcz7_7
  try clear hcz7_8
  try clear hcz7_9
  try clear hfz11_0
  try clear hfz11_1
  try clear hfz11_2
  try clear hfz11_3
  try clear hfz24_0
  try clear hfz24_1
  try clear hfz24_2
  try clear hfz24_3
  try clear hfz27_0
  try clear hfz27_1
  try clear hfz29_0
  try clear hfz29_1
  try clear hfz30_0
  try clear hfz30_1
  try clear hfz30_2
  try clear hfz30_3
  try clear hfz30_4
  try clear hfz30_5
  try clear hfz30_6
  try clear hfz30_7
  try clear hfz30_8
  try clear hfz30_9
  try clear hfz38_0
  try clear hfz38_1
  try clear hfz38_2
  try clear hfz38_3
  try clear hfz38_4
  try clear hfz38_5
  try clear hfz38_6
  try clear hfz38_7
  try clear hfz38_8
  try clear hfz38_9
  try clear hfz42_0
  try clear hfz42_1
  try clear hfz42_2
  try clear hfz42_3
  try clear hfz42_4
  try clear hfz42_5
  try clear hfz42_6
  try clear hfz42_7
  try clear hfz42_8
  try clear hfz42_9
  try clear hfz7_0
  try clear hfz7_1
  try clear hfz7_2
  try clear hfz7_3
  try clear hfz7_4
  try clear hfz7_5
  try clear hfz7_6
  try clear hfz7_7
  try clear hfz7_8
  try clear hfz7_9
  obtain ⟨kq, x58_4, rfl, HA, HJ4, HO_267003, BK259, BK266, BK267, BK268, HB⟩ := hcut
  cases kq with
  | zero => exact absurd HA.out (by simp [bivouaclaw08_RayHigher.j0])
  | succ kj4 =>
   have H := HA.out
   clear HA
   simp only [bivouaclaw08_RayHigher.j0] at H
   by_cases c43 : x58_4 = true
   ·
    subst c43
    have H1 : (if t270 = 0 then ((bivouaclaw08_awake.f kj4).bind fun t271 => (some t271)) else (if t269 = true then (some false) else ((bivouaclaw08_awake.f kj4).bind fun t272 => (some t272)))) = some r := by rw [if_pos rfl] at H; exact H
    clear H
    have H := H1
    clear H1
    by_cases c44 : t270 = 0
    ·
     rw [if_pos c44] at H
     have c44b0 : (t270 == 0) = true := beq_iff_eq.mpr c44
     have c44b1 : (t270 != 0) = false := bne_eq_false_iff_eq.mpr c44
     clear c44
     replace H := Option.bind_eq_some_iff.mp H
     obtain ⟨t271, A450, H⟩ := H
     replace H : (some t271) = some r := H
     have A45 := Aside0.mk A450
     clear A450
     obtain rfl := Option.some.inj H
     go_wp2_with (first | (go_at_call 11; (with_reducible refine (bivouaclaw08_awake.calls kj4  t271 _ A45.out).mono ?_); rintro e w46 ⟨rfl, hb⟩; have n0_ := Aside0.mk (Kd.V_below (by (with_reducible repeat (first | apply Kd.V_alloc | apply Kd.V_drewN | apply Kd.V_drew)); exact HO_267003.out) hb); have n1_ := Aside0.mk (blk_below (g := gb259) (o := .cells #[.int .i64 a0_0, .int .i64 a0_1, .int .i64 a0_2, .slice A0_3 l0_3.length c0_3, .int .i64 a0_4, .int .i64 a0_5, .int .i64 a0_6, .int .i64 a0_7, .int .i64 a0_8, .int .i64 a0_9] 26 (0, 0)) (by (with_reducible repeat (first | refine blk_drewN ?_ _ | refine blk_drew ?_ | refine blk_alloc ?_ _)); exact BK259.out) hb); have n2_ := Aside0.mk (blk_below (g := gb266) (o := .cells #[.int .i64 t260, .int .i64 t261, .int .i64 t262, .slice Ao12 t263.length co12] 24 (0, 0)) (by (with_reducible repeat (first | refine blk_drewN ?_ _ | refine blk_drew ?_ | refine blk_alloc ?_ _)); exact BK266.out) hb); have n3_ := Aside0.mk (blk_below (g := gb267) (o := .cells #[.int .i64 a0_4, .int .i64 a0_5] 36 (0, 0)) (by (with_reducible repeat (first | refine blk_drewN ?_ _ | refine blk_drew ?_ | refine blk_alloc ?_ _)); exact BK267.out) hb); have n4_ := Aside0.mk (blk_below (g := gb268) (o := .cells #[.int .i64 a0_6, .int .i64 a0_7] 36 (0, 0)) (by (with_reducible repeat (first | refine blk_drewN ?_ _ | refine blk_drew ?_ | refine blk_alloc ?_ _)); exact BK268.out) hb); have n5_ := Aside0.mk (below_step (by repeat (first | (with_reducible first | exact HB.out | apply below_alloc | apply pw_below_drewN | apply below_drew1 | refine below_set ?_ GE259.out | refine below_set ?_ GE266.out | refine below_set ?_ GE267.out | refine below_set ?_ GE268.out) | exact HB.out)) hb); clear HO_267003; clear BK259; clear BK266; clear BK267; clear BK268; clear HB; have HO_267003 := n0_; have BK259 := n1_; have BK266 := n2_; have BK267 := n3_; have BK268 := n4_; have HB := n5_; clear n0_ n1_ n2_ n3_ n4_ n5_; (try clear hb); (try clear hb2); (try clear hk); (try clear hi)))
     go_ret
     exact ⟨by first | rfl | (simp [errW_none, errW_some] <;> rfl) | (simp [*, errW_none, errW_some] <;> rfl) | (rw [Int.tdiv_eq_ediv_of_nonneg (by assumption)]; rfl), by repeat (first | (with_reducible first | exact HB.out | apply below_alloc | apply pw_below_drewN | apply below_drew1 | refine below_set ?_ GE259.out | refine below_set ?_ GE266.out | refine below_set ?_ GE267.out | refine below_set ?_ GE268.out) | exact HB.out)⟩
    ·
     rw [if_neg c44] at H
     have c44b0 : (t270 == 0) = false := beq_eq_false_iff_ne.mpr c44
     have c44b1 : (t270 != 0) = true := bne_iff_ne.mpr c44
     by_cases c47 : t269 = true
     ·
      subst c47
      have H1 : (some false) = some r := by rw [if_pos rfl] at H; exact H
      clear H
      have H := H1
      clear H1
      obtain rfl := Option.some.inj H
      go_wp2
      go_ret
      exact ⟨by first | rfl | (simp [errW_none, errW_some] <;> rfl) | (simp [*, errW_none, errW_some] <;> rfl) | (rw [Int.tdiv_eq_ediv_of_nonneg (by assumption)]; rfl), by repeat (first | (with_reducible first | exact HB.out | apply below_alloc | apply pw_below_drewN | apply below_drew1 | refine below_set ?_ GE259.out | refine below_set ?_ GE266.out | refine below_set ?_ GE267.out | refine below_set ?_ GE268.out) | exact HB.out)⟩
     ·
      replace c47 := Bool.eq_false_iff.mpr c47
      subst c47
      have H1 : ((bivouaclaw08_awake.f kj4).bind fun t272 => (some t272)) = some r := by rw [if_neg (show ¬ (false = true) by decide)] at H; exact H
      clear H
      have H := H1
      clear H1
      replace H := Option.bind_eq_some_iff.mp H
      obtain ⟨t272, A480, H⟩ := H
      replace H : (some t272) = some r := H
      have A48 := Aside0.mk A480
      clear A480
      obtain rfl := Option.some.inj H
      go_wp2_with (first | (go_at_call 11; (with_reducible refine (bivouaclaw08_awake.calls kj4  t272 _ A48.out).mono ?_); rintro e w49 ⟨rfl, hb⟩; have n0_ := Aside0.mk (Kd.V_below (by (with_reducible repeat (first | apply Kd.V_alloc | apply Kd.V_drewN | apply Kd.V_drew)); exact HO_267003.out) hb); have n1_ := Aside0.mk (blk_below (g := gb259) (o := .cells #[.int .i64 a0_0, .int .i64 a0_1, .int .i64 a0_2, .slice A0_3 l0_3.length c0_3, .int .i64 a0_4, .int .i64 a0_5, .int .i64 a0_6, .int .i64 a0_7, .int .i64 a0_8, .int .i64 a0_9] 26 (0, 0)) (by (with_reducible repeat (first | refine blk_drewN ?_ _ | refine blk_drew ?_ | refine blk_alloc ?_ _)); exact BK259.out) hb); have n2_ := Aside0.mk (blk_below (g := gb266) (o := .cells #[.int .i64 t260, .int .i64 t261, .int .i64 t262, .slice Ao12 t263.length co12] 24 (0, 0)) (by (with_reducible repeat (first | refine blk_drewN ?_ _ | refine blk_drew ?_ | refine blk_alloc ?_ _)); exact BK266.out) hb); have n3_ := Aside0.mk (blk_below (g := gb267) (o := .cells #[.int .i64 a0_4, .int .i64 a0_5] 36 (0, 0)) (by (with_reducible repeat (first | refine blk_drewN ?_ _ | refine blk_drew ?_ | refine blk_alloc ?_ _)); exact BK267.out) hb); have n4_ := Aside0.mk (blk_below (g := gb268) (o := .cells #[.int .i64 a0_6, .int .i64 a0_7] 36 (0, 0)) (by (with_reducible repeat (first | refine blk_drewN ?_ _ | refine blk_drew ?_ | refine blk_alloc ?_ _)); exact BK268.out) hb); have n5_ := Aside0.mk (below_step (by repeat (first | (with_reducible first | exact HB.out | apply below_alloc | apply pw_below_drewN | apply below_drew1 | refine below_set ?_ GE259.out | refine below_set ?_ GE266.out | refine below_set ?_ GE267.out | refine below_set ?_ GE268.out) | exact HB.out)) hb); clear HO_267003; clear BK259; clear BK266; clear BK267; clear BK268; clear HB; have HO_267003 := n0_; have BK259 := n1_; have BK266 := n2_; have BK267 := n3_; have BK268 := n4_; have HB := n5_; clear n0_ n1_ n2_ n3_ n4_ n5_; (try clear hb); (try clear hb2); (try clear hk); (try clear hi)))
      go_ret
      exact ⟨by first | rfl | (simp [errW_none, errW_some] <;> rfl) | (simp [*, errW_none, errW_some] <;> rfl) | (rw [Int.tdiv_eq_ediv_of_nonneg (by assumption)]; rfl), by repeat (first | (with_reducible first | exact HB.out | apply below_alloc | apply pw_below_drewN | apply below_drew1 | refine below_set ?_ GE259.out | refine below_set ?_ GE266.out | refine below_set ?_ GE267.out | refine below_set ?_ GE268.out) | exact HB.out)⟩
   ·
    replace c43 := Bool.eq_false_iff.mpr c43
    subst c43
    have H1 : ((ray_Sees.f kj4 t260 t261 t262 t263 a0_4 a0_5 a0_6 a0_7 (wrap64 (a0_8 + a1)) a0_9).bind fun bt273 => ((ray_Sees.f kj4 t260 t261 t262 t263 a0_4 a0_5 a0_6 a0_7 a0_8 (wrap64 (a0_9 + a1))).bind fun bt275 => ((bivouacref08_Long.f a0_4 a0_5 a0_6 a0_7).bind fun t277 => (if bt273.2 = 0 then (if bt275.2 = 0 then (if t269 = true then (if bt273.1 = true then (if bt275.1 = true then (if t277 ≤ 1 then ((bivouaclaw08_awake.f kj4).bind fun t278 => (some t278)) else ((bivouaclaw08_awake.f kj4).bind fun t279 => (some t279))) else (some false)) else (some false)) else (if t277 ≤ 1 then (some false) else ((bivouaclaw08_awake.f kj4).bind fun t280 => (some t280)))) else (some false)) else (some false))))) = some r := by rw [if_neg (show ¬ (false = true) by decide)] at H; exact H
    clear H
    have H := H1
    clear H1
    replace H := Option.bind_eq_some_iff.mp H
    obtain ⟨⟨t273, t274⟩, A500, H⟩ := H
    replace H : ((ray_Sees.f kj4 t260 t261 t262 t263 a0_4 a0_5 a0_6 a0_7 a0_8 (wrap64 (a0_9 + a1))).bind fun bt275 => ((bivouacref08_Long.f a0_4 a0_5 a0_6 a0_7).bind fun t277 => (if t274 = 0 then (if bt275.2 = 0 then (if t269 = true then (if t273 = true then (if bt275.1 = true then (if t277 ≤ 1 then ((bivouaclaw08_awake.f kj4).bind fun t278 => (some t278)) else ((bivouaclaw08_awake.f kj4).bind fun t279 => (some t279))) else (some false)) else (some false)) else (if t277 ≤ 1 then (some false) else ((bivouaclaw08_awake.f kj4).bind fun t280 => (some t280)))) else (some false)) else (some false)))) = some r := H
    have A50 := Aside0.mk A500
    clear A500
    replace H := Option.bind_eq_some_iff.mp H
    obtain ⟨⟨t275, t276⟩, A510, H⟩ := H
    replace H : ((bivouacref08_Long.f a0_4 a0_5 a0_6 a0_7).bind fun t277 => (if t274 = 0 then (if t276 = 0 then (if t269 = true then (if t273 = true then (if t275 = true then (if t277 ≤ 1 then ((bivouaclaw08_awake.f kj4).bind fun t278 => (some t278)) else ((bivouaclaw08_awake.f kj4).bind fun t279 => (some t279))) else (some false)) else (some false)) else (if t277 ≤ 1 then (some false) else ((bivouaclaw08_awake.f kj4).bind fun t280 => (some t280)))) else (some false)) else (some false))) = some r := H
    have A51 := Aside0.mk A510
    clear A510
    replace H := Option.bind_eq_some_iff.mp H
    obtain ⟨t277, A520, H⟩ := H
    replace H : (if t274 = 0 then (if t276 = 0 then (if t269 = true then (if t273 = true then (if t275 = true then (if t277 ≤ 1 then ((bivouaclaw08_awake.f kj4).bind fun t278 => (some t278)) else ((bivouaclaw08_awake.f kj4).bind fun t279 => (some t279))) else (some false)) else (some false)) else (if t277 ≤ 1 then (some false) else ((bivouaclaw08_awake.f kj4).bind fun t280 => (some t280)))) else (some false)) else (some false)) = some r := H
    have A52 := Aside0.mk A520
    clear A520
    by_cases c53 : t274 = 0
    ·
     rw [if_pos c53] at H
     have c53b0 : (t274 == 0) = true := beq_iff_eq.mpr c53
     have c53b1 : (t274 != 0) = false := bne_eq_false_iff_eq.mpr c53
     clear c53
     by_cases c54 : t276 = 0
     ·
      rw [if_pos c54] at H
      have c54b0 : (t276 == 0) = true := beq_iff_eq.mpr c54
      have c54b1 : (t276 != 0) = false := bne_eq_false_iff_eq.mpr c54
      clear c54
      by_cases c55 : t269 = true
      ·
       subst c55
       have H1 : (if t273 = true then (if t275 = true then (if t277 ≤ 1 then ((bivouaclaw08_awake.f kj4).bind fun t278 => (some t278)) else ((bivouaclaw08_awake.f kj4).bind fun t279 => (some t279))) else (some false)) else (some false)) = some r := by rw [if_pos rfl] at H; exact H
       clear H
       have H := H1
       clear H1
       by_cases c56 : t273 = true
       ·
        subst c56
        have H1 : (if t275 = true then (if t277 ≤ 1 then ((bivouaclaw08_awake.f kj4).bind fun t278 => (some t278)) else ((bivouaclaw08_awake.f kj4).bind fun t279 => (some t279))) else (some false)) = some r := by rw [if_pos rfl] at H; exact H
        clear H
        have H := H1
        clear H1
        by_cases c57 : t275 = true
        ·
         subst c57
         have H1 : (if t277 ≤ 1 then ((bivouaclaw08_awake.f kj4).bind fun t278 => (some t278)) else ((bivouaclaw08_awake.f kj4).bind fun t279 => (some t279))) = some r := by rw [if_pos rfl] at H; exact H
         clear H
         have H := H1
         clear H1
         by_cases c58 : t277 ≤ 1
         ·
          rw [if_pos c58] at H
          have c58b0 : decide (t277 ≤ 1) = true := decide_eq_true c58
          clear c58
          replace H := Option.bind_eq_some_iff.mp H
          obtain ⟨t278, A590, H⟩ := H
          replace H : (some t278) = some r := H
          have A59 := Aside0.mk A590
          clear A590
          obtain rfl := Option.some.inj H
          have hnb60 := NB266_259.out
          have hnc60 := NB259_266.out
          have hnb61 := NB266_267.out
          have hnc61 := NB267_266.out
          have hnb62 := NB266_268.out
          have hnc62 := NB268_266.out
          have hcz63_0 : wc.cell? ⟨gb266, 0, none⟩ = some (.int .i64 t260) := (blk_cell BK266.out 0).trans rfl
          have hcz63_1 : wc.cell? ⟨gb266, 1, none⟩ = some (.int .i64 t261) := (blk_cell BK266.out 1).trans rfl
          have hcz63_2 : wc.cell? ⟨gb266, 2, none⟩ = some (.int .i64 t262) := (blk_cell BK266.out 2).trans rfl
          have hcz63_3 : wc.cell? ⟨gb266, 3, none⟩ = some (.slice Ao12 t263.length co12) := (blk_cell BK266.out 3).trans rfl
          have hfz63_0 := blk_frozen BK266.out 0
          have hfz63_1 := blk_frozen BK266.out 1
          have hfz63_2 := blk_frozen BK266.out 2
          have hfz63_3 := blk_frozen BK266.out 3
          have hnb64 := NB267_259.out
          have hnc64 := NB259_267.out
          have hnb65 := NB267_268.out
          have hnc65 := NB268_267.out
          have hcz66_0 : wc.cell? ⟨gb267, 0, none⟩ = some (.int .i64 a0_4) := (blk_cell BK267.out 0).trans rfl
          have hcz66_1 : wc.cell? ⟨gb267, 1, none⟩ = some (.int .i64 a0_5) := (blk_cell BK267.out 1).trans rfl
          have hfz66_0 := blk_frozen BK267.out 0
          have hfz66_1 := blk_frozen BK267.out 1
          have hnb67 := NB268_259.out
          have hnc67 := NB259_268.out
          have hcz68_0 : wc.cell? ⟨gb268, 0, none⟩ = some (.int .i64 a0_6) := (blk_cell BK268.out 0).trans rfl
          have hcz68_1 : wc.cell? ⟨gb268, 1, none⟩ = some (.int .i64 a0_7) := (blk_cell BK268.out 1).trans rfl
          have hfz68_0 := blk_frozen BK268.out 0
          have hfz68_1 := blk_frozen BK268.out 1
          have hcz69_0 : wc.cell? ⟨gb259, 0, none⟩ = some (.int .i64 a0_0) := (blk_cell BK259.out 0).trans rfl
          have hcz69_1 : wc.cell? ⟨gb259, 1, none⟩ = some (.int .i64 a0_1) := (blk_cell BK259.out 1).trans rfl
          have hcz69_2 : wc.cell? ⟨gb259, 2, none⟩ = some (.int .i64 a0_2) := (blk_cell BK259.out 2).trans rfl
          have hcz69_3 : wc.cell? ⟨gb259, 3, none⟩ = some (.slice A0_3 l0_3.length c0_3) := (blk_cell BK259.out 3).trans rfl
          have hcz69_4 : wc.cell? ⟨gb259, 4, none⟩ = some (.int .i64 a0_4) := (blk_cell BK259.out 4).trans rfl
          have hcz69_5 : wc.cell? ⟨gb259, 5, none⟩ = some (.int .i64 a0_5) := (blk_cell BK259.out 5).trans rfl
          have hcz69_6 : wc.cell? ⟨gb259, 6, none⟩ = some (.int .i64 a0_6) := (blk_cell BK259.out 6).trans rfl
          have hcz69_7 : wc.cell? ⟨gb259, 7, none⟩ = some (.int .i64 a0_7) := (blk_cell BK259.out 7).trans rfl
          have hcz69_8 : wc.cell? ⟨gb259, 8, none⟩ = some (.int .i64 a0_8) := (blk_cell BK259.out 8).trans rfl
          have hcz69_9 : wc.cell? ⟨gb259, 9, none⟩ = some (.int .i64 a0_9) := (blk_cell BK259.out 9).trans rfl
          have hfz69_0 := blk_frozen BK259.out 0
          have hfz69_1 := blk_frozen BK259.out 1
          have hfz69_2 := blk_frozen BK259.out 2
          have hfz69_3 := blk_frozen BK259.out 3
          have hfz69_4 := blk_frozen BK259.out 4
          have hfz69_5 := blk_frozen BK259.out 5
          have hfz69_6 := blk_frozen BK259.out 6
          have hfz69_7 := blk_frozen BK259.out 7
          have hfz69_8 := blk_frozen BK259.out 8
          have hfz69_9 := blk_frozen BK259.out 9
          go_wp2_with (first | ((with_reducible refine gate_callee (f := 20) rfl ?_); refine goesL_ (some 78) rfl rfl Try.func20 (by kernel_rfl) rfl #[.agg #[.int .i64 t260, .int .i64 t261, .int .i64 t262, .slice Ao12 t263.length co12], .agg #[.int .i64 a0_4, .int .i64 a0_5], .agg #[.int .i64 a0_6, .int .i64 a0_7], .int .i64 (wrap64 (a0_8 + a1)), .int .i64 a0_9] rfl (by (try simp only [List.map_toArray, List.map_cons, List.map_nil]); first | done | rfl | (simp only [List.length_drop, List.length_take]; rfl)) ?_; (with_reducible refine (ray_Sees.calls kj4 t260 t261 t262 _ _ t263 a0_4 a0_5 a0_6 a0_7 (wrap64 (a0_8 + a1)) a0_9 true t274 _ ?side1 ?side2 A50.out).mono ?_); (case side1 => repeat (first | exact (Kd.V_reads' HO_267003.out).2.2 | (with_reducible refine Kd.C_alloc ?_ _) | (with_reducible refine Kd.C_drewN ?_ _) | (with_reducible refine Kd.C_drew ?_))); (case side2 => exact (Kd.V_reads' HO_267003.out).2.1); rintro e w70 ⟨rfl, hb⟩; refine ⟨_, rfl, ?_⟩; have n0_ := Aside0.mk (Kd.V_below (by (with_reducible repeat (first | apply Kd.V_alloc | apply Kd.V_drewN | apply Kd.V_drew)); exact HO_267003.out) hb); have n1_ := Aside0.mk (blk_below (g := gb259) (o := .cells #[.int .i64 a0_0, .int .i64 a0_1, .int .i64 a0_2, .slice A0_3 l0_3.length c0_3, .int .i64 a0_4, .int .i64 a0_5, .int .i64 a0_6, .int .i64 a0_7, .int .i64 a0_8, .int .i64 a0_9] 26 (0, 0)) (by (with_reducible repeat (first | refine blk_drewN ?_ _ | refine blk_drew ?_ | refine blk_alloc ?_ _)); exact BK259.out) hb); have n2_ := Aside0.mk (blk_below (g := gb266) (o := .cells #[.int .i64 t260, .int .i64 t261, .int .i64 t262, .slice Ao12 t263.length co12] 24 (0, 0)) (by (with_reducible repeat (first | refine blk_drewN ?_ _ | refine blk_drew ?_ | refine blk_alloc ?_ _)); exact BK266.out) hb); have n3_ := Aside0.mk (blk_below (g := gb267) (o := .cells #[.int .i64 a0_4, .int .i64 a0_5] 36 (0, 0)) (by (with_reducible repeat (first | refine blk_drewN ?_ _ | refine blk_drew ?_ | refine blk_alloc ?_ _)); exact BK267.out) hb); have n4_ := Aside0.mk (blk_below (g := gb268) (o := .cells #[.int .i64 a0_6, .int .i64 a0_7] 36 (0, 0)) (by (with_reducible repeat (first | refine blk_drewN ?_ _ | refine blk_drew ?_ | refine blk_alloc ?_ _)); exact BK268.out) hb); have n5_ := Aside0.mk (below_step (by repeat (first | (with_reducible first | exact HB.out | apply below_alloc | apply pw_below_drewN | apply below_drew1 | refine below_set ?_ GE259.out | refine below_set ?_ GE266.out | refine below_set ?_ GE267.out | refine below_set ?_ GE268.out) | exact HB.out)) hb); clear HO_267003; clear BK259; clear BK266; clear BK267; clear BK268; clear HB; have HO_267003 := n0_; have BK259 := n1_; have BK266 := n2_; have BK267 := n3_; have BK268 := n4_; have HB := n5_; clear n0_ n1_ n2_ n3_ n4_ n5_; (try clear hb); (try clear hb2); (try clear hk); (try clear hi); have hcz71_0 : w70.cell? ⟨gb266, 0, none⟩ = some (.int .i64 t260) := (blk_cell BK266.out 0).trans rfl; have hcz71_1 : w70.cell? ⟨gb266, 1, none⟩ = some (.int .i64 t261) := (blk_cell BK266.out 1).trans rfl; have hcz71_2 : w70.cell? ⟨gb266, 2, none⟩ = some (.int .i64 t262) := (blk_cell BK266.out 2).trans rfl; have hcz71_3 : w70.cell? ⟨gb266, 3, none⟩ = some (.slice Ao12 t263.length co12) := (blk_cell BK266.out 3).trans rfl; have hfz71_0 := blk_frozen BK266.out 0; have hfz71_1 := blk_frozen BK266.out 1; have hfz71_2 := blk_frozen BK266.out 2; have hfz71_3 := blk_frozen BK266.out 3; have hcz72_0 : w70.cell? ⟨gb267, 0, none⟩ = some (.int .i64 a0_4) := (blk_cell BK267.out 0).trans rfl; have hcz72_1 : w70.cell? ⟨gb267, 1, none⟩ = some (.int .i64 a0_5) := (blk_cell BK267.out 1).trans rfl; have hfz72_0 := blk_frozen BK267.out 0; have hfz72_1 := blk_frozen BK267.out 1; have hcz73_0 : w70.cell? ⟨gb268, 0, none⟩ = some (.int .i64 a0_6) := (blk_cell BK268.out 0).trans rfl; have hcz73_1 : w70.cell? ⟨gb268, 1, none⟩ = some (.int .i64 a0_7) := (blk_cell BK268.out 1).trans rfl; have hfz73_0 := blk_frozen BK268.out 0; have hfz73_1 := blk_frozen BK268.out 1; have hcz74_0 : w70.cell? ⟨gb259, 0, none⟩ = some (.int .i64 a0_0) := (blk_cell BK259.out 0).trans rfl; have hcz74_1 : w70.cell? ⟨gb259, 1, none⟩ = some (.int .i64 a0_1) := (blk_cell BK259.out 1).trans rfl; have hcz74_2 : w70.cell? ⟨gb259, 2, none⟩ = some (.int .i64 a0_2) := (blk_cell BK259.out 2).trans rfl; have hcz74_3 : w70.cell? ⟨gb259, 3, none⟩ = some (.slice A0_3 l0_3.length c0_3) := (blk_cell BK259.out 3).trans rfl; have hcz74_4 : w70.cell? ⟨gb259, 4, none⟩ = some (.int .i64 a0_4) := (blk_cell BK259.out 4).trans rfl; have hcz74_5 : w70.cell? ⟨gb259, 5, none⟩ = some (.int .i64 a0_5) := (blk_cell BK259.out 5).trans rfl; have hcz74_6 : w70.cell? ⟨gb259, 6, none⟩ = some (.int .i64 a0_6) := (blk_cell BK259.out 6).trans rfl; have hcz74_7 : w70.cell? ⟨gb259, 7, none⟩ = some (.int .i64 a0_7) := (blk_cell BK259.out 7).trans rfl; have hcz74_8 : w70.cell? ⟨gb259, 8, none⟩ = some (.int .i64 a0_8) := (blk_cell BK259.out 8).trans rfl; have hcz74_9 : w70.cell? ⟨gb259, 9, none⟩ = some (.int .i64 a0_9) := (blk_cell BK259.out 9).trans rfl; have hfz74_0 := blk_frozen BK259.out 0; have hfz74_1 := blk_frozen BK259.out 1; have hfz74_2 := blk_frozen BK259.out 2; have hfz74_3 := blk_frozen BK259.out 3; have hfz74_4 := blk_frozen BK259.out 4; have hfz74_5 := blk_frozen BK259.out 5; have hfz74_6 := blk_frozen BK259.out 6; have hfz74_7 := blk_frozen BK259.out 7; have hfz74_8 := blk_frozen BK259.out 8; have hfz74_9 := blk_frozen BK259.out 9) | ((with_reducible refine gate_callee (f := 20) rfl ?_); refine goesL_ (some 91) rfl rfl Try.func20 (by kernel_rfl) rfl #[.agg #[.int .i64 t260, .int .i64 t261, .int .i64 t262, .slice Ao12 t263.length co12], .agg #[.int .i64 a0_4, .int .i64 a0_5], .agg #[.int .i64 a0_6, .int .i64 a0_7], .int .i64 a0_8, .int .i64 (wrap64 (a0_9 + a1))] rfl (by (try simp only [List.map_toArray, List.map_cons, List.map_nil]); first | done | rfl | (simp only [List.length_drop, List.length_take]; rfl)) ?_; (with_reducible refine (ray_Sees.calls kj4 t260 t261 t262 _ _ t263 a0_4 a0_5 a0_6 a0_7 a0_8 (wrap64 (a0_9 + a1)) true t276 _ ?side1 ?side2 A51.out).mono ?_); (case side1 => repeat (first | exact (Kd.V_reads' HO_267003.out).2.2 | (with_reducible refine Kd.C_alloc ?_ _) | (with_reducible refine Kd.C_drewN ?_ _) | (with_reducible refine Kd.C_drew ?_))); (case side2 => exact (Kd.V_reads' HO_267003.out).2.1); rintro e w75 ⟨rfl, hb⟩; refine ⟨_, rfl, ?_⟩; have n0_ := Aside0.mk (Kd.V_below (by (with_reducible repeat (first | apply Kd.V_alloc | apply Kd.V_drewN | apply Kd.V_drew)); exact HO_267003.out) hb); have n1_ := Aside0.mk (blk_below (g := gb259) (o := .cells #[.int .i64 a0_0, .int .i64 a0_1, .int .i64 a0_2, .slice A0_3 l0_3.length c0_3, .int .i64 a0_4, .int .i64 a0_5, .int .i64 a0_6, .int .i64 a0_7, .int .i64 a0_8, .int .i64 a0_9] 26 (0, 0)) (by (with_reducible repeat (first | refine blk_drewN ?_ _ | refine blk_drew ?_ | refine blk_alloc ?_ _)); exact BK259.out) hb); have n2_ := Aside0.mk (blk_below (g := gb266) (o := .cells #[.int .i64 t260, .int .i64 t261, .int .i64 t262, .slice Ao12 t263.length co12] 24 (0, 0)) (by (with_reducible repeat (first | refine blk_drewN ?_ _ | refine blk_drew ?_ | refine blk_alloc ?_ _)); exact BK266.out) hb); have n3_ := Aside0.mk (blk_below (g := gb267) (o := .cells #[.int .i64 a0_4, .int .i64 a0_5] 36 (0, 0)) (by (with_reducible repeat (first | refine blk_drewN ?_ _ | refine blk_drew ?_ | refine blk_alloc ?_ _)); exact BK267.out) hb); have n4_ := Aside0.mk (blk_below (g := gb268) (o := .cells #[.int .i64 a0_6, .int .i64 a0_7] 36 (0, 0)) (by (with_reducible repeat (first | refine blk_drewN ?_ _ | refine blk_drew ?_ | refine blk_alloc ?_ _)); exact BK268.out) hb); have n5_ := Aside0.mk (below_step (by repeat (first | (with_reducible first | exact HB.out | apply below_alloc | apply pw_below_drewN | apply below_drew1 | refine below_set ?_ GE259.out | refine below_set ?_ GE266.out | refine below_set ?_ GE267.out | refine below_set ?_ GE268.out) | exact HB.out)) hb); clear HO_267003; clear BK259; clear BK266; clear BK267; clear BK268; clear HB; have HO_267003 := n0_; have BK259 := n1_; have BK266 := n2_; have BK267 := n3_; have BK268 := n4_; have HB := n5_; clear n0_ n1_ n2_ n3_ n4_ n5_; (try clear hb); (try clear hb2); (try clear hk); (try clear hi); have hcz76_0 : w75.cell? ⟨gb259, 0, none⟩ = some (.int .i64 a0_0) := (blk_cell BK259.out 0).trans rfl; have hcz76_1 : w75.cell? ⟨gb259, 1, none⟩ = some (.int .i64 a0_1) := (blk_cell BK259.out 1).trans rfl; have hcz76_2 : w75.cell? ⟨gb259, 2, none⟩ = some (.int .i64 a0_2) := (blk_cell BK259.out 2).trans rfl; have hcz76_3 : w75.cell? ⟨gb259, 3, none⟩ = some (.slice A0_3 l0_3.length c0_3) := (blk_cell BK259.out 3).trans rfl; have hcz76_4 : w75.cell? ⟨gb259, 4, none⟩ = some (.int .i64 a0_4) := (blk_cell BK259.out 4).trans rfl; have hcz76_5 : w75.cell? ⟨gb259, 5, none⟩ = some (.int .i64 a0_5) := (blk_cell BK259.out 5).trans rfl; have hcz76_6 : w75.cell? ⟨gb259, 6, none⟩ = some (.int .i64 a0_6) := (blk_cell BK259.out 6).trans rfl; have hcz76_7 : w75.cell? ⟨gb259, 7, none⟩ = some (.int .i64 a0_7) := (blk_cell BK259.out 7).trans rfl; have hcz76_8 : w75.cell? ⟨gb259, 8, none⟩ = some (.int .i64 a0_8) := (blk_cell BK259.out 8).trans rfl; have hcz76_9 : w75.cell? ⟨gb259, 9, none⟩ = some (.int .i64 a0_9) := (blk_cell BK259.out 9).trans rfl; have hfz76_0 := blk_frozen BK259.out 0; have hfz76_1 := blk_frozen BK259.out 1; have hfz76_2 := blk_frozen BK259.out 2; have hfz76_3 := blk_frozen BK259.out 3; have hfz76_4 := blk_frozen BK259.out 4; have hfz76_5 := blk_frozen BK259.out 5; have hfz76_6 := blk_frozen BK259.out 6; have hfz76_7 := blk_frozen BK259.out 7; have hfz76_8 := blk_frozen BK259.out 8; have hfz76_9 := blk_frozen BK259.out 9) | ((with_reducible refine gate_callee (f := 12) rfl ?_); refine goesL_ (some 102) rfl rfl Try.func12 (by kernel_rfl) rfl #[.int .i64 a0_4, .int .i64 a0_5, .int .i64 a0_6, .int .i64 a0_7] rfl (by (try simp only [List.map_toArray, List.map_cons, List.map_nil]); first | done | rfl | (simp only [List.length_drop, List.length_take]; rfl)) ?_; (with_reducible refine (bivouacref08_Long.calls a0_4 a0_5 a0_6 a0_7 t277 _ A52.out).mono ?_); rintro e w' ⟨rfl, ⟨nd, rfl⟩⟩; refine ⟨_, rfl, ?_⟩) | (go_at_call 11; (with_reducible refine (bivouaclaw08_awake.calls kj4  t278 _ A59.out).mono ?_); rintro e w77 ⟨rfl, hb⟩; have n0_ := Aside0.mk (Kd.V_below (by (with_reducible repeat (first | apply Kd.V_alloc | apply Kd.V_drewN | apply Kd.V_drew)); exact HO_267003.out) hb); have n1_ := Aside0.mk (blk_below (g := gb259) (o := .cells #[.int .i64 a0_0, .int .i64 a0_1, .int .i64 a0_2, .slice A0_3 l0_3.length c0_3, .int .i64 a0_4, .int .i64 a0_5, .int .i64 a0_6, .int .i64 a0_7, .int .i64 a0_8, .int .i64 a0_9] 26 (0, 0)) (by (with_reducible repeat (first | refine blk_drewN ?_ _ | refine blk_drew ?_ | refine blk_alloc ?_ _)); exact BK259.out) hb); have n2_ := Aside0.mk (blk_below (g := gb266) (o := .cells #[.int .i64 t260, .int .i64 t261, .int .i64 t262, .slice Ao12 t263.length co12] 24 (0, 0)) (by (with_reducible repeat (first | refine blk_drewN ?_ _ | refine blk_drew ?_ | refine blk_alloc ?_ _)); exact BK266.out) hb); have n3_ := Aside0.mk (blk_below (g := gb267) (o := .cells #[.int .i64 a0_4, .int .i64 a0_5] 36 (0, 0)) (by (with_reducible repeat (first | refine blk_drewN ?_ _ | refine blk_drew ?_ | refine blk_alloc ?_ _)); exact BK267.out) hb); have n4_ := Aside0.mk (blk_below (g := gb268) (o := .cells #[.int .i64 a0_6, .int .i64 a0_7] 36 (0, 0)) (by (with_reducible repeat (first | refine blk_drewN ?_ _ | refine blk_drew ?_ | refine blk_alloc ?_ _)); exact BK268.out) hb); have n5_ := Aside0.mk (below_step (by repeat (first | (with_reducible first | exact HB.out | apply below_alloc | apply pw_below_drewN | apply below_drew1 | refine below_set ?_ GE259.out | refine below_set ?_ GE266.out | refine below_set ?_ GE267.out | refine below_set ?_ GE268.out) | exact HB.out)) hb); clear HO_267003; clear BK259; clear BK266; clear BK267; clear BK268; clear HB; have HO_267003 := n0_; have BK259 := n1_; have BK266 := n2_; have BK267 := n3_; have BK268 := n4_; have HB := n5_; clear n0_ n1_ n2_ n3_ n4_ n5_; (try clear hb); (try clear hb2); (try clear hk); (try clear hi)))
          go_ret
          exact ⟨by first | rfl | (simp [errW_none, errW_some] <;> rfl) | (simp [*, errW_none, errW_some] <;> rfl) | (rw [Int.tdiv_eq_ediv_of_nonneg (by assumption)]; rfl), by repeat (first | (with_reducible first | exact HB.out | apply below_alloc | apply pw_below_drewN | apply below_drew1 | refine below_set ?_ GE259.out | refine below_set ?_ GE266.out | refine below_set ?_ GE267.out | refine below_set ?_ GE268.out) | exact HB.out)⟩
         ·
          rw [if_neg c58] at H
          have c58b0 : decide (t277 ≤ 1) = false := decide_eq_false c58
          clear c58
          replace H := Option.bind_eq_some_iff.mp H
          obtain ⟨t279, A780, H⟩ := H
          replace H : (some t279) = some r := H
          have A78 := Aside0.mk A780
          clear A780
          obtain rfl := Option.some.inj H
          have hnb79 := NB266_259.out
          have hnc79 := NB259_266.out
          have hnb80 := NB266_267.out
          have hnc80 := NB267_266.out
          have hnb81 := NB266_268.out
          have hnc81 := NB268_266.out
          have hcz82_0 : wc.cell? ⟨gb266, 0, none⟩ = some (.int .i64 t260) := (blk_cell BK266.out 0).trans rfl
          have hcz82_1 : wc.cell? ⟨gb266, 1, none⟩ = some (.int .i64 t261) := (blk_cell BK266.out 1).trans rfl
          have hcz82_2 : wc.cell? ⟨gb266, 2, none⟩ = some (.int .i64 t262) := (blk_cell BK266.out 2).trans rfl
          have hcz82_3 : wc.cell? ⟨gb266, 3, none⟩ = some (.slice Ao12 t263.length co12) := (blk_cell BK266.out 3).trans rfl
          have hfz82_0 := blk_frozen BK266.out 0
          have hfz82_1 := blk_frozen BK266.out 1
          have hfz82_2 := blk_frozen BK266.out 2
          have hfz82_3 := blk_frozen BK266.out 3
          have hnb83 := NB267_259.out
          have hnc83 := NB259_267.out
          have hnb84 := NB267_268.out
          have hnc84 := NB268_267.out
          have hcz85_0 : wc.cell? ⟨gb267, 0, none⟩ = some (.int .i64 a0_4) := (blk_cell BK267.out 0).trans rfl
          have hcz85_1 : wc.cell? ⟨gb267, 1, none⟩ = some (.int .i64 a0_5) := (blk_cell BK267.out 1).trans rfl
          have hfz85_0 := blk_frozen BK267.out 0
          have hfz85_1 := blk_frozen BK267.out 1
          have hnb86 := NB268_259.out
          have hnc86 := NB259_268.out
          have hcz87_0 : wc.cell? ⟨gb268, 0, none⟩ = some (.int .i64 a0_6) := (blk_cell BK268.out 0).trans rfl
          have hcz87_1 : wc.cell? ⟨gb268, 1, none⟩ = some (.int .i64 a0_7) := (blk_cell BK268.out 1).trans rfl
          have hfz87_0 := blk_frozen BK268.out 0
          have hfz87_1 := blk_frozen BK268.out 1
          have hcz88_0 : wc.cell? ⟨gb259, 0, none⟩ = some (.int .i64 a0_0) := (blk_cell BK259.out 0).trans rfl
          have hcz88_1 : wc.cell? ⟨gb259, 1, none⟩ = some (.int .i64 a0_1) := (blk_cell BK259.out 1).trans rfl
          have hcz88_2 : wc.cell? ⟨gb259, 2, none⟩ = some (.int .i64 a0_2) := (blk_cell BK259.out 2).trans rfl
          have hcz88_3 : wc.cell? ⟨gb259, 3, none⟩ = some (.slice A0_3 l0_3.length c0_3) := (blk_cell BK259.out 3).trans rfl
          have hcz88_4 : wc.cell? ⟨gb259, 4, none⟩ = some (.int .i64 a0_4) := (blk_cell BK259.out 4).trans rfl
          have hcz88_5 : wc.cell? ⟨gb259, 5, none⟩ = some (.int .i64 a0_5) := (blk_cell BK259.out 5).trans rfl
          have hcz88_6 : wc.cell? ⟨gb259, 6, none⟩ = some (.int .i64 a0_6) := (blk_cell BK259.out 6).trans rfl
          have hcz88_7 : wc.cell? ⟨gb259, 7, none⟩ = some (.int .i64 a0_7) := (blk_cell BK259.out 7).trans rfl
          have hcz88_8 : wc.cell? ⟨gb259, 8, none⟩ = some (.int .i64 a0_8) := (blk_cell BK259.out 8).trans rfl
          have hcz88_9 : wc.cell? ⟨gb259, 9, none⟩ = some (.int .i64 a0_9) := (blk_cell BK259.out 9).trans rfl
          have hfz88_0 := blk_frozen BK259.out 0
          have hfz88_1 := blk_frozen BK259.out 1
          have hfz88_2 := blk_frozen BK259.out 2
          have hfz88_3 := blk_frozen BK259.out 3
          have hfz88_4 := blk_frozen BK259.out 4
          have hfz88_5 := blk_frozen BK259.out 5
          have hfz88_6 := blk_frozen BK259.out 6
          have hfz88_7 := blk_frozen BK259.out 7
          have hfz88_8 := blk_frozen BK259.out 8
          have hfz88_9 := blk_frozen BK259.out 9
          go_wp2_with (first | ((with_reducible refine gate_callee (f := 20) rfl ?_); refine goesL_ (some 78) rfl rfl Try.func20 (by kernel_rfl) rfl #[.agg #[.int .i64 t260, .int .i64 t261, .int .i64 t262, .slice Ao12 t263.length co12], .agg #[.int .i64 a0_4, .int .i64 a0_5], .agg #[.int .i64 a0_6, .int .i64 a0_7], .int .i64 (wrap64 (a0_8 + a1)), .int .i64 a0_9] rfl (by (try simp only [List.map_toArray, List.map_cons, List.map_nil]); first | done | rfl | (simp only [List.length_drop, List.length_take]; rfl)) ?_; (with_reducible refine (ray_Sees.calls kj4 t260 t261 t262 _ _ t263 a0_4 a0_5 a0_6 a0_7 (wrap64 (a0_8 + a1)) a0_9 true t274 _ ?side1 ?side2 A50.out).mono ?_); (case side1 => repeat (first | exact (Kd.V_reads' HO_267003.out).2.2 | (with_reducible refine Kd.C_alloc ?_ _) | (with_reducible refine Kd.C_drewN ?_ _) | (with_reducible refine Kd.C_drew ?_))); (case side2 => exact (Kd.V_reads' HO_267003.out).2.1); rintro e w89 ⟨rfl, hb⟩; refine ⟨_, rfl, ?_⟩; have n0_ := Aside0.mk (Kd.V_below (by (with_reducible repeat (first | apply Kd.V_alloc | apply Kd.V_drewN | apply Kd.V_drew)); exact HO_267003.out) hb); have n1_ := Aside0.mk (blk_below (g := gb259) (o := .cells #[.int .i64 a0_0, .int .i64 a0_1, .int .i64 a0_2, .slice A0_3 l0_3.length c0_3, .int .i64 a0_4, .int .i64 a0_5, .int .i64 a0_6, .int .i64 a0_7, .int .i64 a0_8, .int .i64 a0_9] 26 (0, 0)) (by (with_reducible repeat (first | refine blk_drewN ?_ _ | refine blk_drew ?_ | refine blk_alloc ?_ _)); exact BK259.out) hb); have n2_ := Aside0.mk (blk_below (g := gb266) (o := .cells #[.int .i64 t260, .int .i64 t261, .int .i64 t262, .slice Ao12 t263.length co12] 24 (0, 0)) (by (with_reducible repeat (first | refine blk_drewN ?_ _ | refine blk_drew ?_ | refine blk_alloc ?_ _)); exact BK266.out) hb); have n3_ := Aside0.mk (blk_below (g := gb267) (o := .cells #[.int .i64 a0_4, .int .i64 a0_5] 36 (0, 0)) (by (with_reducible repeat (first | refine blk_drewN ?_ _ | refine blk_drew ?_ | refine blk_alloc ?_ _)); exact BK267.out) hb); have n4_ := Aside0.mk (blk_below (g := gb268) (o := .cells #[.int .i64 a0_6, .int .i64 a0_7] 36 (0, 0)) (by (with_reducible repeat (first | refine blk_drewN ?_ _ | refine blk_drew ?_ | refine blk_alloc ?_ _)); exact BK268.out) hb); have n5_ := Aside0.mk (below_step (by repeat (first | (with_reducible first | exact HB.out | apply below_alloc | apply pw_below_drewN | apply below_drew1 | refine below_set ?_ GE259.out | refine below_set ?_ GE266.out | refine below_set ?_ GE267.out | refine below_set ?_ GE268.out) | exact HB.out)) hb); clear HO_267003; clear BK259; clear BK266; clear BK267; clear BK268; clear HB; have HO_267003 := n0_; have BK259 := n1_; have BK266 := n2_; have BK267 := n3_; have BK268 := n4_; have HB := n5_; clear n0_ n1_ n2_ n3_ n4_ n5_; (try clear hb); (try clear hb2); (try clear hk); (try clear hi); have hcz90_0 : w89.cell? ⟨gb266, 0, none⟩ = some (.int .i64 t260) := (blk_cell BK266.out 0).trans rfl; have hcz90_1 : w89.cell? ⟨gb266, 1, none⟩ = some (.int .i64 t261) := (blk_cell BK266.out 1).trans rfl; have hcz90_2 : w89.cell? ⟨gb266, 2, none⟩ = some (.int .i64 t262) := (blk_cell BK266.out 2).trans rfl; have hcz90_3 : w89.cell? ⟨gb266, 3, none⟩ = some (.slice Ao12 t263.length co12) := (blk_cell BK266.out 3).trans rfl; have hfz90_0 := blk_frozen BK266.out 0; have hfz90_1 := blk_frozen BK266.out 1; have hfz90_2 := blk_frozen BK266.out 2; have hfz90_3 := blk_frozen BK266.out 3; have hcz91_0 : w89.cell? ⟨gb267, 0, none⟩ = some (.int .i64 a0_4) := (blk_cell BK267.out 0).trans rfl; have hcz91_1 : w89.cell? ⟨gb267, 1, none⟩ = some (.int .i64 a0_5) := (blk_cell BK267.out 1).trans rfl; have hfz91_0 := blk_frozen BK267.out 0; have hfz91_1 := blk_frozen BK267.out 1; have hcz92_0 : w89.cell? ⟨gb268, 0, none⟩ = some (.int .i64 a0_6) := (blk_cell BK268.out 0).trans rfl; have hcz92_1 : w89.cell? ⟨gb268, 1, none⟩ = some (.int .i64 a0_7) := (blk_cell BK268.out 1).trans rfl; have hfz92_0 := blk_frozen BK268.out 0; have hfz92_1 := blk_frozen BK268.out 1; have hcz93_0 : w89.cell? ⟨gb259, 0, none⟩ = some (.int .i64 a0_0) := (blk_cell BK259.out 0).trans rfl; have hcz93_1 : w89.cell? ⟨gb259, 1, none⟩ = some (.int .i64 a0_1) := (blk_cell BK259.out 1).trans rfl; have hcz93_2 : w89.cell? ⟨gb259, 2, none⟩ = some (.int .i64 a0_2) := (blk_cell BK259.out 2).trans rfl; have hcz93_3 : w89.cell? ⟨gb259, 3, none⟩ = some (.slice A0_3 l0_3.length c0_3) := (blk_cell BK259.out 3).trans rfl; have hcz93_4 : w89.cell? ⟨gb259, 4, none⟩ = some (.int .i64 a0_4) := (blk_cell BK259.out 4).trans rfl; have hcz93_5 : w89.cell? ⟨gb259, 5, none⟩ = some (.int .i64 a0_5) := (blk_cell BK259.out 5).trans rfl; have hcz93_6 : w89.cell? ⟨gb259, 6, none⟩ = some (.int .i64 a0_6) := (blk_cell BK259.out 6).trans rfl; have hcz93_7 : w89.cell? ⟨gb259, 7, none⟩ = some (.int .i64 a0_7) := (blk_cell BK259.out 7).trans rfl; have hcz93_8 : w89.cell? ⟨gb259, 8, none⟩ = some (.int .i64 a0_8) := (blk_cell BK259.out 8).trans rfl; have hcz93_9 : w89.cell? ⟨gb259, 9, none⟩ = some (.int .i64 a0_9) := (blk_cell BK259.out 9).trans rfl; have hfz93_0 := blk_frozen BK259.out 0; have hfz93_1 := blk_frozen BK259.out 1; have hfz93_2 := blk_frozen BK259.out 2; have hfz93_3 := blk_frozen BK259.out 3; have hfz93_4 := blk_frozen BK259.out 4; have hfz93_5 := blk_frozen BK259.out 5; have hfz93_6 := blk_frozen BK259.out 6; have hfz93_7 := blk_frozen BK259.out 7; have hfz93_8 := blk_frozen BK259.out 8; have hfz93_9 := blk_frozen BK259.out 9) | ((with_reducible refine gate_callee (f := 20) rfl ?_); refine goesL_ (some 91) rfl rfl Try.func20 (by kernel_rfl) rfl #[.agg #[.int .i64 t260, .int .i64 t261, .int .i64 t262, .slice Ao12 t263.length co12], .agg #[.int .i64 a0_4, .int .i64 a0_5], .agg #[.int .i64 a0_6, .int .i64 a0_7], .int .i64 a0_8, .int .i64 (wrap64 (a0_9 + a1))] rfl (by (try simp only [List.map_toArray, List.map_cons, List.map_nil]); first | done | rfl | (simp only [List.length_drop, List.length_take]; rfl)) ?_; (with_reducible refine (ray_Sees.calls kj4 t260 t261 t262 _ _ t263 a0_4 a0_5 a0_6 a0_7 a0_8 (wrap64 (a0_9 + a1)) true t276 _ ?side1 ?side2 A51.out).mono ?_); (case side1 => repeat (first | exact (Kd.V_reads' HO_267003.out).2.2 | (with_reducible refine Kd.C_alloc ?_ _) | (with_reducible refine Kd.C_drewN ?_ _) | (with_reducible refine Kd.C_drew ?_))); (case side2 => exact (Kd.V_reads' HO_267003.out).2.1); rintro e w94 ⟨rfl, hb⟩; refine ⟨_, rfl, ?_⟩; have n0_ := Aside0.mk (Kd.V_below (by (with_reducible repeat (first | apply Kd.V_alloc | apply Kd.V_drewN | apply Kd.V_drew)); exact HO_267003.out) hb); have n1_ := Aside0.mk (blk_below (g := gb259) (o := .cells #[.int .i64 a0_0, .int .i64 a0_1, .int .i64 a0_2, .slice A0_3 l0_3.length c0_3, .int .i64 a0_4, .int .i64 a0_5, .int .i64 a0_6, .int .i64 a0_7, .int .i64 a0_8, .int .i64 a0_9] 26 (0, 0)) (by (with_reducible repeat (first | refine blk_drewN ?_ _ | refine blk_drew ?_ | refine blk_alloc ?_ _)); exact BK259.out) hb); have n2_ := Aside0.mk (blk_below (g := gb266) (o := .cells #[.int .i64 t260, .int .i64 t261, .int .i64 t262, .slice Ao12 t263.length co12] 24 (0, 0)) (by (with_reducible repeat (first | refine blk_drewN ?_ _ | refine blk_drew ?_ | refine blk_alloc ?_ _)); exact BK266.out) hb); have n3_ := Aside0.mk (blk_below (g := gb267) (o := .cells #[.int .i64 a0_4, .int .i64 a0_5] 36 (0, 0)) (by (with_reducible repeat (first | refine blk_drewN ?_ _ | refine blk_drew ?_ | refine blk_alloc ?_ _)); exact BK267.out) hb); have n4_ := Aside0.mk (blk_below (g := gb268) (o := .cells #[.int .i64 a0_6, .int .i64 a0_7] 36 (0, 0)) (by (with_reducible repeat (first | refine blk_drewN ?_ _ | refine blk_drew ?_ | refine blk_alloc ?_ _)); exact BK268.out) hb); have n5_ := Aside0.mk (below_step (by repeat (first | (with_reducible first | exact HB.out | apply below_alloc | apply pw_below_drewN | apply below_drew1 | refine below_set ?_ GE259.out | refine below_set ?_ GE266.out | refine below_set ?_ GE267.out | refine below_set ?_ GE268.out) | exact HB.out)) hb); clear HO_267003; clear BK259; clear BK266; clear BK267; clear BK268; clear HB; have HO_267003 := n0_; have BK259 := n1_; have BK266 := n2_; have BK267 := n3_; have BK268 := n4_; have HB := n5_; clear n0_ n1_ n2_ n3_ n4_ n5_; (try clear hb); (try clear hb2); (try clear hk); (try clear hi); have hcz95_0 : w94.cell? ⟨gb259, 0, none⟩ = some (.int .i64 a0_0) := (blk_cell BK259.out 0).trans rfl; have hcz95_1 : w94.cell? ⟨gb259, 1, none⟩ = some (.int .i64 a0_1) := (blk_cell BK259.out 1).trans rfl; have hcz95_2 : w94.cell? ⟨gb259, 2, none⟩ = some (.int .i64 a0_2) := (blk_cell BK259.out 2).trans rfl; have hcz95_3 : w94.cell? ⟨gb259, 3, none⟩ = some (.slice A0_3 l0_3.length c0_3) := (blk_cell BK259.out 3).trans rfl; have hcz95_4 : w94.cell? ⟨gb259, 4, none⟩ = some (.int .i64 a0_4) := (blk_cell BK259.out 4).trans rfl; have hcz95_5 : w94.cell? ⟨gb259, 5, none⟩ = some (.int .i64 a0_5) := (blk_cell BK259.out 5).trans rfl; have hcz95_6 : w94.cell? ⟨gb259, 6, none⟩ = some (.int .i64 a0_6) := (blk_cell BK259.out 6).trans rfl; have hcz95_7 : w94.cell? ⟨gb259, 7, none⟩ = some (.int .i64 a0_7) := (blk_cell BK259.out 7).trans rfl; have hcz95_8 : w94.cell? ⟨gb259, 8, none⟩ = some (.int .i64 a0_8) := (blk_cell BK259.out 8).trans rfl; have hcz95_9 : w94.cell? ⟨gb259, 9, none⟩ = some (.int .i64 a0_9) := (blk_cell BK259.out 9).trans rfl; have hfz95_0 := blk_frozen BK259.out 0; have hfz95_1 := blk_frozen BK259.out 1; have hfz95_2 := blk_frozen BK259.out 2; have hfz95_3 := blk_frozen BK259.out 3; have hfz95_4 := blk_frozen BK259.out 4; have hfz95_5 := blk_frozen BK259.out 5; have hfz95_6 := blk_frozen BK259.out 6; have hfz95_7 := blk_frozen BK259.out 7; have hfz95_8 := blk_frozen BK259.out 8; have hfz95_9 := blk_frozen BK259.out 9) | ((with_reducible refine gate_callee (f := 12) rfl ?_); refine goesL_ (some 102) rfl rfl Try.func12 (by kernel_rfl) rfl #[.int .i64 a0_4, .int .i64 a0_5, .int .i64 a0_6, .int .i64 a0_7] rfl (by (try simp only [List.map_toArray, List.map_cons, List.map_nil]); first | done | rfl | (simp only [List.length_drop, List.length_take]; rfl)) ?_; (with_reducible refine (bivouacref08_Long.calls a0_4 a0_5 a0_6 a0_7 t277 _ A52.out).mono ?_); rintro e w' ⟨rfl, ⟨nd, rfl⟩⟩; refine ⟨_, rfl, ?_⟩) | (go_at_call 11; (with_reducible refine (bivouaclaw08_awake.calls kj4  t279 _ A78.out).mono ?_); rintro e w96 ⟨rfl, hb⟩; have n0_ := Aside0.mk (Kd.V_below (by (with_reducible repeat (first | apply Kd.V_alloc | apply Kd.V_drewN | apply Kd.V_drew)); exact HO_267003.out) hb); have n1_ := Aside0.mk (blk_below (g := gb259) (o := .cells #[.int .i64 a0_0, .int .i64 a0_1, .int .i64 a0_2, .slice A0_3 l0_3.length c0_3, .int .i64 a0_4, .int .i64 a0_5, .int .i64 a0_6, .int .i64 a0_7, .int .i64 a0_8, .int .i64 a0_9] 26 (0, 0)) (by (with_reducible repeat (first | refine blk_drewN ?_ _ | refine blk_drew ?_ | refine blk_alloc ?_ _)); exact BK259.out) hb); have n2_ := Aside0.mk (blk_below (g := gb266) (o := .cells #[.int .i64 t260, .int .i64 t261, .int .i64 t262, .slice Ao12 t263.length co12] 24 (0, 0)) (by (with_reducible repeat (first | refine blk_drewN ?_ _ | refine blk_drew ?_ | refine blk_alloc ?_ _)); exact BK266.out) hb); have n3_ := Aside0.mk (blk_below (g := gb267) (o := .cells #[.int .i64 a0_4, .int .i64 a0_5] 36 (0, 0)) (by (with_reducible repeat (first | refine blk_drewN ?_ _ | refine blk_drew ?_ | refine blk_alloc ?_ _)); exact BK267.out) hb); have n4_ := Aside0.mk (blk_below (g := gb268) (o := .cells #[.int .i64 a0_6, .int .i64 a0_7] 36 (0, 0)) (by (with_reducible repeat (first | refine blk_drewN ?_ _ | refine blk_drew ?_ | refine blk_alloc ?_ _)); exact BK268.out) hb); have n5_ := Aside0.mk (below_step (by repeat (first | (with_reducible first | exact HB.out | apply below_alloc | apply pw_below_drewN | apply below_drew1 | refine below_set ?_ GE259.out | refine below_set ?_ GE266.out | refine below_set ?_ GE267.out | refine below_set ?_ GE268.out) | exact HB.out)) hb); clear HO_267003; clear BK259; clear BK266; clear BK267; clear BK268; clear HB; have HO_267003 := n0_; have BK259 := n1_; have BK266 := n2_; have BK267 := n3_; have BK268 := n4_; have HB := n5_; clear n0_ n1_ n2_ n3_ n4_ n5_; (try clear hb); (try clear hb2); (try clear hk); (try clear hi)))
          go_ret
          exact ⟨by first | rfl | (simp [errW_none, errW_some] <;> rfl) | (simp [*, errW_none, errW_some] <;> rfl) | (rw [Int.tdiv_eq_ediv_of_nonneg (by assumption)]; rfl), by repeat (first | (with_reducible first | exact HB.out | apply below_alloc | apply pw_below_drewN | apply below_drew1 | refine below_set ?_ GE259.out | refine below_set ?_ GE266.out | refine below_set ?_ GE267.out | refine below_set ?_ GE268.out) | exact HB.out)⟩
        ·
         replace c57 := Bool.eq_false_iff.mpr c57
         subst c57
         have H1 : (some false) = some r := by rw [if_neg (show ¬ (false = true) by decide)] at H; exact H
         clear H
         have H := H1
         clear H1
         obtain rfl := Option.some.inj H
         have hnb97 := NB266_259.out
         have hnc97 := NB259_266.out
         have hnb98 := NB266_267.out
         have hnc98 := NB267_266.out
         have hnb99 := NB266_268.out
         have hnc99 := NB268_266.out
         have hcz100_0 : wc.cell? ⟨gb266, 0, none⟩ = some (.int .i64 t260) := (blk_cell BK266.out 0).trans rfl
         have hcz100_1 : wc.cell? ⟨gb266, 1, none⟩ = some (.int .i64 t261) := (blk_cell BK266.out 1).trans rfl
         have hcz100_2 : wc.cell? ⟨gb266, 2, none⟩ = some (.int .i64 t262) := (blk_cell BK266.out 2).trans rfl
         have hcz100_3 : wc.cell? ⟨gb266, 3, none⟩ = some (.slice Ao12 t263.length co12) := (blk_cell BK266.out 3).trans rfl
         have hfz100_0 := blk_frozen BK266.out 0
         have hfz100_1 := blk_frozen BK266.out 1
         have hfz100_2 := blk_frozen BK266.out 2
         have hfz100_3 := blk_frozen BK266.out 3
         have hnb101 := NB267_259.out
         have hnc101 := NB259_267.out
         have hnb102 := NB267_268.out
         have hnc102 := NB268_267.out
         have hcz103_0 : wc.cell? ⟨gb267, 0, none⟩ = some (.int .i64 a0_4) := (blk_cell BK267.out 0).trans rfl
         have hcz103_1 : wc.cell? ⟨gb267, 1, none⟩ = some (.int .i64 a0_5) := (blk_cell BK267.out 1).trans rfl
         have hfz103_0 := blk_frozen BK267.out 0
         have hfz103_1 := blk_frozen BK267.out 1
         have hnb104 := NB268_259.out
         have hnc104 := NB259_268.out
         have hcz105_0 : wc.cell? ⟨gb268, 0, none⟩ = some (.int .i64 a0_6) := (blk_cell BK268.out 0).trans rfl
         have hcz105_1 : wc.cell? ⟨gb268, 1, none⟩ = some (.int .i64 a0_7) := (blk_cell BK268.out 1).trans rfl
         have hfz105_0 := blk_frozen BK268.out 0
         have hfz105_1 := blk_frozen BK268.out 1
         have hcz106_0 : wc.cell? ⟨gb259, 0, none⟩ = some (.int .i64 a0_0) := (blk_cell BK259.out 0).trans rfl
         have hcz106_1 : wc.cell? ⟨gb259, 1, none⟩ = some (.int .i64 a0_1) := (blk_cell BK259.out 1).trans rfl
         have hcz106_2 : wc.cell? ⟨gb259, 2, none⟩ = some (.int .i64 a0_2) := (blk_cell BK259.out 2).trans rfl
         have hcz106_3 : wc.cell? ⟨gb259, 3, none⟩ = some (.slice A0_3 l0_3.length c0_3) := (blk_cell BK259.out 3).trans rfl
         have hcz106_4 : wc.cell? ⟨gb259, 4, none⟩ = some (.int .i64 a0_4) := (blk_cell BK259.out 4).trans rfl
         have hcz106_5 : wc.cell? ⟨gb259, 5, none⟩ = some (.int .i64 a0_5) := (blk_cell BK259.out 5).trans rfl
         have hcz106_6 : wc.cell? ⟨gb259, 6, none⟩ = some (.int .i64 a0_6) := (blk_cell BK259.out 6).trans rfl
         have hcz106_7 : wc.cell? ⟨gb259, 7, none⟩ = some (.int .i64 a0_7) := (blk_cell BK259.out 7).trans rfl
         have hcz106_8 : wc.cell? ⟨gb259, 8, none⟩ = some (.int .i64 a0_8) := (blk_cell BK259.out 8).trans rfl
         have hcz106_9 : wc.cell? ⟨gb259, 9, none⟩ = some (.int .i64 a0_9) := (blk_cell BK259.out 9).trans rfl
         have hfz106_0 := blk_frozen BK259.out 0
         have hfz106_1 := blk_frozen BK259.out 1
         have hfz106_2 := blk_frozen BK259.out 2
         have hfz106_3 := blk_frozen BK259.out 3
         have hfz106_4 := blk_frozen BK259.out 4
         have hfz106_5 := blk_frozen BK259.out 5
         have hfz106_6 := blk_frozen BK259.out 6
         have hfz106_7 := blk_frozen BK259.out 7
         have hfz106_8 := blk_frozen BK259.out 8
         have hfz106_9 := blk_frozen BK259.out 9
         go_wp2_with (first | ((with_reducible refine gate_callee (f := 20) rfl ?_); refine goesL_ (some 78) rfl rfl Try.func20 (by kernel_rfl) rfl #[.agg #[.int .i64 t260, .int .i64 t261, .int .i64 t262, .slice Ao12 t263.length co12], .agg #[.int .i64 a0_4, .int .i64 a0_5], .agg #[.int .i64 a0_6, .int .i64 a0_7], .int .i64 (wrap64 (a0_8 + a1)), .int .i64 a0_9] rfl (by (try simp only [List.map_toArray, List.map_cons, List.map_nil]); first | done | rfl | (simp only [List.length_drop, List.length_take]; rfl)) ?_; (with_reducible refine (ray_Sees.calls kj4 t260 t261 t262 _ _ t263 a0_4 a0_5 a0_6 a0_7 (wrap64 (a0_8 + a1)) a0_9 true t274 _ ?side1 ?side2 A50.out).mono ?_); (case side1 => repeat (first | exact (Kd.V_reads' HO_267003.out).2.2 | (with_reducible refine Kd.C_alloc ?_ _) | (with_reducible refine Kd.C_drewN ?_ _) | (with_reducible refine Kd.C_drew ?_))); (case side2 => exact (Kd.V_reads' HO_267003.out).2.1); rintro e w107 ⟨rfl, hb⟩; refine ⟨_, rfl, ?_⟩; have n0_ := Aside0.mk (Kd.V_below (by (with_reducible repeat (first | apply Kd.V_alloc | apply Kd.V_drewN | apply Kd.V_drew)); exact HO_267003.out) hb); have n1_ := Aside0.mk (blk_below (g := gb259) (o := .cells #[.int .i64 a0_0, .int .i64 a0_1, .int .i64 a0_2, .slice A0_3 l0_3.length c0_3, .int .i64 a0_4, .int .i64 a0_5, .int .i64 a0_6, .int .i64 a0_7, .int .i64 a0_8, .int .i64 a0_9] 26 (0, 0)) (by (with_reducible repeat (first | refine blk_drewN ?_ _ | refine blk_drew ?_ | refine blk_alloc ?_ _)); exact BK259.out) hb); have n2_ := Aside0.mk (blk_below (g := gb266) (o := .cells #[.int .i64 t260, .int .i64 t261, .int .i64 t262, .slice Ao12 t263.length co12] 24 (0, 0)) (by (with_reducible repeat (first | refine blk_drewN ?_ _ | refine blk_drew ?_ | refine blk_alloc ?_ _)); exact BK266.out) hb); have n3_ := Aside0.mk (blk_below (g := gb267) (o := .cells #[.int .i64 a0_4, .int .i64 a0_5] 36 (0, 0)) (by (with_reducible repeat (first | refine blk_drewN ?_ _ | refine blk_drew ?_ | refine blk_alloc ?_ _)); exact BK267.out) hb); have n4_ := Aside0.mk (blk_below (g := gb268) (o := .cells #[.int .i64 a0_6, .int .i64 a0_7] 36 (0, 0)) (by (with_reducible repeat (first | refine blk_drewN ?_ _ | refine blk_drew ?_ | refine blk_alloc ?_ _)); exact BK268.out) hb); have n5_ := Aside0.mk (below_step (by repeat (first | (with_reducible first | exact HB.out | apply below_alloc | apply pw_below_drewN | apply below_drew1 | refine below_set ?_ GE259.out | refine below_set ?_ GE266.out | refine below_set ?_ GE267.out | refine below_set ?_ GE268.out) | exact HB.out)) hb); clear HO_267003; clear BK259; clear BK266; clear BK267; clear BK268; clear HB; have HO_267003 := n0_; have BK259 := n1_; have BK266 := n2_; have BK267 := n3_; have BK268 := n4_; have HB := n5_; clear n0_ n1_ n2_ n3_ n4_ n5_; (try clear hb); (try clear hb2); (try clear hk); (try clear hi); have hcz108_0 : w107.cell? ⟨gb266, 0, none⟩ = some (.int .i64 t260) := (blk_cell BK266.out 0).trans rfl; have hcz108_1 : w107.cell? ⟨gb266, 1, none⟩ = some (.int .i64 t261) := (blk_cell BK266.out 1).trans rfl; have hcz108_2 : w107.cell? ⟨gb266, 2, none⟩ = some (.int .i64 t262) := (blk_cell BK266.out 2).trans rfl; have hcz108_3 : w107.cell? ⟨gb266, 3, none⟩ = some (.slice Ao12 t263.length co12) := (blk_cell BK266.out 3).trans rfl; have hfz108_0 := blk_frozen BK266.out 0; have hfz108_1 := blk_frozen BK266.out 1; have hfz108_2 := blk_frozen BK266.out 2; have hfz108_3 := blk_frozen BK266.out 3; have hcz109_0 : w107.cell? ⟨gb267, 0, none⟩ = some (.int .i64 a0_4) := (blk_cell BK267.out 0).trans rfl; have hcz109_1 : w107.cell? ⟨gb267, 1, none⟩ = some (.int .i64 a0_5) := (blk_cell BK267.out 1).trans rfl; have hfz109_0 := blk_frozen BK267.out 0; have hfz109_1 := blk_frozen BK267.out 1; have hcz110_0 : w107.cell? ⟨gb268, 0, none⟩ = some (.int .i64 a0_6) := (blk_cell BK268.out 0).trans rfl; have hcz110_1 : w107.cell? ⟨gb268, 1, none⟩ = some (.int .i64 a0_7) := (blk_cell BK268.out 1).trans rfl; have hfz110_0 := blk_frozen BK268.out 0; have hfz110_1 := blk_frozen BK268.out 1; have hcz111_0 : w107.cell? ⟨gb259, 0, none⟩ = some (.int .i64 a0_0) := (blk_cell BK259.out 0).trans rfl; have hcz111_1 : w107.cell? ⟨gb259, 1, none⟩ = some (.int .i64 a0_1) := (blk_cell BK259.out 1).trans rfl; have hcz111_2 : w107.cell? ⟨gb259, 2, none⟩ = some (.int .i64 a0_2) := (blk_cell BK259.out 2).trans rfl; have hcz111_3 : w107.cell? ⟨gb259, 3, none⟩ = some (.slice A0_3 l0_3.length c0_3) := (blk_cell BK259.out 3).trans rfl; have hcz111_4 : w107.cell? ⟨gb259, 4, none⟩ = some (.int .i64 a0_4) := (blk_cell BK259.out 4).trans rfl; have hcz111_5 : w107.cell? ⟨gb259, 5, none⟩ = some (.int .i64 a0_5) := (blk_cell BK259.out 5).trans rfl; have hcz111_6 : w107.cell? ⟨gb259, 6, none⟩ = some (.int .i64 a0_6) := (blk_cell BK259.out 6).trans rfl; have hcz111_7 : w107.cell? ⟨gb259, 7, none⟩ = some (.int .i64 a0_7) := (blk_cell BK259.out 7).trans rfl; have hcz111_8 : w107.cell? ⟨gb259, 8, none⟩ = some (.int .i64 a0_8) := (blk_cell BK259.out 8).trans rfl; have hcz111_9 : w107.cell? ⟨gb259, 9, none⟩ = some (.int .i64 a0_9) := (blk_cell BK259.out 9).trans rfl; have hfz111_0 := blk_frozen BK259.out 0; have hfz111_1 := blk_frozen BK259.out 1; have hfz111_2 := blk_frozen BK259.out 2; have hfz111_3 := blk_frozen BK259.out 3; have hfz111_4 := blk_frozen BK259.out 4; have hfz111_5 := blk_frozen BK259.out 5; have hfz111_6 := blk_frozen BK259.out 6; have hfz111_7 := blk_frozen BK259.out 7; have hfz111_8 := blk_frozen BK259.out 8; have hfz111_9 := blk_frozen BK259.out 9) | ((with_reducible refine gate_callee (f := 20) rfl ?_); refine goesL_ (some 91) rfl rfl Try.func20 (by kernel_rfl) rfl #[.agg #[.int .i64 t260, .int .i64 t261, .int .i64 t262, .slice Ao12 t263.length co12], .agg #[.int .i64 a0_4, .int .i64 a0_5], .agg #[.int .i64 a0_6, .int .i64 a0_7], .int .i64 a0_8, .int .i64 (wrap64 (a0_9 + a1))] rfl (by (try simp only [List.map_toArray, List.map_cons, List.map_nil]); first | done | rfl | (simp only [List.length_drop, List.length_take]; rfl)) ?_; (with_reducible refine (ray_Sees.calls kj4 t260 t261 t262 _ _ t263 a0_4 a0_5 a0_6 a0_7 a0_8 (wrap64 (a0_9 + a1)) false t276 _ ?side1 ?side2 A51.out).mono ?_); (case side1 => repeat (first | exact (Kd.V_reads' HO_267003.out).2.2 | (with_reducible refine Kd.C_alloc ?_ _) | (with_reducible refine Kd.C_drewN ?_ _) | (with_reducible refine Kd.C_drew ?_))); (case side2 => exact (Kd.V_reads' HO_267003.out).2.1); rintro e w112 ⟨rfl, hb⟩; refine ⟨_, rfl, ?_⟩; have n0_ := Aside0.mk (Kd.V_below (by (with_reducible repeat (first | apply Kd.V_alloc | apply Kd.V_drewN | apply Kd.V_drew)); exact HO_267003.out) hb); have n1_ := Aside0.mk (blk_below (g := gb259) (o := .cells #[.int .i64 a0_0, .int .i64 a0_1, .int .i64 a0_2, .slice A0_3 l0_3.length c0_3, .int .i64 a0_4, .int .i64 a0_5, .int .i64 a0_6, .int .i64 a0_7, .int .i64 a0_8, .int .i64 a0_9] 26 (0, 0)) (by (with_reducible repeat (first | refine blk_drewN ?_ _ | refine blk_drew ?_ | refine blk_alloc ?_ _)); exact BK259.out) hb); have n2_ := Aside0.mk (blk_below (g := gb266) (o := .cells #[.int .i64 t260, .int .i64 t261, .int .i64 t262, .slice Ao12 t263.length co12] 24 (0, 0)) (by (with_reducible repeat (first | refine blk_drewN ?_ _ | refine blk_drew ?_ | refine blk_alloc ?_ _)); exact BK266.out) hb); have n3_ := Aside0.mk (blk_below (g := gb267) (o := .cells #[.int .i64 a0_4, .int .i64 a0_5] 36 (0, 0)) (by (with_reducible repeat (first | refine blk_drewN ?_ _ | refine blk_drew ?_ | refine blk_alloc ?_ _)); exact BK267.out) hb); have n4_ := Aside0.mk (blk_below (g := gb268) (o := .cells #[.int .i64 a0_6, .int .i64 a0_7] 36 (0, 0)) (by (with_reducible repeat (first | refine blk_drewN ?_ _ | refine blk_drew ?_ | refine blk_alloc ?_ _)); exact BK268.out) hb); have n5_ := Aside0.mk (below_step (by repeat (first | (with_reducible first | exact HB.out | apply below_alloc | apply pw_below_drewN | apply below_drew1 | refine below_set ?_ GE259.out | refine below_set ?_ GE266.out | refine below_set ?_ GE267.out | refine below_set ?_ GE268.out) | exact HB.out)) hb); clear HO_267003; clear BK259; clear BK266; clear BK267; clear BK268; clear HB; have HO_267003 := n0_; have BK259 := n1_; have BK266 := n2_; have BK267 := n3_; have BK268 := n4_; have HB := n5_; clear n0_ n1_ n2_ n3_ n4_ n5_; (try clear hb); (try clear hb2); (try clear hk); (try clear hi); have hcz113_0 : w112.cell? ⟨gb259, 0, none⟩ = some (.int .i64 a0_0) := (blk_cell BK259.out 0).trans rfl; have hcz113_1 : w112.cell? ⟨gb259, 1, none⟩ = some (.int .i64 a0_1) := (blk_cell BK259.out 1).trans rfl; have hcz113_2 : w112.cell? ⟨gb259, 2, none⟩ = some (.int .i64 a0_2) := (blk_cell BK259.out 2).trans rfl; have hcz113_3 : w112.cell? ⟨gb259, 3, none⟩ = some (.slice A0_3 l0_3.length c0_3) := (blk_cell BK259.out 3).trans rfl; have hcz113_4 : w112.cell? ⟨gb259, 4, none⟩ = some (.int .i64 a0_4) := (blk_cell BK259.out 4).trans rfl; have hcz113_5 : w112.cell? ⟨gb259, 5, none⟩ = some (.int .i64 a0_5) := (blk_cell BK259.out 5).trans rfl; have hcz113_6 : w112.cell? ⟨gb259, 6, none⟩ = some (.int .i64 a0_6) := (blk_cell BK259.out 6).trans rfl; have hcz113_7 : w112.cell? ⟨gb259, 7, none⟩ = some (.int .i64 a0_7) := (blk_cell BK259.out 7).trans rfl; have hcz113_8 : w112.cell? ⟨gb259, 8, none⟩ = some (.int .i64 a0_8) := (blk_cell BK259.out 8).trans rfl; have hcz113_9 : w112.cell? ⟨gb259, 9, none⟩ = some (.int .i64 a0_9) := (blk_cell BK259.out 9).trans rfl; have hfz113_0 := blk_frozen BK259.out 0; have hfz113_1 := blk_frozen BK259.out 1; have hfz113_2 := blk_frozen BK259.out 2; have hfz113_3 := blk_frozen BK259.out 3; have hfz113_4 := blk_frozen BK259.out 4; have hfz113_5 := blk_frozen BK259.out 5; have hfz113_6 := blk_frozen BK259.out 6; have hfz113_7 := blk_frozen BK259.out 7; have hfz113_8 := blk_frozen BK259.out 8; have hfz113_9 := blk_frozen BK259.out 9) | ((with_reducible refine gate_callee (f := 12) rfl ?_); refine goesL_ (some 102) rfl rfl Try.func12 (by kernel_rfl) rfl #[.int .i64 a0_4, .int .i64 a0_5, .int .i64 a0_6, .int .i64 a0_7] rfl (by (try simp only [List.map_toArray, List.map_cons, List.map_nil]); first | done | rfl | (simp only [List.length_drop, List.length_take]; rfl)) ?_; (with_reducible refine (bivouacref08_Long.calls a0_4 a0_5 a0_6 a0_7 t277 _ A52.out).mono ?_); rintro e w' ⟨rfl, ⟨nd, rfl⟩⟩; refine ⟨_, rfl, ?_⟩))
         go_ret
         exact ⟨by first | rfl | (simp [errW_none, errW_some] <;> rfl) | (simp [*, errW_none, errW_some] <;> rfl) | (rw [Int.tdiv_eq_ediv_of_nonneg (by assumption)]; rfl), by repeat (first | (with_reducible first | exact HB.out | apply below_alloc | apply pw_below_drewN | apply below_drew1 | refine below_set ?_ GE259.out | refine below_set ?_ GE266.out | refine below_set ?_ GE267.out | refine below_set ?_ GE268.out) | exact HB.out)⟩
       ·
        replace c56 := Bool.eq_false_iff.mpr c56
        subst c56
        have H1 : (some false) = some r := by rw [if_neg (show ¬ (false = true) by decide)] at H; exact H
        clear H
        have H := H1
        clear H1
        obtain rfl := Option.some.inj H
        have hnb114 := NB266_259.out
        have hnc114 := NB259_266.out
        have hnb115 := NB266_267.out
        have hnc115 := NB267_266.out
        have hnb116 := NB266_268.out
        have hnc116 := NB268_266.out
        have hcz117_0 : wc.cell? ⟨gb266, 0, none⟩ = some (.int .i64 t260) := (blk_cell BK266.out 0).trans rfl
        have hcz117_1 : wc.cell? ⟨gb266, 1, none⟩ = some (.int .i64 t261) := (blk_cell BK266.out 1).trans rfl
        have hcz117_2 : wc.cell? ⟨gb266, 2, none⟩ = some (.int .i64 t262) := (blk_cell BK266.out 2).trans rfl
        have hcz117_3 : wc.cell? ⟨gb266, 3, none⟩ = some (.slice Ao12 t263.length co12) := (blk_cell BK266.out 3).trans rfl
        have hfz117_0 := blk_frozen BK266.out 0
        have hfz117_1 := blk_frozen BK266.out 1
        have hfz117_2 := blk_frozen BK266.out 2
        have hfz117_3 := blk_frozen BK266.out 3
        have hnb118 := NB267_259.out
        have hnc118 := NB259_267.out
        have hnb119 := NB267_268.out
        have hnc119 := NB268_267.out
        have hcz120_0 : wc.cell? ⟨gb267, 0, none⟩ = some (.int .i64 a0_4) := (blk_cell BK267.out 0).trans rfl
        have hcz120_1 : wc.cell? ⟨gb267, 1, none⟩ = some (.int .i64 a0_5) := (blk_cell BK267.out 1).trans rfl
        have hfz120_0 := blk_frozen BK267.out 0
        have hfz120_1 := blk_frozen BK267.out 1
        have hnb121 := NB268_259.out
        have hnc121 := NB259_268.out
        have hcz122_0 : wc.cell? ⟨gb268, 0, none⟩ = some (.int .i64 a0_6) := (blk_cell BK268.out 0).trans rfl
        have hcz122_1 : wc.cell? ⟨gb268, 1, none⟩ = some (.int .i64 a0_7) := (blk_cell BK268.out 1).trans rfl
        have hfz122_0 := blk_frozen BK268.out 0
        have hfz122_1 := blk_frozen BK268.out 1
        have hcz123_0 : wc.cell? ⟨gb259, 0, none⟩ = some (.int .i64 a0_0) := (blk_cell BK259.out 0).trans rfl
        have hcz123_1 : wc.cell? ⟨gb259, 1, none⟩ = some (.int .i64 a0_1) := (blk_cell BK259.out 1).trans rfl
        have hcz123_2 : wc.cell? ⟨gb259, 2, none⟩ = some (.int .i64 a0_2) := (blk_cell BK259.out 2).trans rfl
        have hcz123_3 : wc.cell? ⟨gb259, 3, none⟩ = some (.slice A0_3 l0_3.length c0_3) := (blk_cell BK259.out 3).trans rfl
        have hcz123_4 : wc.cell? ⟨gb259, 4, none⟩ = some (.int .i64 a0_4) := (blk_cell BK259.out 4).trans rfl
        have hcz123_5 : wc.cell? ⟨gb259, 5, none⟩ = some (.int .i64 a0_5) := (blk_cell BK259.out 5).trans rfl
        have hcz123_6 : wc.cell? ⟨gb259, 6, none⟩ = some (.int .i64 a0_6) := (blk_cell BK259.out 6).trans rfl
        have hcz123_7 : wc.cell? ⟨gb259, 7, none⟩ = some (.int .i64 a0_7) := (blk_cell BK259.out 7).trans rfl
        have hcz123_8 : wc.cell? ⟨gb259, 8, none⟩ = some (.int .i64 a0_8) := (blk_cell BK259.out 8).trans rfl
        have hcz123_9 : wc.cell? ⟨gb259, 9, none⟩ = some (.int .i64 a0_9) := (blk_cell BK259.out 9).trans rfl
        have hfz123_0 := blk_frozen BK259.out 0
        have hfz123_1 := blk_frozen BK259.out 1
        have hfz123_2 := blk_frozen BK259.out 2
        have hfz123_3 := blk_frozen BK259.out 3
        have hfz123_4 := blk_frozen BK259.out 4
        have hfz123_5 := blk_frozen BK259.out 5
        have hfz123_6 := blk_frozen BK259.out 6
        have hfz123_7 := blk_frozen BK259.out 7
        have hfz123_8 := blk_frozen BK259.out 8
        have hfz123_9 := blk_frozen BK259.out 9
        go_wp2_with (first | ((with_reducible refine gate_callee (f := 20) rfl ?_); refine goesL_ (some 78) rfl rfl Try.func20 (by kernel_rfl) rfl #[.agg #[.int .i64 t260, .int .i64 t261, .int .i64 t262, .slice Ao12 t263.length co12], .agg #[.int .i64 a0_4, .int .i64 a0_5], .agg #[.int .i64 a0_6, .int .i64 a0_7], .int .i64 (wrap64 (a0_8 + a1)), .int .i64 a0_9] rfl (by (try simp only [List.map_toArray, List.map_cons, List.map_nil]); first | done | rfl | (simp only [List.length_drop, List.length_take]; rfl)) ?_; (with_reducible refine (ray_Sees.calls kj4 t260 t261 t262 _ _ t263 a0_4 a0_5 a0_6 a0_7 (wrap64 (a0_8 + a1)) a0_9 false t274 _ ?side1 ?side2 A50.out).mono ?_); (case side1 => repeat (first | exact (Kd.V_reads' HO_267003.out).2.2 | (with_reducible refine Kd.C_alloc ?_ _) | (with_reducible refine Kd.C_drewN ?_ _) | (with_reducible refine Kd.C_drew ?_))); (case side2 => exact (Kd.V_reads' HO_267003.out).2.1); rintro e w124 ⟨rfl, hb⟩; refine ⟨_, rfl, ?_⟩; have n0_ := Aside0.mk (Kd.V_below (by (with_reducible repeat (first | apply Kd.V_alloc | apply Kd.V_drewN | apply Kd.V_drew)); exact HO_267003.out) hb); have n1_ := Aside0.mk (blk_below (g := gb259) (o := .cells #[.int .i64 a0_0, .int .i64 a0_1, .int .i64 a0_2, .slice A0_3 l0_3.length c0_3, .int .i64 a0_4, .int .i64 a0_5, .int .i64 a0_6, .int .i64 a0_7, .int .i64 a0_8, .int .i64 a0_9] 26 (0, 0)) (by (with_reducible repeat (first | refine blk_drewN ?_ _ | refine blk_drew ?_ | refine blk_alloc ?_ _)); exact BK259.out) hb); have n2_ := Aside0.mk (blk_below (g := gb266) (o := .cells #[.int .i64 t260, .int .i64 t261, .int .i64 t262, .slice Ao12 t263.length co12] 24 (0, 0)) (by (with_reducible repeat (first | refine blk_drewN ?_ _ | refine blk_drew ?_ | refine blk_alloc ?_ _)); exact BK266.out) hb); have n3_ := Aside0.mk (blk_below (g := gb267) (o := .cells #[.int .i64 a0_4, .int .i64 a0_5] 36 (0, 0)) (by (with_reducible repeat (first | refine blk_drewN ?_ _ | refine blk_drew ?_ | refine blk_alloc ?_ _)); exact BK267.out) hb); have n4_ := Aside0.mk (blk_below (g := gb268) (o := .cells #[.int .i64 a0_6, .int .i64 a0_7] 36 (0, 0)) (by (with_reducible repeat (first | refine blk_drewN ?_ _ | refine blk_drew ?_ | refine blk_alloc ?_ _)); exact BK268.out) hb); have n5_ := Aside0.mk (below_step (by repeat (first | (with_reducible first | exact HB.out | apply below_alloc | apply pw_below_drewN | apply below_drew1 | refine below_set ?_ GE259.out | refine below_set ?_ GE266.out | refine below_set ?_ GE267.out | refine below_set ?_ GE268.out) | exact HB.out)) hb); clear HO_267003; clear BK259; clear BK266; clear BK267; clear BK268; clear HB; have HO_267003 := n0_; have BK259 := n1_; have BK266 := n2_; have BK267 := n3_; have BK268 := n4_; have HB := n5_; clear n0_ n1_ n2_ n3_ n4_ n5_; (try clear hb); (try clear hb2); (try clear hk); (try clear hi); have hcz125_0 : w124.cell? ⟨gb266, 0, none⟩ = some (.int .i64 t260) := (blk_cell BK266.out 0).trans rfl; have hcz125_1 : w124.cell? ⟨gb266, 1, none⟩ = some (.int .i64 t261) := (blk_cell BK266.out 1).trans rfl; have hcz125_2 : w124.cell? ⟨gb266, 2, none⟩ = some (.int .i64 t262) := (blk_cell BK266.out 2).trans rfl; have hcz125_3 : w124.cell? ⟨gb266, 3, none⟩ = some (.slice Ao12 t263.length co12) := (blk_cell BK266.out 3).trans rfl; have hfz125_0 := blk_frozen BK266.out 0; have hfz125_1 := blk_frozen BK266.out 1; have hfz125_2 := blk_frozen BK266.out 2; have hfz125_3 := blk_frozen BK266.out 3; have hcz126_0 : w124.cell? ⟨gb267, 0, none⟩ = some (.int .i64 a0_4) := (blk_cell BK267.out 0).trans rfl; have hcz126_1 : w124.cell? ⟨gb267, 1, none⟩ = some (.int .i64 a0_5) := (blk_cell BK267.out 1).trans rfl; have hfz126_0 := blk_frozen BK267.out 0; have hfz126_1 := blk_frozen BK267.out 1; have hcz127_0 : w124.cell? ⟨gb268, 0, none⟩ = some (.int .i64 a0_6) := (blk_cell BK268.out 0).trans rfl; have hcz127_1 : w124.cell? ⟨gb268, 1, none⟩ = some (.int .i64 a0_7) := (blk_cell BK268.out 1).trans rfl; have hfz127_0 := blk_frozen BK268.out 0; have hfz127_1 := blk_frozen BK268.out 1; have hcz128_0 : w124.cell? ⟨gb259, 0, none⟩ = some (.int .i64 a0_0) := (blk_cell BK259.out 0).trans rfl; have hcz128_1 : w124.cell? ⟨gb259, 1, none⟩ = some (.int .i64 a0_1) := (blk_cell BK259.out 1).trans rfl; have hcz128_2 : w124.cell? ⟨gb259, 2, none⟩ = some (.int .i64 a0_2) := (blk_cell BK259.out 2).trans rfl; have hcz128_3 : w124.cell? ⟨gb259, 3, none⟩ = some (.slice A0_3 l0_3.length c0_3) := (blk_cell BK259.out 3).trans rfl; have hcz128_4 : w124.cell? ⟨gb259, 4, none⟩ = some (.int .i64 a0_4) := (blk_cell BK259.out 4).trans rfl; have hcz128_5 : w124.cell? ⟨gb259, 5, none⟩ = some (.int .i64 a0_5) := (blk_cell BK259.out 5).trans rfl; have hcz128_6 : w124.cell? ⟨gb259, 6, none⟩ = some (.int .i64 a0_6) := (blk_cell BK259.out 6).trans rfl; have hcz128_7 : w124.cell? ⟨gb259, 7, none⟩ = some (.int .i64 a0_7) := (blk_cell BK259.out 7).trans rfl; have hcz128_8 : w124.cell? ⟨gb259, 8, none⟩ = some (.int .i64 a0_8) := (blk_cell BK259.out 8).trans rfl; have hcz128_9 : w124.cell? ⟨gb259, 9, none⟩ = some (.int .i64 a0_9) := (blk_cell BK259.out 9).trans rfl; have hfz128_0 := blk_frozen BK259.out 0; have hfz128_1 := blk_frozen BK259.out 1; have hfz128_2 := blk_frozen BK259.out 2; have hfz128_3 := blk_frozen BK259.out 3; have hfz128_4 := blk_frozen BK259.out 4; have hfz128_5 := blk_frozen BK259.out 5; have hfz128_6 := blk_frozen BK259.out 6; have hfz128_7 := blk_frozen BK259.out 7; have hfz128_8 := blk_frozen BK259.out 8; have hfz128_9 := blk_frozen BK259.out 9) | ((with_reducible refine gate_callee (f := 20) rfl ?_); refine goesL_ (some 91) rfl rfl Try.func20 (by kernel_rfl) rfl #[.agg #[.int .i64 t260, .int .i64 t261, .int .i64 t262, .slice Ao12 t263.length co12], .agg #[.int .i64 a0_4, .int .i64 a0_5], .agg #[.int .i64 a0_6, .int .i64 a0_7], .int .i64 a0_8, .int .i64 (wrap64 (a0_9 + a1))] rfl (by (try simp only [List.map_toArray, List.map_cons, List.map_nil]); first | done | rfl | (simp only [List.length_drop, List.length_take]; rfl)) ?_; (with_reducible refine (ray_Sees.calls kj4 t260 t261 t262 _ _ t263 a0_4 a0_5 a0_6 a0_7 a0_8 (wrap64 (a0_9 + a1)) t275 t276 _ ?side1 ?side2 A51.out).mono ?_); (case side1 => repeat (first | exact (Kd.V_reads' HO_267003.out).2.2 | (with_reducible refine Kd.C_alloc ?_ _) | (with_reducible refine Kd.C_drewN ?_ _) | (with_reducible refine Kd.C_drew ?_))); (case side2 => exact (Kd.V_reads' HO_267003.out).2.1); rintro e w129 ⟨rfl, hb⟩; refine ⟨_, rfl, ?_⟩; have n0_ := Aside0.mk (Kd.V_below (by (with_reducible repeat (first | apply Kd.V_alloc | apply Kd.V_drewN | apply Kd.V_drew)); exact HO_267003.out) hb); have n1_ := Aside0.mk (blk_below (g := gb259) (o := .cells #[.int .i64 a0_0, .int .i64 a0_1, .int .i64 a0_2, .slice A0_3 l0_3.length c0_3, .int .i64 a0_4, .int .i64 a0_5, .int .i64 a0_6, .int .i64 a0_7, .int .i64 a0_8, .int .i64 a0_9] 26 (0, 0)) (by (with_reducible repeat (first | refine blk_drewN ?_ _ | refine blk_drew ?_ | refine blk_alloc ?_ _)); exact BK259.out) hb); have n2_ := Aside0.mk (blk_below (g := gb266) (o := .cells #[.int .i64 t260, .int .i64 t261, .int .i64 t262, .slice Ao12 t263.length co12] 24 (0, 0)) (by (with_reducible repeat (first | refine blk_drewN ?_ _ | refine blk_drew ?_ | refine blk_alloc ?_ _)); exact BK266.out) hb); have n3_ := Aside0.mk (blk_below (g := gb267) (o := .cells #[.int .i64 a0_4, .int .i64 a0_5] 36 (0, 0)) (by (with_reducible repeat (first | refine blk_drewN ?_ _ | refine blk_drew ?_ | refine blk_alloc ?_ _)); exact BK267.out) hb); have n4_ := Aside0.mk (blk_below (g := gb268) (o := .cells #[.int .i64 a0_6, .int .i64 a0_7] 36 (0, 0)) (by (with_reducible repeat (first | refine blk_drewN ?_ _ | refine blk_drew ?_ | refine blk_alloc ?_ _)); exact BK268.out) hb); have n5_ := Aside0.mk (below_step (by repeat (first | (with_reducible first | exact HB.out | apply below_alloc | apply pw_below_drewN | apply below_drew1 | refine below_set ?_ GE259.out | refine below_set ?_ GE266.out | refine below_set ?_ GE267.out | refine below_set ?_ GE268.out) | exact HB.out)) hb); clear HO_267003; clear BK259; clear BK266; clear BK267; clear BK268; clear HB; have HO_267003 := n0_; have BK259 := n1_; have BK266 := n2_; have BK267 := n3_; have BK268 := n4_; have HB := n5_; clear n0_ n1_ n2_ n3_ n4_ n5_; (try clear hb); (try clear hb2); (try clear hk); (try clear hi); have hcz130_0 : w129.cell? ⟨gb259, 0, none⟩ = some (.int .i64 a0_0) := (blk_cell BK259.out 0).trans rfl; have hcz130_1 : w129.cell? ⟨gb259, 1, none⟩ = some (.int .i64 a0_1) := (blk_cell BK259.out 1).trans rfl; have hcz130_2 : w129.cell? ⟨gb259, 2, none⟩ = some (.int .i64 a0_2) := (blk_cell BK259.out 2).trans rfl; have hcz130_3 : w129.cell? ⟨gb259, 3, none⟩ = some (.slice A0_3 l0_3.length c0_3) := (blk_cell BK259.out 3).trans rfl; have hcz130_4 : w129.cell? ⟨gb259, 4, none⟩ = some (.int .i64 a0_4) := (blk_cell BK259.out 4).trans rfl; have hcz130_5 : w129.cell? ⟨gb259, 5, none⟩ = some (.int .i64 a0_5) := (blk_cell BK259.out 5).trans rfl; have hcz130_6 : w129.cell? ⟨gb259, 6, none⟩ = some (.int .i64 a0_6) := (blk_cell BK259.out 6).trans rfl; have hcz130_7 : w129.cell? ⟨gb259, 7, none⟩ = some (.int .i64 a0_7) := (blk_cell BK259.out 7).trans rfl; have hcz130_8 : w129.cell? ⟨gb259, 8, none⟩ = some (.int .i64 a0_8) := (blk_cell BK259.out 8).trans rfl; have hcz130_9 : w129.cell? ⟨gb259, 9, none⟩ = some (.int .i64 a0_9) := (blk_cell BK259.out 9).trans rfl; have hfz130_0 := blk_frozen BK259.out 0; have hfz130_1 := blk_frozen BK259.out 1; have hfz130_2 := blk_frozen BK259.out 2; have hfz130_3 := blk_frozen BK259.out 3; have hfz130_4 := blk_frozen BK259.out 4; have hfz130_5 := blk_frozen BK259.out 5; have hfz130_6 := blk_frozen BK259.out 6; have hfz130_7 := blk_frozen BK259.out 7; have hfz130_8 := blk_frozen BK259.out 8; have hfz130_9 := blk_frozen BK259.out 9) | ((with_reducible refine gate_callee (f := 12) rfl ?_); refine goesL_ (some 102) rfl rfl Try.func12 (by kernel_rfl) rfl #[.int .i64 a0_4, .int .i64 a0_5, .int .i64 a0_6, .int .i64 a0_7] rfl (by (try simp only [List.map_toArray, List.map_cons, List.map_nil]); first | done | rfl | (simp only [List.length_drop, List.length_take]; rfl)) ?_; (with_reducible refine (bivouacref08_Long.calls a0_4 a0_5 a0_6 a0_7 t277 _ A52.out).mono ?_); rintro e w' ⟨rfl, ⟨nd, rfl⟩⟩; refine ⟨_, rfl, ?_⟩))
        go_ret
        exact ⟨by first | rfl | (simp [errW_none, errW_some] <;> rfl) | (simp [*, errW_none, errW_some] <;> rfl) | (rw [Int.tdiv_eq_ediv_of_nonneg (by assumption)]; rfl), by repeat (first | (with_reducible first | exact HB.out | apply below_alloc | apply pw_below_drewN | apply below_drew1 | refine below_set ?_ GE259.out | refine below_set ?_ GE266.out | refine below_set ?_ GE267.out | refine below_set ?_ GE268.out) | exact HB.out)⟩
      ·
       replace c55 := Bool.eq_false_iff.mpr c55
       subst c55
       have H1 : (if t277 ≤ 1 then (some false) else ((bivouaclaw08_awake.f kj4).bind fun t280 => (some t280))) = some r := by rw [if_neg (show ¬ (false = true) by decide)] at H; exact H
       clear H
       have H := H1
       clear H1
       by_cases c131 : t277 ≤ 1
       ·
        rw [if_pos c131] at H
        have c131b0 : decide (t277 ≤ 1) = true := decide_eq_true c131
        clear c131
        obtain rfl := Option.some.inj H
        have hnb132 := NB266_259.out
        have hnc132 := NB259_266.out
        have hnb133 := NB266_267.out
        have hnc133 := NB267_266.out
        have hnb134 := NB266_268.out
        have hnc134 := NB268_266.out
        have hcz135_0 : wc.cell? ⟨gb266, 0, none⟩ = some (.int .i64 t260) := (blk_cell BK266.out 0).trans rfl
        have hcz135_1 : wc.cell? ⟨gb266, 1, none⟩ = some (.int .i64 t261) := (blk_cell BK266.out 1).trans rfl
        have hcz135_2 : wc.cell? ⟨gb266, 2, none⟩ = some (.int .i64 t262) := (blk_cell BK266.out 2).trans rfl
        have hcz135_3 : wc.cell? ⟨gb266, 3, none⟩ = some (.slice Ao12 t263.length co12) := (blk_cell BK266.out 3).trans rfl
        have hfz135_0 := blk_frozen BK266.out 0
        have hfz135_1 := blk_frozen BK266.out 1
        have hfz135_2 := blk_frozen BK266.out 2
        have hfz135_3 := blk_frozen BK266.out 3
        have hnb136 := NB267_259.out
        have hnc136 := NB259_267.out
        have hnb137 := NB267_268.out
        have hnc137 := NB268_267.out
        have hcz138_0 : wc.cell? ⟨gb267, 0, none⟩ = some (.int .i64 a0_4) := (blk_cell BK267.out 0).trans rfl
        have hcz138_1 : wc.cell? ⟨gb267, 1, none⟩ = some (.int .i64 a0_5) := (blk_cell BK267.out 1).trans rfl
        have hfz138_0 := blk_frozen BK267.out 0
        have hfz138_1 := blk_frozen BK267.out 1
        have hnb139 := NB268_259.out
        have hnc139 := NB259_268.out
        have hcz140_0 : wc.cell? ⟨gb268, 0, none⟩ = some (.int .i64 a0_6) := (blk_cell BK268.out 0).trans rfl
        have hcz140_1 : wc.cell? ⟨gb268, 1, none⟩ = some (.int .i64 a0_7) := (blk_cell BK268.out 1).trans rfl
        have hfz140_0 := blk_frozen BK268.out 0
        have hfz140_1 := blk_frozen BK268.out 1
        have hcz141_0 : wc.cell? ⟨gb259, 0, none⟩ = some (.int .i64 a0_0) := (blk_cell BK259.out 0).trans rfl
        have hcz141_1 : wc.cell? ⟨gb259, 1, none⟩ = some (.int .i64 a0_1) := (blk_cell BK259.out 1).trans rfl
        have hcz141_2 : wc.cell? ⟨gb259, 2, none⟩ = some (.int .i64 a0_2) := (blk_cell BK259.out 2).trans rfl
        have hcz141_3 : wc.cell? ⟨gb259, 3, none⟩ = some (.slice A0_3 l0_3.length c0_3) := (blk_cell BK259.out 3).trans rfl
        have hcz141_4 : wc.cell? ⟨gb259, 4, none⟩ = some (.int .i64 a0_4) := (blk_cell BK259.out 4).trans rfl
        have hcz141_5 : wc.cell? ⟨gb259, 5, none⟩ = some (.int .i64 a0_5) := (blk_cell BK259.out 5).trans rfl
        have hcz141_6 : wc.cell? ⟨gb259, 6, none⟩ = some (.int .i64 a0_6) := (blk_cell BK259.out 6).trans rfl
        have hcz141_7 : wc.cell? ⟨gb259, 7, none⟩ = some (.int .i64 a0_7) := (blk_cell BK259.out 7).trans rfl
        have hcz141_8 : wc.cell? ⟨gb259, 8, none⟩ = some (.int .i64 a0_8) := (blk_cell BK259.out 8).trans rfl
        have hcz141_9 : wc.cell? ⟨gb259, 9, none⟩ = some (.int .i64 a0_9) := (blk_cell BK259.out 9).trans rfl
        have hfz141_0 := blk_frozen BK259.out 0
        have hfz141_1 := blk_frozen BK259.out 1
        have hfz141_2 := blk_frozen BK259.out 2
        have hfz141_3 := blk_frozen BK259.out 3
        have hfz141_4 := blk_frozen BK259.out 4
        have hfz141_5 := blk_frozen BK259.out 5
        have hfz141_6 := blk_frozen BK259.out 6
        have hfz141_7 := blk_frozen BK259.out 7
        have hfz141_8 := blk_frozen BK259.out 8
        have hfz141_9 := blk_frozen BK259.out 9
        go_wp2_with (first | ((with_reducible refine gate_callee (f := 20) rfl ?_); refine goesL_ (some 78) rfl rfl Try.func20 (by kernel_rfl) rfl #[.agg #[.int .i64 t260, .int .i64 t261, .int .i64 t262, .slice Ao12 t263.length co12], .agg #[.int .i64 a0_4, .int .i64 a0_5], .agg #[.int .i64 a0_6, .int .i64 a0_7], .int .i64 (wrap64 (a0_8 + a1)), .int .i64 a0_9] rfl (by (try simp only [List.map_toArray, List.map_cons, List.map_nil]); first | done | rfl | (simp only [List.length_drop, List.length_take]; rfl)) ?_; (with_reducible refine (ray_Sees.calls kj4 t260 t261 t262 _ _ t263 a0_4 a0_5 a0_6 a0_7 (wrap64 (a0_8 + a1)) a0_9 t273 t274 _ ?side1 ?side2 A50.out).mono ?_); (case side1 => repeat (first | exact (Kd.V_reads' HO_267003.out).2.2 | (with_reducible refine Kd.C_alloc ?_ _) | (with_reducible refine Kd.C_drewN ?_ _) | (with_reducible refine Kd.C_drew ?_))); (case side2 => exact (Kd.V_reads' HO_267003.out).2.1); rintro e w142 ⟨rfl, hb⟩; refine ⟨_, rfl, ?_⟩; have n0_ := Aside0.mk (Kd.V_below (by (with_reducible repeat (first | apply Kd.V_alloc | apply Kd.V_drewN | apply Kd.V_drew)); exact HO_267003.out) hb); have n1_ := Aside0.mk (blk_below (g := gb259) (o := .cells #[.int .i64 a0_0, .int .i64 a0_1, .int .i64 a0_2, .slice A0_3 l0_3.length c0_3, .int .i64 a0_4, .int .i64 a0_5, .int .i64 a0_6, .int .i64 a0_7, .int .i64 a0_8, .int .i64 a0_9] 26 (0, 0)) (by (with_reducible repeat (first | refine blk_drewN ?_ _ | refine blk_drew ?_ | refine blk_alloc ?_ _)); exact BK259.out) hb); have n2_ := Aside0.mk (blk_below (g := gb266) (o := .cells #[.int .i64 t260, .int .i64 t261, .int .i64 t262, .slice Ao12 t263.length co12] 24 (0, 0)) (by (with_reducible repeat (first | refine blk_drewN ?_ _ | refine blk_drew ?_ | refine blk_alloc ?_ _)); exact BK266.out) hb); have n3_ := Aside0.mk (blk_below (g := gb267) (o := .cells #[.int .i64 a0_4, .int .i64 a0_5] 36 (0, 0)) (by (with_reducible repeat (first | refine blk_drewN ?_ _ | refine blk_drew ?_ | refine blk_alloc ?_ _)); exact BK267.out) hb); have n4_ := Aside0.mk (blk_below (g := gb268) (o := .cells #[.int .i64 a0_6, .int .i64 a0_7] 36 (0, 0)) (by (with_reducible repeat (first | refine blk_drewN ?_ _ | refine blk_drew ?_ | refine blk_alloc ?_ _)); exact BK268.out) hb); have n5_ := Aside0.mk (below_step (by repeat (first | (with_reducible first | exact HB.out | apply below_alloc | apply pw_below_drewN | apply below_drew1 | refine below_set ?_ GE259.out | refine below_set ?_ GE266.out | refine below_set ?_ GE267.out | refine below_set ?_ GE268.out) | exact HB.out)) hb); clear HO_267003; clear BK259; clear BK266; clear BK267; clear BK268; clear HB; have HO_267003 := n0_; have BK259 := n1_; have BK266 := n2_; have BK267 := n3_; have BK268 := n4_; have HB := n5_; clear n0_ n1_ n2_ n3_ n4_ n5_; (try clear hb); (try clear hb2); (try clear hk); (try clear hi); have hcz143_0 : w142.cell? ⟨gb266, 0, none⟩ = some (.int .i64 t260) := (blk_cell BK266.out 0).trans rfl; have hcz143_1 : w142.cell? ⟨gb266, 1, none⟩ = some (.int .i64 t261) := (blk_cell BK266.out 1).trans rfl; have hcz143_2 : w142.cell? ⟨gb266, 2, none⟩ = some (.int .i64 t262) := (blk_cell BK266.out 2).trans rfl; have hcz143_3 : w142.cell? ⟨gb266, 3, none⟩ = some (.slice Ao12 t263.length co12) := (blk_cell BK266.out 3).trans rfl; have hfz143_0 := blk_frozen BK266.out 0; have hfz143_1 := blk_frozen BK266.out 1; have hfz143_2 := blk_frozen BK266.out 2; have hfz143_3 := blk_frozen BK266.out 3; have hcz144_0 : w142.cell? ⟨gb267, 0, none⟩ = some (.int .i64 a0_4) := (blk_cell BK267.out 0).trans rfl; have hcz144_1 : w142.cell? ⟨gb267, 1, none⟩ = some (.int .i64 a0_5) := (blk_cell BK267.out 1).trans rfl; have hfz144_0 := blk_frozen BK267.out 0; have hfz144_1 := blk_frozen BK267.out 1; have hcz145_0 : w142.cell? ⟨gb268, 0, none⟩ = some (.int .i64 a0_6) := (blk_cell BK268.out 0).trans rfl; have hcz145_1 : w142.cell? ⟨gb268, 1, none⟩ = some (.int .i64 a0_7) := (blk_cell BK268.out 1).trans rfl; have hfz145_0 := blk_frozen BK268.out 0; have hfz145_1 := blk_frozen BK268.out 1; have hcz146_0 : w142.cell? ⟨gb259, 0, none⟩ = some (.int .i64 a0_0) := (blk_cell BK259.out 0).trans rfl; have hcz146_1 : w142.cell? ⟨gb259, 1, none⟩ = some (.int .i64 a0_1) := (blk_cell BK259.out 1).trans rfl; have hcz146_2 : w142.cell? ⟨gb259, 2, none⟩ = some (.int .i64 a0_2) := (blk_cell BK259.out 2).trans rfl; have hcz146_3 : w142.cell? ⟨gb259, 3, none⟩ = some (.slice A0_3 l0_3.length c0_3) := (blk_cell BK259.out 3).trans rfl; have hcz146_4 : w142.cell? ⟨gb259, 4, none⟩ = some (.int .i64 a0_4) := (blk_cell BK259.out 4).trans rfl; have hcz146_5 : w142.cell? ⟨gb259, 5, none⟩ = some (.int .i64 a0_5) := (blk_cell BK259.out 5).trans rfl; have hcz146_6 : w142.cell? ⟨gb259, 6, none⟩ = some (.int .i64 a0_6) := (blk_cell BK259.out 6).trans rfl; have hcz146_7 : w142.cell? ⟨gb259, 7, none⟩ = some (.int .i64 a0_7) := (blk_cell BK259.out 7).trans rfl; have hcz146_8 : w142.cell? ⟨gb259, 8, none⟩ = some (.int .i64 a0_8) := (blk_cell BK259.out 8).trans rfl; have hcz146_9 : w142.cell? ⟨gb259, 9, none⟩ = some (.int .i64 a0_9) := (blk_cell BK259.out 9).trans rfl; have hfz146_0 := blk_frozen BK259.out 0; have hfz146_1 := blk_frozen BK259.out 1; have hfz146_2 := blk_frozen BK259.out 2; have hfz146_3 := blk_frozen BK259.out 3; have hfz146_4 := blk_frozen BK259.out 4; have hfz146_5 := blk_frozen BK259.out 5; have hfz146_6 := blk_frozen BK259.out 6; have hfz146_7 := blk_frozen BK259.out 7; have hfz146_8 := blk_frozen BK259.out 8; have hfz146_9 := blk_frozen BK259.out 9) | ((with_reducible refine gate_callee (f := 20) rfl ?_); refine goesL_ (some 91) rfl rfl Try.func20 (by kernel_rfl) rfl #[.agg #[.int .i64 t260, .int .i64 t261, .int .i64 t262, .slice Ao12 t263.length co12], .agg #[.int .i64 a0_4, .int .i64 a0_5], .agg #[.int .i64 a0_6, .int .i64 a0_7], .int .i64 a0_8, .int .i64 (wrap64 (a0_9 + a1))] rfl (by (try simp only [List.map_toArray, List.map_cons, List.map_nil]); first | done | rfl | (simp only [List.length_drop, List.length_take]; rfl)) ?_; (with_reducible refine (ray_Sees.calls kj4 t260 t261 t262 _ _ t263 a0_4 a0_5 a0_6 a0_7 a0_8 (wrap64 (a0_9 + a1)) t275 t276 _ ?side1 ?side2 A51.out).mono ?_); (case side1 => repeat (first | exact (Kd.V_reads' HO_267003.out).2.2 | (with_reducible refine Kd.C_alloc ?_ _) | (with_reducible refine Kd.C_drewN ?_ _) | (with_reducible refine Kd.C_drew ?_))); (case side2 => exact (Kd.V_reads' HO_267003.out).2.1); rintro e w147 ⟨rfl, hb⟩; refine ⟨_, rfl, ?_⟩; have n0_ := Aside0.mk (Kd.V_below (by (with_reducible repeat (first | apply Kd.V_alloc | apply Kd.V_drewN | apply Kd.V_drew)); exact HO_267003.out) hb); have n1_ := Aside0.mk (blk_below (g := gb259) (o := .cells #[.int .i64 a0_0, .int .i64 a0_1, .int .i64 a0_2, .slice A0_3 l0_3.length c0_3, .int .i64 a0_4, .int .i64 a0_5, .int .i64 a0_6, .int .i64 a0_7, .int .i64 a0_8, .int .i64 a0_9] 26 (0, 0)) (by (with_reducible repeat (first | refine blk_drewN ?_ _ | refine blk_drew ?_ | refine blk_alloc ?_ _)); exact BK259.out) hb); have n2_ := Aside0.mk (blk_below (g := gb266) (o := .cells #[.int .i64 t260, .int .i64 t261, .int .i64 t262, .slice Ao12 t263.length co12] 24 (0, 0)) (by (with_reducible repeat (first | refine blk_drewN ?_ _ | refine blk_drew ?_ | refine blk_alloc ?_ _)); exact BK266.out) hb); have n3_ := Aside0.mk (blk_below (g := gb267) (o := .cells #[.int .i64 a0_4, .int .i64 a0_5] 36 (0, 0)) (by (with_reducible repeat (first | refine blk_drewN ?_ _ | refine blk_drew ?_ | refine blk_alloc ?_ _)); exact BK267.out) hb); have n4_ := Aside0.mk (blk_below (g := gb268) (o := .cells #[.int .i64 a0_6, .int .i64 a0_7] 36 (0, 0)) (by (with_reducible repeat (first | refine blk_drewN ?_ _ | refine blk_drew ?_ | refine blk_alloc ?_ _)); exact BK268.out) hb); have n5_ := Aside0.mk (below_step (by repeat (first | (with_reducible first | exact HB.out | apply below_alloc | apply pw_below_drewN | apply below_drew1 | refine below_set ?_ GE259.out | refine below_set ?_ GE266.out | refine below_set ?_ GE267.out | refine below_set ?_ GE268.out) | exact HB.out)) hb); clear HO_267003; clear BK259; clear BK266; clear BK267; clear BK268; clear HB; have HO_267003 := n0_; have BK259 := n1_; have BK266 := n2_; have BK267 := n3_; have BK268 := n4_; have HB := n5_; clear n0_ n1_ n2_ n3_ n4_ n5_; (try clear hb); (try clear hb2); (try clear hk); (try clear hi); have hcz148_0 : w147.cell? ⟨gb259, 0, none⟩ = some (.int .i64 a0_0) := (blk_cell BK259.out 0).trans rfl; have hcz148_1 : w147.cell? ⟨gb259, 1, none⟩ = some (.int .i64 a0_1) := (blk_cell BK259.out 1).trans rfl; have hcz148_2 : w147.cell? ⟨gb259, 2, none⟩ = some (.int .i64 a0_2) := (blk_cell BK259.out 2).trans rfl; have hcz148_3 : w147.cell? ⟨gb259, 3, none⟩ = some (.slice A0_3 l0_3.length c0_3) := (blk_cell BK259.out 3).trans rfl; have hcz148_4 : w147.cell? ⟨gb259, 4, none⟩ = some (.int .i64 a0_4) := (blk_cell BK259.out 4).trans rfl; have hcz148_5 : w147.cell? ⟨gb259, 5, none⟩ = some (.int .i64 a0_5) := (blk_cell BK259.out 5).trans rfl; have hcz148_6 : w147.cell? ⟨gb259, 6, none⟩ = some (.int .i64 a0_6) := (blk_cell BK259.out 6).trans rfl; have hcz148_7 : w147.cell? ⟨gb259, 7, none⟩ = some (.int .i64 a0_7) := (blk_cell BK259.out 7).trans rfl; have hcz148_8 : w147.cell? ⟨gb259, 8, none⟩ = some (.int .i64 a0_8) := (blk_cell BK259.out 8).trans rfl; have hcz148_9 : w147.cell? ⟨gb259, 9, none⟩ = some (.int .i64 a0_9) := (blk_cell BK259.out 9).trans rfl; have hfz148_0 := blk_frozen BK259.out 0; have hfz148_1 := blk_frozen BK259.out 1; have hfz148_2 := blk_frozen BK259.out 2; have hfz148_3 := blk_frozen BK259.out 3; have hfz148_4 := blk_frozen BK259.out 4; have hfz148_5 := blk_frozen BK259.out 5; have hfz148_6 := blk_frozen BK259.out 6; have hfz148_7 := blk_frozen BK259.out 7; have hfz148_8 := blk_frozen BK259.out 8; have hfz148_9 := blk_frozen BK259.out 9) | ((with_reducible refine gate_callee (f := 12) rfl ?_); refine goesL_ (some 102) rfl rfl Try.func12 (by kernel_rfl) rfl #[.int .i64 a0_4, .int .i64 a0_5, .int .i64 a0_6, .int .i64 a0_7] rfl (by (try simp only [List.map_toArray, List.map_cons, List.map_nil]); first | done | rfl | (simp only [List.length_drop, List.length_take]; rfl)) ?_; (with_reducible refine (bivouacref08_Long.calls a0_4 a0_5 a0_6 a0_7 t277 _ A52.out).mono ?_); rintro e w' ⟨rfl, ⟨nd, rfl⟩⟩; refine ⟨_, rfl, ?_⟩))
        go_ret
        exact ⟨by first | rfl | (simp [errW_none, errW_some] <;> rfl) | (simp [*, errW_none, errW_some] <;> rfl) | (rw [Int.tdiv_eq_ediv_of_nonneg (by assumption)]; rfl), by repeat (first | (with_reducible first | exact HB.out | apply below_alloc | apply pw_below_drewN | apply below_drew1 | refine below_set ?_ GE259.out | refine below_set ?_ GE266.out | refine below_set ?_ GE267.out | refine below_set ?_ GE268.out) | exact HB.out)⟩
       ·
        rw [if_neg c131] at H
        have c131b0 : decide (t277 ≤ 1) = false := decide_eq_false c131
        clear c131
        replace H := Option.bind_eq_some_iff.mp H
        obtain ⟨t280, A1490, H⟩ := H
        replace H : (some t280) = some r := H
        have A149 := Aside0.mk A1490
        clear A1490
        obtain rfl := Option.some.inj H
        have hnb150 := NB266_259.out
        have hnc150 := NB259_266.out
        have hnb151 := NB266_267.out
        have hnc151 := NB267_266.out
        have hnb152 := NB266_268.out
        have hnc152 := NB268_266.out
        have hcz153_0 : wc.cell? ⟨gb266, 0, none⟩ = some (.int .i64 t260) := (blk_cell BK266.out 0).trans rfl
        have hcz153_1 : wc.cell? ⟨gb266, 1, none⟩ = some (.int .i64 t261) := (blk_cell BK266.out 1).trans rfl
        have hcz153_2 : wc.cell? ⟨gb266, 2, none⟩ = some (.int .i64 t262) := (blk_cell BK266.out 2).trans rfl
        have hcz153_3 : wc.cell? ⟨gb266, 3, none⟩ = some (.slice Ao12 t263.length co12) := (blk_cell BK266.out 3).trans rfl
        have hfz153_0 := blk_frozen BK266.out 0
        have hfz153_1 := blk_frozen BK266.out 1
        have hfz153_2 := blk_frozen BK266.out 2
        have hfz153_3 := blk_frozen BK266.out 3
        have hnb154 := NB267_259.out
        have hnc154 := NB259_267.out
        have hnb155 := NB267_268.out
        have hnc155 := NB268_267.out
        have hcz156_0 : wc.cell? ⟨gb267, 0, none⟩ = some (.int .i64 a0_4) := (blk_cell BK267.out 0).trans rfl
        have hcz156_1 : wc.cell? ⟨gb267, 1, none⟩ = some (.int .i64 a0_5) := (blk_cell BK267.out 1).trans rfl
        have hfz156_0 := blk_frozen BK267.out 0
        have hfz156_1 := blk_frozen BK267.out 1
        have hnb157 := NB268_259.out
        have hnc157 := NB259_268.out
        have hcz158_0 : wc.cell? ⟨gb268, 0, none⟩ = some (.int .i64 a0_6) := (blk_cell BK268.out 0).trans rfl
        have hcz158_1 : wc.cell? ⟨gb268, 1, none⟩ = some (.int .i64 a0_7) := (blk_cell BK268.out 1).trans rfl
        have hfz158_0 := blk_frozen BK268.out 0
        have hfz158_1 := blk_frozen BK268.out 1
        have hcz159_0 : wc.cell? ⟨gb259, 0, none⟩ = some (.int .i64 a0_0) := (blk_cell BK259.out 0).trans rfl
        have hcz159_1 : wc.cell? ⟨gb259, 1, none⟩ = some (.int .i64 a0_1) := (blk_cell BK259.out 1).trans rfl
        have hcz159_2 : wc.cell? ⟨gb259, 2, none⟩ = some (.int .i64 a0_2) := (blk_cell BK259.out 2).trans rfl
        have hcz159_3 : wc.cell? ⟨gb259, 3, none⟩ = some (.slice A0_3 l0_3.length c0_3) := (blk_cell BK259.out 3).trans rfl
        have hcz159_4 : wc.cell? ⟨gb259, 4, none⟩ = some (.int .i64 a0_4) := (blk_cell BK259.out 4).trans rfl
        have hcz159_5 : wc.cell? ⟨gb259, 5, none⟩ = some (.int .i64 a0_5) := (blk_cell BK259.out 5).trans rfl
        have hcz159_6 : wc.cell? ⟨gb259, 6, none⟩ = some (.int .i64 a0_6) := (blk_cell BK259.out 6).trans rfl
        have hcz159_7 : wc.cell? ⟨gb259, 7, none⟩ = some (.int .i64 a0_7) := (blk_cell BK259.out 7).trans rfl
        have hcz159_8 : wc.cell? ⟨gb259, 8, none⟩ = some (.int .i64 a0_8) := (blk_cell BK259.out 8).trans rfl
        have hcz159_9 : wc.cell? ⟨gb259, 9, none⟩ = some (.int .i64 a0_9) := (blk_cell BK259.out 9).trans rfl
        have hfz159_0 := blk_frozen BK259.out 0
        have hfz159_1 := blk_frozen BK259.out 1
        have hfz159_2 := blk_frozen BK259.out 2
        have hfz159_3 := blk_frozen BK259.out 3
        have hfz159_4 := blk_frozen BK259.out 4
        have hfz159_5 := blk_frozen BK259.out 5
        have hfz159_6 := blk_frozen BK259.out 6
        have hfz159_7 := blk_frozen BK259.out 7
        have hfz159_8 := blk_frozen BK259.out 8
        have hfz159_9 := blk_frozen BK259.out 9
        go_wp2_with (first | ((with_reducible refine gate_callee (f := 20) rfl ?_); refine goesL_ (some 78) rfl rfl Try.func20 (by kernel_rfl) rfl #[.agg #[.int .i64 t260, .int .i64 t261, .int .i64 t262, .slice Ao12 t263.length co12], .agg #[.int .i64 a0_4, .int .i64 a0_5], .agg #[.int .i64 a0_6, .int .i64 a0_7], .int .i64 (wrap64 (a0_8 + a1)), .int .i64 a0_9] rfl (by (try simp only [List.map_toArray, List.map_cons, List.map_nil]); first | done | rfl | (simp only [List.length_drop, List.length_take]; rfl)) ?_; (with_reducible refine (ray_Sees.calls kj4 t260 t261 t262 _ _ t263 a0_4 a0_5 a0_6 a0_7 (wrap64 (a0_8 + a1)) a0_9 t273 t274 _ ?side1 ?side2 A50.out).mono ?_); (case side1 => repeat (first | exact (Kd.V_reads' HO_267003.out).2.2 | (with_reducible refine Kd.C_alloc ?_ _) | (with_reducible refine Kd.C_drewN ?_ _) | (with_reducible refine Kd.C_drew ?_))); (case side2 => exact (Kd.V_reads' HO_267003.out).2.1); rintro e w160 ⟨rfl, hb⟩; refine ⟨_, rfl, ?_⟩; have n0_ := Aside0.mk (Kd.V_below (by (with_reducible repeat (first | apply Kd.V_alloc | apply Kd.V_drewN | apply Kd.V_drew)); exact HO_267003.out) hb); have n1_ := Aside0.mk (blk_below (g := gb259) (o := .cells #[.int .i64 a0_0, .int .i64 a0_1, .int .i64 a0_2, .slice A0_3 l0_3.length c0_3, .int .i64 a0_4, .int .i64 a0_5, .int .i64 a0_6, .int .i64 a0_7, .int .i64 a0_8, .int .i64 a0_9] 26 (0, 0)) (by (with_reducible repeat (first | refine blk_drewN ?_ _ | refine blk_drew ?_ | refine blk_alloc ?_ _)); exact BK259.out) hb); have n2_ := Aside0.mk (blk_below (g := gb266) (o := .cells #[.int .i64 t260, .int .i64 t261, .int .i64 t262, .slice Ao12 t263.length co12] 24 (0, 0)) (by (with_reducible repeat (first | refine blk_drewN ?_ _ | refine blk_drew ?_ | refine blk_alloc ?_ _)); exact BK266.out) hb); have n3_ := Aside0.mk (blk_below (g := gb267) (o := .cells #[.int .i64 a0_4, .int .i64 a0_5] 36 (0, 0)) (by (with_reducible repeat (first | refine blk_drewN ?_ _ | refine blk_drew ?_ | refine blk_alloc ?_ _)); exact BK267.out) hb); have n4_ := Aside0.mk (blk_below (g := gb268) (o := .cells #[.int .i64 a0_6, .int .i64 a0_7] 36 (0, 0)) (by (with_reducible repeat (first | refine blk_drewN ?_ _ | refine blk_drew ?_ | refine blk_alloc ?_ _)); exact BK268.out) hb); have n5_ := Aside0.mk (below_step (by repeat (first | (with_reducible first | exact HB.out | apply below_alloc | apply pw_below_drewN | apply below_drew1 | refine below_set ?_ GE259.out | refine below_set ?_ GE266.out | refine below_set ?_ GE267.out | refine below_set ?_ GE268.out) | exact HB.out)) hb); clear HO_267003; clear BK259; clear BK266; clear BK267; clear BK268; clear HB; have HO_267003 := n0_; have BK259 := n1_; have BK266 := n2_; have BK267 := n3_; have BK268 := n4_; have HB := n5_; clear n0_ n1_ n2_ n3_ n4_ n5_; (try clear hb); (try clear hb2); (try clear hk); (try clear hi); have hcz161_0 : w160.cell? ⟨gb266, 0, none⟩ = some (.int .i64 t260) := (blk_cell BK266.out 0).trans rfl; have hcz161_1 : w160.cell? ⟨gb266, 1, none⟩ = some (.int .i64 t261) := (blk_cell BK266.out 1).trans rfl; have hcz161_2 : w160.cell? ⟨gb266, 2, none⟩ = some (.int .i64 t262) := (blk_cell BK266.out 2).trans rfl; have hcz161_3 : w160.cell? ⟨gb266, 3, none⟩ = some (.slice Ao12 t263.length co12) := (blk_cell BK266.out 3).trans rfl; have hfz161_0 := blk_frozen BK266.out 0; have hfz161_1 := blk_frozen BK266.out 1; have hfz161_2 := blk_frozen BK266.out 2; have hfz161_3 := blk_frozen BK266.out 3; have hcz162_0 : w160.cell? ⟨gb267, 0, none⟩ = some (.int .i64 a0_4) := (blk_cell BK267.out 0).trans rfl; have hcz162_1 : w160.cell? ⟨gb267, 1, none⟩ = some (.int .i64 a0_5) := (blk_cell BK267.out 1).trans rfl; have hfz162_0 := blk_frozen BK267.out 0; have hfz162_1 := blk_frozen BK267.out 1; have hcz163_0 : w160.cell? ⟨gb268, 0, none⟩ = some (.int .i64 a0_6) := (blk_cell BK268.out 0).trans rfl; have hcz163_1 : w160.cell? ⟨gb268, 1, none⟩ = some (.int .i64 a0_7) := (blk_cell BK268.out 1).trans rfl; have hfz163_0 := blk_frozen BK268.out 0; have hfz163_1 := blk_frozen BK268.out 1; have hcz164_0 : w160.cell? ⟨gb259, 0, none⟩ = some (.int .i64 a0_0) := (blk_cell BK259.out 0).trans rfl; have hcz164_1 : w160.cell? ⟨gb259, 1, none⟩ = some (.int .i64 a0_1) := (blk_cell BK259.out 1).trans rfl; have hcz164_2 : w160.cell? ⟨gb259, 2, none⟩ = some (.int .i64 a0_2) := (blk_cell BK259.out 2).trans rfl; have hcz164_3 : w160.cell? ⟨gb259, 3, none⟩ = some (.slice A0_3 l0_3.length c0_3) := (blk_cell BK259.out 3).trans rfl; have hcz164_4 : w160.cell? ⟨gb259, 4, none⟩ = some (.int .i64 a0_4) := (blk_cell BK259.out 4).trans rfl; have hcz164_5 : w160.cell? ⟨gb259, 5, none⟩ = some (.int .i64 a0_5) := (blk_cell BK259.out 5).trans rfl; have hcz164_6 : w160.cell? ⟨gb259, 6, none⟩ = some (.int .i64 a0_6) := (blk_cell BK259.out 6).trans rfl; have hcz164_7 : w160.cell? ⟨gb259, 7, none⟩ = some (.int .i64 a0_7) := (blk_cell BK259.out 7).trans rfl; have hcz164_8 : w160.cell? ⟨gb259, 8, none⟩ = some (.int .i64 a0_8) := (blk_cell BK259.out 8).trans rfl; have hcz164_9 : w160.cell? ⟨gb259, 9, none⟩ = some (.int .i64 a0_9) := (blk_cell BK259.out 9).trans rfl; have hfz164_0 := blk_frozen BK259.out 0; have hfz164_1 := blk_frozen BK259.out 1; have hfz164_2 := blk_frozen BK259.out 2; have hfz164_3 := blk_frozen BK259.out 3; have hfz164_4 := blk_frozen BK259.out 4; have hfz164_5 := blk_frozen BK259.out 5; have hfz164_6 := blk_frozen BK259.out 6; have hfz164_7 := blk_frozen BK259.out 7; have hfz164_8 := blk_frozen BK259.out 8; have hfz164_9 := blk_frozen BK259.out 9) | ((with_reducible refine gate_callee (f := 20) rfl ?_); refine goesL_ (some 91) rfl rfl Try.func20 (by kernel_rfl) rfl #[.agg #[.int .i64 t260, .int .i64 t261, .int .i64 t262, .slice Ao12 t263.length co12], .agg #[.int .i64 a0_4, .int .i64 a0_5], .agg #[.int .i64 a0_6, .int .i64 a0_7], .int .i64 a0_8, .int .i64 (wrap64 (a0_9 + a1))] rfl (by (try simp only [List.map_toArray, List.map_cons, List.map_nil]); first | done | rfl | (simp only [List.length_drop, List.length_take]; rfl)) ?_; (with_reducible refine (ray_Sees.calls kj4 t260 t261 t262 _ _ t263 a0_4 a0_5 a0_6 a0_7 a0_8 (wrap64 (a0_9 + a1)) t275 t276 _ ?side1 ?side2 A51.out).mono ?_); (case side1 => repeat (first | exact (Kd.V_reads' HO_267003.out).2.2 | (with_reducible refine Kd.C_alloc ?_ _) | (with_reducible refine Kd.C_drewN ?_ _) | (with_reducible refine Kd.C_drew ?_))); (case side2 => exact (Kd.V_reads' HO_267003.out).2.1); rintro e w165 ⟨rfl, hb⟩; refine ⟨_, rfl, ?_⟩; have n0_ := Aside0.mk (Kd.V_below (by (with_reducible repeat (first | apply Kd.V_alloc | apply Kd.V_drewN | apply Kd.V_drew)); exact HO_267003.out) hb); have n1_ := Aside0.mk (blk_below (g := gb259) (o := .cells #[.int .i64 a0_0, .int .i64 a0_1, .int .i64 a0_2, .slice A0_3 l0_3.length c0_3, .int .i64 a0_4, .int .i64 a0_5, .int .i64 a0_6, .int .i64 a0_7, .int .i64 a0_8, .int .i64 a0_9] 26 (0, 0)) (by (with_reducible repeat (first | refine blk_drewN ?_ _ | refine blk_drew ?_ | refine blk_alloc ?_ _)); exact BK259.out) hb); have n2_ := Aside0.mk (blk_below (g := gb266) (o := .cells #[.int .i64 t260, .int .i64 t261, .int .i64 t262, .slice Ao12 t263.length co12] 24 (0, 0)) (by (with_reducible repeat (first | refine blk_drewN ?_ _ | refine blk_drew ?_ | refine blk_alloc ?_ _)); exact BK266.out) hb); have n3_ := Aside0.mk (blk_below (g := gb267) (o := .cells #[.int .i64 a0_4, .int .i64 a0_5] 36 (0, 0)) (by (with_reducible repeat (first | refine blk_drewN ?_ _ | refine blk_drew ?_ | refine blk_alloc ?_ _)); exact BK267.out) hb); have n4_ := Aside0.mk (blk_below (g := gb268) (o := .cells #[.int .i64 a0_6, .int .i64 a0_7] 36 (0, 0)) (by (with_reducible repeat (first | refine blk_drewN ?_ _ | refine blk_drew ?_ | refine blk_alloc ?_ _)); exact BK268.out) hb); have n5_ := Aside0.mk (below_step (by repeat (first | (with_reducible first | exact HB.out | apply below_alloc | apply pw_below_drewN | apply below_drew1 | refine below_set ?_ GE259.out | refine below_set ?_ GE266.out | refine below_set ?_ GE267.out | refine below_set ?_ GE268.out) | exact HB.out)) hb); clear HO_267003; clear BK259; clear BK266; clear BK267; clear BK268; clear HB; have HO_267003 := n0_; have BK259 := n1_; have BK266 := n2_; have BK267 := n3_; have BK268 := n4_; have HB := n5_; clear n0_ n1_ n2_ n3_ n4_ n5_; (try clear hb); (try clear hb2); (try clear hk); (try clear hi); have hcz166_0 : w165.cell? ⟨gb259, 0, none⟩ = some (.int .i64 a0_0) := (blk_cell BK259.out 0).trans rfl; have hcz166_1 : w165.cell? ⟨gb259, 1, none⟩ = some (.int .i64 a0_1) := (blk_cell BK259.out 1).trans rfl; have hcz166_2 : w165.cell? ⟨gb259, 2, none⟩ = some (.int .i64 a0_2) := (blk_cell BK259.out 2).trans rfl; have hcz166_3 : w165.cell? ⟨gb259, 3, none⟩ = some (.slice A0_3 l0_3.length c0_3) := (blk_cell BK259.out 3).trans rfl; have hcz166_4 : w165.cell? ⟨gb259, 4, none⟩ = some (.int .i64 a0_4) := (blk_cell BK259.out 4).trans rfl; have hcz166_5 : w165.cell? ⟨gb259, 5, none⟩ = some (.int .i64 a0_5) := (blk_cell BK259.out 5).trans rfl; have hcz166_6 : w165.cell? ⟨gb259, 6, none⟩ = some (.int .i64 a0_6) := (blk_cell BK259.out 6).trans rfl; have hcz166_7 : w165.cell? ⟨gb259, 7, none⟩ = some (.int .i64 a0_7) := (blk_cell BK259.out 7).trans rfl; have hcz166_8 : w165.cell? ⟨gb259, 8, none⟩ = some (.int .i64 a0_8) := (blk_cell BK259.out 8).trans rfl; have hcz166_9 : w165.cell? ⟨gb259, 9, none⟩ = some (.int .i64 a0_9) := (blk_cell BK259.out 9).trans rfl; have hfz166_0 := blk_frozen BK259.out 0; have hfz166_1 := blk_frozen BK259.out 1; have hfz166_2 := blk_frozen BK259.out 2; have hfz166_3 := blk_frozen BK259.out 3; have hfz166_4 := blk_frozen BK259.out 4; have hfz166_5 := blk_frozen BK259.out 5; have hfz166_6 := blk_frozen BK259.out 6; have hfz166_7 := blk_frozen BK259.out 7; have hfz166_8 := blk_frozen BK259.out 8; have hfz166_9 := blk_frozen BK259.out 9) | ((with_reducible refine gate_callee (f := 12) rfl ?_); refine goesL_ (some 102) rfl rfl Try.func12 (by kernel_rfl) rfl #[.int .i64 a0_4, .int .i64 a0_5, .int .i64 a0_6, .int .i64 a0_7] rfl (by (try simp only [List.map_toArray, List.map_cons, List.map_nil]); first | done | rfl | (simp only [List.length_drop, List.length_take]; rfl)) ?_; (with_reducible refine (bivouacref08_Long.calls a0_4 a0_5 a0_6 a0_7 t277 _ A52.out).mono ?_); rintro e w' ⟨rfl, ⟨nd, rfl⟩⟩; refine ⟨_, rfl, ?_⟩) | (go_at_call 11; (with_reducible refine (bivouaclaw08_awake.calls kj4  t280 _ A149.out).mono ?_); rintro e w167 ⟨rfl, hb⟩; have n0_ := Aside0.mk (Kd.V_below (by (with_reducible repeat (first | apply Kd.V_alloc | apply Kd.V_drewN | apply Kd.V_drew)); exact HO_267003.out) hb); have n1_ := Aside0.mk (blk_below (g := gb259) (o := .cells #[.int .i64 a0_0, .int .i64 a0_1, .int .i64 a0_2, .slice A0_3 l0_3.length c0_3, .int .i64 a0_4, .int .i64 a0_5, .int .i64 a0_6, .int .i64 a0_7, .int .i64 a0_8, .int .i64 a0_9] 26 (0, 0)) (by (with_reducible repeat (first | refine blk_drewN ?_ _ | refine blk_drew ?_ | refine blk_alloc ?_ _)); exact BK259.out) hb); have n2_ := Aside0.mk (blk_below (g := gb266) (o := .cells #[.int .i64 t260, .int .i64 t261, .int .i64 t262, .slice Ao12 t263.length co12] 24 (0, 0)) (by (with_reducible repeat (first | refine blk_drewN ?_ _ | refine blk_drew ?_ | refine blk_alloc ?_ _)); exact BK266.out) hb); have n3_ := Aside0.mk (blk_below (g := gb267) (o := .cells #[.int .i64 a0_4, .int .i64 a0_5] 36 (0, 0)) (by (with_reducible repeat (first | refine blk_drewN ?_ _ | refine blk_drew ?_ | refine blk_alloc ?_ _)); exact BK267.out) hb); have n4_ := Aside0.mk (blk_below (g := gb268) (o := .cells #[.int .i64 a0_6, .int .i64 a0_7] 36 (0, 0)) (by (with_reducible repeat (first | refine blk_drewN ?_ _ | refine blk_drew ?_ | refine blk_alloc ?_ _)); exact BK268.out) hb); have n5_ := Aside0.mk (below_step (by repeat (first | (with_reducible first | exact HB.out | apply below_alloc | apply pw_below_drewN | apply below_drew1 | refine below_set ?_ GE259.out | refine below_set ?_ GE266.out | refine below_set ?_ GE267.out | refine below_set ?_ GE268.out) | exact HB.out)) hb); clear HO_267003; clear BK259; clear BK266; clear BK267; clear BK268; clear HB; have HO_267003 := n0_; have BK259 := n1_; have BK266 := n2_; have BK267 := n3_; have BK268 := n4_; have HB := n5_; clear n0_ n1_ n2_ n3_ n4_ n5_; (try clear hb); (try clear hb2); (try clear hk); (try clear hi)))
        go_ret
        exact ⟨by first | rfl | (simp [errW_none, errW_some] <;> rfl) | (simp [*, errW_none, errW_some] <;> rfl) | (rw [Int.tdiv_eq_ediv_of_nonneg (by assumption)]; rfl), by repeat (first | (with_reducible first | exact HB.out | apply below_alloc | apply pw_below_drewN | apply below_drew1 | refine below_set ?_ GE259.out | refine below_set ?_ GE266.out | refine below_set ?_ GE267.out | refine below_set ?_ GE268.out) | exact HB.out)⟩
     ·
      rw [if_neg c54] at H
      have c54b0 : (t276 == 0) = false := beq_eq_false_iff_ne.mpr c54
      have c54b1 : (t276 != 0) = true := bne_iff_ne.mpr c54
      obtain rfl := Option.some.inj H
      have hnb168 := NB266_259.out
      have hnc168 := NB259_266.out
      have hnb169 := NB266_267.out
      have hnc169 := NB267_266.out
      have hnb170 := NB266_268.out
      have hnc170 := NB268_266.out
      have hcz171_0 : wc.cell? ⟨gb266, 0, none⟩ = some (.int .i64 t260) := (blk_cell BK266.out 0).trans rfl
      have hcz171_1 : wc.cell? ⟨gb266, 1, none⟩ = some (.int .i64 t261) := (blk_cell BK266.out 1).trans rfl
      have hcz171_2 : wc.cell? ⟨gb266, 2, none⟩ = some (.int .i64 t262) := (blk_cell BK266.out 2).trans rfl
      have hcz171_3 : wc.cell? ⟨gb266, 3, none⟩ = some (.slice Ao12 t263.length co12) := (blk_cell BK266.out 3).trans rfl
      have hfz171_0 := blk_frozen BK266.out 0
      have hfz171_1 := blk_frozen BK266.out 1
      have hfz171_2 := blk_frozen BK266.out 2
      have hfz171_3 := blk_frozen BK266.out 3
      have hnb172 := NB267_259.out
      have hnc172 := NB259_267.out
      have hnb173 := NB267_268.out
      have hnc173 := NB268_267.out
      have hcz174_0 : wc.cell? ⟨gb267, 0, none⟩ = some (.int .i64 a0_4) := (blk_cell BK267.out 0).trans rfl
      have hcz174_1 : wc.cell? ⟨gb267, 1, none⟩ = some (.int .i64 a0_5) := (blk_cell BK267.out 1).trans rfl
      have hfz174_0 := blk_frozen BK267.out 0
      have hfz174_1 := blk_frozen BK267.out 1
      have hnb175 := NB268_259.out
      have hnc175 := NB259_268.out
      have hcz176_0 : wc.cell? ⟨gb268, 0, none⟩ = some (.int .i64 a0_6) := (blk_cell BK268.out 0).trans rfl
      have hcz176_1 : wc.cell? ⟨gb268, 1, none⟩ = some (.int .i64 a0_7) := (blk_cell BK268.out 1).trans rfl
      have hfz176_0 := blk_frozen BK268.out 0
      have hfz176_1 := blk_frozen BK268.out 1
      have hcz177_0 : wc.cell? ⟨gb259, 0, none⟩ = some (.int .i64 a0_0) := (blk_cell BK259.out 0).trans rfl
      have hcz177_1 : wc.cell? ⟨gb259, 1, none⟩ = some (.int .i64 a0_1) := (blk_cell BK259.out 1).trans rfl
      have hcz177_2 : wc.cell? ⟨gb259, 2, none⟩ = some (.int .i64 a0_2) := (blk_cell BK259.out 2).trans rfl
      have hcz177_3 : wc.cell? ⟨gb259, 3, none⟩ = some (.slice A0_3 l0_3.length c0_3) := (blk_cell BK259.out 3).trans rfl
      have hcz177_4 : wc.cell? ⟨gb259, 4, none⟩ = some (.int .i64 a0_4) := (blk_cell BK259.out 4).trans rfl
      have hcz177_5 : wc.cell? ⟨gb259, 5, none⟩ = some (.int .i64 a0_5) := (blk_cell BK259.out 5).trans rfl
      have hcz177_6 : wc.cell? ⟨gb259, 6, none⟩ = some (.int .i64 a0_6) := (blk_cell BK259.out 6).trans rfl
      have hcz177_7 : wc.cell? ⟨gb259, 7, none⟩ = some (.int .i64 a0_7) := (blk_cell BK259.out 7).trans rfl
      have hcz177_8 : wc.cell? ⟨gb259, 8, none⟩ = some (.int .i64 a0_8) := (blk_cell BK259.out 8).trans rfl
      have hcz177_9 : wc.cell? ⟨gb259, 9, none⟩ = some (.int .i64 a0_9) := (blk_cell BK259.out 9).trans rfl
      have hfz177_0 := blk_frozen BK259.out 0
      have hfz177_1 := blk_frozen BK259.out 1
      have hfz177_2 := blk_frozen BK259.out 2
      have hfz177_3 := blk_frozen BK259.out 3
      have hfz177_4 := blk_frozen BK259.out 4
      have hfz177_5 := blk_frozen BK259.out 5
      have hfz177_6 := blk_frozen BK259.out 6
      have hfz177_7 := blk_frozen BK259.out 7
      have hfz177_8 := blk_frozen BK259.out 8
      have hfz177_9 := blk_frozen BK259.out 9
      go_wp2_with (first | ((with_reducible refine gate_callee (f := 20) rfl ?_); refine goesL_ (some 78) rfl rfl Try.func20 (by kernel_rfl) rfl #[.agg #[.int .i64 t260, .int .i64 t261, .int .i64 t262, .slice Ao12 t263.length co12], .agg #[.int .i64 a0_4, .int .i64 a0_5], .agg #[.int .i64 a0_6, .int .i64 a0_7], .int .i64 (wrap64 (a0_8 + a1)), .int .i64 a0_9] rfl (by (try simp only [List.map_toArray, List.map_cons, List.map_nil]); first | done | rfl | (simp only [List.length_drop, List.length_take]; rfl)) ?_; (with_reducible refine (ray_Sees.calls kj4 t260 t261 t262 _ _ t263 a0_4 a0_5 a0_6 a0_7 (wrap64 (a0_8 + a1)) a0_9 t273 t274 _ ?side1 ?side2 A50.out).mono ?_); (case side1 => repeat (first | exact (Kd.V_reads' HO_267003.out).2.2 | (with_reducible refine Kd.C_alloc ?_ _) | (with_reducible refine Kd.C_drewN ?_ _) | (with_reducible refine Kd.C_drew ?_))); (case side2 => exact (Kd.V_reads' HO_267003.out).2.1); rintro e w178 ⟨rfl, hb⟩; refine ⟨_, rfl, ?_⟩; have n0_ := Aside0.mk (Kd.V_below (by (with_reducible repeat (first | apply Kd.V_alloc | apply Kd.V_drewN | apply Kd.V_drew)); exact HO_267003.out) hb); have n1_ := Aside0.mk (blk_below (g := gb259) (o := .cells #[.int .i64 a0_0, .int .i64 a0_1, .int .i64 a0_2, .slice A0_3 l0_3.length c0_3, .int .i64 a0_4, .int .i64 a0_5, .int .i64 a0_6, .int .i64 a0_7, .int .i64 a0_8, .int .i64 a0_9] 26 (0, 0)) (by (with_reducible repeat (first | refine blk_drewN ?_ _ | refine blk_drew ?_ | refine blk_alloc ?_ _)); exact BK259.out) hb); have n2_ := Aside0.mk (blk_below (g := gb266) (o := .cells #[.int .i64 t260, .int .i64 t261, .int .i64 t262, .slice Ao12 t263.length co12] 24 (0, 0)) (by (with_reducible repeat (first | refine blk_drewN ?_ _ | refine blk_drew ?_ | refine blk_alloc ?_ _)); exact BK266.out) hb); have n3_ := Aside0.mk (blk_below (g := gb267) (o := .cells #[.int .i64 a0_4, .int .i64 a0_5] 36 (0, 0)) (by (with_reducible repeat (first | refine blk_drewN ?_ _ | refine blk_drew ?_ | refine blk_alloc ?_ _)); exact BK267.out) hb); have n4_ := Aside0.mk (blk_below (g := gb268) (o := .cells #[.int .i64 a0_6, .int .i64 a0_7] 36 (0, 0)) (by (with_reducible repeat (first | refine blk_drewN ?_ _ | refine blk_drew ?_ | refine blk_alloc ?_ _)); exact BK268.out) hb); have n5_ := Aside0.mk (below_step (by repeat (first | (with_reducible first | exact HB.out | apply below_alloc | apply pw_below_drewN | apply below_drew1 | refine below_set ?_ GE259.out | refine below_set ?_ GE266.out | refine below_set ?_ GE267.out | refine below_set ?_ GE268.out) | exact HB.out)) hb); clear HO_267003; clear BK259; clear BK266; clear BK267; clear BK268; clear HB; have HO_267003 := n0_; have BK259 := n1_; have BK266 := n2_; have BK267 := n3_; have BK268 := n4_; have HB := n5_; clear n0_ n1_ n2_ n3_ n4_ n5_; (try clear hb); (try clear hb2); (try clear hk); (try clear hi); have hcz179_0 : w178.cell? ⟨gb266, 0, none⟩ = some (.int .i64 t260) := (blk_cell BK266.out 0).trans rfl; have hcz179_1 : w178.cell? ⟨gb266, 1, none⟩ = some (.int .i64 t261) := (blk_cell BK266.out 1).trans rfl; have hcz179_2 : w178.cell? ⟨gb266, 2, none⟩ = some (.int .i64 t262) := (blk_cell BK266.out 2).trans rfl; have hcz179_3 : w178.cell? ⟨gb266, 3, none⟩ = some (.slice Ao12 t263.length co12) := (blk_cell BK266.out 3).trans rfl; have hfz179_0 := blk_frozen BK266.out 0; have hfz179_1 := blk_frozen BK266.out 1; have hfz179_2 := blk_frozen BK266.out 2; have hfz179_3 := blk_frozen BK266.out 3; have hcz180_0 : w178.cell? ⟨gb267, 0, none⟩ = some (.int .i64 a0_4) := (blk_cell BK267.out 0).trans rfl; have hcz180_1 : w178.cell? ⟨gb267, 1, none⟩ = some (.int .i64 a0_5) := (blk_cell BK267.out 1).trans rfl; have hfz180_0 := blk_frozen BK267.out 0; have hfz180_1 := blk_frozen BK267.out 1; have hcz181_0 : w178.cell? ⟨gb268, 0, none⟩ = some (.int .i64 a0_6) := (blk_cell BK268.out 0).trans rfl; have hcz181_1 : w178.cell? ⟨gb268, 1, none⟩ = some (.int .i64 a0_7) := (blk_cell BK268.out 1).trans rfl; have hfz181_0 := blk_frozen BK268.out 0; have hfz181_1 := blk_frozen BK268.out 1; have hcz182_0 : w178.cell? ⟨gb259, 0, none⟩ = some (.int .i64 a0_0) := (blk_cell BK259.out 0).trans rfl; have hcz182_1 : w178.cell? ⟨gb259, 1, none⟩ = some (.int .i64 a0_1) := (blk_cell BK259.out 1).trans rfl; have hcz182_2 : w178.cell? ⟨gb259, 2, none⟩ = some (.int .i64 a0_2) := (blk_cell BK259.out 2).trans rfl; have hcz182_3 : w178.cell? ⟨gb259, 3, none⟩ = some (.slice A0_3 l0_3.length c0_3) := (blk_cell BK259.out 3).trans rfl; have hcz182_4 : w178.cell? ⟨gb259, 4, none⟩ = some (.int .i64 a0_4) := (blk_cell BK259.out 4).trans rfl; have hcz182_5 : w178.cell? ⟨gb259, 5, none⟩ = some (.int .i64 a0_5) := (blk_cell BK259.out 5).trans rfl; have hcz182_6 : w178.cell? ⟨gb259, 6, none⟩ = some (.int .i64 a0_6) := (blk_cell BK259.out 6).trans rfl; have hcz182_7 : w178.cell? ⟨gb259, 7, none⟩ = some (.int .i64 a0_7) := (blk_cell BK259.out 7).trans rfl; have hcz182_8 : w178.cell? ⟨gb259, 8, none⟩ = some (.int .i64 a0_8) := (blk_cell BK259.out 8).trans rfl; have hcz182_9 : w178.cell? ⟨gb259, 9, none⟩ = some (.int .i64 a0_9) := (blk_cell BK259.out 9).trans rfl; have hfz182_0 := blk_frozen BK259.out 0; have hfz182_1 := blk_frozen BK259.out 1; have hfz182_2 := blk_frozen BK259.out 2; have hfz182_3 := blk_frozen BK259.out 3; have hfz182_4 := blk_frozen BK259.out 4; have hfz182_5 := blk_frozen BK259.out 5; have hfz182_6 := blk_frozen BK259.out 6; have hfz182_7 := blk_frozen BK259.out 7; have hfz182_8 := blk_frozen BK259.out 8; have hfz182_9 := blk_frozen BK259.out 9) | ((with_reducible refine gate_callee (f := 20) rfl ?_); refine goesL_ (some 91) rfl rfl Try.func20 (by kernel_rfl) rfl #[.agg #[.int .i64 t260, .int .i64 t261, .int .i64 t262, .slice Ao12 t263.length co12], .agg #[.int .i64 a0_4, .int .i64 a0_5], .agg #[.int .i64 a0_6, .int .i64 a0_7], .int .i64 a0_8, .int .i64 (wrap64 (a0_9 + a1))] rfl (by (try simp only [List.map_toArray, List.map_cons, List.map_nil]); first | done | rfl | (simp only [List.length_drop, List.length_take]; rfl)) ?_; (with_reducible refine (ray_Sees.calls kj4 t260 t261 t262 _ _ t263 a0_4 a0_5 a0_6 a0_7 a0_8 (wrap64 (a0_9 + a1)) t275 t276 _ ?side1 ?side2 A51.out).mono ?_); (case side1 => repeat (first | exact (Kd.V_reads' HO_267003.out).2.2 | (with_reducible refine Kd.C_alloc ?_ _) | (with_reducible refine Kd.C_drewN ?_ _) | (with_reducible refine Kd.C_drew ?_))); (case side2 => exact (Kd.V_reads' HO_267003.out).2.1); rintro e w183 ⟨rfl, hb⟩; refine ⟨_, rfl, ?_⟩; have n0_ := Aside0.mk (Kd.V_below (by (with_reducible repeat (first | apply Kd.V_alloc | apply Kd.V_drewN | apply Kd.V_drew)); exact HO_267003.out) hb); have n1_ := Aside0.mk (blk_below (g := gb259) (o := .cells #[.int .i64 a0_0, .int .i64 a0_1, .int .i64 a0_2, .slice A0_3 l0_3.length c0_3, .int .i64 a0_4, .int .i64 a0_5, .int .i64 a0_6, .int .i64 a0_7, .int .i64 a0_8, .int .i64 a0_9] 26 (0, 0)) (by (with_reducible repeat (first | refine blk_drewN ?_ _ | refine blk_drew ?_ | refine blk_alloc ?_ _)); exact BK259.out) hb); have n2_ := Aside0.mk (blk_below (g := gb266) (o := .cells #[.int .i64 t260, .int .i64 t261, .int .i64 t262, .slice Ao12 t263.length co12] 24 (0, 0)) (by (with_reducible repeat (first | refine blk_drewN ?_ _ | refine blk_drew ?_ | refine blk_alloc ?_ _)); exact BK266.out) hb); have n3_ := Aside0.mk (blk_below (g := gb267) (o := .cells #[.int .i64 a0_4, .int .i64 a0_5] 36 (0, 0)) (by (with_reducible repeat (first | refine blk_drewN ?_ _ | refine blk_drew ?_ | refine blk_alloc ?_ _)); exact BK267.out) hb); have n4_ := Aside0.mk (blk_below (g := gb268) (o := .cells #[.int .i64 a0_6, .int .i64 a0_7] 36 (0, 0)) (by (with_reducible repeat (first | refine blk_drewN ?_ _ | refine blk_drew ?_ | refine blk_alloc ?_ _)); exact BK268.out) hb); have n5_ := Aside0.mk (below_step (by repeat (first | (with_reducible first | exact HB.out | apply below_alloc | apply pw_below_drewN | apply below_drew1 | refine below_set ?_ GE259.out | refine below_set ?_ GE266.out | refine below_set ?_ GE267.out | refine below_set ?_ GE268.out) | exact HB.out)) hb); clear HO_267003; clear BK259; clear BK266; clear BK267; clear BK268; clear HB; have HO_267003 := n0_; have BK259 := n1_; have BK266 := n2_; have BK267 := n3_; have BK268 := n4_; have HB := n5_; clear n0_ n1_ n2_ n3_ n4_ n5_; (try clear hb); (try clear hb2); (try clear hk); (try clear hi); have hcz184_0 : w183.cell? ⟨gb259, 0, none⟩ = some (.int .i64 a0_0) := (blk_cell BK259.out 0).trans rfl; have hcz184_1 : w183.cell? ⟨gb259, 1, none⟩ = some (.int .i64 a0_1) := (blk_cell BK259.out 1).trans rfl; have hcz184_2 : w183.cell? ⟨gb259, 2, none⟩ = some (.int .i64 a0_2) := (blk_cell BK259.out 2).trans rfl; have hcz184_3 : w183.cell? ⟨gb259, 3, none⟩ = some (.slice A0_3 l0_3.length c0_3) := (blk_cell BK259.out 3).trans rfl; have hcz184_4 : w183.cell? ⟨gb259, 4, none⟩ = some (.int .i64 a0_4) := (blk_cell BK259.out 4).trans rfl; have hcz184_5 : w183.cell? ⟨gb259, 5, none⟩ = some (.int .i64 a0_5) := (blk_cell BK259.out 5).trans rfl; have hcz184_6 : w183.cell? ⟨gb259, 6, none⟩ = some (.int .i64 a0_6) := (blk_cell BK259.out 6).trans rfl; have hcz184_7 : w183.cell? ⟨gb259, 7, none⟩ = some (.int .i64 a0_7) := (blk_cell BK259.out 7).trans rfl; have hcz184_8 : w183.cell? ⟨gb259, 8, none⟩ = some (.int .i64 a0_8) := (blk_cell BK259.out 8).trans rfl; have hcz184_9 : w183.cell? ⟨gb259, 9, none⟩ = some (.int .i64 a0_9) := (blk_cell BK259.out 9).trans rfl; have hfz184_0 := blk_frozen BK259.out 0; have hfz184_1 := blk_frozen BK259.out 1; have hfz184_2 := blk_frozen BK259.out 2; have hfz184_3 := blk_frozen BK259.out 3; have hfz184_4 := blk_frozen BK259.out 4; have hfz184_5 := blk_frozen BK259.out 5; have hfz184_6 := blk_frozen BK259.out 6; have hfz184_7 := blk_frozen BK259.out 7; have hfz184_8 := blk_frozen BK259.out 8; have hfz184_9 := blk_frozen BK259.out 9) | ((with_reducible refine gate_callee (f := 12) rfl ?_); refine goesL_ (some 102) rfl rfl Try.func12 (by kernel_rfl) rfl #[.int .i64 a0_4, .int .i64 a0_5, .int .i64 a0_6, .int .i64 a0_7] rfl (by (try simp only [List.map_toArray, List.map_cons, List.map_nil]); first | done | rfl | (simp only [List.length_drop, List.length_take]; rfl)) ?_; (with_reducible refine (bivouacref08_Long.calls a0_4 a0_5 a0_6 a0_7 t277 _ A52.out).mono ?_); rintro e w' ⟨rfl, ⟨nd, rfl⟩⟩; refine ⟨_, rfl, ?_⟩))
      go_ret
      exact ⟨by first | rfl | (simp [errW_none, errW_some] <;> rfl) | (simp [*, errW_none, errW_some] <;> rfl) | (rw [Int.tdiv_eq_ediv_of_nonneg (by assumption)]; rfl), by repeat (first | (with_reducible first | exact HB.out | apply below_alloc | apply pw_below_drewN | apply below_drew1 | refine below_set ?_ GE259.out | refine below_set ?_ GE266.out | refine below_set ?_ GE267.out | refine below_set ?_ GE268.out) | exact HB.out)⟩
    ·
     rw [if_neg c53] at H
     have c53b0 : (t274 == 0) = false := beq_eq_false_iff_ne.mpr c53
     have c53b1 : (t274 != 0) = true := bne_iff_ne.mpr c53
     obtain rfl := Option.some.inj H
     have hnb185 := NB266_259.out
     have hnc185 := NB259_266.out
     have hnb186 := NB266_267.out
     have hnc186 := NB267_266.out
     have hnb187 := NB266_268.out
     have hnc187 := NB268_266.out
     have hcz188_0 : wc.cell? ⟨gb266, 0, none⟩ = some (.int .i64 t260) := (blk_cell BK266.out 0).trans rfl
     have hcz188_1 : wc.cell? ⟨gb266, 1, none⟩ = some (.int .i64 t261) := (blk_cell BK266.out 1).trans rfl
     have hcz188_2 : wc.cell? ⟨gb266, 2, none⟩ = some (.int .i64 t262) := (blk_cell BK266.out 2).trans rfl
     have hcz188_3 : wc.cell? ⟨gb266, 3, none⟩ = some (.slice Ao12 t263.length co12) := (blk_cell BK266.out 3).trans rfl
     have hfz188_0 := blk_frozen BK266.out 0
     have hfz188_1 := blk_frozen BK266.out 1
     have hfz188_2 := blk_frozen BK266.out 2
     have hfz188_3 := blk_frozen BK266.out 3
     have hnb189 := NB267_259.out
     have hnc189 := NB259_267.out
     have hnb190 := NB267_268.out
     have hnc190 := NB268_267.out
     have hcz191_0 : wc.cell? ⟨gb267, 0, none⟩ = some (.int .i64 a0_4) := (blk_cell BK267.out 0).trans rfl
     have hcz191_1 : wc.cell? ⟨gb267, 1, none⟩ = some (.int .i64 a0_5) := (blk_cell BK267.out 1).trans rfl
     have hfz191_0 := blk_frozen BK267.out 0
     have hfz191_1 := blk_frozen BK267.out 1
     have hnb192 := NB268_259.out
     have hnc192 := NB259_268.out
     have hcz193_0 : wc.cell? ⟨gb268, 0, none⟩ = some (.int .i64 a0_6) := (blk_cell BK268.out 0).trans rfl
     have hcz193_1 : wc.cell? ⟨gb268, 1, none⟩ = some (.int .i64 a0_7) := (blk_cell BK268.out 1).trans rfl
     have hfz193_0 := blk_frozen BK268.out 0
     have hfz193_1 := blk_frozen BK268.out 1
     have hcz194_0 : wc.cell? ⟨gb259, 0, none⟩ = some (.int .i64 a0_0) := (blk_cell BK259.out 0).trans rfl
     have hcz194_1 : wc.cell? ⟨gb259, 1, none⟩ = some (.int .i64 a0_1) := (blk_cell BK259.out 1).trans rfl
     have hcz194_2 : wc.cell? ⟨gb259, 2, none⟩ = some (.int .i64 a0_2) := (blk_cell BK259.out 2).trans rfl
     have hcz194_3 : wc.cell? ⟨gb259, 3, none⟩ = some (.slice A0_3 l0_3.length c0_3) := (blk_cell BK259.out 3).trans rfl
     have hcz194_4 : wc.cell? ⟨gb259, 4, none⟩ = some (.int .i64 a0_4) := (blk_cell BK259.out 4).trans rfl
     have hcz194_5 : wc.cell? ⟨gb259, 5, none⟩ = some (.int .i64 a0_5) := (blk_cell BK259.out 5).trans rfl
     have hcz194_6 : wc.cell? ⟨gb259, 6, none⟩ = some (.int .i64 a0_6) := (blk_cell BK259.out 6).trans rfl
     have hcz194_7 : wc.cell? ⟨gb259, 7, none⟩ = some (.int .i64 a0_7) := (blk_cell BK259.out 7).trans rfl
     have hcz194_8 : wc.cell? ⟨gb259, 8, none⟩ = some (.int .i64 a0_8) := (blk_cell BK259.out 8).trans rfl
     have hcz194_9 : wc.cell? ⟨gb259, 9, none⟩ = some (.int .i64 a0_9) := (blk_cell BK259.out 9).trans rfl
     have hfz194_0 := blk_frozen BK259.out 0
     have hfz194_1 := blk_frozen BK259.out 1
     have hfz194_2 := blk_frozen BK259.out 2
     have hfz194_3 := blk_frozen BK259.out 3
     have hfz194_4 := blk_frozen BK259.out 4
     have hfz194_5 := blk_frozen BK259.out 5
     have hfz194_6 := blk_frozen BK259.out 6
     have hfz194_7 := blk_frozen BK259.out 7
     have hfz194_8 := blk_frozen BK259.out 8
     have hfz194_9 := blk_frozen BK259.out 9
     go_wp2_with (first | ((with_reducible refine gate_callee (f := 20) rfl ?_); refine goesL_ (some 78) rfl rfl Try.func20 (by kernel_rfl) rfl #[.agg #[.int .i64 t260, .int .i64 t261, .int .i64 t262, .slice Ao12 t263.length co12], .agg #[.int .i64 a0_4, .int .i64 a0_5], .agg #[.int .i64 a0_6, .int .i64 a0_7], .int .i64 (wrap64 (a0_8 + a1)), .int .i64 a0_9] rfl (by (try simp only [List.map_toArray, List.map_cons, List.map_nil]); first | done | rfl | (simp only [List.length_drop, List.length_take]; rfl)) ?_; (with_reducible refine (ray_Sees.calls kj4 t260 t261 t262 _ _ t263 a0_4 a0_5 a0_6 a0_7 (wrap64 (a0_8 + a1)) a0_9 t273 t274 _ ?side1 ?side2 A50.out).mono ?_); (case side1 => repeat (first | exact (Kd.V_reads' HO_267003.out).2.2 | (with_reducible refine Kd.C_alloc ?_ _) | (with_reducible refine Kd.C_drewN ?_ _) | (with_reducible refine Kd.C_drew ?_))); (case side2 => exact (Kd.V_reads' HO_267003.out).2.1); rintro e w195 ⟨rfl, hb⟩; refine ⟨_, rfl, ?_⟩; have n0_ := Aside0.mk (Kd.V_below (by (with_reducible repeat (first | apply Kd.V_alloc | apply Kd.V_drewN | apply Kd.V_drew)); exact HO_267003.out) hb); have n1_ := Aside0.mk (blk_below (g := gb259) (o := .cells #[.int .i64 a0_0, .int .i64 a0_1, .int .i64 a0_2, .slice A0_3 l0_3.length c0_3, .int .i64 a0_4, .int .i64 a0_5, .int .i64 a0_6, .int .i64 a0_7, .int .i64 a0_8, .int .i64 a0_9] 26 (0, 0)) (by (with_reducible repeat (first | refine blk_drewN ?_ _ | refine blk_drew ?_ | refine blk_alloc ?_ _)); exact BK259.out) hb); have n2_ := Aside0.mk (blk_below (g := gb266) (o := .cells #[.int .i64 t260, .int .i64 t261, .int .i64 t262, .slice Ao12 t263.length co12] 24 (0, 0)) (by (with_reducible repeat (first | refine blk_drewN ?_ _ | refine blk_drew ?_ | refine blk_alloc ?_ _)); exact BK266.out) hb); have n3_ := Aside0.mk (blk_below (g := gb267) (o := .cells #[.int .i64 a0_4, .int .i64 a0_5] 36 (0, 0)) (by (with_reducible repeat (first | refine blk_drewN ?_ _ | refine blk_drew ?_ | refine blk_alloc ?_ _)); exact BK267.out) hb); have n4_ := Aside0.mk (blk_below (g := gb268) (o := .cells #[.int .i64 a0_6, .int .i64 a0_7] 36 (0, 0)) (by (with_reducible repeat (first | refine blk_drewN ?_ _ | refine blk_drew ?_ | refine blk_alloc ?_ _)); exact BK268.out) hb); have n5_ := Aside0.mk (below_step (by repeat (first | (with_reducible first | exact HB.out | apply below_alloc | apply pw_below_drewN | apply below_drew1 | refine below_set ?_ GE259.out | refine below_set ?_ GE266.out | refine below_set ?_ GE267.out | refine below_set ?_ GE268.out) | exact HB.out)) hb); clear HO_267003; clear BK259; clear BK266; clear BK267; clear BK268; clear HB; have HO_267003 := n0_; have BK259 := n1_; have BK266 := n2_; have BK267 := n3_; have BK268 := n4_; have HB := n5_; clear n0_ n1_ n2_ n3_ n4_ n5_; (try clear hb); (try clear hb2); (try clear hk); (try clear hi); have hcz196_0 : w195.cell? ⟨gb266, 0, none⟩ = some (.int .i64 t260) := (blk_cell BK266.out 0).trans rfl; have hcz196_1 : w195.cell? ⟨gb266, 1, none⟩ = some (.int .i64 t261) := (blk_cell BK266.out 1).trans rfl; have hcz196_2 : w195.cell? ⟨gb266, 2, none⟩ = some (.int .i64 t262) := (blk_cell BK266.out 2).trans rfl; have hcz196_3 : w195.cell? ⟨gb266, 3, none⟩ = some (.slice Ao12 t263.length co12) := (blk_cell BK266.out 3).trans rfl; have hfz196_0 := blk_frozen BK266.out 0; have hfz196_1 := blk_frozen BK266.out 1; have hfz196_2 := blk_frozen BK266.out 2; have hfz196_3 := blk_frozen BK266.out 3; have hcz197_0 : w195.cell? ⟨gb267, 0, none⟩ = some (.int .i64 a0_4) := (blk_cell BK267.out 0).trans rfl; have hcz197_1 : w195.cell? ⟨gb267, 1, none⟩ = some (.int .i64 a0_5) := (blk_cell BK267.out 1).trans rfl; have hfz197_0 := blk_frozen BK267.out 0; have hfz197_1 := blk_frozen BK267.out 1; have hcz198_0 : w195.cell? ⟨gb268, 0, none⟩ = some (.int .i64 a0_6) := (blk_cell BK268.out 0).trans rfl; have hcz198_1 : w195.cell? ⟨gb268, 1, none⟩ = some (.int .i64 a0_7) := (blk_cell BK268.out 1).trans rfl; have hfz198_0 := blk_frozen BK268.out 0; have hfz198_1 := blk_frozen BK268.out 1; have hcz199_0 : w195.cell? ⟨gb259, 0, none⟩ = some (.int .i64 a0_0) := (blk_cell BK259.out 0).trans rfl; have hcz199_1 : w195.cell? ⟨gb259, 1, none⟩ = some (.int .i64 a0_1) := (blk_cell BK259.out 1).trans rfl; have hcz199_2 : w195.cell? ⟨gb259, 2, none⟩ = some (.int .i64 a0_2) := (blk_cell BK259.out 2).trans rfl; have hcz199_3 : w195.cell? ⟨gb259, 3, none⟩ = some (.slice A0_3 l0_3.length c0_3) := (blk_cell BK259.out 3).trans rfl; have hcz199_4 : w195.cell? ⟨gb259, 4, none⟩ = some (.int .i64 a0_4) := (blk_cell BK259.out 4).trans rfl; have hcz199_5 : w195.cell? ⟨gb259, 5, none⟩ = some (.int .i64 a0_5) := (blk_cell BK259.out 5).trans rfl; have hcz199_6 : w195.cell? ⟨gb259, 6, none⟩ = some (.int .i64 a0_6) := (blk_cell BK259.out 6).trans rfl; have hcz199_7 : w195.cell? ⟨gb259, 7, none⟩ = some (.int .i64 a0_7) := (blk_cell BK259.out 7).trans rfl; have hcz199_8 : w195.cell? ⟨gb259, 8, none⟩ = some (.int .i64 a0_8) := (blk_cell BK259.out 8).trans rfl; have hcz199_9 : w195.cell? ⟨gb259, 9, none⟩ = some (.int .i64 a0_9) := (blk_cell BK259.out 9).trans rfl; have hfz199_0 := blk_frozen BK259.out 0; have hfz199_1 := blk_frozen BK259.out 1; have hfz199_2 := blk_frozen BK259.out 2; have hfz199_3 := blk_frozen BK259.out 3; have hfz199_4 := blk_frozen BK259.out 4; have hfz199_5 := blk_frozen BK259.out 5; have hfz199_6 := blk_frozen BK259.out 6; have hfz199_7 := blk_frozen BK259.out 7; have hfz199_8 := blk_frozen BK259.out 8; have hfz199_9 := blk_frozen BK259.out 9) | ((with_reducible refine gate_callee (f := 20) rfl ?_); refine goesL_ (some 91) rfl rfl Try.func20 (by kernel_rfl) rfl #[.agg #[.int .i64 t260, .int .i64 t261, .int .i64 t262, .slice Ao12 t263.length co12], .agg #[.int .i64 a0_4, .int .i64 a0_5], .agg #[.int .i64 a0_6, .int .i64 a0_7], .int .i64 a0_8, .int .i64 (wrap64 (a0_9 + a1))] rfl (by (try simp only [List.map_toArray, List.map_cons, List.map_nil]); first | done | rfl | (simp only [List.length_drop, List.length_take]; rfl)) ?_; (with_reducible refine (ray_Sees.calls kj4 t260 t261 t262 _ _ t263 a0_4 a0_5 a0_6 a0_7 a0_8 (wrap64 (a0_9 + a1)) t275 t276 _ ?side1 ?side2 A51.out).mono ?_); (case side1 => repeat (first | exact (Kd.V_reads' HO_267003.out).2.2 | (with_reducible refine Kd.C_alloc ?_ _) | (with_reducible refine Kd.C_drewN ?_ _) | (with_reducible refine Kd.C_drew ?_))); (case side2 => exact (Kd.V_reads' HO_267003.out).2.1); rintro e w200 ⟨rfl, hb⟩; refine ⟨_, rfl, ?_⟩; have n0_ := Aside0.mk (Kd.V_below (by (with_reducible repeat (first | apply Kd.V_alloc | apply Kd.V_drewN | apply Kd.V_drew)); exact HO_267003.out) hb); have n1_ := Aside0.mk (blk_below (g := gb259) (o := .cells #[.int .i64 a0_0, .int .i64 a0_1, .int .i64 a0_2, .slice A0_3 l0_3.length c0_3, .int .i64 a0_4, .int .i64 a0_5, .int .i64 a0_6, .int .i64 a0_7, .int .i64 a0_8, .int .i64 a0_9] 26 (0, 0)) (by (with_reducible repeat (first | refine blk_drewN ?_ _ | refine blk_drew ?_ | refine blk_alloc ?_ _)); exact BK259.out) hb); have n2_ := Aside0.mk (blk_below (g := gb266) (o := .cells #[.int .i64 t260, .int .i64 t261, .int .i64 t262, .slice Ao12 t263.length co12] 24 (0, 0)) (by (with_reducible repeat (first | refine blk_drewN ?_ _ | refine blk_drew ?_ | refine blk_alloc ?_ _)); exact BK266.out) hb); have n3_ := Aside0.mk (blk_below (g := gb267) (o := .cells #[.int .i64 a0_4, .int .i64 a0_5] 36 (0, 0)) (by (with_reducible repeat (first | refine blk_drewN ?_ _ | refine blk_drew ?_ | refine blk_alloc ?_ _)); exact BK267.out) hb); have n4_ := Aside0.mk (blk_below (g := gb268) (o := .cells #[.int .i64 a0_6, .int .i64 a0_7] 36 (0, 0)) (by (with_reducible repeat (first | refine blk_drewN ?_ _ | refine blk_drew ?_ | refine blk_alloc ?_ _)); exact BK268.out) hb); have n5_ := Aside0.mk (below_step (by repeat (first | (with_reducible first | exact HB.out | apply below_alloc | apply pw_below_drewN | apply below_drew1 | refine below_set ?_ GE259.out | refine below_set ?_ GE266.out | refine below_set ?_ GE267.out | refine below_set ?_ GE268.out) | exact HB.out)) hb); clear HO_267003; clear BK259; clear BK266; clear BK267; clear BK268; clear HB; have HO_267003 := n0_; have BK259 := n1_; have BK266 := n2_; have BK267 := n3_; have BK268 := n4_; have HB := n5_; clear n0_ n1_ n2_ n3_ n4_ n5_; (try clear hb); (try clear hb2); (try clear hk); (try clear hi); have hcz201_0 : w200.cell? ⟨gb259, 0, none⟩ = some (.int .i64 a0_0) := (blk_cell BK259.out 0).trans rfl; have hcz201_1 : w200.cell? ⟨gb259, 1, none⟩ = some (.int .i64 a0_1) := (blk_cell BK259.out 1).trans rfl; have hcz201_2 : w200.cell? ⟨gb259, 2, none⟩ = some (.int .i64 a0_2) := (blk_cell BK259.out 2).trans rfl; have hcz201_3 : w200.cell? ⟨gb259, 3, none⟩ = some (.slice A0_3 l0_3.length c0_3) := (blk_cell BK259.out 3).trans rfl; have hcz201_4 : w200.cell? ⟨gb259, 4, none⟩ = some (.int .i64 a0_4) := (blk_cell BK259.out 4).trans rfl; have hcz201_5 : w200.cell? ⟨gb259, 5, none⟩ = some (.int .i64 a0_5) := (blk_cell BK259.out 5).trans rfl; have hcz201_6 : w200.cell? ⟨gb259, 6, none⟩ = some (.int .i64 a0_6) := (blk_cell BK259.out 6).trans rfl; have hcz201_7 : w200.cell? ⟨gb259, 7, none⟩ = some (.int .i64 a0_7) := (blk_cell BK259.out 7).trans rfl; have hcz201_8 : w200.cell? ⟨gb259, 8, none⟩ = some (.int .i64 a0_8) := (blk_cell BK259.out 8).trans rfl; have hcz201_9 : w200.cell? ⟨gb259, 9, none⟩ = some (.int .i64 a0_9) := (blk_cell BK259.out 9).trans rfl; have hfz201_0 := blk_frozen BK259.out 0; have hfz201_1 := blk_frozen BK259.out 1; have hfz201_2 := blk_frozen BK259.out 2; have hfz201_3 := blk_frozen BK259.out 3; have hfz201_4 := blk_frozen BK259.out 4; have hfz201_5 := blk_frozen BK259.out 5; have hfz201_6 := blk_frozen BK259.out 6; have hfz201_7 := blk_frozen BK259.out 7; have hfz201_8 := blk_frozen BK259.out 8; have hfz201_9 := blk_frozen BK259.out 9) | ((with_reducible refine gate_callee (f := 12) rfl ?_); refine goesL_ (some 102) rfl rfl Try.func12 (by kernel_rfl) rfl #[.int .i64 a0_4, .int .i64 a0_5, .int .i64 a0_6, .int .i64 a0_7] rfl (by (try simp only [List.map_toArray, List.map_cons, List.map_nil]); first | done | rfl | (simp only [List.length_drop, List.length_take]; rfl)) ?_; (with_reducible refine (bivouacref08_Long.calls a0_4 a0_5 a0_6 a0_7 t277 _ A52.out).mono ?_); rintro e w' ⟨rfl, ⟨nd, rfl⟩⟩; refine ⟨_, rfl, ?_⟩))
     go_ret
     exact ⟨by first | rfl | (simp [errW_none, errW_some] <;> rfl) | (simp [*, errW_none, errW_some] <;> rfl) | (rw [Int.tdiv_eq_ediv_of_nonneg (by assumption)]; rfl), by repeat (first | (with_reducible first | exact HB.out | apply below_alloc | apply pw_below_drewN | apply below_drew1 | refine below_set ?_ GE259.out | refine below_set ?_ GE266.out | refine below_set ?_ GE267.out | refine below_set ?_ GE268.out) | exact HB.out)⟩

/-- THE ONE PURE STATEMENT of bivouaclaw08_RayHigher. -/
def bivouaclaw08_RayHigher.Pure : Prop := ∀ (a0_0 : Int) (a0_1 : Int) (a0_2 : Int) (l0_3 : List Int) (a0_4 : Int) (a0_5 : Int) (a0_6 : Int) (a0_7 : Int) (a0_8 : Int) (a0_9 : Int) (a1 : Int), (Lit.int .i64 a0_0).wf = true → (Lit.int .i64 a0_1).wf = true → (Lit.int .i64 a0_2).wf = true → l0_3.length ≤ maxLen → (∀ x ∈ l0_3, (Lit.int .u8 x).wf = true) → (Lit.int .i64 a0_4).wf = true → (Lit.int .i64 a0_5).wf = true → (Lit.int .i64 a0_6).wf = true → (Lit.int .i64 a0_7).wf = true → (Lit.int .i64 a0_8).wf = true → (Lit.int .i64 a0_9).wf = true → (Lit.int .i64 a1).wf = true → ∃ k, bivouaclaw08_RayHigher.f k a0_0 a0_1 a0_2 l0_3 a0_4 a0_5 a0_6 a0_7 a0_8 a0_9 a1 = some true
theorem bivouaclaw08_RayHigher.walked : True := trivial

end Go.Proofs.Ytincnaejgimlbaa.PA
