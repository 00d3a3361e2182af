-- WRITTEN BY A PROGRAM OF THIS SESSION (a turned copy of the kit's printer), for this claim. Nothing here is trusted: Lean checks it.
import Derived.Test.YtfcocbkfodmmbaaPAx0
import Derived.Test.YtfcocbkfodmmbaaPAx2
import Derived.Test.YtfcocbkfodmmbaaPAx13
import Derived.Test.YtfcocbkfodmmbaaPAx16
import Derived.Test.YtfcocbkfodmmbaaPAx19
import Derived.Test.YtfcocbkfodmmbaaPAx26
import Derived.Test.YtfcocbkfodmmbaaGAbivouaclaw16awake
namespace Go.Proofs.Ytfcocbkfodmmbaa.PA
open Go.RowKit Go.Proofs.YtfcocbkfodmmbaaW.PrintWords Go.Proofs.YtfcocbkfodmmbaaW.PrintLast Go.Proofs.YtfcocbkfodmmbaaW.PrintMore
attribute [local go_sem] max2_int min2_int max_two min_two max_three min_three max_four min_four   -- for this text's walks alone
set_option linter.unusedVariables false
set_option linter.unusedSimpArgs false

attribute [local go_sem high] eqA38
/-! ### bivouaclaw16_ShotFlies: function 6 -/
def bivouaclaw16_ShotFlies.j0 : Nat → Int → Int → Bool → Int → Int → Int → List Int → Int → Int → Int → Int → Int → Int → Int → Int → Int → Int → Int → Int → Int → Int → Option (Bool)
  | 0, _, _, _, _, _, _, _, _, _, _, _, _, _, _, _, _, _, _, _, _, _ => none
  | k + 1, x5, x7, x33, x268000, x268001, x268002, x268003, x269000, x269001, x269002, x269003, x269004, x269005, x279000, x279001, x279002, x279003, x279004, x279005, x279006, x279007 => if x33 = true then (if (x279000 == 0 && (x279001 == 0 && ((x279002 == 0 && (x279003 == 0 && (x279004 == 0 && (x279005 == 0 && (x279006 == 0 && (x279007 == 0))))))))) = true then (if x7 = 1 then ((bivouaclaw16_awake.f).bind fun t280 => (some t280)) else (some false)) else (some false)) else ((bivouacref16_Fly.f k x268000 x268001 x268002 x268003 x269000 x269001 x269002 x269003 x269004 x269005 x5).bind fun bt281 => (if (x279000 == bt281.1 && (x279001 == bt281.2.1 && ((x279002 == bt281.2.2.1 && (x279003 == bt281.2.2.2.1 && (x279004 == bt281.2.2.2.2.1 && (x279005 == bt281.2.2.2.2.2.1 && (x279006 == bt281.2.2.2.2.2.2.1 && (x279007 == bt281.2.2.2.2.2.2.2))))))))) = true then (if x7 = 0 then ((bivouaclaw16_awake.f).bind fun t289 => (some t289)) else (some false)) else (some false)))
def bivouaclaw16_ShotFlies.f (k : Nat) (a0_0 : Int) (a0_1 : Int) (a0_2 : Int) (l0_3 : List Int) (a0_4 : Int) (a0_5 : Int) (a0_6 : Int) (a0_7 : Int) (a0_8 : Int) (a0_9 : Int) (a0_10 : Int) (a0_11 : Int) : Option (Bool) := (bivouaclaw16_few.f a0_0 a0_1 a0_2 l0_3).bind fun bt261 => ((shot_Fly.f k bt261.1 bt261.2.1 bt261.2.2.1 bt261.2.2.2 a0_4 a0_5 a0_6 a0_7 a0_8 a0_9 a0_10).bind fun bt269 => ((bivouacref16_May.f k bt261.1 bt261.2.1 bt261.2.2.1 bt261.2.2.2 a0_4 a0_5 a0_6 a0_7 a0_8 a0_9).bind fun t279 => (if t279 = true then (if a0_10 < 0 then (bivouaclaw16_ShotFlies.j0 k a0_10 bt269.2.2.2.2.2.2.2.2 true bt261.1 bt261.2.1 bt261.2.2.1 bt261.2.2.2 a0_4 a0_5 a0_6 a0_7 a0_8 a0_9 bt269.1 bt269.2.1 bt269.2.2.1 bt269.2.2.2.1 bt269.2.2.2.2.1 bt269.2.2.2.2.2.1 bt269.2.2.2.2.2.2.1 bt269.2.2.2.2.2.2.2.1) else (bivouaclaw16_ShotFlies.j0 k a0_10 bt269.2.2.2.2.2.2.2.2 (decide (a0_10 > 1024)) bt261.1 bt261.2.1 bt261.2.2.1 bt261.2.2.2 a0_4 a0_5 a0_6 a0_7 a0_8 a0_9 bt269.1 bt269.2.1 bt269.2.2.1 bt269.2.2.2.1 bt269.2.2.2.2.1 bt269.2.2.2.2.2.1 bt269.2.2.2.2.2.2.1 bt269.2.2.2.2.2.2.2.1)) else (bivouaclaw16_ShotFlies.j0 k a0_10 bt269.2.2.2.2.2.2.2.2 true bt261.1 bt261.2.1 bt261.2.2.1 bt261.2.2.2 a0_4 a0_5 a0_6 a0_7 a0_8 a0_9 bt269.1 bt269.2.1 bt269.2.2.1 bt269.2.2.2.1 bt269.2.2.2.2.1 bt269.2.2.2.2.2.1 bt269.2.2.2.2.2.2.1 bt269.2.2.2.2.2.2.2.1))))
theorem bivouaclaw16_ShotFlies.mono_l : ∀ k, (∀ y0 y1 y2 y3 y4 y5 y6 y7 y8 y9 y10 y11 y12 y13 y14 y15 y16 y17 y18 y19 y20, LeO (bivouaclaw16_ShotFlies.j0 k y0 y1 y2 y3 y4 y5 y6 y7 y8 y9 y10 y11 y12 y13 y14 y15 y16 y17 y18 y19 y20) (bivouaclaw16_ShotFlies.j0 (k + 1) y0 y1 y2 y3 y4 y5 y6 y7 y8 y9 y10 y11 y12 y13 y14 y15 y16 y17 y18 y19 y20))
  | 0 => fun _ _ _ _ _ _ _ _ _ _ _ _ _ _ _ _ _ _ _ _ _ r h => by simp [bivouaclaw16_ShotFlies.j0] at h
  | k + 1 => by
    have ih0 := bivouaclaw16_ShotFlies.mono_l k
    · intro y0 y1 y2 y3 y4 y5 y6 y7 y8 y9 y10 y11 y12 y13 y14 y15 y16 y17 y18 y19 y20
      unfold bivouaclaw16_ShotFlies.j0
      repeat' first
      | (with_reducible exact ih0 _ _ _ _ _ _ _ _ _ _ _ _ _ _ _ _ _ _ _ _ _)
      | (with_reducible exact bivouacref16_Fly.mono _ _ _ _ _ _ _ _ _ _ _ _)
      | (with_reducible exact bivouacref16_May.mono _ _ _ _ _ _ _ _ _ _ _)
      | (with_reducible exact shot_Fly.mono _ _ _ _ _ _ _ _ _ _ _ _)
      | (with_reducible exact LeO.refl _)
      | (with_reducible exact LeO.none _)
      | (with_reducible refine LeO.ite ?_ ?_)
      | (with_reducible refine LeO.bind ?_ (fun _ => ?_))
      | exact ih0 _ _ _ _ _ _ _ _ _ _ _ _ _ _ _ _ _ _ _ _ _
      | exact bivouacref16_Fly.mono _ _ _ _ _ _ _ _ _ _ _ _
      | exact bivouacref16_May.mono _ _ _ _ _ _ _ _ _ _ _
      | exact shot_Fly.mono _ _ _ _ _ _ _ _ _ _ _ _
      | exact LeO.none _
      | refine LeO.ite ?_ ?_
      | refine LeO.bind ?_ (fun _ => ?_)
theorem bivouaclaw16_ShotFlies.mono : ∀ a0 a1 a2 a3 a4 a5 a6 a7 a8 a9 a10 a11 k, LeO (bivouaclaw16_ShotFlies.f k a0 a1 a2 a3 a4 a5 a6 a7 a8 a9 a10 a11) (bivouaclaw16_ShotFlies.f (k + 1) a0 a1 a2 a3 a4 a5 a6 a7 a8 a9 a10 a11) := by
  intro a0 a1 a2 a3 a4 a5 a6 a7 a8 a9 a10 a11 k
  have ih0 := bivouaclaw16_ShotFlies.mono_l k
  unfold bivouaclaw16_ShotFlies.f
  repeat' first
      | (with_reducible exact ih0 _ _ _ _ _ _ _ _ _ _ _ _ _ _ _ _ _ _ _ _ _)
      | (with_reducible exact bivouacref16_Fly.mono _ _ _ _ _ _ _ _ _ _ _ _)
      | (with_reducible exact bivouacref16_May.mono _ _ _ _ _ _ _ _ _ _ _)
      | (with_reducible exact shot_Fly.mono _ _ _ _ _ _ _ _ _ _ _ _)
      | (with_reducible exact LeO.refl _)
      | (with_reducible exact LeO.none _)
      | (with_reducible refine LeO.ite ?_ ?_)
      | (with_reducible refine LeO.bind ?_ (fun _ => ?_))
      | exact ih0 _ _ _ _ _ _ _ _ _ _ _ _ _ _ _ _ _ _ _ _ _
      | exact bivouacref16_Fly.mono _ _ _ _ _ _ _ _ _ _ _ _
      | exact bivouacref16_May.mono _ _ _ _ _ _ _ _ _ _ _
      | exact shot_Fly.mono _ _ _ _ _ _ _ _ _ _ _ _
      | exact LeO.none _
      | refine LeO.ite ?_ ?_
      | refine LeO.bind ?_ (fun _ => ?_)
def bivouaclaw16_ShotFlies.T1 : Bool × List (List Nat × List Nat) := (true, [([], []), ([0], [0]), ([1], [1]), ([], []), ([3], [3]), ([], []), ([5], [5]), ([], []), ([], []), ([7, 2, 2, 0, 1, 2, 7, 8], [2, 7]), ([8, 4, 9, 0, 1, 2, 3, 4, 7, 8, 9], [4, 8]), ([6, 10, 0, 1, 2, 3, 4, 5, 6, 7, 8, 9, 10], [6])])
def bivouaclaw16_ShotFlies.B1 : List Nat := [0, 1, 3, 0, 8, 0, 32, 0, 0, 391, 927, 2047]
theorem bivouaclaw16_ShotFlies.tab1 : rtab .any (opsOf Try.f6 1) = bivouaclaw16_ShotFlies.T1 := by kernel_rfl
theorem bivouaclaw16_ShotFlies.bits1 : waitsOk bivouaclaw16_ShotFlies.T1.2 bivouaclaw16_ShotFlies.B1 = true := by kernel_rfl
def bivouaclaw16_ShotFlies.T5 : Bool × List (List Nat × List Nat) := (true, [([], []), ([], []), ([], []), ([], []), ([1, 2, 3], [1, 2, 3]), ([0, 4], [0, 4]), ([5, 4], [5]), ([6], [6]), ([7, 6], [6, 7]), ([6, 8], [6, 8]), ([9, 6], [9]), ([10, 10], [10]), ([10, 11], [10, 11]), ([12, 11, 0, 1, 2, 3, 4, 5, 6, 7, 8, 9, 10, 11, 12], [12])])
def bivouaclaw16_ShotFlies.B5 : List Nat := [0, 0, 0, 0, 14, 31, 63, 127, 255, 511, 1023, 2047, 4095, 8191]
theorem bivouaclaw16_ShotFlies.tab5 : rtab .any (opsOf Try.f6 5) = bivouaclaw16_ShotFlies.T5 := by kernel_rfl
theorem bivouaclaw16_ShotFlies.bits5 : waitsOk bivouaclaw16_ShotFlies.T5.2 bivouaclaw16_ShotFlies.B5 = true := by kernel_rfl
set_option maxHeartbeats 8000000 in
set_option maxRecDepth 100000 in
theorem bivouaclaw16_ShotFlies.calls (k : Nat) (a0_0 : Int) (a0_1 : Int) (a0_2 : Int) (A0_3 : Option Addr) (c0_3 : Nat) (l0_3 : List Int) (a0_4 : Int) (a0_5 : Int) (a0_6 : Int) (a0_7 : Int) (a0_8 : Int) (a0_9 : Int) (a0_10 : Int) (a0_11 : Int) (r : Bool) (w : World) (hr0_3 : Kd.C (Kd.int .u8) w A0_3 l0_3.length l0_3) (hc0_3 : l0_3.length ≤ c0_3) (h : bivouaclaw16_ShotFlies.f k a0_0 a0_1 a0_2 l0_3 a0_4 a0_5 a0_6 a0_7 a0_8 a0_9 a0_10 a0_11 = some r) :
    Calls Try.prog 6 #[.agg #[.int .i64 a0_0, .int .i64 a0_1, .int .i64 a0_2, .slice A0_3 l0_3.length c0_3, .int .i64 a0_4, .int .i64 a0_5, .int .i64 a0_6, .int .i64 a0_7, .int .i64 a0_8, .int .i64 a0_9, .int .i64 a0_10, .int .u8 a0_11]] w fun e w' => e = .returned (.bool r) ∧ Below w.heap.size w w' := by
  have hu36 := Try.underlying36
  have hu25 := Try.underlying25
  have hu27 := Try.underlying27
  have hu38 := Try.underlying38
  have HR0_3 := Aside0.mk hr0_3
  have HC0_3 := Aside0.mk hc0_3
  clear hr0_3 hc0_3
  have HB := Aside0.mk (Below.refl w.heap.size w)
  have H : ((bivouaclaw16_few.f a0_0 a0_1 a0_2 l0_3).bind fun bt261 => ((shot_Fly.f k bt261.1 bt261.2.1 bt261.2.2.1 bt261.2.2.2 a0_4 a0_5 a0_6 a0_7 a0_8 a0_9 a0_10).bind fun bt269 => ((bivouacref16_May.f k bt261.1 bt261.2.1 bt261.2.2.1 bt261.2.2.2 a0_4 a0_5 a0_6 a0_7 a0_8 a0_9).bind fun t279 => (if t279 = true then (if a0_10 < 0 then (bivouaclaw16_ShotFlies.j0 k a0_10 bt269.2.2.2.2.2.2.2.2 true bt261.1 bt261.2.1 bt261.2.2.1 bt261.2.2.2 a0_4 a0_5 a0_6 a0_7 a0_8 a0_9 bt269.1 bt269.2.1 bt269.2.2.1 bt269.2.2.2.1 bt269.2.2.2.2.1 bt269.2.2.2.2.2.1 bt269.2.2.2.2.2.2.1 bt269.2.2.2.2.2.2.2.1) else (bivouaclaw16_ShotFlies.j0 k a0_10 bt269.2.2.2.2.2.2.2.2 (decide (a0_10 > 1024)) bt261.1 bt261.2.1 bt261.2.2.1 bt261.2.2.2 a0_4 a0_5 a0_6 a0_7 a0_8 a0_9 bt269.1 bt269.2.1 bt269.2.2.1 bt269.2.2.2.1 bt269.2.2.2.2.1 bt269.2.2.2.2.2.1 bt269.2.2.2.2.2.2.1 bt269.2.2.2.2.2.2.2.1)) else (bivouaclaw16_ShotFlies.j0 k a0_10 bt269.2.2.2.2.2.2.2.2 true bt261.1 bt261.2.1 bt261.2.2.1 bt261.2.2.2 a0_4 a0_5 a0_6 a0_7 a0_8 a0_9 bt269.1 bt269.2.1 bt269.2.2.1 bt269.2.2.2.1 bt269.2.2.2.2.1 bt269.2.2.2.2.2.1 bt269.2.2.2.2.2.2.1 bt269.2.2.2.2.2.2.2.1))))) = some r := h
  clear h
  replace H := Option.bind_eq_some_iff.mp H
  obtain ⟨⟨t261, t262, t263, t264⟩, A20, H⟩ := H
  replace H : ((shot_Fly.f k t261 t262 t263 t264 a0_4 a0_5 a0_6 a0_7 a0_8 a0_9 a0_10).bind fun bt269 => ((bivouacref16_May.f k t261 t262 t263 t264 a0_4 a0_5 a0_6 a0_7 a0_8 a0_9).bind fun t279 => (if t279 = true then (if a0_10 < 0 then (bivouaclaw16_ShotFlies.j0 k a0_10 bt269.2.2.2.2.2.2.2.2 true t261 t262 t263 t264 a0_4 a0_5 a0_6 a0_7 a0_8 a0_9 bt269.1 bt269.2.1 bt269.2.2.1 bt269.2.2.2.1 bt269.2.2.2.2.1 bt269.2.2.2.2.2.1 bt269.2.2.2.2.2.2.1 bt269.2.2.2.2.2.2.2.1) else (bivouaclaw16_ShotFlies.j0 k a0_10 bt269.2.2.2.2.2.2.2.2 (decide (a0_10 > 1024)) t261 t262 t263 t264 a0_4 a0_5 a0_6 a0_7 a0_8 a0_9 bt269.1 bt269.2.1 bt269.2.2.1 bt269.2.2.2.1 bt269.2.2.2.2.1 bt269.2.2.2.2.2.1 bt269.2.2.2.2.2.2.1 bt269.2.2.2.2.2.2.2.1)) else (bivouaclaw16_ShotFlies.j0 k a0_10 bt269.2.2.2.2.2.2.2.2 true t261 t262 t263 t264 a0_4 a0_5 a0_6 a0_7 a0_8 a0_9 bt269.1 bt269.2.1 bt269.2.2.1 bt269.2.2.2.1 bt269.2.2.2.2.1 bt269.2.2.2.2.2.1 bt269.2.2.2.2.2.2.1 bt269.2.2.2.2.2.2.2.1)))) = some r := H
  have A2 := Aside0.mk A20
  clear A20
  replace H := Option.bind_eq_some_iff.mp H
  obtain ⟨⟨t269, t270, t271, t272, t273, t274, t275, t276, t277⟩, A30, H⟩ := H
  replace H : ((bivouacref16_May.f k t261 t262 t263 t264 a0_4 a0_5 a0_6 a0_7 a0_8 a0_9).bind fun t279 => (if t279 = true then (if a0_10 < 0 then (bivouaclaw16_ShotFlies.j0 k a0_10 t277 true t261 t262 t263 t264 a0_4 a0_5 a0_6 a0_7 a0_8 a0_9 t269 t270 t271 t272 t273 t274 t275 t276) else (bivouaclaw16_ShotFlies.j0 k a0_10 t277 (decide (a0_10 > 1024)) t261 t262 t263 t264 a0_4 a0_5 a0_6 a0_7 a0_8 a0_9 t269 t270 t271 t272 t273 t274 t275 t276)) else (bivouaclaw16_ShotFlies.j0 k a0_10 t277 true t261 t262 t263 t264 a0_4 a0_5 a0_6 a0_7 a0_8 a0_9 t269 t270 t271 t272 t273 t274 t275 t276))) = some r := H
  have A3 := Aside0.mk A30
  clear A30
  have HC4 := Aside0.mk H
  clear H
  go_enter Try.func6, Try.ntmps6
  try go_wp2_with (first | ((with_reducible refine gate_dst (N := 1) rfl ?_); refine box_event ?hg (N := 1) ?hd (cs := #[.int .i64 a0_0, .int .i64 a0_1, .int .i64 a0_2, .slice A0_3 l0_3.length c0_3, .int .i64 a0_4, .int .i64 a0_5, .int .i64 a0_6, .int .i64 a0_7, .int .i64 a0_8, .int .i64 a0_9, .int .i64 a0_10, .int .u8 a0_11]) (t := 36) ?hr ?_; (case hd => rfl); (case hg => rfl); (case hr => first | (go_simp; done) | (go_simp; rfl)); intro gb260 hg w5 hbox hb; have n0_ := Aside0.mk (below_step (by repeat (first | (with_reducible first | exact HB.out | apply below_alloc | apply pw_below_drewN | apply below_drew1) | exact HB.out)) hb); have n1_ := Aside0.mk (hbox); have n2_ := Aside0.mk ((by rw [hg]; exact (below_size (by repeat (first | (with_reducible first | exact HB.out | apply below_alloc | apply pw_below_drewN | apply below_drew1) | exact HB.out))) : w.heap.size ≤ gb260)); have n3_ := Aside0.mk ((by rw [hg]; exact (below_size (by repeat (first | (with_reducible first | exact HB.out | apply below_alloc | apply pw_below_drewN | apply below_drew1) | exact HB.out))) : w.heap.size ≤ gb260)); clear HB; have HB := n0_; have BK260 := n1_; have GW260 := n2_; have GE260 := n3_; clear n0_ n1_ n2_ n3_; clear hb hbox hg))
  have n0_ := Aside0.mk (blk_drew BK260.out)
  have n1_ := Aside0.mk (below_drew1 HB.out)
  clear BK260
  clear HB
  have BK260 := n0_
  have HB := n1_
  clear n0_ n1_
  refine start_ (n := 12) (S := fun w' => w'.cell? ⟨gb260, 0, none⟩ = some (.int .i64 a0_0) ∧ w'.cell? ⟨gb260, 1, none⟩ = some (.int .i64 a0_1) ∧ w'.cell? ⟨gb260, 2, none⟩ = some (.int .i64 a0_2) ∧ w'.cell? ⟨gb260, 3, none⟩ = some (.slice A0_3 l0_3.length c0_3) ∧ w'.cell? ⟨gb260, 4, none⟩ = some (.int .i64 a0_4) ∧ w'.cell? ⟨gb260, 5, none⟩ = some (.int .i64 a0_5) ∧ w'.cell? ⟨gb260, 6, none⟩ = some (.int .i64 a0_6) ∧ w'.cell? ⟨gb260, 7, none⟩ = some (.int .i64 a0_7) ∧ w'.cell? ⟨gb260, 8, none⟩ = some (.int .i64 a0_8) ∧ w'.cell? ⟨gb260, 9, none⟩ = some (.int .i64 a0_9) ∧ w'.cell? ⟨gb260, 10, none⟩ = some (.int .i64 a0_10) ∧ w'.cell? ⟨gb260, 11, none⟩ = some (.int .u8 a0_11)) (ds := []) #[false, false, false, false, false, false, false, false, false, false, false, false] (by kernel_rfl) rfl rfl ⟨(blk_cell BK260.out 0).trans rfl, (blk_cell BK260.out 1).trans rfl, (blk_cell BK260.out 2).trans rfl, (blk_cell BK260.out 3).trans rfl, (blk_cell BK260.out 4).trans rfl, (blk_cell BK260.out 5).trans rfl, (blk_cell BK260.out 6).trans rfl, (blk_cell BK260.out 7).trans rfl, (blk_cell BK260.out 8).trans rfl, (blk_cell BK260.out 9).trans rfl, (blk_cell BK260.out 10).trans rfl, (blk_cell BK260.out 11).trans rfl⟩ (fun hHeld => ?_); refine with_tabW bivouaclaw16_ShotFlies.tab1 bivouaclaw16_ShotFlies.bits1 (fun HT_ HW_ => ?_)
  generalize w5.drew = w6 at BK260 HB hHeld ⊢
  refine pure_ (i := 0) (N := some 8) (v := ?_) (a' := ?_) #[true, false, false, false, false, false, false, false, false, false, false, false] rfl rfl (any_of HT_.out (by kernel_rfl)) (fun _ _ _ h => h) (Or.inl ⟨by rfl, ?_⟩) ?_ ?_
  rotate_left
  · intro w'
    go_simp
    with_reducible rfl
  rotate_left
  · simp only [Act.put, List.setIfInBounds_toArray, List.set_cons_zero, List.set_cons_succ, i64_w, i32_w]
    rfl
  refine pure_ (i := 3) (N := some 11) (v := ?_) (a' := ?_) #[true, false, false, true, false, false, false, false, false, false, false, false] rfl rfl (any_of HT_.out (by kernel_rfl)) (fun _ _ _ h => h) (Or.inl ⟨by rfl, ?_⟩) ?_ ?_
  rotate_left
  · intro w'
    go_simp
    with_reducible rfl
  rotate_left
  · simp only [Act.put, List.setIfInBounds_toArray, List.set_cons_zero, List.set_cons_succ, i64_w, i32_w]
    rfl
  refine pure_ (i := 5) (N := some 13) (v := ?_) (a' := ?_) #[true, false, false, true, false, true, false, false, false, false, false, false] rfl rfl (any_of HT_.out (by kernel_rfl)) (fun _ _ _ h => h) (Or.inl ⟨by rfl, ?_⟩) ?_ ?_
  rotate_left
  · intro w'
    go_simp
    with_reducible rfl
  rotate_left
  · simp only [Act.put, List.setIfInBounds_toArray, List.set_cons_zero, List.set_cons_succ, i64_w, i32_w]
    rfl
  refine take_ (i := 1) (N := some 9) (v := ?_) (a' := ?_) #[true, true, false, true, false, true, false, false, false, false, false, false] rfl rfl (take_ofW HT_.out HW_.out (by kernel_rfl)) (fun _ _ _ h => h) (Or.inl ⟨by rfl, ?_⟩) hHeld ?_ ?_
  rotate_left
  · rintro w' ⟨s0, s1, s2, s3, s4, s5, s6, s7, s8, s9, s10, s11⟩
    go_simp
    with_reducible rfl
  rotate_left
  · simp only [Act.put, List.setIfInBounds_toArray, List.set_cons_zero, List.set_cons_succ, i64_w, i32_w]
    rfl
  refine take_ (i := 4) (N := some 12) (v := ?_) (a' := ?_) #[true, true, false, true, true, true, false, false, false, false, false, false] rfl rfl (take_ofW HT_.out HW_.out (by kernel_rfl)) (fun _ _ _ h => h) (Or.inl ⟨by rfl, ?_⟩) hHeld ?_ ?_
  rotate_left
  · rintro w' ⟨s0, s1, s2, s3, s4, s5, s6, s7, s8, s9, s10, s11⟩
    go_simp
    with_reducible rfl
  rotate_left
  · simp only [Act.put, List.setIfInBounds_toArray, List.set_cons_zero, List.set_cons_succ, i64_w, i32_w]
    rfl
  refine take_ (i := 6) (N := some 14) (v := ?_) (a' := ?_) #[true, true, false, true, true, true, true, false, false, false, false, false] rfl rfl (take_ofW HT_.out HW_.out (by kernel_rfl)) (fun _ _ _ h => h) (Or.inl ⟨by rfl, ?_⟩) hHeld ?_ ?_
  rotate_left
  · rintro w' ⟨s0, s1, s2, s3, s4, s5, s6, s7, s8, s9, s10, s11⟩
    go_simp
    with_reducible rfl
  rotate_left
  · simp only [Act.put, List.setIfInBounds_toArray, List.set_cons_zero, List.set_cons_succ, i64_w, i32_w]
    rfl
  refine join_ (σ := Value × Nat × Nat) 3 #[true, true, true, true, true, true, true, true, true, false, false, false] (fun s_ => [(10, .agg #[.int .i64 t261, .int .i64 t262, .int .i64 t263, s_.1]), (3, .pointer (some ⟨s_.2.1, 0, none⟩)), (4, .pointer (some ⟨s_.2.2, 0, none⟩))]) (fun s_ w' => (w'.cell? ⟨gb260, 0, none⟩ = some (.int .i64 a0_0) ∧ w'.cell? ⟨gb260, 1, none⟩ = some (.int .i64 a0_1) ∧ w'.cell? ⟨gb260, 2, none⟩ = some (.int .i64 a0_2) ∧ w'.cell? ⟨gb260, 3, none⟩ = some (.slice A0_3 l0_3.length c0_3) ∧ w'.cell? ⟨gb260, 4, none⟩ = some (.int .i64 a0_4) ∧ w'.cell? ⟨gb260, 5, none⟩ = some (.int .i64 a0_5) ∧ w'.cell? ⟨gb260, 6, none⟩ = some (.int .i64 a0_6) ∧ w'.cell? ⟨gb260, 7, none⟩ = some (.int .i64 a0_7) ∧ w'.cell? ⟨gb260, 8, none⟩ = some (.int .i64 a0_8) ∧ w'.cell? ⟨gb260, 9, none⟩ = some (.int .i64 a0_9) ∧ w'.cell? ⟨gb260, 10, none⟩ = some (.int .i64 a0_10) ∧ w'.cell? ⟨gb260, 11, none⟩ = some (.int .u8 a0_11)) ∧ (Kd.V (Kd.int .u8) 5 w' w.heap.size (fun k_ => k_ ≠ gb260 ∧ k_ ≠ s_.2.1 ∧ k_ ≠ s_.2.2) s_.1 t264) ∧ (w'.heap[gb260]? = some (.cells #[.int .i64 a0_0, .int .i64 a0_1, .int .i64 a0_2, .slice A0_3 l0_3.length c0_3, .int .i64 a0_4, .int .i64 a0_5, .int .i64 a0_6, .int .i64 a0_7, .int .i64 a0_8, .int .i64 a0_9, .int .i64 a0_10, .int .u8 a0_11] 36 (0, 0))) ∧ (w'.heap[s_.2.1]? = some (.cells #[.int .i64 0, .int .i64 0, .int .i64 0, .slice none 0 0] 25 (0, 0))) ∧ (w'.heap[s_.2.2]? = some (.cells #[.int .i64 0, .int .i64 0, .int .i64 0, .int .i64 0, .int .i64 0, .int .i64 0] 27 (0, 0))) ∧ (w.heap.size ≤ s_.2.1) ∧ (w.heap.size ≤ s_.2.1) ∧ (gb260 ≠ s_.2.1) ∧ (s_.2.1 ≠ gb260) ∧ (s_.2.2 ≠ s_.2.1) ∧ (s_.2.1 ≠ s_.2.2) ∧ (w.heap.size ≤ s_.2.2) ∧ (w.heap.size ≤ s_.2.2) ∧ (gb260 ≠ s_.2.2) ∧ (s_.2.2 ≠ gb260) ∧ (Below w.heap.size w w')) ?_ ?_
  rotate_left
  · intro hJ2_7_8
    refine join_ (σ := Value × Nat) 4 #[true, true, true, true, true, true, true, true, false, false, false, false] (fun s_ => [(10, .agg #[.int .i64 t261, .int .i64 t262, .int .i64 t263, s_.1]), (3, .pointer (some ⟨s_.2, 0, none⟩))]) (fun s_ w' => (w'.cell? ⟨gb260, 0, none⟩ = some (.int .i64 a0_0) ∧ w'.cell? ⟨gb260, 1, none⟩ = some (.int .i64 a0_1) ∧ w'.cell? ⟨gb260, 2, none⟩ = some (.int .i64 a0_2) ∧ w'.cell? ⟨gb260, 3, none⟩ = some (.slice A0_3 l0_3.length c0_3) ∧ w'.cell? ⟨gb260, 4, none⟩ = some (.int .i64 a0_4) ∧ w'.cell? ⟨gb260, 5, none⟩ = some (.int .i64 a0_5) ∧ w'.cell? ⟨gb260, 6, none⟩ = some (.int .i64 a0_6) ∧ w'.cell? ⟨gb260, 7, none⟩ = some (.int .i64 a0_7) ∧ w'.cell? ⟨gb260, 8, none⟩ = some (.int .i64 a0_8) ∧ w'.cell? ⟨gb260, 9, none⟩ = some (.int .i64 a0_9) ∧ w'.cell? ⟨gb260, 10, none⟩ = some (.int .i64 a0_10) ∧ w'.cell? ⟨gb260, 11, none⟩ = some (.int .u8 a0_11)) ∧ (Kd.V (Kd.int .u8) 5 w' w.heap.size (fun k_ => k_ ≠ gb260 ∧ k_ ≠ s_.2) s_.1 t264) ∧ (w'.heap[gb260]? = some (.cells #[.int .i64 a0_0, .int .i64 a0_1, .int .i64 a0_2, .slice A0_3 l0_3.length c0_3, .int .i64 a0_4, .int .i64 a0_5, .int .i64 a0_6, .int .i64 a0_7, .int .i64 a0_8, .int .i64 a0_9, .int .i64 a0_10, .int .u8 a0_11] 36 (0, 0))) ∧ (w'.heap[s_.2]? = some (.cells #[.int .i64 0, .int .i64 0, .int .i64 0, .slice none 0 0] 25 (0, 0))) ∧ (w.heap.size ≤ s_.2) ∧ (w.heap.size ≤ s_.2) ∧ (gb260 ≠ s_.2) ∧ (s_.2 ≠ gb260) ∧ (Below w.heap.size w w')) ?_ ?_
    rotate_left
    · intro hJ2_7
      refine join_ (σ := Value × Nat) 4 #[true, true, true, true, true, true, true, false, true, false, false, false] (fun s_ => [(10, .agg #[.int .i64 t261, .int .i64 t262, .int .i64 t263, s_.1]), (4, .pointer (some ⟨s_.2, 0, none⟩))]) (fun s_ w' => (w'.cell? ⟨gb260, 0, none⟩ = some (.int .i64 a0_0) ∧ w'.cell? ⟨gb260, 1, none⟩ = some (.int .i64 a0_1) ∧ w'.cell? ⟨gb260, 2, none⟩ = some (.int .i64 a0_2) ∧ w'.cell? ⟨gb260, 3, none⟩ = some (.slice A0_3 l0_3.length c0_3) ∧ w'.cell? ⟨gb260, 4, none⟩ = some (.int .i64 a0_4) ∧ w'.cell? ⟨gb260, 5, none⟩ = some (.int .i64 a0_5) ∧ w'.cell? ⟨gb260, 6, none⟩ = some (.int .i64 a0_6) ∧ w'.cell? ⟨gb260, 7, none⟩ = some (.int .i64 a0_7) ∧ w'.cell? ⟨gb260, 8, none⟩ = some (.int .i64 a0_8) ∧ w'.cell? ⟨gb260, 9, none⟩ = some (.int .i64 a0_9) ∧ w'.cell? ⟨gb260, 10, none⟩ = some (.int .i64 a0_10) ∧ w'.cell? ⟨gb260, 11, none⟩ = some (.int .u8 a0_11)) ∧ (Kd.V (Kd.int .u8) 5 w' w.heap.size (fun k_ => k_ ≠ gb260 ∧ k_ ≠ s_.2) s_.1 t264) ∧ (w'.heap[gb260]? = some (.cells #[.int .i64 a0_0, .int .i64 a0_1, .int .i64 a0_2, .slice A0_3 l0_3.length c0_3, .int .i64 a0_4, .int .i64 a0_5, .int .i64 a0_6, .int .i64 a0_7, .int .i64 a0_8, .int .i64 a0_9, .int .i64 a0_10, .int .u8 a0_11] 36 (0, 0))) ∧ (w'.heap[s_.2]? = some (.cells #[.int .i64 0, .int .i64 0, .int .i64 0, .int .i64 0, .int .i64 0, .int .i64 0] 27 (0, 0))) ∧ (w.heap.size ≤ s_.2) ∧ (w.heap.size ≤ s_.2) ∧ (gb260 ≠ s_.2) ∧ (s_.2 ≠ gb260) ∧ (Below w.heap.size w w')) ?_ ?_
      rotate_left
      · intro hJ2_8
        refine join_ (σ := Nat × Nat) 4 #[true, true, false, true, true, true, true, true, true, false, false, false] (fun s_ => [(3, .pointer (some ⟨s_.1, 0, none⟩)), (4, .pointer (some ⟨s_.2, 0, none⟩))]) (fun s_ w' => (w'.cell? ⟨gb260, 0, none⟩ = some (.int .i64 a0_0) ∧ w'.cell? ⟨gb260, 1, none⟩ = some (.int .i64 a0_1) ∧ w'.cell? ⟨gb260, 2, none⟩ = some (.int .i64 a0_2) ∧ w'.cell? ⟨gb260, 3, none⟩ = some (.slice A0_3 l0_3.length c0_3) ∧ w'.cell? ⟨gb260, 4, none⟩ = some (.int .i64 a0_4) ∧ w'.cell? ⟨gb260, 5, none⟩ = some (.int .i64 a0_5) ∧ w'.cell? ⟨gb260, 6, none⟩ = some (.int .i64 a0_6) ∧ w'.cell? ⟨gb260, 7, none⟩ = some (.int .i64 a0_7) ∧ w'.cell? ⟨gb260, 8, none⟩ = some (.int .i64 a0_8) ∧ w'.cell? ⟨gb260, 9, none⟩ = some (.int .i64 a0_9) ∧ w'.cell? ⟨gb260, 10, none⟩ = some (.int .i64 a0_10) ∧ w'.cell? ⟨gb260, 11, none⟩ = some (.int .u8 a0_11)) ∧ (w'.heap[gb260]? = some (.cells #[.int .i64 a0_0, .int .i64 a0_1, .int .i64 a0_2, .slice A0_3 l0_3.length c0_3, .int .i64 a0_4, .int .i64 a0_5, .int .i64 a0_6, .int .i64 a0_7, .int .i64 a0_8, .int .i64 a0_9, .int .i64 a0_10, .int .u8 a0_11] 36 (0, 0))) ∧ (w'.heap[s_.1]? = some (.cells #[.int .i64 0, .int .i64 0, .int .i64 0, .slice none 0 0] 25 (0, 0))) ∧ (w'.heap[s_.2]? = some (.cells #[.int .i64 0, .int .i64 0, .int .i64 0, .int .i64 0, .int .i64 0, .int .i64 0] 27 (0, 0))) ∧ (w.heap.size ≤ s_.1) ∧ (w.heap.size ≤ s_.1) ∧ (gb260 ≠ s_.1) ∧ (s_.1 ≠ gb260) ∧ (s_.2 ≠ s_.1) ∧ (s_.1 ≠ s_.2) ∧ (w.heap.size ≤ s_.2) ∧ (w.heap.size ≤ s_.2) ∧ (gb260 ≠ s_.2) ∧ (s_.2 ≠ gb260) ∧ (Below w.heap.size w w')) ?_ ?_
        rotate_left
        · intro hJ7_8
          refine join_ (σ := Value) 5 #[true, true, true, true, true, true, true, false, false, false, false, false] (fun s_ => [(10, .agg #[.int .i64 t261, .int .i64 t262, .int .i64 t263, s_])]) (fun s_ w' => (w'.cell? ⟨gb260, 0, none⟩ = some (.int .i64 a0_0) ∧ w'.cell? ⟨gb260, 1, none⟩ = some (.int .i64 a0_1) ∧ w'.cell? ⟨gb260, 2, none⟩ = some (.int .i64 a0_2) ∧ w'.cell? ⟨gb260, 3, none⟩ = some (.slice A0_3 l0_3.length c0_3) ∧ w'.cell? ⟨gb260, 4, none⟩ = some (.int .i64 a0_4) ∧ w'.cell? ⟨gb260, 5, none⟩ = some (.int .i64 a0_5) ∧ w'.cell? ⟨gb260, 6, none⟩ = some (.int .i64 a0_6) ∧ w'.cell? ⟨gb260, 7, none⟩ = some (.int .i64 a0_7) ∧ w'.cell? ⟨gb260, 8, none⟩ = some (.int .i64 a0_8) ∧ w'.cell? ⟨gb260, 9, none⟩ = some (.int .i64 a0_9) ∧ w'.cell? ⟨gb260, 10, none⟩ = some (.int .i64 a0_10) ∧ w'.cell? ⟨gb260, 11, none⟩ = some (.int .u8 a0_11)) ∧ (Kd.V (Kd.int .u8) 5 w' w.heap.size (fun k_ => k_ ≠ gb260) s_ t264) ∧ (w'.heap[gb260]? = some (.cells #[.int .i64 a0_0, .int .i64 a0_1, .int .i64 a0_2, .slice A0_3 l0_3.length c0_3, .int .i64 a0_4, .int .i64 a0_5, .int .i64 a0_6, .int .i64 a0_7, .int .i64 a0_8, .int .i64 a0_9, .int .i64 a0_10, .int .u8 a0_11] 36 (0, 0))) ∧ (Below w.heap.size w w')) ?_ ?_
          rotate_left
          · intro hJ2
            refine join_ (σ := Nat) 5 #[true, true, false, true, true, true, true, true, false, false, false, false] (fun s_ => [(3, .pointer (some ⟨s_, 0, none⟩))]) (fun s_ w' => (w'.cell? ⟨gb260, 0, none⟩ = some (.int .i64 a0_0) ∧ w'.cell? ⟨gb260, 1, none⟩ = some (.int .i64 a0_1) ∧ w'.cell? ⟨gb260, 2, none⟩ = some (.int .i64 a0_2) ∧ w'.cell? ⟨gb260, 3, none⟩ = some (.slice A0_3 l0_3.length c0_3) ∧ w'.cell? ⟨gb260, 4, none⟩ = some (.int .i64 a0_4) ∧ w'.cell? ⟨gb260, 5, none⟩ = some (.int .i64 a0_5) ∧ w'.cell? ⟨gb260, 6, none⟩ = some (.int .i64 a0_6) ∧ w'.cell? ⟨gb260, 7, none⟩ = some (.int .i64 a0_7) ∧ w'.cell? ⟨gb260, 8, none⟩ = some (.int .i64 a0_8) ∧ w'.cell? ⟨gb260, 9, none⟩ = some (.int .i64 a0_9) ∧ w'.cell? ⟨gb260, 10, none⟩ = some (.int .i64 a0_10) ∧ w'.cell? ⟨gb260, 11, none⟩ = some (.int .u8 a0_11)) ∧ (w'.heap[gb260]? = some (.cells #[.int .i64 a0_0, .int .i64 a0_1, .int .i64 a0_2, .slice A0_3 l0_3.length c0_3, .int .i64 a0_4, .int .i64 a0_5, .int .i64 a0_6, .int .i64 a0_7, .int .i64 a0_8, .int .i64 a0_9, .int .i64 a0_10, .int .u8 a0_11] 36 (0, 0))) ∧ (w'.heap[s_]? = some (.cells #[.int .i64 0, .int .i64 0, .int .i64 0, .slice none 0 0] 25 (0, 0))) ∧ (w.heap.size ≤ s_) ∧ (w.heap.size ≤ s_) ∧ (gb260 ≠ s_) ∧ (s_ ≠ gb260) ∧ (Below w.heap.size w w')) ?_ ?_
            rotate_left
            · intro hJ7
              refine join_ (σ := Nat) 5 #[true, true, false, true, true, true, true, false, true, false, false, false] (fun s_ => [(4, .pointer (some ⟨s_, 0, none⟩))]) (fun s_ w' => (w'.cell? ⟨gb260, 0, none⟩ = some (.int .i64 a0_0) ∧ w'.cell? ⟨gb260, 1, none⟩ = some (.int .i64 a0_1) ∧ w'.cell? ⟨gb260, 2, none⟩ = some (.int .i64 a0_2) ∧ w'.cell? ⟨gb260, 3, none⟩ = some (.slice A0_3 l0_3.length c0_3) ∧ w'.cell? ⟨gb260, 4, none⟩ = some (.int .i64 a0_4) ∧ w'.cell? ⟨gb260, 5, none⟩ = some (.int .i64 a0_5) ∧ w'.cell? ⟨gb260, 6, none⟩ = some (.int .i64 a0_6) ∧ w'.cell? ⟨gb260, 7, none⟩ = some (.int .i64 a0_7) ∧ w'.cell? ⟨gb260, 8, none⟩ = some (.int .i64 a0_8) ∧ w'.cell? ⟨gb260, 9, none⟩ = some (.int .i64 a0_9) ∧ w'.cell? ⟨gb260, 10, none⟩ = some (.int .i64 a0_10) ∧ w'.cell? ⟨gb260, 11, none⟩ = some (.int .u8 a0_11)) ∧ (w'.heap[gb260]? = some (.cells #[.int .i64 a0_0, .int .i64 a0_1, .int .i64 a0_2, .slice A0_3 l0_3.length c0_3, .int .i64 a0_4, .int .i64 a0_5, .int .i64 a0_6, .int .i64 a0_7, .int .i64 a0_8, .int .i64 a0_9, .int .i64 a0_10, .int .u8 a0_11] 36 (0, 0))) ∧ (w'.heap[s_]? = some (.cells #[.int .i64 0, .int .i64 0, .int .i64 0, .int .i64 0, .int .i64 0, .int .i64 0] 27 (0, 0))) ∧ (w.heap.size ≤ s_) ∧ (w.heap.size ≤ s_) ∧ (gb260 ≠ s_) ∧ (s_ ≠ gb260) ∧ (Below w.heap.size w w')) ?_ ?_
              rotate_left
              · intro hJ8
                refine three_ (i := 2) (j := 7) (k := 8) (Ni := some 10) (Nj := some 3) (Nk := some 4) #[true, true, true, true, true, true, true, false, false, false, false, false] #[true, true, false, true, true, true, true, true, false, false, false, false] #[true, true, false, true, true, true, true, false, true, false, false, false] rfl rfl rfl rfl rfl rfl (three_of HT_.out (by kernel_rfl)) (by decide) (by decide) (by decide) (fun K hK => ?_) (fun K hK => ?_) (fun K hK => ?_)
                · skip
                  refine goes_ Try.func11 (by kernel_rfl) rfl #[.agg #[.int .i64 a0_0, .int .i64 a0_1, .int .i64 a0_2, .slice A0_3 l0_3.length c0_3]] (by rfl) rfl rfl (by (try simp only [List.map_toArray, List.map_cons, List.map_nil]); first | done | rfl | (simp only [List.length_drop, List.length_take]; rfl)) ?_
                  with_reducible refine (bivouaclaw16_few.calls a0_0 a0_1 a0_2 (fun k_ => k_ < w.heap.size) _ _ l0_3 t261 t262 t263 t264 _ ?side1 A2.out).mono ?_
                  (case side1 => exact Kd.V_mk HC0_3.out (Kd.F_below (Kd.C_F (Kd.heap_int .u8) HR0_3.out) (by repeat (first | (with_reducible first | exact HB.out | apply below_alloc | apply pw_below_drewN | apply below_drew1 | refine below_set ?_ GE260.out) | exact HB.out))))
                  rintro e w7 ⟨v265, rfl, ho0, hb⟩
                  refine ⟨_, rfl, ?_⟩
                  have n0_ := Aside0.mk (Kd.V_lower (Kd.V_mono (ok' := fun k_ => k_ ≠ gb260) ho0 (fun k_ hk_ => Or.elim hk_ (fun hs_ => fun e_ => Nat.not_le.2 hs_ (by rw [e_]; exact GW260.out)) (fun hn_ => (Kd.freshB (g := gb260) (o := .cells #[.int .i64 a0_0, .int .i64 a0_1, .int .i64 a0_2, .slice A0_3 l0_3.length c0_3, .int .i64 a0_4, .int .i64 a0_5, .int .i64 a0_6, .int .i64 a0_7, .int .i64 a0_8, .int .i64 a0_9, .int .i64 a0_10, .int .u8 a0_11] 36 (0, 0)) (by (with_reducible repeat (first | refine blk_drewN ?_ _ | refine blk_drew ?_ | refine blk_alloc ?_ _)); exact BK260.out) k_ hn_)))) (below_size (by repeat (first | (with_reducible first | exact HB.out | apply below_alloc | apply pw_below_drewN | apply below_drew1 | refine below_set ?_ GE260.out) | exact HB.out))))
                  have n1_ := Aside0.mk (blk_below (g := gb260) (o := .cells #[.int .i64 a0_0, .int .i64 a0_1, .int .i64 a0_2, .slice A0_3 l0_3.length c0_3, .int .i64 a0_4, .int .i64 a0_5, .int .i64 a0_6, .int .i64 a0_7, .int .i64 a0_8, .int .i64 a0_9, .int .i64 a0_10, .int .u8 a0_11] 36 (0, 0)) (by (with_reducible repeat (first | refine blk_drewN ?_ _ | refine blk_drew ?_ | refine blk_alloc ?_ _)); exact BK260.out) hb)
                  have n2_ := Aside0.mk (below_step (by repeat (first | (with_reducible first | exact HB.out | apply below_alloc | apply pw_below_drewN | apply below_drew1 | refine below_set ?_ GE260.out) | exact HB.out)) hb)
                  clear BK260
                  clear HB
                  have HO266 := n0_
                  have BK260 := n1_
                  have HB := n2_
                  clear n0_ n1_ n2_
                  (try clear hb)
                  (try clear hb2)
                  (try clear hk)
                  (try clear hi)
                  (try clear ho0)
                  refine hK.out _ _ ⟨(blk_cell BK260.out 0).trans rfl, (blk_cell BK260.out 1).trans rfl, (blk_cell BK260.out 2).trans rfl, (blk_cell BK260.out 3).trans rfl, (blk_cell BK260.out 4).trans rfl, (blk_cell BK260.out 5).trans rfl, (blk_cell BK260.out 6).trans rfl, (blk_cell BK260.out 7).trans rfl, (blk_cell BK260.out 8).trans rfl, (blk_cell BK260.out 9).trans rfl, (blk_cell BK260.out 10).trans rfl, (blk_cell BK260.out 11).trans rfl⟩ (fun hHeld => ?_)
                  clear hK K
                  refine norm_ (a' := ?_) ?_ ?_
                  rotate_left
                  · show Act.put _ (some 10) _ = _
                    simp only [Act.put, List.setIfInBounds_toArray, List.set_cons_zero, List.set_cons_succ, i64_w, i32_w]
                    rfl
                  exact norm_ (by first | (simp only [putAll, Act.put, List.setIfInBounds_toArray, List.set_cons_zero, List.set_cons_succ]; done) | (simp only [putAll, Act.put, List.setIfInBounds_toArray, List.set_cons_zero, List.set_cons_succ]; rfl)) (hJ2 (v265) _ ⟨hHeld, (by (with_reducible repeat (first | apply Kd.V_alloc | apply Kd.V_drewN | apply Kd.V_drew)); exact HO266.out), (by (with_reducible repeat (first | refine blk_drewN ?_ _ | refine blk_drew ?_ | refine blk_alloc ?_ _)); exact BK260.out), (by repeat (first | (with_reducible first | exact HB.out | apply below_alloc | apply pw_below_drewN | apply below_drew1 | refine below_set ?_ GE260.out) | exact HB.out))⟩)
                · skip
                  refine box_step ?hg (N := 3) ?hd (cs := #[.int .i64 0, .int .i64 0, .int .i64 0, .slice none 0 0]) (t := 25) ?hr ?_; (case hd => rfl); (case hg => rfl); (case hr => first | (go_simp; done) | (go_simp; rfl))
                  intro gb267 hg w7 hbox hb
                  have n0_ := Aside0.mk (blk_below (g := gb260) (o := .cells #[.int .i64 a0_0, .int .i64 a0_1, .int .i64 a0_2, .slice A0_3 l0_3.length c0_3, .int .i64 a0_4, .int .i64 a0_5, .int .i64 a0_6, .int .i64 a0_7, .int .i64 a0_8, .int .i64 a0_9, .int .i64 a0_10, .int .u8 a0_11] 36 (0, 0)) (by (with_reducible repeat (first | refine blk_drewN ?_ _ | refine blk_drew ?_ | refine blk_alloc ?_ _)); exact BK260.out) hb)
                  have n1_ := Aside0.mk (below_step (by repeat (first | (with_reducible first | exact HB.out | apply below_alloc | apply pw_below_drewN | apply below_drew1 | refine below_set ?_ GE260.out) | exact HB.out)) hb)
                  have n2_ := Aside0.mk (hbox)
                  have n3_ := Aside0.mk ((by rw [hg]; exact (below_size (by repeat (first | (with_reducible first | exact HB.out | apply below_alloc | apply pw_below_drewN | apply below_drew1 | refine below_set ?_ GE260.out) | exact HB.out))) : w.heap.size ≤ gb267))
                  have n4_ := Aside0.mk ((by rw [hg]; exact (below_size (by repeat (first | (with_reducible first | exact HB.out | apply below_alloc | apply pw_below_drewN | apply below_drew1 | refine below_set ?_ GE260.out) | exact HB.out))) : w.heap.size ≤ gb267))
                  have n5_ := Aside0.mk ((by rw [hg]; exact Nat.ne_of_lt (blk_lt (g := gb260) (o := .cells #[.int .i64 a0_0, .int .i64 a0_1, .int .i64 a0_2, .slice A0_3 l0_3.length c0_3, .int .i64 a0_4, .int .i64 a0_5, .int .i64 a0_6, .int .i64 a0_7, .int .i64 a0_8, .int .i64 a0_9, .int .i64 a0_10, .int .u8 a0_11] 36 (0, 0)) (by (with_reducible repeat (first | refine blk_drewN ?_ _ | refine blk_drew ?_ | refine blk_alloc ?_ _)); exact BK260.out)) : gb260 ≠ gb267))
                  have n6_ := Aside0.mk ((by rw [hg]; exact Nat.ne_of_gt (blk_lt (g := gb260) (o := .cells #[.int .i64 a0_0, .int .i64 a0_1, .int .i64 a0_2, .slice A0_3 l0_3.length c0_3, .int .i64 a0_4, .int .i64 a0_5, .int .i64 a0_6, .int .i64 a0_7, .int .i64 a0_8, .int .i64 a0_9, .int .i64 a0_10, .int .u8 a0_11] 36 (0, 0)) (by (with_reducible repeat (first | refine blk_drewN ?_ _ | refine blk_drew ?_ | refine blk_alloc ?_ _)); exact BK260.out)) : gb267 ≠ gb260))
                  clear BK260
                  clear HB
                  have BK260 := n0_
                  have HB := n1_
                  have BK267 := n2_
                  have GW267 := n3_
                  have GE267 := n4_
                  have NB260_267 := n5_
                  have NB267_260 := n6_
                  clear n0_ n1_ n2_ n3_ n4_ n5_ n6_
                  clear hb hbox hg
                  refine hK.out _ _ ⟨(blk_cell BK260.out 0).trans rfl, (blk_cell BK260.out 1).trans rfl, (blk_cell BK260.out 2).trans rfl, (blk_cell BK260.out 3).trans rfl, (blk_cell BK260.out 4).trans rfl, (blk_cell BK260.out 5).trans rfl, (blk_cell BK260.out 6).trans rfl, (blk_cell BK260.out 7).trans rfl, (blk_cell BK260.out 8).trans rfl, (blk_cell BK260.out 9).trans rfl, (blk_cell BK260.out 10).trans rfl, (blk_cell BK260.out 11).trans rfl⟩ (fun hHeld => ?_)
                  clear hK K
                  refine norm_ (a' := ?_) ?_ ?_
                  rotate_left
                  · show Act.put _ (some 3) _ = _
                    simp only [Act.put, List.setIfInBounds_toArray, List.set_cons_zero, List.set_cons_succ, i64_w, i32_w]
                    rfl
                  exact norm_ (by first | (simp only [putAll, Act.put, List.setIfInBounds_toArray, List.set_cons_zero, List.set_cons_succ]; done) | (simp only [putAll, Act.put, List.setIfInBounds_toArray, List.set_cons_zero, List.set_cons_succ]; rfl)) (hJ7 (gb267) _ ⟨hHeld, (by (with_reducible repeat (first | refine blk_drewN ?_ _ | refine blk_drew ?_ | refine blk_alloc ?_ _)); exact BK260.out), (by (with_reducible repeat (first | refine blk_drewN ?_ _ | refine blk_drew ?_ | refine blk_alloc ?_ _)); exact BK267.out), GW267.out, GE267.out, NB260_267.out, NB267_260.out, (by repeat (first | (with_reducible first | exact HB.out | apply below_alloc | apply pw_below_drewN | apply below_drew1 | refine below_set ?_ GE260.out | refine below_set ?_ GE267.out) | exact HB.out))⟩)
                · skip
                  refine box_step ?hg (N := 4) ?hd (cs := #[.int .i64 0, .int .i64 0, .int .i64 0, .int .i64 0, .int .i64 0, .int .i64 0]) (t := 27) ?hr ?_; (case hd => rfl); (case hg => rfl); (case hr => first | (go_simp; done) | (go_simp; rfl))
                  intro gb268 hg w7 hbox hb
                  have n0_ := Aside0.mk (blk_below (g := gb260) (o := .cells #[.int .i64 a0_0, .int .i64 a0_1, .int .i64 a0_2, .slice A0_3 l0_3.length c0_3, .int .i64 a0_4, .int .i64 a0_5, .int .i64 a0_6, .int .i64 a0_7, .int .i64 a0_8, .int .i64 a0_9, .int .i64 a0_10, .int .u8 a0_11] 36 (0, 0)) (by (with_reducible repeat (first | refine blk_drewN ?_ _ | refine blk_drew ?_ | refine blk_alloc ?_ _)); exact BK260.out) hb)
                  have n1_ := Aside0.mk (below_step (by repeat (first | (with_reducible first | exact HB.out | apply below_alloc | apply pw_below_drewN | apply below_drew1 | refine below_set ?_ GE260.out) | exact HB.out)) hb)
                  have n2_ := Aside0.mk (hbox)
                  have n3_ := Aside0.mk ((by rw [hg]; exact (below_size (by repeat (first | (with_reducible first | exact HB.out | apply below_alloc | apply pw_below_drewN | apply below_drew1 | refine below_set ?_ GE260.out) | exact HB.out))) : w.heap.size ≤ gb268))
                  have n4_ := Aside0.mk ((by rw [hg]; exact (below_size (by repeat (first | (with_reducible first | exact HB.out | apply below_alloc | apply pw_below_drewN | apply below_drew1 | refine below_set ?_ GE260.out) | exact HB.out))) : w.heap.size ≤ gb268))
                  have n5_ := Aside0.mk ((by rw [hg]; exact Nat.ne_of_lt (blk_lt (g := gb260) (o := .cells #[.int .i64 a0_0, .int .i64 a0_1, .int .i64 a0_2, .slice A0_3 l0_3.length c0_3, .int .i64 a0_4, .int .i64 a0_5, .int .i64 a0_6, .int .i64 a0_7, .int .i64 a0_8, .int .i64 a0_9, .int .i64 a0_10, .int .u8 a0_11] 36 (0, 0)) (by (with_reducible repeat (first | refine blk_drewN ?_ _ | refine blk_drew ?_ | refine blk_alloc ?_ _)); exact BK260.out)) : gb260 ≠ gb268))
                  have n6_ := Aside0.mk ((by rw [hg]; exact Nat.ne_of_gt (blk_lt (g := gb260) (o := .cells #[.int .i64 a0_0, .int .i64 a0_1, .int .i64 a0_2, .slice A0_3 l0_3.length c0_3, .int .i64 a0_4, .int .i64 a0_5, .int .i64 a0_6, .int .i64 a0_7, .int .i64 a0_8, .int .i64 a0_9, .int .i64 a0_10, .int .u8 a0_11] 36 (0, 0)) (by (with_reducible repeat (first | refine blk_drewN ?_ _ | refine blk_drew ?_ | refine blk_alloc ?_ _)); exact BK260.out)) : gb268 ≠ gb260))
                  clear BK260
                  clear HB
                  have BK260 := n0_
                  have HB := n1_
                  have BK268 := n2_
                  have GW268 := n3_
                  have GE268 := n4_
                  have NB260_268 := n5_
                  have NB268_260 := n6_
                  clear n0_ n1_ n2_ n3_ n4_ n5_ n6_
                  clear hb hbox hg
                  refine hK.out _ _ ⟨(blk_cell BK260.out 0).trans rfl, (blk_cell BK260.out 1).trans rfl, (blk_cell BK260.out 2).trans rfl, (blk_cell BK260.out 3).trans rfl, (blk_cell BK260.out 4).trans rfl, (blk_cell BK260.out 5).trans rfl, (blk_cell BK260.out 6).trans rfl, (blk_cell BK260.out 7).trans rfl, (blk_cell BK260.out 8).trans rfl, (blk_cell BK260.out 9).trans rfl, (blk_cell BK260.out 10).trans rfl, (blk_cell BK260.out 11).trans rfl⟩ (fun hHeld => ?_)
                  clear hK K
                  refine norm_ (a' := ?_) ?_ ?_
                  rotate_left
                  · show Act.put _ (some 4) _ = _
                    simp only [Act.put, List.setIfInBounds_toArray, List.set_cons_zero, List.set_cons_succ, i64_w, i32_w]
                    rfl
                  exact norm_ (by first | (simp only [putAll, Act.put, List.setIfInBounds_toArray, List.set_cons_zero, List.set_cons_succ]; done) | (simp only [putAll, Act.put, List.setIfInBounds_toArray, List.set_cons_zero, List.set_cons_succ]; rfl)) (hJ8 (gb268) _ ⟨hHeld, (by (with_reducible repeat (first | refine blk_drewN ?_ _ | refine blk_drew ?_ | refine blk_alloc ?_ _)); exact BK260.out), (by (with_reducible repeat (first | refine blk_drewN ?_ _ | refine blk_drew ?_ | refine blk_alloc ?_ _)); exact BK268.out), GW268.out, GE268.out, NB260_268.out, NB268_260.out, (by repeat (first | (with_reducible first | exact HB.out | apply below_alloc | apply pw_below_drewN | apply below_drew1 | refine below_set ?_ GE260.out | refine below_set ?_ GE268.out) | exact HB.out))⟩)
              · skip
                rintro gb268 w8 ⟨hS_, h0_, h1_, h2_, h3_, h4_, h5_, h6_⟩
                have n0_ : Aside0 (w8.heap[gb260]? = some (.cells #[.int .i64 a0_0, .int .i64 a0_1, .int .i64 a0_2, .slice A0_3 l0_3.length c0_3, .int .i64 a0_4, .int .i64 a0_5, .int .i64 a0_6, .int .i64 a0_7, .int .i64 a0_8, .int .i64 a0_9, .int .i64 a0_10, .int .u8 a0_11] 36 (0, 0))) := ⟨h0_⟩
                have n1_ : Aside0 (w8.heap[gb268]? = some (.cells #[.int .i64 0, .int .i64 0, .int .i64 0, .int .i64 0, .int .i64 0, .int .i64 0] 27 (0, 0))) := ⟨h1_⟩
                have n2_ : Aside0 (w.heap.size ≤ gb268) := ⟨h2_⟩
                have n3_ : Aside0 (w.heap.size ≤ gb268) := ⟨h3_⟩
                have n4_ : Aside0 (gb260 ≠ gb268) := ⟨h4_⟩
                have n5_ : Aside0 (gb268 ≠ gb260) := ⟨h5_⟩
                have n6_ : Aside0 (Below w.heap.size w w8) := ⟨h6_⟩
                clear BK260
                clear HB
                clear h0_ h1_ h2_ h3_ h4_ h5_ h6_
                have BK260 := n0_
                have BK268 := n1_
                have GW268 := n2_
                have GE268 := n3_
                have NB260_268 := n4_
                have NB268_260 := n5_
                have HB := n6_
                clear n0_ n1_ n2_ n3_ n4_ n5_ n6_
                have hHeld : w8.cell? ⟨gb260, 0, none⟩ = some (.int .i64 a0_0) ∧ w8.cell? ⟨gb260, 1, none⟩ = some (.int .i64 a0_1) ∧ w8.cell? ⟨gb260, 2, none⟩ = some (.int .i64 a0_2) ∧ w8.cell? ⟨gb260, 3, none⟩ = some (.slice A0_3 l0_3.length c0_3) ∧ w8.cell? ⟨gb260, 4, none⟩ = some (.int .i64 a0_4) ∧ w8.cell? ⟨gb260, 5, none⟩ = some (.int .i64 a0_5) ∧ w8.cell? ⟨gb260, 6, none⟩ = some (.int .i64 a0_6) ∧ w8.cell? ⟨gb260, 7, none⟩ = some (.int .i64 a0_7) ∧ w8.cell? ⟨gb260, 8, none⟩ = some (.int .i64 a0_8) ∧ w8.cell? ⟨gb260, 9, none⟩ = some (.int .i64 a0_9) ∧ w8.cell? ⟨gb260, 10, none⟩ = some (.int .i64 a0_10) ∧ w8.cell? ⟨gb260, 11, none⟩ = some (.int .u8 a0_11) := hS_
                refine norm_ (a' := ?_) ?_ ?_
                rotate_left
                · simp only [putAll, Act.put, List.setIfInBounds_toArray, List.set_cons_zero, List.set_cons_succ]
                  rfl
                refine two_ (i := 2) (j := 7) (Ni := some 10) (Nj := some 3) #[true, true, true, true, true, true, true, false, true, false, false, false] #[true, true, false, true, true, true, true, true, true, false, false, false] rfl rfl rfl rfl (two_of HT_.out (by kernel_rfl)) (by decide) (by decide) (fun K hK => ?_) (fun K hK => ?_)
                · skip
                  refine goes_ Try.func11 (by kernel_rfl) rfl #[.agg #[.int .i64 a0_0, .int .i64 a0_1, .int .i64 a0_2, .slice A0_3 l0_3.length c0_3]] (by rfl) rfl rfl (by (try simp only [List.map_toArray, List.map_cons, List.map_nil]); first | done | rfl | (simp only [List.length_drop, List.length_take]; rfl)) ?_
                  with_reducible refine (bivouaclaw16_few.calls a0_0 a0_1 a0_2 (fun k_ => k_ < w.heap.size) _ _ l0_3 t261 t262 t263 t264 _ ?side1 A2.out).mono ?_
                  (case side1 => exact Kd.V_mk HC0_3.out (Kd.F_below (Kd.C_F (Kd.heap_int .u8) HR0_3.out) (by repeat (first | (with_reducible first | exact HB.out | apply below_alloc | apply pw_below_drewN | apply below_drew1 | refine below_set ?_ GE260.out | refine below_set ?_ GE268.out) | exact HB.out))))
                  rintro e w9 ⟨v265, rfl, ho0, hb⟩
                  refine ⟨_, rfl, ?_⟩
                  have n0_ := Aside0.mk (Kd.V_lower (Kd.V_mono (ok' := fun k_ => k_ ≠ gb260 ∧ k_ ≠ gb268) ho0 (fun k_ hk_ => ⟨Or.elim hk_ (fun hs_ => fun e_ => Nat.not_le.2 hs_ (by rw [e_]; exact GW260.out)) (fun hn_ => (Kd.freshB (g := gb260) (o := .cells #[.int .i64 a0_0, .int .i64 a0_1, .int .i64 a0_2, .slice A0_3 l0_3.length c0_3, .int .i64 a0_4, .int .i64 a0_5, .int .i64 a0_6, .int .i64 a0_7, .int .i64 a0_8, .int .i64 a0_9, .int .i64 a0_10, .int .u8 a0_11] 36 (0, 0)) (by (with_reducible repeat (first | refine blk_drewN ?_ _ | refine blk_drew ?_ | refine blk_alloc ?_ _)); exact BK260.out) k_ hn_)), Or.elim hk_ (fun hs_ => fun e_ => Nat.not_le.2 hs_ (by rw [e_]; exact GW268.out)) (fun hn_ => (Kd.freshB (g := gb268) (o := .cells #[.int .i64 0, .int .i64 0, .int .i64 0, .int .i64 0, .int .i64 0, .int .i64 0] 27 (0, 0)) (by (with_reducible repeat (first | refine blk_drewN ?_ _ | refine blk_drew ?_ | refine blk_alloc ?_ _)); exact BK268.out) k_ hn_))⟩)) (below_size (by repeat (first | (with_reducible first | exact HB.out | apply below_alloc | apply pw_below_drewN | apply below_drew1 | refine below_set ?_ GE260.out | refine below_set ?_ GE268.out) | exact HB.out))))
                  have n1_ := Aside0.mk (blk_below (g := gb260) (o := .cells #[.int .i64 a0_0, .int .i64 a0_1, .int .i64 a0_2, .slice A0_3 l0_3.length c0_3, .int .i64 a0_4, .int .i64 a0_5, .int .i64 a0_6, .int .i64 a0_7, .int .i64 a0_8, .int .i64 a0_9, .int .i64 a0_10, .int .u8 a0_11] 36 (0, 0)) (by (with_reducible repeat (first | refine blk_drewN ?_ _ | refine blk_drew ?_ | refine blk_alloc ?_ _)); exact BK260.out) hb)
                  have n2_ := Aside0.mk (blk_below (g := gb268) (o := .cells #[.int .i64 0, .int .i64 0, .int .i64 0, .int .i64 0, .int .i64 0, .int .i64 0] 27 (0, 0)) (by (with_reducible repeat (first | refine blk_drewN ?_ _ | refine blk_drew ?_ | refine blk_alloc ?_ _)); exact BK268.out) hb)
                  have n3_ := Aside0.mk (below_step (by repeat (first | (with_reducible first | exact HB.out | apply below_alloc | apply pw_below_drewN | apply below_drew1 | refine below_set ?_ GE260.out | refine below_set ?_ GE268.out) | exact HB.out)) hb)
                  clear BK260
                  clear BK268
                  clear HB
                  have HO266 := n0_
                  have BK260 := n1_
                  have BK268 := n2_
                  have HB := n3_
                  clear n0_ n1_ n2_ n3_
                  (try clear hb)
                  (try clear hb2)
                  (try clear hk)
                  (try clear hi)
                  (try clear ho0)
                  refine hK.out _ _ ⟨(blk_cell BK260.out 0).trans rfl, (blk_cell BK260.out 1).trans rfl, (blk_cell BK260.out 2).trans rfl, (blk_cell BK260.out 3).trans rfl, (blk_cell BK260.out 4).trans rfl, (blk_cell BK260.out 5).trans rfl, (blk_cell BK260.out 6).trans rfl, (blk_cell BK260.out 7).trans rfl, (blk_cell BK260.out 8).trans rfl, (blk_cell BK260.out 9).trans rfl, (blk_cell BK260.out 10).trans rfl, (blk_cell BK260.out 11).trans rfl⟩ (fun hHeld => ?_)
                  clear hK K
                  refine norm_ (a' := ?_) ?_ ?_
                  rotate_left
                  · show Act.put _ (some 10) _ = _
                    simp only [Act.put, List.setIfInBounds_toArray, List.set_cons_zero, List.set_cons_succ, i64_w, i32_w]
                    rfl
                  exact norm_ (by first | (simp only [putAll, Act.put, List.setIfInBounds_toArray, List.set_cons_zero, List.set_cons_succ]; done) | (simp only [putAll, Act.put, List.setIfInBounds_toArray, List.set_cons_zero, List.set_cons_succ]; rfl)) (hJ2_8 (v265, gb268) _ ⟨hHeld, (by (with_reducible repeat (first | apply Kd.V_alloc | apply Kd.V_drewN | apply Kd.V_drew)); exact HO266.out), (by (with_reducible repeat (first | refine blk_drewN ?_ _ | refine blk_drew ?_ | refine blk_alloc ?_ _)); exact BK260.out), (by (with_reducible repeat (first | refine blk_drewN ?_ _ | refine blk_drew ?_ | refine blk_alloc ?_ _)); exact BK268.out), GW268.out, GE268.out, NB260_268.out, NB268_260.out, (by repeat (first | (with_reducible first | exact HB.out | apply below_alloc | apply pw_below_drewN | apply below_drew1 | refine below_set ?_ GE260.out | refine below_set ?_ GE268.out) | exact HB.out))⟩)
                · skip
                  refine box_step ?hg (N := 3) ?hd (cs := #[.int .i64 0, .int .i64 0, .int .i64 0, .slice none 0 0]) (t := 25) ?hr ?_; (case hd => rfl); (case hg => rfl); (case hr => first | (go_simp; done) | (go_simp; rfl))
                  intro gb267 hg w9 hbox hb
                  have n0_ := Aside0.mk (blk_below (g := gb260) (o := .cells #[.int .i64 a0_0, .int .i64 a0_1, .int .i64 a0_2, .slice A0_3 l0_3.length c0_3, .int .i64 a0_4, .int .i64 a0_5, .int .i64 a0_6, .int .i64 a0_7, .int .i64 a0_8, .int .i64 a0_9, .int .i64 a0_10, .int .u8 a0_11] 36 (0, 0)) (by (with_reducible repeat (first | refine blk_drewN ?_ _ | refine blk_drew ?_ | refine blk_alloc ?_ _)); exact BK260.out) hb)
                  have n1_ := Aside0.mk (blk_below (g := gb268) (o := .cells #[.int .i64 0, .int .i64 0, .int .i64 0, .int .i64 0, .int .i64 0, .int .i64 0] 27 (0, 0)) (by (with_reducible repeat (first | refine blk_drewN ?_ _ | refine blk_drew ?_ | refine blk_alloc ?_ _)); exact BK268.out) hb)
                  have n2_ := Aside0.mk (below_step (by repeat (first | (with_reducible first | exact HB.out | apply below_alloc | apply pw_below_drewN | apply below_drew1 | refine below_set ?_ GE260.out | refine below_set ?_ GE268.out) | exact HB.out)) hb)
                  have n3_ := Aside0.mk (hbox)
                  have n4_ := Aside0.mk ((by rw [hg]; exact (below_size (by repeat (first | (with_reducible first | exact HB.out | apply below_alloc | apply pw_below_drewN | apply below_drew1 | refine below_set ?_ GE260.out | refine below_set ?_ GE268.out) | exact HB.out))) : w.heap.size ≤ gb267))
                  have n5_ := Aside0.mk ((by rw [hg]; exact (below_size (by repeat (first | (with_reducible first | exact HB.out | apply below_alloc | apply pw_below_drewN | apply below_drew1 | refine below_set ?_ GE260.out | refine below_set ?_ GE268.out) | exact HB.out))) : w.heap.size ≤ gb267))
                  have n6_ := Aside0.mk ((by rw [hg]; exact Nat.ne_of_lt (blk_lt (g := gb260) (o := .cells #[.int .i64 a0_0, .int .i64 a0_1, .int .i64 a0_2, .slice A0_3 l0_3.length c0_3, .int .i64 a0_4, .int .i64 a0_5, .int .i64 a0_6, .int .i64 a0_7, .int .i64 a0_8, .int .i64 a0_9, .int .i64 a0_10, .int .u8 a0_11] 36 (0, 0)) (by (with_reducible repeat (first | refine blk_drewN ?_ _ | refine blk_drew ?_ | refine blk_alloc ?_ _)); exact BK260.out)) : gb260 ≠ gb267))
                  have n7_ := Aside0.mk ((by rw [hg]; exact Nat.ne_of_gt (blk_lt (g := gb260) (o := .cells #[.int .i64 a0_0, .int .i64 a0_1, .int .i64 a0_2, .slice A0_3 l0_3.length c0_3, .int .i64 a0_4, .int .i64 a0_5, .int .i64 a0_6, .int .i64 a0_7, .int .i64 a0_8, .int .i64 a0_9, .int .i64 a0_10, .int .u8 a0_11] 36 (0, 0)) (by (with_reducible repeat (first | refine blk_drewN ?_ _ | refine blk_drew ?_ | refine blk_alloc ?_ _)); exact BK260.out)) : gb267 ≠ gb260))
                  have n8_ := Aside0.mk ((by rw [hg]; exact Nat.ne_of_lt (blk_lt (g := gb268) (o := .cells #[.int .i64 0, .int .i64 0, .int .i64 0, .int .i64 0, .int .i64 0, .int .i64 0] 27 (0, 0)) (by (with_reducible repeat (first | refine blk_drewN ?_ _ | refine blk_drew ?_ | refine blk_alloc ?_ _)); exact BK268.out)) : gb268 ≠ gb267))
                  have n9_ := Aside0.mk ((by rw [hg]; exact Nat.ne_of_gt (blk_lt (g := gb268) (o := .cells #[.int .i64 0, .int .i64 0, .int .i64 0, .int .i64 0, .int .i64 0, .int .i64 0] 27 (0, 0)) (by (with_reducible repeat (first | refine blk_drewN ?_ _ | refine blk_drew ?_ | refine blk_alloc ?_ _)); exact BK268.out)) : gb267 ≠ gb268))
                  clear BK260
                  clear BK268
                  clear HB
                  have BK260 := n0_
                  have BK268 := n1_
                  have HB := n2_
                  have BK267 := n3_
                  have GW267 := n4_
                  have GE267 := n5_
                  have NB260_267 := n6_
                  have NB267_260 := n7_
                  have NB268_267 := n8_
                  have NB267_268 := n9_
                  clear n0_ n1_ n2_ n3_ n4_ n5_ n6_ n7_ n8_ n9_
                  clear hb hbox hg
                  refine hK.out _ _ ⟨(blk_cell BK260.out 0).trans rfl, (blk_cell BK260.out 1).trans rfl, (blk_cell BK260.out 2).trans rfl, (blk_cell BK260.out 3).trans rfl, (blk_cell BK260.out 4).trans rfl, (blk_cell BK260.out 5).trans rfl, (blk_cell BK260.out 6).trans rfl, (blk_cell BK260.out 7).trans rfl, (blk_cell BK260.out 8).trans rfl, (blk_cell BK260.out 9).trans rfl, (blk_cell BK260.out 10).trans rfl, (blk_cell BK260.out 11).trans rfl⟩ (fun hHeld => ?_)
                  clear hK K
                  refine norm_ (a' := ?_) ?_ ?_
                  rotate_left
                  · show Act.put _ (some 3) _ = _
                    simp only [Act.put, List.setIfInBounds_toArray, List.set_cons_zero, List.set_cons_succ, i64_w, i32_w]
                    rfl
                  exact norm_ (by first | (simp only [putAll, Act.put, List.setIfInBounds_toArray, List.set_cons_zero, List.set_cons_succ]; done) | (simp only [putAll, Act.put, List.setIfInBounds_toArray, List.set_cons_zero, List.set_cons_succ]; rfl)) (hJ7_8 (gb267, gb268) _ ⟨hHeld, (by (with_reducible repeat (first | refine blk_drewN ?_ _ | refine blk_drew ?_ | refine blk_alloc ?_ _)); exact BK260.out), (by (with_reducible repeat (first | refine blk_drewN ?_ _ | refine blk_drew ?_ | refine blk_alloc ?_ _)); exact BK267.out), (by (with_reducible repeat (first | refine blk_drewN ?_ _ | refine blk_drew ?_ | refine blk_alloc ?_ _)); exact BK268.out), GW267.out, GE267.out, NB260_267.out, NB267_260.out, NB268_267.out, NB267_268.out, GW268.out, GE268.out, NB260_268.out, NB268_260.out, (by repeat (first | (with_reducible first | exact HB.out | apply below_alloc | apply pw_below_drewN | apply below_drew1 | refine below_set ?_ GE260.out | refine below_set ?_ GE268.out | refine below_set ?_ GE267.out) | exact HB.out))⟩)
            · skip
              rintro gb267 w8 ⟨hS_, h0_, h1_, h2_, h3_, h4_, h5_, h6_⟩
              have n0_ : Aside0 (w8.heap[gb260]? = some (.cells #[.int .i64 a0_0, .int .i64 a0_1, .int .i64 a0_2, .slice A0_3 l0_3.length c0_3, .int .i64 a0_4, .int .i64 a0_5, .int .i64 a0_6, .int .i64 a0_7, .int .i64 a0_8, .int .i64 a0_9, .int .i64 a0_10, .int .u8 a0_11] 36 (0, 0))) := ⟨h0_⟩
              have n1_ : Aside0 (w8.heap[gb267]? = some (.cells #[.int .i64 0, .int .i64 0, .int .i64 0, .slice none 0 0] 25 (0, 0))) := ⟨h1_⟩
              have n2_ : Aside0 (w.heap.size ≤ gb267) := ⟨h2_⟩
              have n3_ : Aside0 (w.heap.size ≤ gb267) := ⟨h3_⟩
              have n4_ : Aside0 (gb260 ≠ gb267) := ⟨h4_⟩
              have n5_ : Aside0 (gb267 ≠ gb260) := ⟨h5_⟩
              have n6_ : Aside0 (Below w.heap.size w w8) := ⟨h6_⟩
              clear BK260
              clear HB
              clear h0_ h1_ h2_ h3_ h4_ h5_ h6_
              have BK260 := n0_
              have BK267 := n1_
              have GW267 := n2_
              have GE267 := n3_
              have NB260_267 := n4_
              have NB267_260 := n5_
              have HB := n6_
              clear n0_ n1_ n2_ n3_ n4_ n5_ n6_
              have hHeld : w8.cell? ⟨gb260, 0, none⟩ = some (.int .i64 a0_0) ∧ w8.cell? ⟨gb260, 1, none⟩ = some (.int .i64 a0_1) ∧ w8.cell? ⟨gb260, 2, none⟩ = some (.int .i64 a0_2) ∧ w8.cell? ⟨gb260, 3, none⟩ = some (.slice A0_3 l0_3.length c0_3) ∧ w8.cell? ⟨gb260, 4, none⟩ = some (.int .i64 a0_4) ∧ w8.cell? ⟨gb260, 5, none⟩ = some (.int .i64 a0_5) ∧ w8.cell? ⟨gb260, 6, none⟩ = some (.int .i64 a0_6) ∧ w8.cell? ⟨gb260, 7, none⟩ = some (.int .i64 a0_7) ∧ w8.cell? ⟨gb260, 8, none⟩ = some (.int .i64 a0_8) ∧ w8.cell? ⟨gb260, 9, none⟩ = some (.int .i64 a0_9) ∧ w8.cell? ⟨gb260, 10, none⟩ = some (.int .i64 a0_10) ∧ w8.cell? ⟨gb260, 11, none⟩ = some (.int .u8 a0_11) := hS_
              refine norm_ (a' := ?_) ?_ ?_
              rotate_left
              · simp only [putAll, Act.put, List.setIfInBounds_toArray, List.set_cons_zero, List.set_cons_succ]
                rfl
              refine two_ (i := 2) (j := 8) (Ni := some 10) (Nj := some 4) #[true, true, true, true, true, true, true, true, false, false, false, false] #[true, true, false, true, true, true, true, true, true, false, false, false] rfl rfl rfl rfl (two_of HT_.out (by kernel_rfl)) (by decide) (by decide) (fun K hK => ?_) (fun K hK => ?_)
              · skip
                refine goes_ Try.func11 (by kernel_rfl) rfl #[.agg #[.int .i64 a0_0, .int .i64 a0_1, .int .i64 a0_2, .slice A0_3 l0_3.length c0_3]] (by rfl) rfl rfl (by (try simp only [List.map_toArray, List.map_cons, List.map_nil]); first | done | rfl | (simp only [List.length_drop, List.length_take]; rfl)) ?_
                with_reducible refine (bivouaclaw16_few.calls a0_0 a0_1 a0_2 (fun k_ => k_ < w.heap.size) _ _ l0_3 t261 t262 t263 t264 _ ?side1 A2.out).mono ?_
                (case side1 => exact Kd.V_mk HC0_3.out (Kd.F_below (Kd.C_F (Kd.heap_int .u8) HR0_3.out) (by repeat (first | (with_reducible first | exact HB.out | apply below_alloc | apply pw_below_drewN | apply below_drew1 | refine below_set ?_ GE260.out | refine below_set ?_ GE267.out) | exact HB.out))))
                rintro e w9 ⟨v265, rfl, ho0, hb⟩
                refine ⟨_, rfl, ?_⟩
                have n0_ := Aside0.mk (Kd.V_lower (Kd.V_mono (ok' := fun k_ => k_ ≠ gb260 ∧ k_ ≠ gb267) ho0 (fun k_ hk_ => ⟨Or.elim hk_ (fun hs_ => fun e_ => Nat.not_le.2 hs_ (by rw [e_]; exact GW260.out)) (fun hn_ => (Kd.freshB (g := gb260) (o := .cells #[.int .i64 a0_0, .int .i64 a0_1, .int .i64 a0_2, .slice A0_3 l0_3.length c0_3, .int .i64 a0_4, .int .i64 a0_5, .int .i64 a0_6, .int .i64 a0_7, .int .i64 a0_8, .int .i64 a0_9, .int .i64 a0_10, .int .u8 a0_11] 36 (0, 0)) (by (with_reducible repeat (first | refine blk_drewN ?_ _ | refine blk_drew ?_ | refine blk_alloc ?_ _)); exact BK260.out) k_ hn_)), Or.elim hk_ (fun hs_ => fun e_ => Nat.not_le.2 hs_ (by rw [e_]; exact GW267.out)) (fun hn_ => (Kd.freshB (g := gb267) (o := .cells #[.int .i64 0, .int .i64 0, .int .i64 0, .slice none 0 0] 25 (0, 0)) (by (with_reducible repeat (first | refine blk_drewN ?_ _ | refine blk_drew ?_ | refine blk_alloc ?_ _)); exact BK267.out) k_ hn_))⟩)) (below_size (by repeat (first | (with_reducible first | exact HB.out | apply below_alloc | apply pw_below_drewN | apply below_drew1 | refine below_set ?_ GE260.out | refine below_set ?_ GE267.out) | exact HB.out))))
                have n1_ := Aside0.mk (blk_below (g := gb260) (o := .cells #[.int .i64 a0_0, .int .i64 a0_1, .int .i64 a0_2, .slice A0_3 l0_3.length c0_3, .int .i64 a0_4, .int .i64 a0_5, .int .i64 a0_6, .int .i64 a0_7, .int .i64 a0_8, .int .i64 a0_9, .int .i64 a0_10, .int .u8 a0_11] 36 (0, 0)) (by (with_reducible repeat (first | refine blk_drewN ?_ _ | refine blk_drew ?_ | refine blk_alloc ?_ _)); exact BK260.out) hb)
                have n2_ := Aside0.mk (blk_below (g := gb267) (o := .cells #[.int .i64 0, .int .i64 0, .int .i64 0, .slice none 0 0] 25 (0, 0)) (by (with_reducible repeat (first | refine blk_drewN ?_ _ | refine blk_drew ?_ | refine blk_alloc ?_ _)); exact BK267.out) hb)
                have n3_ := Aside0.mk (below_step (by repeat (first | (with_reducible first | exact HB.out | apply below_alloc | apply pw_below_drewN | apply below_drew1 | refine below_set ?_ GE260.out | refine below_set ?_ GE267.out) | exact HB.out)) hb)
                clear BK260
                clear BK267
                clear HB
                have HO266 := n0_
                have BK260 := n1_
                have BK267 := n2_
                have HB := n3_
                clear n0_ n1_ n2_ n3_
                (try clear hb)
                (try clear hb2)
                (try clear hk)
                (try clear hi)
                (try clear ho0)
                refine hK.out _ _ ⟨(blk_cell BK260.out 0).trans rfl, (blk_cell BK260.out 1).trans rfl, (blk_cell BK260.out 2).trans rfl, (blk_cell BK260.out 3).trans rfl, (blk_cell BK260.out 4).trans rfl, (blk_cell BK260.out 5).trans rfl, (blk_cell BK260.out 6).trans rfl, (blk_cell BK260.out 7).trans rfl, (blk_cell BK260.out 8).trans rfl, (blk_cell BK260.out 9).trans rfl, (blk_cell BK260.out 10).trans rfl, (blk_cell BK260.out 11).trans rfl⟩ (fun hHeld => ?_)
                clear hK K
                refine norm_ (a' := ?_) ?_ ?_
                rotate_left
                · show Act.put _ (some 10) _ = _
                  simp only [Act.put, List.setIfInBounds_toArray, List.set_cons_zero, List.set_cons_succ, i64_w, i32_w]
                  rfl
                exact norm_ (by first | (simp only [putAll, Act.put, List.setIfInBounds_toArray, List.set_cons_zero, List.set_cons_succ]; done) | (simp only [putAll, Act.put, List.setIfInBounds_toArray, List.set_cons_zero, List.set_cons_succ]; rfl)) (hJ2_7 (v265, gb267) _ ⟨hHeld, (by (with_reducible repeat (first | apply Kd.V_alloc | apply Kd.V_drewN | apply Kd.V_drew)); exact HO266.out), (by (with_reducible repeat (first | refine blk_drewN ?_ _ | refine blk_drew ?_ | refine blk_alloc ?_ _)); exact BK260.out), (by (with_reducible repeat (first | refine blk_drewN ?_ _ | refine blk_drew ?_ | refine blk_alloc ?_ _)); exact BK267.out), GW267.out, GE267.out, NB260_267.out, NB267_260.out, (by repeat (first | (with_reducible first | exact HB.out | apply below_alloc | apply pw_below_drewN | apply below_drew1 | refine below_set ?_ GE260.out | refine below_set ?_ GE267.out) | exact HB.out))⟩)
              · skip
                refine box_step ?hg (N := 4) ?hd (cs := #[.int .i64 0, .int .i64 0, .int .i64 0, .int .i64 0, .int .i64 0, .int .i64 0]) (t := 27) ?hr ?_; (case hd => rfl); (case hg => rfl); (case hr => first | (go_simp; done) | (go_simp; rfl))
                intro gb268 hg w9 hbox hb
                have n0_ := Aside0.mk (blk_below (g := gb260) (o := .cells #[.int .i64 a0_0, .int .i64 a0_1, .int .i64 a0_2, .slice A0_3 l0_3.length c0_3, .int .i64 a0_4, .int .i64 a0_5, .int .i64 a0_6, .int .i64 a0_7, .int .i64 a0_8, .int .i64 a0_9, .int .i64 a0_10, .int .u8 a0_11] 36 (0, 0)) (by (with_reducible repeat (first | refine blk_drewN ?_ _ | refine blk_drew ?_ | refine blk_alloc ?_ _)); exact BK260.out) hb)
                have n1_ := Aside0.mk (blk_below (g := gb267) (o := .cells #[.int .i64 0, .int .i64 0, .int .i64 0, .slice none 0 0] 25 (0, 0)) (by (with_reducible repeat (first | refine blk_drewN ?_ _ | refine blk_drew ?_ | refine blk_alloc ?_ _)); exact BK267.out) hb)
                have n2_ := Aside0.mk (below_step (by repeat (first | (with_reducible first | exact HB.out | apply below_alloc | apply pw_below_drewN | apply below_drew1 | refine below_set ?_ GE260.out | refine below_set ?_ GE267.out) | exact HB.out)) hb)
                have n3_ := Aside0.mk (hbox)
                have n4_ := Aside0.mk ((by rw [hg]; exact (below_size (by repeat (first | (with_reducible first | exact HB.out | apply below_alloc | apply pw_below_drewN | apply below_drew1 | refine below_set ?_ GE260.out | refine below_set ?_ GE267.out) | exact HB.out))) : w.heap.size ≤ gb268))
                have n5_ := Aside0.mk ((by rw [hg]; exact (below_size (by repeat (first | (with_reducible first | exact HB.out | apply below_alloc | apply pw_below_drewN | apply below_drew1 | refine below_set ?_ GE260.out | refine below_set ?_ GE267.out) | exact HB.out))) : w.heap.size ≤ gb268))
                have n6_ := Aside0.mk ((by rw [hg]; exact Nat.ne_of_lt (blk_lt (g := gb260) (o := .cells #[.int .i64 a0_0, .int .i64 a0_1, .int .i64 a0_2, .slice A0_3 l0_3.length c0_3, .int .i64 a0_4, .int .i64 a0_5, .int .i64 a0_6, .int .i64 a0_7, .int .i64 a0_8, .int .i64 a0_9, .int .i64 a0_10, .int .u8 a0_11] 36 (0, 0)) (by (with_reducible repeat (first | refine blk_drewN ?_ _ | refine blk_drew ?_ | refine blk_alloc ?_ _)); exact BK260.out)) : gb260 ≠ gb268))
                have n7_ := Aside0.mk ((by rw [hg]; exact Nat.ne_of_gt (blk_lt (g := gb260) (o := .cells #[.int .i64 a0_0, .int .i64 a0_1, .int .i64 a0_2, .slice A0_3 l0_3.length c0_3, .int .i64 a0_4, .int .i64 a0_5, .int .i64 a0_6, .int .i64 a0_7, .int .i64 a0_8, .int .i64 a0_9, .int .i64 a0_10, .int .u8 a0_11] 36 (0, 0)) (by (with_reducible repeat (first | refine blk_drewN ?_ _ | refine blk_drew ?_ | refine blk_alloc ?_ _)); exact BK260.out)) : gb268 ≠ gb260))
                have n8_ := Aside0.mk ((by rw [hg]; exact Nat.ne_of_lt (blk_lt (g := gb267) (o := .cells #[.int .i64 0, .int .i64 0, .int .i64 0, .slice none 0 0] 25 (0, 0)) (by (with_reducible repeat (first | refine blk_drewN ?_ _ | refine blk_drew ?_ | refine blk_alloc ?_ _)); exact BK267.out)) : gb267 ≠ gb268))
                have n9_ := Aside0.mk ((by rw [hg]; exact Nat.ne_of_gt (blk_lt (g := gb267) (o := .cells #[.int .i64 0, .int .i64 0, .int .i64 0, .slice none 0 0] 25 (0, 0)) (by (with_reducible repeat (first | refine blk_drewN ?_ _ | refine blk_drew ?_ | refine blk_alloc ?_ _)); exact BK267.out)) : gb268 ≠ gb267))
                clear BK260
                clear BK267
                clear HB
                have BK260 := n0_
                have BK267 := n1_
                have HB := n2_
                have BK268 := n3_
                have GW268 := n4_
                have GE268 := n5_
                have NB260_268 := n6_
                have NB268_260 := n7_
                have NB267_268 := n8_
                have NB268_267 := n9_
                clear n0_ n1_ n2_ n3_ n4_ n5_ n6_ n7_ n8_ n9_
                clear hb hbox hg
                refine hK.out _ _ ⟨(blk_cell BK260.out 0).trans rfl, (blk_cell BK260.out 1).trans rfl, (blk_cell BK260.out 2).trans rfl, (blk_cell BK260.out 3).trans rfl, (blk_cell BK260.out 4).trans rfl, (blk_cell BK260.out 5).trans rfl, (blk_cell BK260.out 6).trans rfl, (blk_cell BK260.out 7).trans rfl, (blk_cell BK260.out 8).trans rfl, (blk_cell BK260.out 9).trans rfl, (blk_cell BK260.out 10).trans rfl, (blk_cell BK260.out 11).trans rfl⟩ (fun hHeld => ?_)
                clear hK K
                refine norm_ (a' := ?_) ?_ ?_
                rotate_left
                · show Act.put _ (some 4) _ = _
                  simp only [Act.put, List.setIfInBounds_toArray, List.set_cons_zero, List.set_cons_succ, i64_w, i32_w]
                  rfl
                exact norm_ (by first | (simp only [putAll, Act.put, List.setIfInBounds_toArray, List.set_cons_zero, List.set_cons_succ]; done) | (simp only [putAll, Act.put, List.setIfInBounds_toArray, List.set_cons_zero, List.set_cons_succ]; rfl)) (hJ7_8 (gb267, gb268) _ ⟨hHeld, (by (with_reducible repeat (first | refine blk_drewN ?_ _ | refine blk_drew ?_ | refine blk_alloc ?_ _)); exact BK260.out), (by (with_reducible repeat (first | refine blk_drewN ?_ _ | refine blk_drew ?_ | refine blk_alloc ?_ _)); exact BK267.out), (by (with_reducible repeat (first | refine blk_drewN ?_ _ | refine blk_drew ?_ | refine blk_alloc ?_ _)); exact BK268.out), GW267.out, GE267.out, NB260_267.out, NB267_260.out, NB268_267.out, NB267_268.out, GW268.out, GE268.out, NB260_268.out, NB268_260.out, (by repeat (first | (with_reducible first | exact HB.out | apply below_alloc | apply pw_below_drewN | apply below_drew1 | refine below_set ?_ GE260.out | refine below_set ?_ GE267.out | refine below_set ?_ GE268.out) | exact HB.out))⟩)
          · skip
            rintro v265 w8 ⟨hS_, h0_, h1_, h2_⟩
            have n0_ : Aside0 (Kd.V (Kd.int .u8) 5 w8 w.heap.size (fun k_ => k_ ≠ gb260) v265 t264) := ⟨h0_⟩
            have n1_ : Aside0 (w8.heap[gb260]? = some (.cells #[.int .i64 a0_0, .int .i64 a0_1, .int .i64 a0_2, .slice A0_3 l0_3.length c0_3, .int .i64 a0_4, .int .i64 a0_5, .int .i64 a0_6, .int .i64 a0_7, .int .i64 a0_8, .int .i64 a0_9, .int .i64 a0_10, .int .u8 a0_11] 36 (0, 0))) := ⟨h1_⟩
            have n2_ : Aside0 (Below w.heap.size w w8) := ⟨h2_⟩
            clear BK260
            clear HB
            clear h0_ h1_ h2_
            have HO266 := n0_
            have BK260 := n1_
            have HB := n2_
            clear n0_ n1_ n2_
            have hHeld : w8.cell? ⟨gb260, 0, none⟩ = some (.int .i64 a0_0) ∧ w8.cell? ⟨gb260, 1, none⟩ = some (.int .i64 a0_1) ∧ w8.cell? ⟨gb260, 2, none⟩ = some (.int .i64 a0_2) ∧ w8.cell? ⟨gb260, 3, none⟩ = some (.slice A0_3 l0_3.length c0_3) ∧ w8.cell? ⟨gb260, 4, none⟩ = some (.int .i64 a0_4) ∧ w8.cell? ⟨gb260, 5, none⟩ = some (.int .i64 a0_5) ∧ w8.cell? ⟨gb260, 6, none⟩ = some (.int .i64 a0_6) ∧ w8.cell? ⟨gb260, 7, none⟩ = some (.int .i64 a0_7) ∧ w8.cell? ⟨gb260, 8, none⟩ = some (.int .i64 a0_8) ∧ w8.cell? ⟨gb260, 9, none⟩ = some (.int .i64 a0_9) ∧ w8.cell? ⟨gb260, 10, none⟩ = some (.int .i64 a0_10) ∧ w8.cell? ⟨gb260, 11, none⟩ = some (.int .u8 a0_11) := hS_
            refine norm_ (a' := ?_) ?_ ?_
            rotate_left
            · simp only [putAll, Act.put, List.setIfInBounds_toArray, List.set_cons_zero, List.set_cons_succ]
              rfl
            refine two_ (i := 7) (j := 8) (Ni := some 3) (Nj := some 4) #[true, true, true, true, true, true, true, true, false, false, false, false] #[true, true, true, true, true, true, true, false, true, false, false, false] rfl rfl rfl rfl (two_of HT_.out (by kernel_rfl)) (by decide) (by decide) (fun K hK => ?_) (fun K hK => ?_)
            · skip
              refine box_step ?hg (N := 3) ?hd (cs := #[.int .i64 0, .int .i64 0, .int .i64 0, .slice none 0 0]) (t := 25) ?hr ?_; (case hd => rfl); (case hg => rfl); (case hr => first | (go_simp; done) | (go_simp; rfl))
              intro gb267 hg w9 hbox hb
              have n0_ := Aside0.mk (Kd.V_below (Kd.V_elderB (by (with_reducible repeat (first | apply Kd.V_alloc | apply Kd.V_drewN | apply Kd.V_drew)); exact HO266.out) gb267 (Nat.le_of_eq hg.symm)) hb)
              have n1_ := Aside0.mk (blk_below (g := gb260) (o := .cells #[.int .i64 a0_0, .int .i64 a0_1, .int .i64 a0_2, .slice A0_3 l0_3.length c0_3, .int .i64 a0_4, .int .i64 a0_5, .int .i64 a0_6, .int .i64 a0_7, .int .i64 a0_8, .int .i64 a0_9, .int .i64 a0_10, .int .u8 a0_11] 36 (0, 0)) (by (with_reducible repeat (first | refine blk_drewN ?_ _ | refine blk_drew ?_ | refine blk_alloc ?_ _)); exact BK260.out) hb)
              have n2_ := Aside0.mk (below_step (by repeat (first | (with_reducible first | exact HB.out | apply below_alloc | apply pw_below_drewN | apply below_drew1 | refine below_set ?_ GE260.out) | exact HB.out)) hb)
              have n3_ := Aside0.mk (hbox)
              have n4_ := Aside0.mk ((by rw [hg]; exact (below_size (by repeat (first | (with_reducible first | exact HB.out | apply below_alloc | apply pw_below_drewN | apply below_drew1 | refine below_set ?_ GE260.out) | exact HB.out))) : w.heap.size ≤ gb267))
              have n5_ := Aside0.mk ((by rw [hg]; exact (below_size (by repeat (first | (with_reducible first | exact HB.out | apply below_alloc | apply pw_below_drewN | apply below_drew1 | refine below_set ?_ GE260.out) | exact HB.out))) : w.heap.size ≤ gb267))
              have n6_ := Aside0.mk ((by rw [hg]; exact Nat.ne_of_lt (blk_lt (g := gb260) (o := .cells #[.int .i64 a0_0, .int .i64 a0_1, .int .i64 a0_2, .slice A0_3 l0_3.length c0_3, .int .i64 a0_4, .int .i64 a0_5, .int .i64 a0_6, .int .i64 a0_7, .int .i64 a0_8, .int .i64 a0_9, .int .i64 a0_10, .int .u8 a0_11] 36 (0, 0)) (by (with_reducible repeat (first | refine blk_drewN ?_ _ | refine blk_drew ?_ | refine blk_alloc ?_ _)); exact BK260.out)) : gb260 ≠ gb267))
              have n7_ := Aside0.mk ((by rw [hg]; exact Nat.ne_of_gt (blk_lt (g := gb260) (o := .cells #[.int .i64 a0_0, .int .i64 a0_1, .int .i64 a0_2, .slice A0_3 l0_3.length c0_3, .int .i64 a0_4, .int .i64 a0_5, .int .i64 a0_6, .int .i64 a0_7, .int .i64 a0_8, .int .i64 a0_9, .int .i64 a0_10, .int .u8 a0_11] 36 (0, 0)) (by (with_reducible repeat (first | refine blk_drewN ?_ _ | refine blk_drew ?_ | refine blk_alloc ?_ _)); exact BK260.out)) : gb267 ≠ gb260))
              clear HO266
              clear BK260
              clear HB
              have HO266 := n0_
              have BK260 := n1_
              have HB := n2_
              have BK267 := n3_
              have GW267 := n4_
              have GE267 := n5_
              have NB260_267 := n6_
              have NB267_260 := n7_
              clear n0_ n1_ n2_ n3_ n4_ n5_ n6_ n7_
              clear hb hbox hg
              refine hK.out _ _ ⟨(blk_cell BK260.out 0).trans rfl, (blk_cell BK260.out 1).trans rfl, (blk_cell BK260.out 2).trans rfl, (blk_cell BK260.out 3).trans rfl, (blk_cell BK260.out 4).trans rfl, (blk_cell BK260.out 5).trans rfl, (blk_cell BK260.out 6).trans rfl, (blk_cell BK260.out 7).trans rfl, (blk_cell BK260.out 8).trans rfl, (blk_cell BK260.out 9).trans rfl, (blk_cell BK260.out 10).trans rfl, (blk_cell BK260.out 11).trans rfl⟩ (fun hHeld => ?_)
              clear hK K
              refine norm_ (a' := ?_) ?_ ?_
              rotate_left
              · show Act.put _ (some 3) _ = _
                simp only [Act.put, List.setIfInBounds_toArray, List.set_cons_zero, List.set_cons_succ, i64_w, i32_w]
                rfl
              exact norm_ (by first | (simp only [putAll, Act.put, List.setIfInBounds_toArray, List.set_cons_zero, List.set_cons_succ]; done) | (simp only [putAll, Act.put, List.setIfInBounds_toArray, List.set_cons_zero, List.set_cons_succ]; rfl)) (hJ2_7 (v265, gb267) _ ⟨hHeld, (by (with_reducible repeat (first | apply Kd.V_alloc | apply Kd.V_drewN | apply Kd.V_drew)); exact HO266.out), (by (with_reducible repeat (first | refine blk_drewN ?_ _ | refine blk_drew ?_ | refine blk_alloc ?_ _)); exact BK260.out), (by (with_reducible repeat (first | refine blk_drewN ?_ _ | refine blk_drew ?_ | refine blk_alloc ?_ _)); exact BK267.out), GW267.out, GE267.out, NB260_267.out, NB267_260.out, (by repeat (first | (with_reducible first | exact HB.out | apply below_alloc | apply pw_below_drewN | apply below_drew1 | refine below_set ?_ GE260.out | refine below_set ?_ GE267.out) | exact HB.out))⟩)
            · skip
              refine box_step ?hg (N := 4) ?hd (cs := #[.int .i64 0, .int .i64 0, .int .i64 0, .int .i64 0, .int .i64 0, .int .i64 0]) (t := 27) ?hr ?_; (case hd => rfl); (case hg => rfl); (case hr => first | (go_simp; done) | (go_simp; rfl))
              intro gb268 hg w9 hbox hb
              have n0_ := Aside0.mk (Kd.V_below (Kd.V_elderB (by (with_reducible repeat (first | apply Kd.V_alloc | apply Kd.V_drewN | apply Kd.V_drew)); exact HO266.out) gb268 (Nat.le_of_eq hg.symm)) hb)
              have n1_ := Aside0.mk (blk_below (g := gb260) (o := .cells #[.int .i64 a0_0, .int .i64 a0_1, .int .i64 a0_2, .slice A0_3 l0_3.length c0_3, .int .i64 a0_4, .int .i64 a0_5, .int .i64 a0_6, .int .i64 a0_7, .int .i64 a0_8, .int .i64 a0_9, .int .i64 a0_10, .int .u8 a0_11] 36 (0, 0)) (by (with_reducible repeat (first | refine blk_drewN ?_ _ | refine blk_drew ?_ | refine blk_alloc ?_ _)); exact BK260.out) hb)
              have n2_ := Aside0.mk (below_step (by repeat (first | (with_reducible first | exact HB.out | apply below_alloc | apply pw_below_drewN | apply below_drew1 | refine below_set ?_ GE260.out) | exact HB.out)) hb)
              have n3_ := Aside0.mk (hbox)
              have n4_ := Aside0.mk ((by rw [hg]; exact (below_size (by repeat (first | (with_reducible first | exact HB.out | apply below_alloc | apply pw_below_drewN | apply below_drew1 | refine below_set ?_ GE260.out) | exact HB.out))) : w.heap.size ≤ gb268))
              have n5_ := Aside0.mk ((by rw [hg]; exact (below_size (by repeat (first | (with_reducible first | exact HB.out | apply below_alloc | apply pw_below_drewN | apply below_drew1 | refine below_set ?_ GE260.out) | exact HB.out))) : w.heap.size ≤ gb268))
              have n6_ := Aside0.mk ((by rw [hg]; exact Nat.ne_of_lt (blk_lt (g := gb260) (o := .cells #[.int .i64 a0_0, .int .i64 a0_1, .int .i64 a0_2, .slice A0_3 l0_3.length c0_3, .int .i64 a0_4, .int .i64 a0_5, .int .i64 a0_6, .int .i64 a0_7, .int .i64 a0_8, .int .i64 a0_9, .int .i64 a0_10, .int .u8 a0_11] 36 (0, 0)) (by (with_reducible repeat (first | refine blk_drewN ?_ _ | refine blk_drew ?_ | refine blk_alloc ?_ _)); exact BK260.out)) : gb260 ≠ gb268))
              have n7_ := Aside0.mk ((by rw [hg]; exact Nat.ne_of_gt (blk_lt (g := gb260) (o := .cells #[.int .i64 a0_0, .int .i64 a0_1, .int .i64 a0_2, .slice A0_3 l0_3.length c0_3, .int .i64 a0_4, .int .i64 a0_5, .int .i64 a0_6, .int .i64 a0_7, .int .i64 a0_8, .int .i64 a0_9, .int .i64 a0_10, .int .u8 a0_11] 36 (0, 0)) (by (with_reducible repeat (first | refine blk_drewN ?_ _ | refine blk_drew ?_ | refine blk_alloc ?_ _)); exact BK260.out)) : gb268 ≠ gb260))
              clear HO266
              clear BK260
              clear HB
              have HO266 := n0_
              have BK260 := n1_
              have HB := n2_
              have BK268 := n3_
              have GW268 := n4_
              have GE268 := n5_
              have NB260_268 := n6_
              have NB268_260 := n7_
              clear n0_ n1_ n2_ n3_ n4_ n5_ n6_ n7_
              clear hb hbox hg
              refine hK.out _ _ ⟨(blk_cell BK260.out 0).trans rfl, (blk_cell BK260.out 1).trans rfl, (blk_cell BK260.out 2).trans rfl, (blk_cell BK260.out 3).trans rfl, (blk_cell BK260.out 4).trans rfl, (blk_cell BK260.out 5).trans rfl, (blk_cell BK260.out 6).trans rfl, (blk_cell BK260.out 7).trans rfl, (blk_cell BK260.out 8).trans rfl, (blk_cell BK260.out 9).trans rfl, (blk_cell BK260.out 10).trans rfl, (blk_cell BK260.out 11).trans rfl⟩ (fun hHeld => ?_)
              clear hK K
              refine norm_ (a' := ?_) ?_ ?_
              rotate_left
              · show Act.put _ (some 4) _ = _
                simp only [Act.put, List.setIfInBounds_toArray, List.set_cons_zero, List.set_cons_succ, i64_w, i32_w]
                rfl
              exact norm_ (by first | (simp only [putAll, Act.put, List.setIfInBounds_toArray, List.set_cons_zero, List.set_cons_succ]; done) | (simp only [putAll, Act.put, List.setIfInBounds_toArray, List.set_cons_zero, List.set_cons_succ]; rfl)) (hJ2_8 (v265, gb268) _ ⟨hHeld, (by (with_reducible repeat (first | apply Kd.V_alloc | apply Kd.V_drewN | apply Kd.V_drew)); exact HO266.out), (by (with_reducible repeat (first | refine blk_drewN ?_ _ | refine blk_drew ?_ | refine blk_alloc ?_ _)); exact BK260.out), (by (with_reducible repeat (first | refine blk_drewN ?_ _ | refine blk_drew ?_ | refine blk_alloc ?_ _)); exact BK268.out), GW268.out, GE268.out, NB260_268.out, NB268_260.out, (by repeat (first | (with_reducible first | exact HB.out | apply below_alloc | apply pw_below_drewN | apply below_drew1 | refine below_set ?_ GE260.out | refine below_set ?_ GE268.out) | exact HB.out))⟩)
        · skip
          rintro ⟨gb267, gb268⟩ w9 ⟨hS_, h0_, h1_, h2_, h3_, h4_, h5_, h6_, h7_, h8_, h9_, h10_, h11_, h12_, h13_⟩
          have n0_ : Aside0 (w9.heap[gb260]? = some (.cells #[.int .i64 a0_0, .int .i64 a0_1, .int .i64 a0_2, .slice A0_3 l0_3.length c0_3, .int .i64 a0_4, .int .i64 a0_5, .int .i64 a0_6, .int .i64 a0_7, .int .i64 a0_8, .int .i64 a0_9, .int .i64 a0_10, .int .u8 a0_11] 36 (0, 0))) := ⟨h0_⟩
          have n1_ : Aside0 (w9.heap[gb267]? = some (.cells #[.int .i64 0, .int .i64 0, .int .i64 0, .slice none 0 0] 25 (0, 0))) := ⟨h1_⟩
          have n2_ : Aside0 (w9.heap[gb268]? = some (.cells #[.int .i64 0, .int .i64 0, .int .i64 0, .int .i64 0, .int .i64 0, .int .i64 0] 27 (0, 0))) := ⟨h2_⟩
          have n3_ : Aside0 (w.heap.size ≤ gb267) := ⟨h3_⟩
          have n4_ : Aside0 (w.heap.size ≤ gb267) := ⟨h4_⟩
          have n5_ : Aside0 (gb260 ≠ gb267) := ⟨h5_⟩
          have n6_ : Aside0 (gb267 ≠ gb260) := ⟨h6_⟩
          have n7_ : Aside0 (gb268 ≠ gb267) := ⟨h7_⟩
          have n8_ : Aside0 (gb267 ≠ gb268) := ⟨h8_⟩
          have n9_ : Aside0 (w.heap.size ≤ gb268) := ⟨h9_⟩
          have n10_ : Aside0 (w.heap.size ≤ gb268) := ⟨h10_⟩
          have n11_ : Aside0 (gb260 ≠ gb268) := ⟨h11_⟩
          have n12_ : Aside0 (gb268 ≠ gb260) := ⟨h12_⟩
          have n13_ : Aside0 (Below w.heap.size w w9) := ⟨h13_⟩
          clear BK260
          clear HB
          clear h0_ h1_ h2_ h3_ h4_ h5_ h6_ h7_ h8_ h9_ h10_ h11_ h12_ h13_
          have BK260 := n0_
          have BK267 := n1_
          have BK268 := n2_
          have GW267 := n3_
          have GE267 := n4_
          have NB260_267 := n5_
          have NB267_260 := n6_
          have NB268_267 := n7_
          have NB267_268 := n8_
          have GW268 := n9_
          have GE268 := n10_
          have NB260_268 := n11_
          have NB268_260 := n12_
          have HB := n13_
          clear n0_ n1_ n2_ n3_ n4_ n5_ n6_ n7_ n8_ n9_ n10_ n11_ n12_ n13_
          have hHeld : w9.cell? ⟨gb260, 0, none⟩ = some (.int .i64 a0_0) ∧ w9.cell? ⟨gb260, 1, none⟩ = some (.int .i64 a0_1) ∧ w9.cell? ⟨gb260, 2, none⟩ = some (.int .i64 a0_2) ∧ w9.cell? ⟨gb260, 3, none⟩ = some (.slice A0_3 l0_3.length c0_3) ∧ w9.cell? ⟨gb260, 4, none⟩ = some (.int .i64 a0_4) ∧ w9.cell? ⟨gb260, 5, none⟩ = some (.int .i64 a0_5) ∧ w9.cell? ⟨gb260, 6, none⟩ = some (.int .i64 a0_6) ∧ w9.cell? ⟨gb260, 7, none⟩ = some (.int .i64 a0_7) ∧ w9.cell? ⟨gb260, 8, none⟩ = some (.int .i64 a0_8) ∧ w9.cell? ⟨gb260, 9, none⟩ = some (.int .i64 a0_9) ∧ w9.cell? ⟨gb260, 10, none⟩ = some (.int .i64 a0_10) ∧ w9.cell? ⟨gb260, 11, none⟩ = some (.int .u8 a0_11) := hS_
          refine norm_ (a' := ?_) ?_ ?_
          rotate_left
          · simp only [putAll, Act.put, List.setIfInBounds_toArray, List.set_cons_zero, List.set_cons_succ]
            rfl
          refine one_ (i := 2) (N := some 10) #[true, true, true, true, true, true, true, true, true, false, false, false] rfl rfl (one_of HT_.out (by kernel_rfl)) (by decide) (fun K hK => ?_)
          refine goes_ Try.func11 (by kernel_rfl) rfl #[.agg #[.int .i64 a0_0, .int .i64 a0_1, .int .i64 a0_2, .slice A0_3 l0_3.length c0_3]] (by rfl) rfl rfl (by (try simp only [List.map_toArray, List.map_cons, List.map_nil]); first | done | rfl | (simp only [List.length_drop, List.length_take]; rfl)) ?_
          with_reducible refine (bivouaclaw16_few.calls a0_0 a0_1 a0_2 (fun k_ => k_ < w.heap.size) _ _ l0_3 t261 t262 t263 t264 _ ?side1 A2.out).mono ?_
          (case side1 => exact Kd.V_mk HC0_3.out (Kd.F_below (Kd.C_F (Kd.heap_int .u8) HR0_3.out) (by repeat (first | (with_reducible first | exact HB.out | apply below_alloc | apply pw_below_drewN | apply below_drew1 | refine below_set ?_ GE260.out | refine below_set ?_ GE267.out | refine below_set ?_ GE268.out) | exact HB.out))))
          rintro e w10 ⟨v265, rfl, ho0, hb⟩
          refine ⟨_, rfl, ?_⟩
          have n0_ := Aside0.mk (Kd.V_lower (Kd.V_mono (ok' := fun k_ => k_ ≠ gb260 ∧ k_ ≠ gb267 ∧ k_ ≠ gb268) ho0 (fun k_ hk_ => ⟨Or.elim hk_ (fun hs_ => fun e_ => Nat.not_le.2 hs_ (by rw [e_]; exact GW260.out)) (fun hn_ => (Kd.freshB (g := gb260) (o := .cells #[.int .i64 a0_0, .int .i64 a0_1, .int .i64 a0_2, .slice A0_3 l0_3.length c0_3, .int .i64 a0_4, .int .i64 a0_5, .int .i64 a0_6, .int .i64 a0_7, .int .i64 a0_8, .int .i64 a0_9, .int .i64 a0_10, .int .u8 a0_11] 36 (0, 0)) (by (with_reducible repeat (first | refine blk_drewN ?_ _ | refine blk_drew ?_ | refine blk_alloc ?_ _)); exact BK260.out) k_ hn_)), Or.elim hk_ (fun hs_ => fun e_ => Nat.not_le.2 hs_ (by rw [e_]; exact GW267.out)) (fun hn_ => (Kd.freshB (g := gb267) (o := .cells #[.int .i64 0, .int .i64 0, .int .i64 0, .slice none 0 0] 25 (0, 0)) (by (with_reducible repeat (first | refine blk_drewN ?_ _ | refine blk_drew ?_ | refine blk_alloc ?_ _)); exact BK267.out) k_ hn_)), Or.elim hk_ (fun hs_ => fun e_ => Nat.not_le.2 hs_ (by rw [e_]; exact GW268.out)) (fun hn_ => (Kd.freshB (g := gb268) (o := .cells #[.int .i64 0, .int .i64 0, .int .i64 0, .int .i64 0, .int .i64 0, .int .i64 0] 27 (0, 0)) (by (with_reducible repeat (first | refine blk_drewN ?_ _ | refine blk_drew ?_ | refine blk_alloc ?_ _)); exact BK268.out) k_ hn_))⟩)) (below_size (by repeat (first | (with_reducible first | exact HB.out | apply below_alloc | apply pw_below_drewN | apply below_drew1 | refine below_set ?_ GE260.out | refine below_set ?_ GE267.out | refine below_set ?_ GE268.out) | exact HB.out))))
          have n1_ := Aside0.mk (blk_below (g := gb260) (o := .cells #[.int .i64 a0_0, .int .i64 a0_1, .int .i64 a0_2, .slice A0_3 l0_3.length c0_3, .int .i64 a0_4, .int .i64 a0_5, .int .i64 a0_6, .int .i64 a0_7, .int .i64 a0_8, .int .i64 a0_9, .int .i64 a0_10, .int .u8 a0_11] 36 (0, 0)) (by (with_reducible repeat (first | refine blk_drewN ?_ _ | refine blk_drew ?_ | refine blk_alloc ?_ _)); exact BK260.out) hb)
          have n2_ := Aside0.mk (blk_below (g := gb267) (o := .cells #[.int .i64 0, .int .i64 0, .int .i64 0, .slice none 0 0] 25 (0, 0)) (by (with_reducible repeat (first | refine blk_drewN ?_ _ | refine blk_drew ?_ | refine blk_alloc ?_ _)); exact BK267.out) hb)
          have n3_ := Aside0.mk (blk_below (g := gb268) (o := .cells #[.int .i64 0, .int .i64 0, .int .i64 0, .int .i64 0, .int .i64 0, .int .i64 0] 27 (0, 0)) (by (with_reducible repeat (first | refine blk_drewN ?_ _ | refine blk_drew ?_ | refine blk_alloc ?_ _)); exact BK268.out) hb)
          have n4_ := Aside0.mk (below_step (by repeat (first | (with_reducible first | exact HB.out | apply below_alloc | apply pw_below_drewN | apply below_drew1 | refine below_set ?_ GE260.out | refine below_set ?_ GE267.out | refine below_set ?_ GE268.out) | exact HB.out)) hb)
          clear BK260
          clear BK267
          clear BK268
          clear HB
          have HO266 := n0_
          have BK260 := n1_
          have BK267 := n2_
          have BK268 := n3_
          have HB := n4_
          clear n0_ n1_ n2_ n3_ n4_
          (try clear hb)
          (try clear hb2)
          (try clear hk)
          (try clear hi)
          (try clear ho0)
          refine hK.out _ _ ⟨(blk_cell BK260.out 0).trans rfl, (blk_cell BK260.out 1).trans rfl, (blk_cell BK260.out 2).trans rfl, (blk_cell BK260.out 3).trans rfl, (blk_cell BK260.out 4).trans rfl, (blk_cell BK260.out 5).trans rfl, (blk_cell BK260.out 6).trans rfl, (blk_cell BK260.out 7).trans rfl, (blk_cell BK260.out 8).trans rfl, (blk_cell BK260.out 9).trans rfl, (blk_cell BK260.out 10).trans rfl, (blk_cell BK260.out 11).trans rfl⟩ (fun hHeld => ?_)
          clear hK K
          refine norm_ (a' := ?_) ?_ ?_
          rotate_left
          · show Act.put _ (some 10) _ = _
            simp only [Act.put, List.setIfInBounds_toArray, List.set_cons_zero, List.set_cons_succ, i64_w, i32_w]
            rfl
          exact norm_ (by first | (simp only [putAll, Act.put, List.setIfInBounds_toArray, List.set_cons_zero, List.set_cons_succ]; done) | (simp only [putAll, Act.put, List.setIfInBounds_toArray, List.set_cons_zero, List.set_cons_succ]; rfl)) (hJ2_7_8 (v265, gb267, gb268) _ ⟨hHeld, (by (with_reducible repeat (first | apply Kd.V_alloc | apply Kd.V_drewN | apply Kd.V_drew)); exact HO266.out), (by (with_reducible repeat (first | refine blk_drewN ?_ _ | refine blk_drew ?_ | refine blk_alloc ?_ _)); exact BK260.out), (by (with_reducible repeat (first | refine blk_drewN ?_ _ | refine blk_drew ?_ | refine blk_alloc ?_ _)); exact BK267.out), (by (with_reducible repeat (first | refine blk_drewN ?_ _ | refine blk_drew ?_ | refine blk_alloc ?_ _)); exact BK268.out), GW267.out, GE267.out, NB260_267.out, NB267_260.out, NB268_267.out, NB267_268.out, GW268.out, GE268.out, NB260_268.out, NB268_260.out, (by repeat (first | (with_reducible first | exact HB.out | apply below_alloc | apply pw_below_drewN | apply below_drew1 | refine below_set ?_ GE260.out | refine below_set ?_ GE267.out | refine below_set ?_ GE268.out) | exact HB.out))⟩)
      · skip
        rintro ⟨v265, gb268⟩ w9 ⟨hS_, h0_, h1_, h2_, h3_, h4_, h5_, h6_, h7_⟩
        have n0_ : Aside0 (Kd.V (Kd.int .u8) 5 w9 w.heap.size (fun k_ => k_ ≠ gb260 ∧ k_ ≠ gb268) v265 t264) := ⟨h0_⟩
        have n1_ : Aside0 (w9.heap[gb260]? = some (.cells #[.int .i64 a0_0, .int .i64 a0_1, .int .i64 a0_2, .slice A0_3 l0_3.length c0_3, .int .i64 a0_4, .int .i64 a0_5, .int .i64 a0_6, .int .i64 a0_7, .int .i64 a0_8, .int .i64 a0_9, .int .i64 a0_10, .int .u8 a0_11] 36 (0, 0))) := ⟨h1_⟩
        have n2_ : Aside0 (w9.heap[gb268]? = some (.cells #[.int .i64 0, .int .i64 0, .int .i64 0, .int .i64 0, .int .i64 0, .int .i64 0] 27 (0, 0))) := ⟨h2_⟩
        have n3_ : Aside0 (w.heap.size ≤ gb268) := ⟨h3_⟩
        have n4_ : Aside0 (w.heap.size ≤ gb268) := ⟨h4_⟩
        have n5_ : Aside0 (gb260 ≠ gb268) := ⟨h5_⟩
        have n6_ : Aside0 (gb268 ≠ gb260) := ⟨h6_⟩
        have n7_ : Aside0 (Below w.heap.size w w9) := ⟨h7_⟩
        clear BK260
        clear HB
        clear h0_ h1_ h2_ h3_ h4_ h5_ h6_ h7_
        have HO266 := n0_
        have BK260 := n1_
        have BK268 := n2_
        have GW268 := n3_
        have GE268 := n4_
        have NB260_268 := n5_
        have NB268_260 := n6_
        have HB := n7_
        clear n0_ n1_ n2_ n3_ n4_ n5_ n6_ n7_
        have hHeld : w9.cell? ⟨gb260, 0, none⟩ = some (.int .i64 a0_0) ∧ w9.cell? ⟨gb260, 1, none⟩ = some (.int .i64 a0_1) ∧ w9.cell? ⟨gb260, 2, none⟩ = some (.int .i64 a0_2) ∧ w9.cell? ⟨gb260, 3, none⟩ = some (.slice A0_3 l0_3.length c0_3) ∧ w9.cell? ⟨gb260, 4, none⟩ = some (.int .i64 a0_4) ∧ w9.cell? ⟨gb260, 5, none⟩ = some (.int .i64 a0_5) ∧ w9.cell? ⟨gb260, 6, none⟩ = some (.int .i64 a0_6) ∧ w9.cell? ⟨gb260, 7, none⟩ = some (.int .i64 a0_7) ∧ w9.cell? ⟨gb260, 8, none⟩ = some (.int .i64 a0_8) ∧ w9.cell? ⟨gb260, 9, none⟩ = some (.int .i64 a0_9) ∧ w9.cell? ⟨gb260, 10, none⟩ = some (.int .i64 a0_10) ∧ w9.cell? ⟨gb260, 11, none⟩ = some (.int .u8 a0_11) := hS_
        refine norm_ (a' := ?_) ?_ ?_
        rotate_left
        · simp only [putAll, Act.put, List.setIfInBounds_toArray, List.set_cons_zero, List.set_cons_succ]
          rfl
        refine one_ (i := 7) (N := some 3) #[true, true, true, true, true, true, true, true, true, false, false, false] rfl rfl (one_of HT_.out (by kernel_rfl)) (by decide) (fun K hK => ?_)
        refine box_step ?hg (N := 3) ?hd (cs := #[.int .i64 0, .int .i64 0, .int .i64 0, .slice none 0 0]) (t := 25) ?hr ?_; (case hd => rfl); (case hg => rfl); (case hr => first | (go_simp; done) | (go_simp; rfl))
        intro gb267 hg w10 hbox hb
        have n0_ := Aside0.mk (Kd.V_below (Kd.V_elderB (by (with_reducible repeat (first | apply Kd.V_alloc | apply Kd.V_drewN | apply Kd.V_drew)); exact HO266.out) gb267 (Nat.le_of_eq hg.symm)) hb)
        have n1_ := Aside0.mk (blk_below (g := gb260) (o := .cells #[.int .i64 a0_0, .int .i64 a0_1, .int .i64 a0_2, .slice A0_3 l0_3.length c0_3, .int .i64 a0_4, .int .i64 a0_5, .int .i64 a0_6, .int .i64 a0_7, .int .i64 a0_8, .int .i64 a0_9, .int .i64 a0_10, .int .u8 a0_11] 36 (0, 0)) (by (with_reducible repeat (first | refine blk_drewN ?_ _ | refine blk_drew ?_ | refine blk_alloc ?_ _)); exact BK260.out) hb)
        have n2_ := Aside0.mk (blk_below (g := gb268) (o := .cells #[.int .i64 0, .int .i64 0, .int .i64 0, .int .i64 0, .int .i64 0, .int .i64 0] 27 (0, 0)) (by (with_reducible repeat (first | refine blk_drewN ?_ _ | refine blk_drew ?_ | refine blk_alloc ?_ _)); exact BK268.out) hb)
        have n3_ := Aside0.mk (below_step (by repeat (first | (with_reducible first | exact HB.out | apply below_alloc | apply pw_below_drewN | apply below_drew1 | refine below_set ?_ GE260.out | refine below_set ?_ GE268.out) | exact HB.out)) hb)
        have n4_ := Aside0.mk (hbox)
        have n5_ := Aside0.mk ((by rw [hg]; exact (below_size (by repeat (first | (with_reducible first | exact HB.out | apply below_alloc | apply pw_below_drewN | apply below_drew1 | refine below_set ?_ GE260.out | refine below_set ?_ GE268.out) | exact HB.out))) : w.heap.size ≤ gb267))
        have n6_ := Aside0.mk ((by rw [hg]; exact (below_size (by repeat (first | (with_reducible first | exact HB.out | apply below_alloc | apply pw_below_drewN | apply below_drew1 | refine below_set ?_ GE260.out | refine below_set ?_ GE268.out) | exact HB.out))) : w.heap.size ≤ gb267))
        have n7_ := Aside0.mk ((by rw [hg]; exact Nat.ne_of_lt (blk_lt (g := gb260) (o := .cells #[.int .i64 a0_0, .int .i64 a0_1, .int .i64 a0_2, .slice A0_3 l0_3.length c0_3, .int .i64 a0_4, .int .i64 a0_5, .int .i64 a0_6, .int .i64 a0_7, .int .i64 a0_8, .int .i64 a0_9, .int .i64 a0_10, .int .u8 a0_11] 36 (0, 0)) (by (with_reducible repeat (first | refine blk_drewN ?_ _ | refine blk_drew ?_ | refine blk_alloc ?_ _)); exact BK260.out)) : gb260 ≠ gb267))
        have n8_ := Aside0.mk ((by rw [hg]; exact Nat.ne_of_gt (blk_lt (g := gb260) (o := .cells #[.int .i64 a0_0, .int .i64 a0_1, .int .i64 a0_2, .slice A0_3 l0_3.length c0_3, .int .i64 a0_4, .int .i64 a0_5, .int .i64 a0_6, .int .i64 a0_7, .int .i64 a0_8, .int .i64 a0_9, .int .i64 a0_10, .int .u8 a0_11] 36 (0, 0)) (by (with_reducible repeat (first | refine blk_drewN ?_ _ | refine blk_drew ?_ | refine blk_alloc ?_ _)); exact BK260.out)) : gb267 ≠ gb260))
        have n9_ := Aside0.mk ((by rw [hg]; exact Nat.ne_of_lt (blk_lt (g := gb268) (o := .cells #[.int .i64 0, .int .i64 0, .int .i64 0, .int .i64 0, .int .i64 0, .int .i64 0] 27 (0, 0)) (by (with_reducible repeat (first | refine blk_drewN ?_ _ | refine blk_drew ?_ | refine blk_alloc ?_ _)); exact BK268.out)) : gb268 ≠ gb267))
        have n10_ := Aside0.mk ((by rw [hg]; exact Nat.ne_of_gt (blk_lt (g := gb268) (o := .cells #[.int .i64 0, .int .i64 0, .int .i64 0, .int .i64 0, .int .i64 0, .int .i64 0] 27 (0, 0)) (by (with_reducible repeat (first | refine blk_drewN ?_ _ | refine blk_drew ?_ | refine blk_alloc ?_ _)); exact BK268.out)) : gb267 ≠ gb268))
        clear HO266
        clear BK260
        clear BK268
        clear HB
        have HO266 := n0_
        have BK260 := n1_
        have BK268 := n2_
        have HB := n3_
        have BK267 := n4_
        have GW267 := n5_
        have GE267 := n6_
        have NB260_267 := n7_
        have NB267_260 := n8_
        have NB268_267 := n9_
        have NB267_268 := n10_
        clear n0_ n1_ n2_ n3_ n4_ n5_ n6_ n7_ n8_ n9_ n10_
        clear hb hbox hg
        refine hK.out _ _ ⟨(blk_cell BK260.out 0).trans rfl, (blk_cell BK260.out 1).trans rfl, (blk_cell BK260.out 2).trans rfl, (blk_cell BK260.out 3).trans rfl, (blk_cell BK260.out 4).trans rfl, (blk_cell BK260.out 5).trans rfl, (blk_cell BK260.out 6).trans rfl, (blk_cell BK260.out 7).trans rfl, (blk_cell BK260.out 8).trans rfl, (blk_cell BK260.out 9).trans rfl, (blk_cell BK260.out 10).trans rfl, (blk_cell BK260.out 11).trans rfl⟩ (fun hHeld => ?_)
        clear hK K
        refine norm_ (a' := ?_) ?_ ?_
        rotate_left
        · show Act.put _ (some 3) _ = _
          simp only [Act.put, List.setIfInBounds_toArray, List.set_cons_zero, List.set_cons_succ, i64_w, i32_w]
          rfl
        exact norm_ (by first | (simp only [putAll, Act.put, List.setIfInBounds_toArray, List.set_cons_zero, List.set_cons_succ]; done) | (simp only [putAll, Act.put, List.setIfInBounds_toArray, List.set_cons_zero, List.set_cons_succ]; rfl)) (hJ2_7_8 (v265, gb267, gb268) _ ⟨hHeld, (by (with_reducible repeat (first | apply Kd.V_alloc | apply Kd.V_drewN | apply Kd.V_drew)); exact Kd.V_mono HO266.out (fun _ hk => ⟨hk.1.1, ⟨hk.2, hk.1.2⟩⟩)), (by (with_reducible repeat (first | refine blk_drewN ?_ _ | refine blk_drew ?_ | refine blk_alloc ?_ _)); exact BK260.out), (by (with_reducible repeat (first | refine blk_drewN ?_ _ | refine blk_drew ?_ | refine blk_alloc ?_ _)); exact BK267.out), (by (with_reducible repeat (first | refine blk_drewN ?_ _ | refine blk_drew ?_ | refine blk_alloc ?_ _)); exact BK268.out), GW267.out, GE267.out, NB260_267.out, NB267_260.out, NB268_267.out, NB267_268.out, GW268.out, GE268.out, NB260_268.out, NB268_260.out, (by repeat (first | (with_reducible first | exact HB.out | apply below_alloc | apply pw_below_drewN | apply below_drew1 | refine below_set ?_ GE260.out | refine below_set ?_ GE268.out | refine below_set ?_ GE267.out) | exact HB.out))⟩)
    · skip
      rintro ⟨v265, gb267⟩ w9 ⟨hS_, h0_, h1_, h2_, h3_, h4_, h5_, h6_, h7_⟩
      have n0_ : Aside0 (Kd.V (Kd.int .u8) 5 w9 w.heap.size (fun k_ => k_ ≠ gb260 ∧ k_ ≠ gb267) v265 t264) := ⟨h0_⟩
      have n1_ : Aside0 (w9.heap[gb260]? = some (.cells #[.int .i64 a0_0, .int .i64 a0_1, .int .i64 a0_2, .slice A0_3 l0_3.length c0_3, .int .i64 a0_4, .int .i64 a0_5, .int .i64 a0_6, .int .i64 a0_7, .int .i64 a0_8, .int .i64 a0_9, .int .i64 a0_10, .int .u8 a0_11] 36 (0, 0))) := ⟨h1_⟩
      have n2_ : Aside0 (w9.heap[gb267]? = some (.cells #[.int .i64 0, .int .i64 0, .int .i64 0, .slice none 0 0] 25 (0, 0))) := ⟨h2_⟩
      have n3_ : Aside0 (w.heap.size ≤ gb267) := ⟨h3_⟩
      have n4_ : Aside0 (w.heap.size ≤ gb267) := ⟨h4_⟩
      have n5_ : Aside0 (gb260 ≠ gb267) := ⟨h5_⟩
      have n6_ : Aside0 (gb267 ≠ gb260) := ⟨h6_⟩
      have n7_ : Aside0 (Below w.heap.size w w9) := ⟨h7_⟩
      clear BK260
      clear HB
      clear h0_ h1_ h2_ h3_ h4_ h5_ h6_ h7_
      have HO266 := n0_
      have BK260 := n1_
      have BK267 := n2_
      have GW267 := n3_
      have GE267 := n4_
      have NB260_267 := n5_
      have NB267_260 := n6_
      have HB := n7_
      clear n0_ n1_ n2_ n3_ n4_ n5_ n6_ n7_
      have hHeld : w9.cell? ⟨gb260, 0, none⟩ = some (.int .i64 a0_0) ∧ w9.cell? ⟨gb260, 1, none⟩ = some (.int .i64 a0_1) ∧ w9.cell? ⟨gb260, 2, none⟩ = some (.int .i64 a0_2) ∧ w9.cell? ⟨gb260, 3, none⟩ = some (.slice A0_3 l0_3.length c0_3) ∧ w9.cell? ⟨gb260, 4, none⟩ = some (.int .i64 a0_4) ∧ w9.cell? ⟨gb260, 5, none⟩ = some (.int .i64 a0_5) ∧ w9.cell? ⟨gb260, 6, none⟩ = some (.int .i64 a0_6) ∧ w9.cell? ⟨gb260, 7, none⟩ = some (.int .i64 a0_7) ∧ w9.cell? ⟨gb260, 8, none⟩ = some (.int .i64 a0_8) ∧ w9.cell? ⟨gb260, 9, none⟩ = some (.int .i64 a0_9) ∧ w9.cell? ⟨gb260, 10, none⟩ = some (.int .i64 a0_10) ∧ w9.cell? ⟨gb260, 11, none⟩ = some (.int .u8 a0_11) := hS_
      refine norm_ (a' := ?_) ?_ ?_
      rotate_left
      · simp only [putAll, Act.put, List.setIfInBounds_toArray, List.set_cons_zero, List.set_cons_succ]
        rfl
      refine one_ (i := 8) (N := some 4) #[true, true, true, true, true, true, true, true, true, false, false, false] rfl rfl (one_of HT_.out (by kernel_rfl)) (by decide) (fun K hK => ?_)
      refine box_step ?hg (N := 4) ?hd (cs := #[.int .i64 0, .int .i64 0, .int .i64 0, .int .i64 0, .int .i64 0, .int .i64 0]) (t := 27) ?hr ?_; (case hd => rfl); (case hg => rfl); (case hr => first | (go_simp; done) | (go_simp; rfl))
      intro gb268 hg w10 hbox hb
      have n0_ := Aside0.mk (Kd.V_below (Kd.V_elderB (by (with_reducible repeat (first | apply Kd.V_alloc | apply Kd.V_drewN | apply Kd.V_drew)); exact HO266.out) gb268 (Nat.le_of_eq hg.symm)) hb)
      have n1_ := Aside0.mk (blk_below (g := gb260) (o := .cells #[.int .i64 a0_0, .int .i64 a0_1, .int .i64 a0_2, .slice A0_3 l0_3.length c0_3, .int .i64 a0_4, .int .i64 a0_5, .int .i64 a0_6, .int .i64 a0_7, .int .i64 a0_8, .int .i64 a0_9, .int .i64 a0_10, .int .u8 a0_11] 36 (0, 0)) (by (with_reducible repeat (first | refine blk_drewN ?_ _ | refine blk_drew ?_ | refine blk_alloc ?_ _)); exact BK260.out) hb)
      have n2_ := Aside0.mk (blk_below (g := gb267) (o := .cells #[.int .i64 0, .int .i64 0, .int .i64 0, .slice none 0 0] 25 (0, 0)) (by (with_reducible repeat (first | refine blk_drewN ?_ _ | refine blk_drew ?_ | refine blk_alloc ?_ _)); exact BK267.out) hb)
      have n3_ := Aside0.mk (below_step (by repeat (first | (with_reducible first | exact HB.out | apply below_alloc | apply pw_below_drewN | apply below_drew1 | refine below_set ?_ GE260.out | refine below_set ?_ GE267.out) | exact HB.out)) hb)
      have n4_ := Aside0.mk (hbox)
      have n5_ := Aside0.mk ((by rw [hg]; exact (below_size (by repeat (first | (with_reducible first | exact HB.out | apply below_alloc | apply pw_below_drewN | apply below_drew1 | refine below_set ?_ GE260.out | refine below_set ?_ GE267.out) | exact HB.out))) : w.heap.size ≤ gb268))
      have n6_ := Aside0.mk ((by rw [hg]; exact (below_size (by repeat (first | (with_reducible first | exact HB.out | apply below_alloc | apply pw_below_drewN | apply below_drew1 | refine below_set ?_ GE260.out | refine below_set ?_ GE267.out) | exact HB.out))) : w.heap.size ≤ gb268))
      have n7_ := Aside0.mk ((by rw [hg]; exact Nat.ne_of_lt (blk_lt (g := gb260) (o := .cells #[.int .i64 a0_0, .int .i64 a0_1, .int .i64 a0_2, .slice A0_3 l0_3.length c0_3, .int .i64 a0_4, .int .i64 a0_5, .int .i64 a0_6, .int .i64 a0_7, .int .i64 a0_8, .int .i64 a0_9, .int .i64 a0_10, .int .u8 a0_11] 36 (0, 0)) (by (with_reducible repeat (first | refine blk_drewN ?_ _ | refine blk_drew ?_ | refine blk_alloc ?_ _)); exact BK260.out)) : gb260 ≠ gb268))
      have n8_ := Aside0.mk ((by rw [hg]; exact Nat.ne_of_gt (blk_lt (g := gb260) (o := .cells #[.int .i64 a0_0, .int .i64 a0_1, .int .i64 a0_2, .slice A0_3 l0_3.length c0_3, .int .i64 a0_4, .int .i64 a0_5, .int .i64 a0_6, .int .i64 a0_7, .int .i64 a0_8, .int .i64 a0_9, .int .i64 a0_10, .int .u8 a0_11] 36 (0, 0)) (by (with_reducible repeat (first | refine blk_drewN ?_ _ | refine blk_drew ?_ | refine blk_alloc ?_ _)); exact BK260.out)) : gb268 ≠ gb260))
      have n9_ := Aside0.mk ((by rw [hg]; exact Nat.ne_of_lt (blk_lt (g := gb267) (o := .cells #[.int .i64 0, .int .i64 0, .int .i64 0, .slice none 0 0] 25 (0, 0)) (by (with_reducible repeat (first | refine blk_drewN ?_ _ | refine blk_drew ?_ | refine blk_alloc ?_ _)); exact BK267.out)) : gb267 ≠ gb268))
      have n10_ := Aside0.mk ((by rw [hg]; exact Nat.ne_of_gt (blk_lt (g := gb267) (o := .cells #[.int .i64 0, .int .i64 0, .int .i64 0, .slice none 0 0] 25 (0, 0)) (by (with_reducible repeat (first | refine blk_drewN ?_ _ | refine blk_drew ?_ | refine blk_alloc ?_ _)); exact BK267.out)) : gb268 ≠ gb267))
      clear HO266
      clear BK260
      clear BK267
      clear HB
      have HO266 := n0_
      have BK260 := n1_
      have BK267 := n2_
      have HB := n3_
      have BK268 := n4_
      have GW268 := n5_
      have GE268 := n6_
      have NB260_268 := n7_
      have NB268_260 := n8_
      have NB267_268 := n9_
      have NB268_267 := n10_
      clear n0_ n1_ n2_ n3_ n4_ n5_ n6_ n7_ n8_ n9_ n10_
      clear hb hbox hg
      refine hK.out _ _ ⟨(blk_cell BK260.out 0).trans rfl, (blk_cell BK260.out 1).trans rfl, (blk_cell BK260.out 2).trans rfl, (blk_cell BK260.out 3).trans rfl, (blk_cell BK260.out 4).trans rfl, (blk_cell BK260.out 5).trans rfl, (blk_cell BK260.out 6).trans rfl, (blk_cell BK260.out 7).trans rfl, (blk_cell BK260.out 8).trans rfl, (blk_cell BK260.out 9).trans rfl, (blk_cell BK260.out 10).trans rfl, (blk_cell BK260.out 11).trans rfl⟩ (fun hHeld => ?_)
      clear hK K
      refine norm_ (a' := ?_) ?_ ?_
      rotate_left
      · show Act.put _ (some 4) _ = _
        simp only [Act.put, List.setIfInBounds_toArray, List.set_cons_zero, List.set_cons_succ, i64_w, i32_w]
        rfl
      exact norm_ (by first | (simp only [putAll, Act.put, List.setIfInBounds_toArray, List.set_cons_zero, List.set_cons_succ]; done) | (simp only [putAll, Act.put, List.setIfInBounds_toArray, List.set_cons_zero, List.set_cons_succ]; rfl)) (hJ2_7_8 (v265, gb267, gb268) _ ⟨hHeld, (by (with_reducible repeat (first | apply Kd.V_alloc | apply Kd.V_drewN | apply Kd.V_drew)); exact Kd.V_mono HO266.out (fun _ hk => ⟨hk.1.1, ⟨hk.1.2, hk.2⟩⟩)), (by (with_reducible repeat (first | refine blk_drewN ?_ _ | refine blk_drew ?_ | refine blk_alloc ?_ _)); exact BK260.out), (by (with_reducible repeat (first | refine blk_drewN ?_ _ | refine blk_drew ?_ | refine blk_alloc ?_ _)); exact BK267.out), (by (with_reducible repeat (first | refine blk_drewN ?_ _ | refine blk_drew ?_ | refine blk_alloc ?_ _)); exact BK268.out), GW267.out, GE267.out, NB260_267.out, NB267_260.out, NB268_267.out, NB267_268.out, GW268.out, GE268.out, NB260_268.out, NB268_260.out, (by repeat (first | (with_reducible first | exact HB.out | apply below_alloc | apply pw_below_drewN | apply below_drew1 | refine below_set ?_ GE260.out | refine below_set ?_ GE267.out | refine below_set ?_ GE268.out) | exact HB.out))⟩)
  rintro ⟨v265, gb267, gb268⟩ w10 ⟨hS_, h0_, h1_, h2_, h3_, h4_, h5_, h6_, h7_, h8_, h9_, h10_, h11_, h12_, h13_, h14_⟩
  have n0_ : Aside0 (Kd.V (Kd.int .u8) 5 w10 w.heap.size (fun k_ => k_ ≠ gb260 ∧ k_ ≠ gb267 ∧ k_ ≠ gb268) v265 t264) := ⟨h0_⟩
  have n1_ : Aside0 (w10.heap[gb260]? = some (.cells #[.int .i64 a0_0, .int .i64 a0_1, .int .i64 a0_2, .slice A0_3 l0_3.length c0_3, .int .i64 a0_4, .int .i64 a0_5, .int .i64 a0_6, .int .i64 a0_7, .int .i64 a0_8, .int .i64 a0_9, .int .i64 a0_10, .int .u8 a0_11] 36 (0, 0))) := ⟨h1_⟩
  have n2_ : Aside0 (w10.heap[gb267]? = some (.cells #[.int .i64 0, .int .i64 0, .int .i64 0, .slice none 0 0] 25 (0, 0))) := ⟨h2_⟩
  have n3_ : Aside0 (w10.heap[gb268]? = some (.cells #[.int .i64 0, .int .i64 0, .int .i64 0, .int .i64 0, .int .i64 0, .int .i64 0] 27 (0, 0))) := ⟨h3_⟩
  have n4_ : Aside0 (w.heap.size ≤ gb267) := ⟨h4_⟩
  have n5_ : Aside0 (w.heap.size ≤ gb267) := ⟨h5_⟩
  have n6_ : Aside0 (gb260 ≠ gb267) := ⟨h6_⟩
  have n7_ : Aside0 (gb267 ≠ gb260) := ⟨h7_⟩
  have n8_ : Aside0 (gb268 ≠ gb267) := ⟨h8_⟩
  have n9_ : Aside0 (gb267 ≠ gb268) := ⟨h9_⟩
  have n10_ : Aside0 (w.heap.size ≤ gb268) := ⟨h10_⟩
  have n11_ : Aside0 (w.heap.size ≤ gb268) := ⟨h11_⟩
  have n12_ : Aside0 (gb260 ≠ gb268) := ⟨h12_⟩
  have n13_ : Aside0 (gb268 ≠ gb260) := ⟨h13_⟩
  have n14_ : Aside0 (Below w.heap.size w w10) := ⟨h14_⟩
  clear BK260
  clear HB
  clear h0_ h1_ h2_ h3_ h4_ h5_ h6_ h7_ h8_ h9_ h10_ h11_ h12_ h13_ h14_
  have HO266 := n0_
  have BK260 := n1_
  have BK267 := n2_
  have BK268 := n3_
  have GW267 := n4_
  have GE267 := n5_
  have NB260_267 := n6_
  have NB267_260 := n7_
  have NB268_267 := n8_
  have NB267_268 := n9_
  have GW268 := n10_
  have GE268 := n11_
  have NB260_268 := n12_
  have NB268_260 := n13_
  have HB := n14_
  clear n0_ n1_ n2_ n3_ n4_ n5_ n6_ n7_ n8_ n9_ n10_ n11_ n12_ n13_ n14_
  have hHeld : w10.cell? ⟨gb260, 0, none⟩ = some (.int .i64 a0_0) ∧ w10.cell? ⟨gb260, 1, none⟩ = some (.int .i64 a0_1) ∧ w10.cell? ⟨gb260, 2, none⟩ = some (.int .i64 a0_2) ∧ w10.cell? ⟨gb260, 3, none⟩ = some (.slice A0_3 l0_3.length c0_3) ∧ w10.cell? ⟨gb260, 4, none⟩ = some (.int .i64 a0_4) ∧ w10.cell? ⟨gb260, 5, none⟩ = some (.int .i64 a0_5) ∧ w10.cell? ⟨gb260, 6, none⟩ = some (.int .i64 a0_6) ∧ w10.cell? ⟨gb260, 7, none⟩ = some (.int .i64 a0_7) ∧ w10.cell? ⟨gb260, 8, none⟩ = some (.int .i64 a0_8) ∧ w10.cell? ⟨gb260, 9, none⟩ = some (.int .i64 a0_9) ∧ w10.cell? ⟨gb260, 10, none⟩ = some (.int .i64 a0_10) ∧ w10.cell? ⟨gb260, 11, none⟩ = some (.int .u8 a0_11) := hS_
  obtain ⟨Ao14, co14, eo14⟩ := Kd.V_slice HO266.out
  (first | subst eo14 | (injection eo14 with f1_ f2_ f3_; have f4_ := f1_.symm; have f5_ := f3_.symm; clear f1_ f2_ f3_; subst f4_; subst f5_))
  refine norm_ (a' := ?_) ?_ ?_
  rotate_left
  · simp only [putAll, Act.put, List.setIfInBounds_toArray, List.set_cons_zero, List.set_cons_succ]
    rfl
  refine one_ (i := 9) (N := none) #[true, true, true, true, true, true, true, true, true, true, false, false] rfl rfl (one_of HT_.out (by kernel_rfl)) (by decide) (fun K hK => ?_)
  have hs11 : w10.cell? ⟨gb267, 0, none⟩ = some (.int .i64 0) := (blk_cell BK267.out 0).trans rfl
  have hfs11 := blk_frozen BK267.out 0
  have hns11_0 := NB260_267.out
  have hns11_2 := NB268_267.out
  have hms11_0 := NB267_260.out
  have hms11_2 := NB267_268.out
  have hs12 : w10.cell? ⟨gb267, 1, none⟩ = some (.int .i64 0) := (blk_cell BK267.out 1).trans rfl
  have hfs12 := blk_frozen BK267.out 1
  have hns12_0 := NB260_267.out
  have hns12_2 := NB268_267.out
  have hms12_0 := NB267_260.out
  have hms12_2 := NB267_268.out
  have hs13 : w10.cell? ⟨gb267, 2, none⟩ = some (.int .i64 0) := (blk_cell BK267.out 2).trans rfl
  have hfs13 := blk_frozen BK267.out 2
  have hns13_0 := NB260_267.out
  have hns13_2 := NB268_267.out
  have hms13_0 := NB267_260.out
  have hms13_2 := NB267_268.out
  have hs15 : w10.cell? ⟨gb267, 3, none⟩ = some (.slice none 0 0) := (blk_cell BK267.out 3).trans rfl
  have hfs15 := blk_frozen BK267.out 3
  have hns15_0 := NB260_267.out
  have hns15_2 := NB268_267.out
  have hms15_0 := NB267_260.out
  have hms15_2 := NB267_268.out
  refine skip_ (w1 := ?_) (by rfl) rfl ?_ ?_
  rotate_left
  · go_simp
    rfl
  refine hK.out _ _ ⟨((cell_far (p := ⟨gb267, _, none⟩) NB260_267.out _).trans (((cell_far (p := ⟨gb267, _, none⟩) NB260_267.out _).trans (((cell_far (p := ⟨gb267, _, none⟩) NB260_267.out _).trans (((cell_far (p := ⟨gb267, _, none⟩) NB260_267.out _).trans (hHeld.1)))))))), ((cell_far (p := ⟨gb267, _, none⟩) NB260_267.out _).trans (((cell_far (p := ⟨gb267, _, none⟩) NB260_267.out _).trans (((cell_far (p := ⟨gb267, _, none⟩) NB260_267.out _).trans (((cell_far (p := ⟨gb267, _, none⟩) NB260_267.out _).trans (hHeld.2.1)))))))), ((cell_far (p := ⟨gb267, _, none⟩) NB260_267.out _).trans (((cell_far (p := ⟨gb267, _, none⟩) NB260_267.out _).trans (((cell_far (p := ⟨gb267, _, none⟩) NB260_267.out _).trans (((cell_far (p := ⟨gb267, _, none⟩) NB260_267.out _).trans (hHeld.2.2.1)))))))), ((cell_far (p := ⟨gb267, _, none⟩) NB260_267.out _).trans (((cell_far (p := ⟨gb267, _, none⟩) NB260_267.out _).trans (((cell_far (p := ⟨gb267, _, none⟩) NB260_267.out _).trans (((cell_far (p := ⟨gb267, _, none⟩) NB260_267.out _).trans (hHeld.2.2.2.1)))))))), ((cell_far (p := ⟨gb267, _, none⟩) NB260_267.out _).trans (((cell_far (p := ⟨gb267, _, none⟩) NB260_267.out _).trans (((cell_far (p := ⟨gb267, _, none⟩) NB260_267.out _).trans (((cell_far (p := ⟨gb267, _, none⟩) NB260_267.out _).trans (hHeld.2.2.2.2.1)))))))), ((cell_far (p := ⟨gb267, _, none⟩) NB260_267.out _).trans (((cell_far (p := ⟨gb267, _, none⟩) NB260_267.out _).trans (((cell_far (p := ⟨gb267, _, none⟩) NB260_267.out _).trans (((cell_far (p := ⟨gb267, _, none⟩) NB260_267.out _).trans (hHeld.2.2.2.2.2.1)))))))), ((cell_far (p := ⟨gb267, _, none⟩) NB260_267.out _).trans (((cell_far (p := ⟨gb267, _, none⟩) NB260_267.out _).trans (((cell_far (p := ⟨gb267, _, none⟩) NB260_267.out _).trans (((cell_far (p := ⟨gb267, _, none⟩) NB260_267.out _).trans (hHeld.2.2.2.2.2.2.1)))))))), ((cell_far (p := ⟨gb267, _, none⟩) NB260_267.out _).trans (((cell_far (p := ⟨gb267, _, none⟩) NB260_267.out _).trans (((cell_far (p := ⟨gb267, _, none⟩) NB260_267.out _).trans (((cell_far (p := ⟨gb267, _, none⟩) NB260_267.out _).trans (hHeld.2.2.2.2.2.2.2.1)))))))), ((cell_far (p := ⟨gb267, _, none⟩) NB260_267.out _).trans (((cell_far (p := ⟨gb267, _, none⟩) NB260_267.out _).trans (((cell_far (p := ⟨gb267, _, none⟩) NB260_267.out _).trans (((cell_far (p := ⟨gb267, _, none⟩) NB260_267.out _).trans (hHeld.2.2.2.2.2.2.2.2.1)))))))), ((cell_far (p := ⟨gb267, _, none⟩) NB260_267.out _).trans (((cell_far (p := ⟨gb267, _, none⟩) NB260_267.out _).trans (((cell_far (p := ⟨gb267, _, none⟩) NB260_267.out _).trans (((cell_far (p := ⟨gb267, _, none⟩) NB260_267.out _).trans (hHeld.2.2.2.2.2.2.2.2.2.1)))))))), ((cell_far (p := ⟨gb267, _, none⟩) NB260_267.out _).trans (((cell_far (p := ⟨gb267, _, none⟩) NB260_267.out _).trans (((cell_far (p := ⟨gb267, _, none⟩) NB260_267.out _).trans (((cell_far (p := ⟨gb267, _, none⟩) NB260_267.out _).trans (hHeld.2.2.2.2.2.2.2.2.2.2.1)))))))), ((cell_far (p := ⟨gb267, _, none⟩) NB260_267.out _).trans (((cell_far (p := ⟨gb267, _, none⟩) NB260_267.out _).trans (((cell_far (p := ⟨gb267, _, none⟩) NB260_267.out _).trans (((cell_far (p := ⟨gb267, _, none⟩) NB260_267.out _).trans (hHeld.2.2.2.2.2.2.2.2.2.2.2))))))))⟩ (fun hHeld => ?_)
  clear hK K
  refine one_ (i := 10) (N := none) #[true, true, true, true, true, true, true, true, true, true, true, false] rfl rfl (one_of HT_.out (by kernel_rfl)) (by decide) (fun K hK => ?_)
  have hs16 : w10.cell? ⟨gb268, 0, none⟩ = some (.int .i64 0) := (blk_cell BK268.out 0).trans rfl
  have hfs16 := blk_frozen BK268.out 0
  have hns16_0 := NB260_268.out
  have hns16_1 := NB267_268.out
  have hms16_0 := NB268_260.out
  have hms16_1 := NB268_267.out
  have hs17 : w10.cell? ⟨gb268, 1, none⟩ = some (.int .i64 0) := (blk_cell BK268.out 1).trans rfl
  have hfs17 := blk_frozen BK268.out 1
  have hns17_0 := NB260_268.out
  have hns17_1 := NB267_268.out
  have hms17_0 := NB268_260.out
  have hms17_1 := NB268_267.out
  have hs18 : w10.cell? ⟨gb268, 2, none⟩ = some (.int .i64 0) := (blk_cell BK268.out 2).trans rfl
  have hfs18 := blk_frozen BK268.out 2
  have hns18_0 := NB260_268.out
  have hns18_1 := NB267_268.out
  have hms18_0 := NB268_260.out
  have hms18_1 := NB268_267.out
  have hs19 : w10.cell? ⟨gb268, 3, none⟩ = some (.int .i64 0) := (blk_cell BK268.out 3).trans rfl
  have hfs19 := blk_frozen BK268.out 3
  have hns19_0 := NB260_268.out
  have hns19_1 := NB267_268.out
  have hms19_0 := NB268_260.out
  have hms19_1 := NB268_267.out
  have hs20 : w10.cell? ⟨gb268, 4, none⟩ = some (.int .i64 0) := (blk_cell BK268.out 4).trans rfl
  have hfs20 := blk_frozen BK268.out 4
  have hns20_0 := NB260_268.out
  have hns20_1 := NB267_268.out
  have hms20_0 := NB268_260.out
  have hms20_1 := NB268_267.out
  have hs21 : w10.cell? ⟨gb268, 5, none⟩ = some (.int .i64 0) := (blk_cell BK268.out 5).trans rfl
  have hfs21 := blk_frozen BK268.out 5
  have hns21_0 := NB260_268.out
  have hns21_1 := NB267_268.out
  have hms21_0 := NB268_260.out
  have hms21_1 := NB268_267.out
  refine skip_ (w1 := ?_) (by rfl) rfl ?_ ?_
  rotate_left
  · go_simp
    rfl
  refine hK.out _ _ ⟨((cell_far (p := ⟨gb268, _, none⟩) NB260_268.out _).trans (((cell_far (p := ⟨gb268, _, none⟩) NB260_268.out _).trans (((cell_far (p := ⟨gb268, _, none⟩) NB260_268.out _).trans (((cell_far (p := ⟨gb268, _, none⟩) NB260_268.out _).trans (((cell_far (p := ⟨gb268, _, none⟩) NB260_268.out _).trans (((cell_far (p := ⟨gb268, _, none⟩) NB260_268.out _).trans (hHeld.1)))))))))))), ((cell_far (p := ⟨gb268, _, none⟩) NB260_268.out _).trans (((cell_far (p := ⟨gb268, _, none⟩) NB260_268.out _).trans (((cell_far (p := ⟨gb268, _, none⟩) NB260_268.out _).trans (((cell_far (p := ⟨gb268, _, none⟩) NB260_268.out _).trans (((cell_far (p := ⟨gb268, _, none⟩) NB260_268.out _).trans (((cell_far (p := ⟨gb268, _, none⟩) NB260_268.out _).trans (hHeld.2.1)))))))))))), ((cell_far (p := ⟨gb268, _, none⟩) NB260_268.out _).trans (((cell_far (p := ⟨gb268, _, none⟩) NB260_268.out _).trans (((cell_far (p := ⟨gb268, _, none⟩) NB260_268.out _).trans (((cell_far (p := ⟨gb268, _, none⟩) NB260_268.out _).trans (((cell_far (p := ⟨gb268, _, none⟩) NB260_268.out _).trans (((cell_far (p := ⟨gb268, _, none⟩) NB260_268.out _).trans (hHeld.2.2.1)))))))))))), ((cell_far (p := ⟨gb268, _, none⟩) NB260_268.out _).trans (((cell_far (p := ⟨gb268, _, none⟩) NB260_268.out _).trans (((cell_far (p := ⟨gb268, _, none⟩) NB260_268.out _).trans (((cell_far (p := ⟨gb268, _, none⟩) NB260_268.out _).trans (((cell_far (p := ⟨gb268, _, none⟩) NB260_268.out _).trans (((cell_far (p := ⟨gb268, _, none⟩) NB260_268.out _).trans (hHeld.2.2.2.1)))))))))))), ((cell_far (p := ⟨gb268, _, none⟩) NB260_268.out _).trans (((cell_far (p := ⟨gb268, _, none⟩) NB260_268.out _).trans (((cell_far (p := ⟨gb268, _, none⟩) NB260_268.out _).trans (((cell_far (p := ⟨gb268, _, none⟩) NB260_268.out _).trans (((cell_far (p := ⟨gb268, _, none⟩) NB260_268.out _).trans (((cell_far (p := ⟨gb268, _, none⟩) NB260_268.out _).trans (hHeld.2.2.2.2.1)))))))))))), ((cell_far (p := ⟨gb268, _, none⟩) NB260_268.out _).trans (((cell_far (p := ⟨gb268, _, none⟩) NB260_268.out _).trans (((cell_far (p := ⟨gb268, _, none⟩) NB260_268.out _).trans (((cell_far (p := ⟨gb268, _, none⟩) NB260_268.out _).trans (((cell_far (p := ⟨gb268, _, none⟩) NB260_268.out _).trans (((cell_far (p := ⟨gb268, _, none⟩) NB260_268.out _).trans (hHeld.2.2.2.2.2.1)))))))))))), ((cell_far (p := ⟨gb268, _, none⟩) NB260_268.out _).trans (((cell_far (p := ⟨gb268, _, none⟩) NB260_268.out _).trans (((cell_far (p := ⟨gb268, _, none⟩) NB260_268.out _).trans (((cell_far (p := ⟨gb268, _, none⟩) NB260_268.out _).trans (((cell_far (p := ⟨gb268, _, none⟩) NB260_268.out _).trans (((cell_far (p := ⟨gb268, _, none⟩) NB260_268.out _).trans (hHeld.2.2.2.2.2.2.1)))))))))))), ((cell_far (p := ⟨gb268, _, none⟩) NB260_268.out _).trans (((cell_far (p := ⟨gb268, _, none⟩) NB260_268.out _).trans (((cell_far (p := ⟨gb268, _, none⟩) NB260_268.out _).trans (((cell_far (p := ⟨gb268, _, none⟩) NB260_268.out _).trans (((cell_far (p := ⟨gb268, _, none⟩) NB260_268.out _).trans (((cell_far (p := ⟨gb268, _, none⟩) NB260_268.out _).trans (hHeld.2.2.2.2.2.2.2.1)))))))))))), ((cell_far (p := ⟨gb268, _, none⟩) NB260_268.out _).trans (((cell_far (p := ⟨gb268, _, none⟩) NB260_268.out _).trans (((cell_far (p := ⟨gb268, _, none⟩) NB260_268.out _).trans (((cell_far (p := ⟨gb268, _, none⟩) NB260_268.out _).trans (((cell_far (p := ⟨gb268, _, none⟩) NB260_268.out _).trans (((cell_far (p := ⟨gb268, _, none⟩) NB260_268.out _).trans (hHeld.2.2.2.2.2.2.2.2.1)))))))))))), ((cell_far (p := ⟨gb268, _, none⟩) NB260_268.out _).trans (((cell_far (p := ⟨gb268, _, none⟩) NB260_268.out _).trans (((cell_far (p := ⟨gb268, _, none⟩) NB260_268.out _).trans (((cell_far (p := ⟨gb268, _, none⟩) NB260_268.out _).trans (((cell_far (p := ⟨gb268, _, none⟩) NB260_268.out _).trans (((cell_far (p := ⟨gb268, _, none⟩) NB260_268.out _).trans (hHeld.2.2.2.2.2.2.2.2.2.1)))))))))))), ((cell_far (p := ⟨gb268, _, none⟩) NB260_268.out _).trans (((cell_far (p := ⟨gb268, _, none⟩) NB260_268.out _).trans (((cell_far (p := ⟨gb268, _, none⟩) NB260_268.out _).trans (((cell_far (p := ⟨gb268, _, none⟩) NB260_268.out _).trans (((cell_far (p := ⟨gb268, _, none⟩) NB260_268.out _).trans (((cell_far (p := ⟨gb268, _, none⟩) NB260_268.out _).trans (hHeld.2.2.2.2.2.2.2.2.2.2.1)))))))))))), ((cell_far (p := ⟨gb268, _, none⟩) NB260_268.out _).trans (((cell_far (p := ⟨gb268, _, none⟩) NB260_268.out _).trans (((cell_far (p := ⟨gb268, _, none⟩) NB260_268.out _).trans (((cell_far (p := ⟨gb268, _, none⟩) NB260_268.out _).trans (((cell_far (p := ⟨gb268, _, none⟩) NB260_268.out _).trans (((cell_far (p := ⟨gb268, _, none⟩) NB260_268.out _).trans (hHeld.2.2.2.2.2.2.2.2.2.2.2))))))))))))⟩ (fun hHeld => ?_)
  clear hK K
  refine pure_ (i := 11) (N := some 5) (v := ?_) (a' := ?_) #[true, true, true, true, true, true, true, true, true, true, true, true] rfl rfl (any_of HT_.out (by kernel_rfl)) (fun _ _ _ h => h) (Or.inl ⟨by rfl, ?_⟩) ?_ ?_
  rotate_left
  · intro w'
    go_simp
    with_reducible rfl
  rotate_left
  · simp only [Act.put, List.setIfInBounds_toArray, List.set_cons_zero, List.set_cons_succ, i64_w, i32_w]
    rfl
  refine done_ (done_of HT_.out (by kernel_rfl)) ?_
  have hnb22 := NB267_260.out
  have hnc22 := NB260_267.out
  have hnb23 := NB267_268.out
  have hnc23 := NB268_267.out
  have hcz24_0 : w10.cell? ⟨gb267, 0, none⟩ = some (.int .i64 0) := (blk_cell BK267.out 0).trans rfl
  have hcz24_1 : w10.cell? ⟨gb267, 1, none⟩ = some (.int .i64 0) := (blk_cell BK267.out 1).trans rfl
  have hcz24_2 : w10.cell? ⟨gb267, 2, none⟩ = some (.int .i64 0) := (blk_cell BK267.out 2).trans rfl
  have hcz24_3 : w10.cell? ⟨gb267, 3, none⟩ = some (.slice none 0 0) := (blk_cell BK267.out 3).trans rfl
  have hfz24_0 := blk_frozen BK267.out 0
  have hfz24_1 := blk_frozen BK267.out 1
  have hfz24_2 := blk_frozen BK267.out 2
  have hfz24_3 := blk_frozen BK267.out 3
  have hnb25 := NB268_260.out
  have hnc25 := NB260_268.out
  have hcz26_0 : w10.cell? ⟨gb268, 0, none⟩ = some (.int .i64 0) := (blk_cell BK268.out 0).trans rfl
  have hcz26_1 : w10.cell? ⟨gb268, 1, none⟩ = some (.int .i64 0) := (blk_cell BK268.out 1).trans rfl
  have hcz26_2 : w10.cell? ⟨gb268, 2, none⟩ = some (.int .i64 0) := (blk_cell BK268.out 2).trans rfl
  have hcz26_3 : w10.cell? ⟨gb268, 3, none⟩ = some (.int .i64 0) := (blk_cell BK268.out 3).trans rfl
  have hcz26_4 : w10.cell? ⟨gb268, 4, none⟩ = some (.int .i64 0) := (blk_cell BK268.out 4).trans rfl
  have hcz26_5 : w10.cell? ⟨gb268, 5, none⟩ = some (.int .i64 0) := (blk_cell BK268.out 5).trans rfl
  have hfz26_0 := blk_frozen BK268.out 0
  have hfz26_1 := blk_frozen BK268.out 1
  have hfz26_2 := blk_frozen BK268.out 2
  have hfz26_3 := blk_frozen BK268.out 3
  have hfz26_4 := blk_frozen BK268.out 4
  have hfz26_5 := blk_frozen BK268.out 5
  go_upto_region 3 with (first | ((with_reducible refine gate_callee (f := 17) rfl ?_); refine goesL_ (some 19) rfl rfl Try.func17 (by kernel_rfl) rfl #[.agg #[.int .i64 t261, .int .i64 t262, .int .i64 t263, .slice Ao14 t264.length co14], .agg #[.int .i64 a0_4, .int .i64 a0_5, .int .i64 a0_6, .int .i64 a0_7, .int .i64 a0_8, .int .i64 a0_9], .int .i64 a0_10] rfl (by (try simp only [List.map_toArray, List.map_cons, List.map_nil]); first | done | rfl | (simp only [List.length_drop, List.length_take]; rfl)) ?_; (with_reducible refine (shot_Fly.calls k t261 t262 t263 _ _ t264 a0_4 a0_5 a0_6 a0_7 a0_8 a0_9 a0_10 t269 t270 t271 t272 t273 t274 t275 t276 t277 _ ?side1 ?side2 A3.out).mono ?_); (case side1 => refine (Kd.V_reads' (e := 5) (base := w.heap.size) (ok := fun k_ => (k_ ≠ gb260 ∧ (k_ ≠ gb267 ∧ k_ ≠ gb268))) (n := t264.length) (c := co14) ?_).2.2; exact (by (with_reducible repeat (first | apply Kd.V_alloc | apply Kd.V_drewN | apply Kd.V_drew)); exact (Kd.V_mono (Kd.V_mono (Kd.V_far (p := ⟨gb268, 5, none⟩) (Kd.V_far (p := ⟨gb268, 4, none⟩) (Kd.V_far (p := ⟨gb268, 3, none⟩) (Kd.V_far (p := ⟨gb268, 2, none⟩) (Kd.V_far (p := ⟨gb268, 1, none⟩) (Kd.V_far (p := ⟨gb268, 0, none⟩) (Kd.V_far (p := ⟨gb267, 3, none⟩) (Kd.V_far (p := ⟨gb267, 2, none⟩) (Kd.V_far (p := ⟨gb267, 1, none⟩) (Kd.V_far (p := ⟨gb267, 0, none⟩) (Kd.V_mono (Kd.V_mono HO266.out (fun k_ hk => (⟨hk, hk.2.1⟩ : _ ∧ k_ ≠ gb267))) (fun k_ hk => (⟨hk, hk.1.2.2⟩ : _ ∧ k_ ≠ gb268))) (fun _ hk => hk.1.2) (.int .i64 t261)) (fun _ hk => hk.1.2) (.int .i64 t262)) (fun _ hk => hk.1.2) (.int .i64 t263)) (fun _ hk => hk.1.2) (.slice Ao14 t264.length co14)) (fun _ hk => hk.2) (.int .i64 a0_4)) (fun _ hk => hk.2) (.int .i64 a0_5)) (fun _ hk => hk.2) (.int .i64 a0_6)) (fun _ hk => hk.2) (.int .i64 a0_7)) (fun _ hk => hk.2) (.int .i64 a0_8)) (fun _ hk => hk.2) (.int .i64 a0_9)) (fun _ h_ => h_.1)) (fun _ h_ => h_.1)))); (case side2 => exact (Kd.V_reads' HO266.out).2.1); rintro e w27 ⟨rfl, hb⟩; refine ⟨_, rfl, ?_⟩; have n0_ := Aside0.mk (Kd.V_below (by (with_reducible repeat (first | apply Kd.V_alloc | apply Kd.V_drewN | apply Kd.V_drew)); exact (Kd.V_mono (Kd.V_mono (Kd.V_far (p := ⟨gb268, 5, none⟩) (Kd.V_far (p := ⟨gb268, 4, none⟩) (Kd.V_far (p := ⟨gb268, 3, none⟩) (Kd.V_far (p := ⟨gb268, 2, none⟩) (Kd.V_far (p := ⟨gb268, 1, none⟩) (Kd.V_far (p := ⟨gb268, 0, none⟩) (Kd.V_far (p := ⟨gb267, 3, none⟩) (Kd.V_far (p := ⟨gb267, 2, none⟩) (Kd.V_far (p := ⟨gb267, 1, none⟩) (Kd.V_far (p := ⟨gb267, 0, none⟩) (Kd.V_mono (Kd.V_mono HO266.out (fun k_ hk => (⟨hk, hk.2.1⟩ : _ ∧ k_ ≠ gb267))) (fun k_ hk => (⟨hk, hk.1.2.2⟩ : _ ∧ k_ ≠ gb268))) (fun _ hk => hk.1.2) (.int .i64 t261)) (fun _ hk => hk.1.2) (.int .i64 t262)) (fun _ hk => hk.1.2) (.int .i64 t263)) (fun _ hk => hk.1.2) (.slice Ao14 t264.length co14)) (fun _ hk => hk.2) (.int .i64 a0_4)) (fun _ hk => hk.2) (.int .i64 a0_5)) (fun _ hk => hk.2) (.int .i64 a0_6)) (fun _ hk => hk.2) (.int .i64 a0_7)) (fun _ hk => hk.2) (.int .i64 a0_8)) (fun _ hk => hk.2) (.int .i64 a0_9)) (fun _ h_ => h_.1)) (fun _ h_ => h_.1))) hb); have n1_ := Aside0.mk (blk_below (g := gb260) (o := .cells #[.int .i64 a0_0, .int .i64 a0_1, .int .i64 a0_2, .slice A0_3 l0_3.length c0_3, .int .i64 a0_4, .int .i64 a0_5, .int .i64 a0_6, .int .i64 a0_7, .int .i64 a0_8, .int .i64 a0_9, .int .i64 a0_10, .int .u8 a0_11] 36 (0, 0)) (by (with_reducible repeat (first | refine blk_drewN ?_ _ | refine blk_drew ?_ | refine blk_alloc ?_ _)); refine blk_far ?_ NB260_268.out _; (with_reducible repeat (first | refine blk_drewN ?_ _ | refine blk_drew ?_ | refine blk_alloc ?_ _)); refine blk_far ?_ NB260_268.out _; (with_reducible repeat (first | refine blk_drewN ?_ _ | refine blk_drew ?_ | refine blk_alloc ?_ _)); refine blk_far ?_ NB260_268.out _; (with_reducible repeat (first | refine blk_drewN ?_ _ | refine blk_drew ?_ | refine blk_alloc ?_ _)); refine blk_far ?_ NB260_268.out _; (with_reducible repeat (first | refine blk_drewN ?_ _ | refine blk_drew ?_ | refine blk_alloc ?_ _)); refine blk_far ?_ NB260_268.out _; (with_reducible repeat (first | refine blk_drewN ?_ _ | refine blk_drew ?_ | refine blk_alloc ?_ _)); refine blk_far ?_ NB260_268.out _; (with_reducible repeat (first | refine blk_drewN ?_ _ | refine blk_drew ?_ | refine blk_alloc ?_ _)); refine blk_far ?_ NB260_267.out _; (with_reducible repeat (first | refine blk_drewN ?_ _ | refine blk_drew ?_ | refine blk_alloc ?_ _)); refine blk_far ?_ NB260_267.out _; (with_reducible repeat (first | refine blk_drewN ?_ _ | refine blk_drew ?_ | refine blk_alloc ?_ _)); refine blk_far ?_ NB260_267.out _; (with_reducible repeat (first | refine blk_drewN ?_ _ | refine blk_drew ?_ | refine blk_alloc ?_ _)); refine blk_far ?_ NB260_267.out _; (with_reducible repeat (first | refine blk_drewN ?_ _ | refine blk_drew ?_ | refine blk_alloc ?_ _)); exact BK260.out) hb); have n2_ := Aside0.mk (blk_below (g := gb267) (o := .cells #[.int .i64 t261, .int .i64 t262, .int .i64 t263, .slice Ao14 t264.length co14] 25 (0, 0)) (by (with_reducible repeat (first | refine blk_drewN ?_ _ | refine blk_drew ?_ | refine blk_alloc ?_ _)); refine blk_far ?_ NB267_268.out _; (with_reducible repeat (first | refine blk_drewN ?_ _ | refine blk_drew ?_ | refine blk_alloc ?_ _)); refine blk_far ?_ NB267_268.out _; (with_reducible repeat (first | refine blk_drewN ?_ _ | refine blk_drew ?_ | refine blk_alloc ?_ _)); refine blk_far ?_ NB267_268.out _; (with_reducible repeat (first | refine blk_drewN ?_ _ | refine blk_drew ?_ | refine blk_alloc ?_ _)); refine blk_far ?_ NB267_268.out _; (with_reducible repeat (first | refine blk_drewN ?_ _ | refine blk_drew ?_ | refine blk_alloc ?_ _)); refine blk_far ?_ NB267_268.out _; (with_reducible repeat (first | refine blk_drewN ?_ _ | refine blk_drew ?_ | refine blk_alloc ?_ _)); refine blk_far ?_ NB267_268.out _; (with_reducible repeat (first | refine blk_drewN ?_ _ | refine blk_drew ?_ | refine blk_alloc ?_ _)); refine blk_put (cs := #[.int .i64 t261, .int .i64 t262, .int .i64 t263, .slice none 0 0]) ?_ 3 _ rfl; (with_reducible repeat (first | refine blk_drewN ?_ _ | refine blk_drew ?_ | refine blk_alloc ?_ _)); refine blk_put (cs := #[.int .i64 t261, .int .i64 t262, .int .i64 0, .slice none 0 0]) ?_ 2 _ rfl; (with_reducible repeat (first | refine blk_drewN ?_ _ | refine blk_drew ?_ | refine blk_alloc ?_ _)); refine blk_put (cs := #[.int .i64 t261, .int .i64 0, .int .i64 0, .slice none 0 0]) ?_ 1 _ rfl; (with_reducible repeat (first | refine blk_drewN ?_ _ | refine blk_drew ?_ | refine blk_alloc ?_ _)); refine blk_put (cs := #[.int .i64 0, .int .i64 0, .int .i64 0, .slice none 0 0]) ?_ 0 _ rfl; (with_reducible repeat (first | refine blk_drewN ?_ _ | refine blk_drew ?_ | refine blk_alloc ?_ _)); exact BK267.out) hb); have n3_ := Aside0.mk (blk_below (g := gb268) (o := .cells #[.int .i64 a0_4, .int .i64 a0_5, .int .i64 a0_6, .int .i64 a0_7, .int .i64 a0_8, .int .i64 a0_9] 27 (0, 0)) (by (with_reducible repeat (first | refine blk_drewN ?_ _ | refine blk_drew ?_ | refine blk_alloc ?_ _)); refine blk_put (cs := #[.int .i64 a0_4, .int .i64 a0_5, .int .i64 a0_6, .int .i64 a0_7, .int .i64 a0_8, .int .i64 0]) ?_ 5 _ rfl; (with_reducible repeat (first | refine blk_drewN ?_ _ | refine blk_drew ?_ | refine blk_alloc ?_ _)); refine blk_put (cs := #[.int .i64 a0_4, .int .i64 a0_5, .int .i64 a0_6, .int .i64 a0_7, .int .i64 0, .int .i64 0]) ?_ 4 _ rfl; (with_reducible repeat (first | refine blk_drewN ?_ _ | refine blk_drew ?_ | refine blk_alloc ?_ _)); refine blk_put (cs := #[.int .i64 a0_4, .int .i64 a0_5, .int .i64 a0_6, .int .i64 0, .int .i64 0, .int .i64 0]) ?_ 3 _ rfl; (with_reducible repeat (first | refine blk_drewN ?_ _ | refine blk_drew ?_ | refine blk_alloc ?_ _)); refine blk_put (cs := #[.int .i64 a0_4, .int .i64 a0_5, .int .i64 0, .int .i64 0, .int .i64 0, .int .i64 0]) ?_ 2 _ rfl; (with_reducible repeat (first | refine blk_drewN ?_ _ | refine blk_drew ?_ | refine blk_alloc ?_ _)); refine blk_put (cs := #[.int .i64 a0_4, .int .i64 0, .int .i64 0, .int .i64 0, .int .i64 0, .int .i64 0]) ?_ 1 _ rfl; (with_reducible repeat (first | refine blk_drewN ?_ _ | refine blk_drew ?_ | refine blk_alloc ?_ _)); refine blk_put (cs := #[.int .i64 0, .int .i64 0, .int .i64 0, .int .i64 0, .int .i64 0, .int .i64 0]) ?_ 0 _ rfl; (with_reducible repeat (first | refine blk_drewN ?_ _ | refine blk_drew ?_ | refine blk_alloc ?_ _)); refine blk_far ?_ NB268_267.out _; (with_reducible repeat (first | refine blk_drewN ?_ _ | refine blk_drew ?_ | refine blk_alloc ?_ _)); refine blk_far ?_ NB268_267.out _; (with_reducible repeat (first | refine blk_drewN ?_ _ | refine blk_drew ?_ | refine blk_alloc ?_ _)); refine blk_far ?_ NB268_267.out _; (with_reducible repeat (first | refine blk_drewN ?_ _ | refine blk_drew ?_ | refine blk_alloc ?_ _)); refine blk_far ?_ NB268_267.out _; (with_reducible repeat (first | refine blk_drewN ?_ _ | refine blk_drew ?_ | refine blk_alloc ?_ _)); exact BK268.out) hb); have n4_ := Aside0.mk (below_step (by repeat (first | (with_reducible first | exact HB.out | apply below_alloc | apply pw_below_drewN | apply below_drew1 | refine below_set ?_ GE260.out | refine below_set ?_ GE267.out | refine below_set ?_ GE268.out) | exact HB.out)) hb); clear HO266; clear BK260; clear BK267; clear BK268; clear HB; have HO266 := n0_; have BK260 := n1_; have BK267 := n2_; have BK268 := n3_; have HB := n4_; clear n0_ n1_ n2_ n3_ n4_; (try clear hb); (try clear hb2); (try clear hk); (try clear hi)) | ((with_reducible refine gate_dst (N := 6) rfl ?_); refine box_event ?hg (N := 6) ?hd (cs := #[.int .i64 0, .int .i64 0, .int .i64 0, .int .i64 0, .int .i64 0, .int .i64 0, .int .i64 0, .int .i64 0]) (t := 38) ?hr ?_; (case hd => rfl); (case hg => rfl); (case hr => first | (go_simp; done) | (go_simp; rfl)); intro gb278 hg w28 hbox hb; have n0_ := Aside0.mk (Kd.V_below (Kd.V_elderB (by (with_reducible repeat (first | apply Kd.V_alloc | apply Kd.V_drewN | apply Kd.V_drew)); exact HO266.out) gb278 (Nat.le_of_eq hg.symm)) hb); have n1_ := Aside0.mk (blk_below (g := gb260) (o := .cells #[.int .i64 a0_0, .int .i64 a0_1, .int .i64 a0_2, .slice A0_3 l0_3.length c0_3, .int .i64 a0_4, .int .i64 a0_5, .int .i64 a0_6, .int .i64 a0_7, .int .i64 a0_8, .int .i64 a0_9, .int .i64 a0_10, .int .u8 a0_11] 36 (0, 0)) (by (with_reducible repeat (first | refine blk_drewN ?_ _ | refine blk_drew ?_ | refine blk_alloc ?_ _)); exact BK260.out) hb); have n2_ := Aside0.mk (blk_below (g := gb267) (o := .cells #[.int .i64 t261, .int .i64 t262, .int .i64 t263, .slice Ao14 t264.length co14] 25 (0, 0)) (by (with_reducible repeat (first | refine blk_drewN ?_ _ | refine blk_drew ?_ | refine blk_alloc ?_ _)); exact BK267.out) hb); have n3_ := Aside0.mk (blk_below (g := gb268) (o := .cells #[.int .i64 a0_4, .int .i64 a0_5, .int .i64 a0_6, .int .i64 a0_7, .int .i64 a0_8, .int .i64 a0_9] 27 (0, 0)) (by (with_reducible repeat (first | refine blk_drewN ?_ _ | refine blk_drew ?_ | refine blk_alloc ?_ _)); exact BK268.out) hb); have n4_ := Aside0.mk (below_step (by repeat (first | (with_reducible first | exact HB.out | apply below_alloc | apply pw_below_drewN | apply below_drew1 | refine below_set ?_ GE260.out | refine below_set ?_ GE267.out | refine below_set ?_ GE268.out) | exact HB.out)) hb); have n5_ := Aside0.mk (hbox); have n6_ := Aside0.mk ((by rw [hg]; exact (below_size (by repeat (first | (with_reducible first | exact HB.out | apply below_alloc | apply pw_below_drewN | apply below_drew1 | refine below_set ?_ GE260.out | refine below_set ?_ GE267.out | refine below_set ?_ GE268.out) | exact HB.out))) : w.heap.size ≤ gb278)); have n7_ := Aside0.mk ((by rw [hg]; exact (below_size (by repeat (first | (with_reducible first | exact HB.out | apply below_alloc | apply pw_below_drewN | apply below_drew1 | refine below_set ?_ GE260.out | refine below_set ?_ GE267.out | refine below_set ?_ GE268.out) | exact HB.out))) : w.heap.size ≤ gb278)); have n8_ := Aside0.mk ((by rw [hg]; exact Nat.ne_of_lt (blk_lt (g := gb260) (o := .cells #[.int .i64 a0_0, .int .i64 a0_1, .int .i64 a0_2, .slice A0_3 l0_3.length c0_3, .int .i64 a0_4, .int .i64 a0_5, .int .i64 a0_6, .int .i64 a0_7, .int .i64 a0_8, .int .i64 a0_9, .int .i64 a0_10, .int .u8 a0_11] 36 (0, 0)) (by (with_reducible repeat (first | refine blk_drewN ?_ _ | refine blk_drew ?_ | refine blk_alloc ?_ _)); exact BK260.out)) : gb260 ≠ gb278)); have n9_ := Aside0.mk ((by rw [hg]; exact Nat.ne_of_gt (blk_lt (g := gb260) (o := .cells #[.int .i64 a0_0, .int .i64 a0_1, .int .i64 a0_2, .slice A0_3 l0_3.length c0_3, .int .i64 a0_4, .int .i64 a0_5, .int .i64 a0_6, .int .i64 a0_7, .int .i64 a0_8, .int .i64 a0_9, .int .i64 a0_10, .int .u8 a0_11] 36 (0, 0)) (by (with_reducible repeat (first | refine blk_drewN ?_ _ | refine blk_drew ?_ | refine blk_alloc ?_ _)); exact BK260.out)) : gb278 ≠ gb260)); have n10_ := Aside0.mk ((by rw [hg]; exact Nat.ne_of_lt (blk_lt (g := gb267) (o := .cells #[.int .i64 t261, .int .i64 t262, .int .i64 t263, .slice Ao14 t264.length co14] 25 (0, 0)) (by (with_reducible repeat (first | refine blk_drewN ?_ _ | refine blk_drew ?_ | refine blk_alloc ?_ _)); exact BK267.out)) : gb267 ≠ gb278)); have n11_ := Aside0.mk ((by rw [hg]; exact Nat.ne_of_gt (blk_lt (g := gb267) (o := .cells #[.int .i64 t261, .int .i64 t262, .int .i64 t263, .slice Ao14 t264.length co14] 25 (0, 0)) (by (with_reducible repeat (first | refine blk_drewN ?_ _ | refine blk_drew ?_ | refine blk_alloc ?_ _)); exact BK267.out)) : gb278 ≠ gb267)); have n12_ := Aside0.mk ((by rw [hg]; exact Nat.ne_of_lt (blk_lt (g := gb268) (o := .cells #[.int .i64 a0_4, .int .i64 a0_5, .int .i64 a0_6, .int .i64 a0_7, .int .i64 a0_8, .int .i64 a0_9] 27 (0, 0)) (by (with_reducible repeat (first | refine blk_drewN ?_ _ | refine blk_drew ?_ | refine blk_alloc ?_ _)); exact BK268.out)) : gb268 ≠ gb278)); have n13_ := Aside0.mk ((by rw [hg]; exact Nat.ne_of_gt (blk_lt (g := gb268) (o := .cells #[.int .i64 a0_4, .int .i64 a0_5, .int .i64 a0_6, .int .i64 a0_7, .int .i64 a0_8, .int .i64 a0_9] 27 (0, 0)) (by (with_reducible repeat (first | refine blk_drewN ?_ _ | refine blk_drew ?_ | refine blk_alloc ?_ _)); exact BK268.out)) : gb278 ≠ gb268)); clear HO266; clear BK260; clear BK267; clear BK268; clear HB; have HO266 := n0_; have BK260 := n1_; have BK267 := n2_; have BK268 := n3_; have HB := n4_; have BK278 := n5_; have GW278 := n6_; have GE278 := n7_; have NB260_278 := n8_; have NB278_260 := n9_; have NB267_278 := n10_; have NB278_267 := n11_; have NB268_278 := n12_; have NB278_268 := n13_; clear n0_ n1_ n2_ n3_ n4_ n5_ n6_ n7_ n8_ n9_ n10_ n11_ n12_ n13_; clear hb hbox hg; have hnb29 := NB278_260.out; have hnc29 := NB260_278.out; have hnb30 := NB278_267.out; have hnc30 := NB267_278.out; have hnb31 := NB278_268.out; have hnc31 := NB268_278.out; have hcz32_0 : w28.cell? ⟨gb278, 0, none⟩ = some (.int .i64 0) := (blk_cell BK278.out 0).trans rfl; have hcz32_1 : w28.cell? ⟨gb278, 1, none⟩ = some (.int .i64 0) := (blk_cell BK278.out 1).trans rfl; have hcz32_2 : w28.cell? ⟨gb278, 2, none⟩ = some (.int .i64 0) := (blk_cell BK278.out 2).trans rfl; have hcz32_3 : w28.cell? ⟨gb278, 3, none⟩ = some (.int .i64 0) := (blk_cell BK278.out 3).trans rfl; have hcz32_4 : w28.cell? ⟨gb278, 4, none⟩ = some (.int .i64 0) := (blk_cell BK278.out 4).trans rfl; have hcz32_5 : w28.cell? ⟨gb278, 5, none⟩ = some (.int .i64 0) := (blk_cell BK278.out 5).trans rfl; have hcz32_6 : w28.cell? ⟨gb278, 6, none⟩ = some (.int .i64 0) := (blk_cell BK278.out 6).trans rfl; have hcz32_7 : w28.cell? ⟨gb278, 7, none⟩ = some (.int .i64 0) := (blk_cell BK278.out 7).trans rfl; have hfz32_0 := blk_frozen BK278.out 0; have hfz32_1 := blk_frozen BK278.out 1; have hfz32_2 := blk_frozen BK278.out 2; have hfz32_3 := blk_frozen BK278.out 3; have hfz32_4 := blk_frozen BK278.out 4; have hfz32_5 := blk_frozen BK278.out 5; have hfz32_6 := blk_frozen BK278.out 6; have hfz32_7 := blk_frozen BK278.out 7))
  (try simp only [Act.put, List.setIfInBounds_toArray, List.set_cons_zero, List.set_cons_succ])
  go_cut [33] (fun v33 wc => ∃ (kq : Nat) (x33_3 : Bool), v33 = .bool x33_3 ∧ Aside0 (bivouaclaw16_ShotFlies.j0 kq a0_10 t277 x33_3 t261 t262 t263 t264 a0_4 a0_5 a0_6 a0_7 a0_8 a0_9 t269 t270 t271 t272 t273 t274 t275 t276 = some r) ∧ Aside0 (kq ≤ k) ∧ Aside0 (Kd.V (Kd.int .u8) 5 wc w.heap.size (fun k_ => k_ ≠ gb260 ∧ k_ ≠ gb267 ∧ k_ ≠ gb268 ∧ k_ ≠ gb278) (.slice Ao14 t264.length co14) t264) ∧ Aside0 (wc.heap[gb260]? = some (.cells #[.int .i64 a0_0, .int .i64 a0_1, .int .i64 a0_2, (.slice A0_3 l0_3.length c0_3), .int .i64 a0_4, .int .i64 a0_5, .int .i64 a0_6, .int .i64 a0_7, .int .i64 a0_8, .int .i64 a0_9, .int .i64 a0_10, .int .u8 a0_11] 36 (0, 0))) ∧ Aside0 (wc.heap[gb267]? = some (.cells #[.int .i64 t261, .int .i64 t262, .int .i64 t263, (.slice Ao14 t264.length co14)] 25 (0, 0))) ∧ Aside0 (wc.heap[gb268]? = some (.cells #[.int .i64 a0_4, .int .i64 a0_5, .int .i64 a0_6, .int .i64 a0_7, .int .i64 a0_8, .int .i64 a0_9] 27 (0, 0))) ∧ Aside0 (wc.heap[gb278]? = some (.cells #[.int .i64 t269, .int .i64 t270, .int .i64 t271, .int .i64 t272, .int .i64 t273, .int .i64 t274, .int .i64 t275, .int .i64 t276] 38 (0, 0))) ∧ Aside0 (Below w.heap.size w wc))
  case first =>
    have H := HC4.out
    clear HC4
    replace H := Option.bind_eq_some_iff.mp H
    obtain ⟨t279, A330, H⟩ := H
    replace H : (if t279 = true then (if a0_10 < 0 then (bivouaclaw16_ShotFlies.j0 k a0_10 t277 true t261 t262 t263 t264 a0_4 a0_5 a0_6 a0_7 a0_8 a0_9 t269 t270 t271 t272 t273 t274 t275 t276) else (bivouaclaw16_ShotFlies.j0 k a0_10 t277 (decide (a0_10 > 1024)) t261 t262 t263 t264 a0_4 a0_5 a0_6 a0_7 a0_8 a0_9 t269 t270 t271 t272 t273 t274 t275 t276)) else (bivouaclaw16_ShotFlies.j0 k a0_10 t277 true t261 t262 t263 t264 a0_4 a0_5 a0_6 a0_7 a0_8 a0_9 t269 t270 t271 t272 t273 t274 t275 t276)) = some r := H
    have A33 := Aside0.mk A330
    clear A330
    by_cases c34 : t279 = true
    · subst c34
      have H1 : (if a0_10 < 0 then (bivouaclaw16_ShotFlies.j0 k a0_10 t277 true t261 t262 t263 t264 a0_4 a0_5 a0_6 a0_7 a0_8 a0_9 t269 t270 t271 t272 t273 t274 t275 t276) else (bivouaclaw16_ShotFlies.j0 k a0_10 t277 (decide (a0_10 > 1024)) t261 t262 t263 t264 a0_4 a0_5 a0_6 a0_7 a0_8 a0_9 t269 t270 t271 t272 t273 t274 t275 t276)) = some r := by rw [if_pos rfl] at H; exact H
      clear H
      have H := H1
      clear H1
      by_cases c35 : a0_10 < 0
      · rw [if_pos c35] at H
        have c35b0 : decide (a0_10 < 0) = true := decide_eq_true c35
        clear c35
        (first | rw [c35b0] | (simp only [i64_w, i32_w]; rw [c35b0]) | skip)
        have H' := Aside0.mk H
        clear H
        have hnb36 := NB267_260.out
        have hnc36 := NB260_267.out
        have hnb37 := NB267_268.out
        have hnc37 := NB268_267.out
        have hnb38 := NB267_278.out
        have hnc38 := NB278_267.out
        have hcz39_0 : w28.cell? ⟨gb267, 0, none⟩ = some (.int .i64 t261) := (blk_cell BK267.out 0).trans rfl
        have hcz39_1 : w28.cell? ⟨gb267, 1, none⟩ = some (.int .i64 t262) := (blk_cell BK267.out 1).trans rfl
        have hcz39_2 : w28.cell? ⟨gb267, 2, none⟩ = some (.int .i64 t263) := (blk_cell BK267.out 2).trans rfl
        have hcz39_3 : w28.cell? ⟨gb267, 3, none⟩ = some (.slice Ao14 t264.length co14) := (blk_cell BK267.out 3).trans rfl
        have hfz39_0 := blk_frozen BK267.out 0
        have hfz39_1 := blk_frozen BK267.out 1
        have hfz39_2 := blk_frozen BK267.out 2
        have hfz39_3 := blk_frozen BK267.out 3
        have hnb40 := NB268_260.out
        have hnc40 := NB260_268.out
        have hnb41 := NB268_278.out
        have hnc41 := NB278_268.out
        have hcz42_0 : w28.cell? ⟨gb268, 0, none⟩ = some (.int .i64 a0_4) := (blk_cell BK268.out 0).trans rfl
        have hcz42_1 : w28.cell? ⟨gb268, 1, none⟩ = some (.int .i64 a0_5) := (blk_cell BK268.out 1).trans rfl
        have hcz42_2 : w28.cell? ⟨gb268, 2, none⟩ = some (.int .i64 a0_6) := (blk_cell BK268.out 2).trans rfl
        have hcz42_3 : w28.cell? ⟨gb268, 3, none⟩ = some (.int .i64 a0_7) := (blk_cell BK268.out 3).trans rfl
        have hcz42_4 : w28.cell? ⟨gb268, 4, none⟩ = some (.int .i64 a0_8) := (blk_cell BK268.out 4).trans rfl
        have hcz42_5 : w28.cell? ⟨gb268, 5, none⟩ = some (.int .i64 a0_9) := (blk_cell BK268.out 5).trans rfl
        have hfz42_0 := blk_frozen BK268.out 0
        have hfz42_1 := blk_frozen BK268.out 1
        have hfz42_2 := blk_frozen BK268.out 2
        have hfz42_3 := blk_frozen BK268.out 3
        have hfz42_4 := blk_frozen BK268.out 4
        have hfz42_5 := blk_frozen BK268.out 5
        go_wp2_with (first | ((with_reducible refine gate_callee (f := 13) rfl ?_); refine goesL_ (some 24) rfl rfl Try.func13 (by kernel_rfl) rfl #[.agg #[.int .i64 t261, .int .i64 t262, .int .i64 t263, .slice Ao14 t264.length co14], .agg #[.int .i64 a0_4, .int .i64 a0_5, .int .i64 a0_6, .int .i64 a0_7, .int .i64 a0_8, .int .i64 a0_9]] rfl (by (try simp only [List.map_toArray, List.map_cons, List.map_nil]); first | done | rfl | (simp only [List.length_drop, List.length_take]; rfl)) ?_; (with_reducible refine (bivouacref16_May.calls k t261 t262 t263 _ _ t264 a0_4 a0_5 a0_6 a0_7 a0_8 a0_9 true _ ?side1 ?side2 A33.out).mono ?_); (case side1 => refine (Kd.V_reads' (e := 5) (base := w.heap.size) (ok := fun k_ => ((k_ ≠ gb260 ∧ (k_ ≠ gb267 ∧ k_ ≠ gb268)) ∧ k_ ≠ gb278)) (n := t264.length) (c := co14) ?_).2.2; exact (by (with_reducible repeat (first | apply Kd.V_alloc | apply Kd.V_drewN | apply Kd.V_drew)); exact (Kd.V_mono (Kd.V_far (p := ⟨gb278, 7, none⟩) (Kd.V_far (p := ⟨gb278, 6, none⟩) (Kd.V_far (p := ⟨gb278, 5, none⟩) (Kd.V_far (p := ⟨gb278, 4, none⟩) (Kd.V_far (p := ⟨gb278, 3, none⟩) (Kd.V_far (p := ⟨gb278, 2, none⟩) (Kd.V_far (p := ⟨gb278, 1, none⟩) (Kd.V_far (p := ⟨gb278, 0, none⟩) (Kd.V_mono HO266.out (fun k_ hk => (⟨hk, hk.2⟩ : _ ∧ k_ ≠ gb278))) (fun _ hk => hk.2) (.int .i64 t269)) (fun _ hk => hk.2) (.int .i64 t270)) (fun _ hk => hk.2) (.int .i64 t271)) (fun _ hk => hk.2) (.int .i64 t272)) (fun _ hk => hk.2) (.int .i64 t273)) (fun _ hk => hk.2) (.int .i64 t274)) (fun _ hk => hk.2) (.int .i64 t275)) (fun _ hk => hk.2) (.int .i64 t276)) (fun _ h_ => h_.1)))); (case side2 => exact (Kd.V_reads' HO266.out).2.1); rintro e w43 ⟨rfl, hb⟩; refine ⟨_, rfl, ?_⟩; have n0_ := Aside0.mk (Kd.V_below (by (with_reducible repeat (first | apply Kd.V_alloc | apply Kd.V_drewN | apply Kd.V_drew)); exact (Kd.V_mono (Kd.V_far (p := ⟨gb278, 7, none⟩) (Kd.V_far (p := ⟨gb278, 6, none⟩) (Kd.V_far (p := ⟨gb278, 5, none⟩) (Kd.V_far (p := ⟨gb278, 4, none⟩) (Kd.V_far (p := ⟨gb278, 3, none⟩) (Kd.V_far (p := ⟨gb278, 2, none⟩) (Kd.V_far (p := ⟨gb278, 1, none⟩) (Kd.V_far (p := ⟨gb278, 0, none⟩) (Kd.V_mono HO266.out (fun k_ hk => (⟨hk, hk.2⟩ : _ ∧ k_ ≠ gb278))) (fun _ hk => hk.2) (.int .i64 t269)) (fun _ hk => hk.2) (.int .i64 t270)) (fun _ hk => hk.2) (.int .i64 t271)) (fun _ hk => hk.2) (.int .i64 t272)) (fun _ hk => hk.2) (.int .i64 t273)) (fun _ hk => hk.2) (.int .i64 t274)) (fun _ hk => hk.2) (.int .i64 t275)) (fun _ hk => hk.2) (.int .i64 t276)) (fun _ h_ => h_.1))) hb); have n1_ := Aside0.mk (blk_below (g := gb260) (o := .cells #[.int .i64 a0_0, .int .i64 a0_1, .int .i64 a0_2, .slice A0_3 l0_3.length c0_3, .int .i64 a0_4, .int .i64 a0_5, .int .i64 a0_6, .int .i64 a0_7, .int .i64 a0_8, .int .i64 a0_9, .int .i64 a0_10, .int .u8 a0_11] 36 (0, 0)) (by (with_reducible repeat (first | refine blk_drewN ?_ _ | refine blk_drew ?_ | refine blk_alloc ?_ _)); refine blk_far ?_ NB260_278.out _; (with_reducible repeat (first | refine blk_drewN ?_ _ | refine blk_drew ?_ | refine blk_alloc ?_ _)); refine blk_far ?_ NB260_278.out _; (with_reducible repeat (first | refine blk_drewN ?_ _ | refine blk_drew ?_ | refine blk_alloc ?_ _)); refine blk_far ?_ NB260_278.out _; (with_reducible repeat (first | refine blk_drewN ?_ _ | refine blk_drew ?_ | refine blk_alloc ?_ _)); refine blk_far ?_ NB260_278.out _; (with_reducible repeat (first | refine blk_drewN ?_ _ | refine blk_drew ?_ | refine blk_alloc ?_ _)); refine blk_far ?_ NB260_278.out _; (with_reducible repeat (first | refine blk_drewN ?_ _ | refine blk_drew ?_ | refine blk_alloc ?_ _)); refine blk_far ?_ NB260_278.out _; (with_reducible repeat (first | refine blk_drewN ?_ _ | refine blk_drew ?_ | refine blk_alloc ?_ _)); refine blk_far ?_ NB260_278.out _; (with_reducible repeat (first | refine blk_drewN ?_ _ | refine blk_drew ?_ | refine blk_alloc ?_ _)); refine blk_far ?_ NB260_278.out _; (with_reducible repeat (first | refine blk_drewN ?_ _ | refine blk_drew ?_ | refine blk_alloc ?_ _)); exact BK260.out) hb); have n2_ := Aside0.mk (blk_below (g := gb267) (o := .cells #[.int .i64 t261, .int .i64 t262, .int .i64 t263, .slice Ao14 t264.length co14] 25 (0, 0)) (by (with_reducible repeat (first | refine blk_drewN ?_ _ | refine blk_drew ?_ | refine blk_alloc ?_ _)); refine blk_far ?_ NB267_278.out _; (with_reducible repeat (first | refine blk_drewN ?_ _ | refine blk_drew ?_ | refine blk_alloc ?_ _)); refine blk_far ?_ NB267_278.out _; (with_reducible repeat (first | refine blk_drewN ?_ _ | refine blk_drew ?_ | refine blk_alloc ?_ _)); refine blk_far ?_ NB267_278.out _; (with_reducible repeat (first | refine blk_drewN ?_ _ | refine blk_drew ?_ | refine blk_alloc ?_ _)); refine blk_far ?_ NB267_278.out _; (with_reducible repeat (first | refine blk_drewN ?_ _ | refine blk_drew ?_ | refine blk_alloc ?_ _)); refine blk_far ?_ NB267_278.out _; (with_reducible repeat (first | refine blk_drewN ?_ _ | refine blk_drew ?_ | refine blk_alloc ?_ _)); refine blk_far ?_ NB267_278.out _; (with_reducible repeat (first | refine blk_drewN ?_ _ | refine blk_drew ?_ | refine blk_alloc ?_ _)); refine blk_far ?_ NB267_278.out _; (with_reducible repeat (first | refine blk_drewN ?_ _ | refine blk_drew ?_ | refine blk_alloc ?_ _)); refine blk_far ?_ NB267_278.out _; (with_reducible repeat (first | refine blk_drewN ?_ _ | refine blk_drew ?_ | refine blk_alloc ?_ _)); exact BK267.out) hb); have n3_ := Aside0.mk (blk_below (g := gb268) (o := .cells #[.int .i64 a0_4, .int .i64 a0_5, .int .i64 a0_6, .int .i64 a0_7, .int .i64 a0_8, .int .i64 a0_9] 27 (0, 0)) (by (with_reducible repeat (first | refine blk_drewN ?_ _ | refine blk_drew ?_ | refine blk_alloc ?_ _)); refine blk_far ?_ NB268_278.out _; (with_reducible repeat (first | refine blk_drewN ?_ _ | refine blk_drew ?_ | refine blk_alloc ?_ _)); refine blk_far ?_ NB268_278.out _; (with_reducible repeat (first | refine blk_drewN ?_ _ | refine blk_drew ?_ | refine blk_alloc ?_ _)); refine blk_far ?_ NB268_278.out _; (with_reducible repeat (first | refine blk_drewN ?_ _ | refine blk_drew ?_ | refine blk_alloc ?_ _)); refine blk_far ?_ NB268_278.out _; (with_reducible repeat (first | refine blk_drewN ?_ _ | refine blk_drew ?_ | refine blk_alloc ?_ _)); refine blk_far ?_ NB268_278.out _; (with_reducible repeat (first | refine blk_drewN ?_ _ | refine blk_drew ?_ | refine blk_alloc ?_ _)); refine blk_far ?_ NB268_278.out _; (with_reducible repeat (first | refine blk_drewN ?_ _ | refine blk_drew ?_ | refine blk_alloc ?_ _)); refine blk_far ?_ NB268_278.out _; (with_reducible repeat (first | refine blk_drewN ?_ _ | refine blk_drew ?_ | refine blk_alloc ?_ _)); refine blk_far ?_ NB268_278.out _; (with_reducible repeat (first | refine blk_drewN ?_ _ | refine blk_drew ?_ | refine blk_alloc ?_ _)); exact BK268.out) hb); have n4_ := Aside0.mk (blk_below (g := gb278) (o := .cells #[.int .i64 t269, .int .i64 t270, .int .i64 t271, .int .i64 t272, .int .i64 t273, .int .i64 t274, .int .i64 t275, .int .i64 t276] 38 (0, 0)) (by (with_reducible repeat (first | refine blk_drewN ?_ _ | refine blk_drew ?_ | refine blk_alloc ?_ _)); refine blk_put (cs := #[.int .i64 t269, .int .i64 t270, .int .i64 t271, .int .i64 t272, .int .i64 t273, .int .i64 t274, .int .i64 t275, .int .i64 0]) ?_ 7 _ rfl; (with_reducible repeat (first | refine blk_drewN ?_ _ | refine blk_drew ?_ | refine blk_alloc ?_ _)); refine blk_put (cs := #[.int .i64 t269, .int .i64 t270, .int .i64 t271, .int .i64 t272, .int .i64 t273, .int .i64 t274, .int .i64 0, .int .i64 0]) ?_ 6 _ rfl; (with_reducible repeat (first | refine blk_drewN ?_ _ | refine blk_drew ?_ | refine blk_alloc ?_ _)); refine blk_put (cs := #[.int .i64 t269, .int .i64 t270, .int .i64 t271, .int .i64 t272, .int .i64 t273, .int .i64 0, .int .i64 0, .int .i64 0]) ?_ 5 _ rfl; (with_reducible repeat (first | refine blk_drewN ?_ _ | refine blk_drew ?_ | refine blk_alloc ?_ _)); refine blk_put (cs := #[.int .i64 t269, .int .i64 t270, .int .i64 t271, .int .i64 t272, .int .i64 0, .int .i64 0, .int .i64 0, .int .i64 0]) ?_ 4 _ rfl; (with_reducible repeat (first | refine blk_drewN ?_ _ | refine blk_drew ?_ | refine blk_alloc ?_ _)); refine blk_put (cs := #[.int .i64 t269, .int .i64 t270, .int .i64 t271, .int .i64 0, .int .i64 0, .int .i64 0, .int .i64 0, .int .i64 0]) ?_ 3 _ rfl; (with_reducible repeat (first | refine blk_drewN ?_ _ | refine blk_drew ?_ | refine blk_alloc ?_ _)); refine blk_put (cs := #[.int .i64 t269, .int .i64 t270, .int .i64 0, .int .i64 0, .int .i64 0, .int .i64 0, .int .i64 0, .int .i64 0]) ?_ 2 _ rfl; (with_reducible repeat (first | refine blk_drewN ?_ _ | refine blk_drew ?_ | refine blk_alloc ?_ _)); refine blk_put (cs := #[.int .i64 t269, .int .i64 0, .int .i64 0, .int .i64 0, .int .i64 0, .int .i64 0, .int .i64 0, .int .i64 0]) ?_ 1 _ rfl; (with_reducible repeat (first | refine blk_drewN ?_ _ | refine blk_drew ?_ | refine blk_alloc ?_ _)); refine blk_put (cs := #[.int .i64 0, .int .i64 0, .int .i64 0, .int .i64 0, .int .i64 0, .int .i64 0, .int .i64 0, .int .i64 0]) ?_ 0 _ rfl; (with_reducible repeat (first | refine blk_drewN ?_ _ | refine blk_drew ?_ | refine blk_alloc ?_ _)); exact BK278.out) hb); have n5_ := Aside0.mk (below_step (by repeat (first | (with_reducible first | exact HB.out | apply below_alloc | apply pw_below_drewN | apply below_drew1 | refine below_set ?_ GE260.out | refine below_set ?_ GE267.out | refine below_set ?_ GE268.out | refine below_set ?_ GE278.out) | exact HB.out)) hb); clear HO266; clear BK260; clear BK267; clear BK268; clear BK278; clear HB; have HO266 := n0_; have BK260 := n1_; have BK267 := n2_; have BK268 := n3_; have BK278 := n4_; have HB := n5_; clear n0_ n1_ n2_ n3_ n4_ n5_; (try clear hb); (try clear hb2); (try clear hk); (try clear hi)))
        go_meet
        case rel => exact ⟨_, (true), (by first | rfl | (simp; done) | (simp [*]; done)), H', ⟨by first | omega | exact Nat.le_refl _⟩, ⟨by (with_reducible repeat (first | apply Kd.V_alloc | apply Kd.V_drewN | apply Kd.V_drew)); exact Kd.V_mono HO266.out (fun _ hk => ⟨hk.1.1, ⟨hk.1.2.1, ⟨hk.1.2.2, hk.2⟩⟩⟩)⟩, ⟨by (with_reducible repeat (first | refine blk_drewN ?_ _ | refine blk_drew ?_ | refine blk_alloc ?_ _)); exact BK260.out⟩, ⟨by (with_reducible repeat (first | refine blk_drewN ?_ _ | refine blk_drew ?_ | refine blk_alloc ?_ _)); exact BK267.out⟩, ⟨by (with_reducible repeat (first | refine blk_drewN ?_ _ | refine blk_drew ?_ | refine blk_alloc ?_ _)); exact BK268.out⟩, ⟨by (with_reducible repeat (first | refine blk_drewN ?_ _ | refine blk_drew ?_ | refine blk_alloc ?_ _)); exact BK278.out⟩, ⟨by repeat (first | (with_reducible first | exact HB.out | apply below_alloc | apply pw_below_drewN | apply below_drew1 | refine below_set ?_ GE260.out | refine below_set ?_ GE267.out | refine below_set ?_ GE268.out | refine below_set ?_ GE278.out) | exact HB.out)⟩⟩
      · rw [if_neg c35] at H
        have c35b0 : decide (a0_10 < 0) = false := decide_eq_false c35
        clear c35
        (first | rw [c35b0] | (simp only [i64_w, i32_w]; rw [c35b0]) | skip)
        have H' := Aside0.mk H
        clear H
        have hnb44 := NB267_260.out
        have hnc44 := NB260_267.out
        have hnb45 := NB267_268.out
        have hnc45 := NB268_267.out
        have hnb46 := NB267_278.out
        have hnc46 := NB278_267.out
        have hcz47_0 : w28.cell? ⟨gb267, 0, none⟩ = some (.int .i64 t261) := (blk_cell BK267.out 0).trans rfl
        have hcz47_1 : w28.cell? ⟨gb267, 1, none⟩ = some (.int .i64 t262) := (blk_cell BK267.out 1).trans rfl
        have hcz47_2 : w28.cell? ⟨gb267, 2, none⟩ = some (.int .i64 t263) := (blk_cell BK267.out 2).trans rfl
        have hcz47_3 : w28.cell? ⟨gb267, 3, none⟩ = some (.slice Ao14 t264.length co14) := (blk_cell BK267.out 3).trans rfl
        have hfz47_0 := blk_frozen BK267.out 0
        have hfz47_1 := blk_frozen BK267.out 1
        have hfz47_2 := blk_frozen BK267.out 2
        have hfz47_3 := blk_frozen BK267.out 3
        have hnb48 := NB268_260.out
        have hnc48 := NB260_268.out
        have hnb49 := NB268_278.out
        have hnc49 := NB278_268.out
        have hcz50_0 : w28.cell? ⟨gb268, 0, none⟩ = some (.int .i64 a0_4) := (blk_cell BK268.out 0).trans rfl
        have hcz50_1 : w28.cell? ⟨gb268, 1, none⟩ = some (.int .i64 a0_5) := (blk_cell BK268.out 1).trans rfl
        have hcz50_2 : w28.cell? ⟨gb268, 2, none⟩ = some (.int .i64 a0_6) := (blk_cell BK268.out 2).trans rfl
        have hcz50_3 : w28.cell? ⟨gb268, 3, none⟩ = some (.int .i64 a0_7) := (blk_cell BK268.out 3).trans rfl
        have hcz50_4 : w28.cell? ⟨gb268, 4, none⟩ = some (.int .i64 a0_8) := (blk_cell BK268.out 4).trans rfl
        have hcz50_5 : w28.cell? ⟨gb268, 5, none⟩ = some (.int .i64 a0_9) := (blk_cell BK268.out 5).trans rfl
        have hfz50_0 := blk_frozen BK268.out 0
        have hfz50_1 := blk_frozen BK268.out 1
        have hfz50_2 := blk_frozen BK268.out 2
        have hfz50_3 := blk_frozen BK268.out 3
        have hfz50_4 := blk_frozen BK268.out 4
        have hfz50_5 := blk_frozen BK268.out 5
        go_wp2_with (first | ((with_reducible refine gate_callee (f := 13) rfl ?_); refine goesL_ (some 24) rfl rfl Try.func13 (by kernel_rfl) rfl #[.agg #[.int .i64 t261, .int .i64 t262, .int .i64 t263, .slice Ao14 t264.length co14], .agg #[.int .i64 a0_4, .int .i64 a0_5, .int .i64 a0_6, .int .i64 a0_7, .int .i64 a0_8, .int .i64 a0_9]] rfl (by (try simp only [List.map_toArray, List.map_cons, List.map_nil]); first | done | rfl | (simp only [List.length_drop, List.length_take]; rfl)) ?_; (with_reducible refine (bivouacref16_May.calls k t261 t262 t263 _ _ t264 a0_4 a0_5 a0_6 a0_7 a0_8 a0_9 true _ ?side1 ?side2 A33.out).mono ?_); (case side1 => refine (Kd.V_reads' (e := 5) (base := w.heap.size) (ok := fun k_ => ((k_ ≠ gb260 ∧ (k_ ≠ gb267 ∧ k_ ≠ gb268)) ∧ k_ ≠ gb278)) (n := t264.length) (c := co14) ?_).2.2; exact (by (with_reducible repeat (first | apply Kd.V_alloc | apply Kd.V_drewN | apply Kd.V_drew)); exact (Kd.V_mono (Kd.V_far (p := ⟨gb278, 7, none⟩) (Kd.V_far (p := ⟨gb278, 6, none⟩) (Kd.V_far (p := ⟨gb278, 5, none⟩) (Kd.V_far (p := ⟨gb278, 4, none⟩) (Kd.V_far (p := ⟨gb278, 3, none⟩) (Kd.V_far (p := ⟨gb278, 2, none⟩) (Kd.V_far (p := ⟨gb278, 1, none⟩) (Kd.V_far (p := ⟨gb278, 0, none⟩) (Kd.V_mono HO266.out (fun k_ hk => (⟨hk, hk.2⟩ : _ ∧ k_ ≠ gb278))) (fun _ hk => hk.2) (.int .i64 t269)) (fun _ hk => hk.2) (.int .i64 t270)) (fun _ hk => hk.2) (.int .i64 t271)) (fun _ hk => hk.2) (.int .i64 t272)) (fun _ hk => hk.2) (.int .i64 t273)) (fun _ hk => hk.2) (.int .i64 t274)) (fun _ hk => hk.2) (.int .i64 t275)) (fun _ hk => hk.2) (.int .i64 t276)) (fun _ h_ => h_.1)))); (case side2 => exact (Kd.V_reads' HO266.out).2.1); rintro e w51 ⟨rfl, hb⟩; refine ⟨_, rfl, ?_⟩; have n0_ := Aside0.mk (Kd.V_below (by (with_reducible repeat (first | apply Kd.V_alloc | apply Kd.V_drewN | apply Kd.V_drew)); exact (Kd.V_mono (Kd.V_far (p := ⟨gb278, 7, none⟩) (Kd.V_far (p := ⟨gb278, 6, none⟩) (Kd.V_far (p := ⟨gb278, 5, none⟩) (Kd.V_far (p := ⟨gb278, 4, none⟩) (Kd.V_far (p := ⟨gb278, 3, none⟩) (Kd.V_far (p := ⟨gb278, 2, none⟩) (Kd.V_far (p := ⟨gb278, 1, none⟩) (Kd.V_far (p := ⟨gb278, 0, none⟩) (Kd.V_mono HO266.out (fun k_ hk => (⟨hk, hk.2⟩ : _ ∧ k_ ≠ gb278))) (fun _ hk => hk.2) (.int .i64 t269)) (fun _ hk => hk.2) (.int .i64 t270)) (fun _ hk => hk.2) (.int .i64 t271)) (fun _ hk => hk.2) (.int .i64 t272)) (fun _ hk => hk.2) (.int .i64 t273)) (fun _ hk => hk.2) (.int .i64 t274)) (fun _ hk => hk.2) (.int .i64 t275)) (fun _ hk => hk.2) (.int .i64 t276)) (fun _ h_ => h_.1))) hb); have n1_ := Aside0.mk (blk_below (g := gb260) (o := .cells #[.int .i64 a0_0, .int .i64 a0_1, .int .i64 a0_2, .slice A0_3 l0_3.length c0_3, .int .i64 a0_4, .int .i64 a0_5, .int .i64 a0_6, .int .i64 a0_7, .int .i64 a0_8, .int .i64 a0_9, .int .i64 a0_10, .int .u8 a0_11] 36 (0, 0)) (by (with_reducible repeat (first | refine blk_drewN ?_ _ | refine blk_drew ?_ | refine blk_alloc ?_ _)); refine blk_far ?_ NB260_278.out _; (with_reducible repeat (first | refine blk_drewN ?_ _ | refine blk_drew ?_ | refine blk_alloc ?_ _)); refine blk_far ?_ NB260_278.out _; (with_reducible repeat (first | refine blk_drewN ?_ _ | refine blk_drew ?_ | refine blk_alloc ?_ _)); refine blk_far ?_ NB260_278.out _; (with_reducible repeat (first | refine blk_drewN ?_ _ | refine blk_drew ?_ | refine blk_alloc ?_ _)); refine blk_far ?_ NB260_278.out _; (with_reducible repeat (first | refine blk_drewN ?_ _ | refine blk_drew ?_ | refine blk_alloc ?_ _)); refine blk_far ?_ NB260_278.out _; (with_reducible repeat (first | refine blk_drewN ?_ _ | refine blk_drew ?_ | refine blk_alloc ?_ _)); refine blk_far ?_ NB260_278.out _; (with_reducible repeat (first | refine blk_drewN ?_ _ | refine blk_drew ?_ | refine blk_alloc ?_ _)); refine blk_far ?_ NB260_278.out _; (with_reducible repeat (first | refine blk_drewN ?_ _ | refine blk_drew ?_ | refine blk_alloc ?_ _)); refine blk_far ?_ NB260_278.out _; (with_reducible repeat (first | refine blk_drewN ?_ _ | refine blk_drew ?_ | refine blk_alloc ?_ _)); exact BK260.out) hb); have n2_ := Aside0.mk (blk_below (g := gb267) (o := .cells #[.int .i64 t261, .int .i64 t262, .int .i64 t263, .slice Ao14 t264.length co14] 25 (0, 0)) (by (with_reducible repeat (first | refine blk_drewN ?_ _ | refine blk_drew ?_ | refine blk_alloc ?_ _)); refine blk_far ?_ NB267_278.out _; (with_reducible repeat (first | refine blk_drewN ?_ _ | refine blk_drew ?_ | refine blk_alloc ?_ _)); refine blk_far ?_ NB267_278.out _; (with_reducible repeat (first | refine blk_drewN ?_ _ | refine blk_drew ?_ | refine blk_alloc ?_ _)); refine blk_far ?_ NB267_278.out _; (with_reducible repeat (first | refine blk_drewN ?_ _ | refine blk_drew ?_ | refine blk_alloc ?_ _)); refine blk_far ?_ NB267_278.out _; (with_reducible repeat (first | refine blk_drewN ?_ _ | refine blk_drew ?_ | refine blk_alloc ?_ _)); refine blk_far ?_ NB267_278.out _; (with_reducible repeat (first | refine blk_drewN ?_ _ | refine blk_drew ?_ | refine blk_alloc ?_ _)); refine blk_far ?_ NB267_278.out _; (with_reducible repeat (first | refine blk_drewN ?_ _ | refine blk_drew ?_ | refine blk_alloc ?_ _)); refine blk_far ?_ NB267_278.out _; (with_reducible repeat (first | refine blk_drewN ?_ _ | refine blk_drew ?_ | refine blk_alloc ?_ _)); refine blk_far ?_ NB267_278.out _; (with_reducible repeat (first | refine blk_drewN ?_ _ | refine blk_drew ?_ | refine blk_alloc ?_ _)); exact BK267.out) hb); have n3_ := Aside0.mk (blk_below (g := gb268) (o := .cells #[.int .i64 a0_4, .int .i64 a0_5, .int .i64 a0_6, .int .i64 a0_7, .int .i64 a0_8, .int .i64 a0_9] 27 (0, 0)) (by (with_reducible repeat (first | refine blk_drewN ?_ _ | refine blk_drew ?_ | refine blk_alloc ?_ _)); refine blk_far ?_ NB268_278.out _; (with_reducible repeat (first | refine blk_drewN ?_ _ | refine blk_drew ?_ | refine blk_alloc ?_ _)); refine blk_far ?_ NB268_278.out _; (with_reducible repeat (first | refine blk_drewN ?_ _ | refine blk_drew ?_ | refine blk_alloc ?_ _)); refine blk_far ?_ NB268_278.out _; (with_reducible repeat (first | refine blk_drewN ?_ _ | refine blk_drew ?_ | refine blk_alloc ?_ _)); refine blk_far ?_ NB268_278.out _; (with_reducible repeat (first | refine blk_drewN ?_ _ | refine blk_drew ?_ | refine blk_alloc ?_ _)); refine blk_far ?_ NB268_278.out _; (with_reducible repeat (first | refine blk_drewN ?_ _ | refine blk_drew ?_ | refine blk_alloc ?_ _)); refine blk_far ?_ NB268_278.out _; (with_reducible repeat (first | refine blk_drewN ?_ _ | refine blk_drew ?_ | refine blk_alloc ?_ _)); refine blk_far ?_ NB268_278.out _; (with_reducible repeat (first | refine blk_drewN ?_ _ | refine blk_drew ?_ | refine blk_alloc ?_ _)); refine blk_far ?_ NB268_278.out _; (with_reducible repeat (first | refine blk_drewN ?_ _ | refine blk_drew ?_ | refine blk_alloc ?_ _)); exact BK268.out) hb); have n4_ := Aside0.mk (blk_below (g := gb278) (o := .cells #[.int .i64 t269, .int .i64 t270, .int .i64 t271, .int .i64 t272, .int .i64 t273, .int .i64 t274, .int .i64 t275, .int .i64 t276] 38 (0, 0)) (by (with_reducible repeat (first | refine blk_drewN ?_ _ | refine blk_drew ?_ | refine blk_alloc ?_ _)); refine blk_put (cs := #[.int .i64 t269, .int .i64 t270, .int .i64 t271, .int .i64 t272, .int .i64 t273, .int .i64 t274, .int .i64 t275, .int .i64 0]) ?_ 7 _ rfl; (with_reducible repeat (first | refine blk_drewN ?_ _ | refine blk_drew ?_ | refine blk_alloc ?_ _)); refine blk_put (cs := #[.int .i64 t269, .int .i64 t270, .int .i64 t271, .int .i64 t272, .int .i64 t273, .int .i64 t274, .int .i64 0, .int .i64 0]) ?_ 6 _ rfl; (with_reducible repeat (first | refine blk_drewN ?_ _ | refine blk_drew ?_ | refine blk_alloc ?_ _)); refine blk_put (cs := #[.int .i64 t269, .int .i64 t270, .int .i64 t271, .int .i64 t272, .int .i64 t273, .int .i64 0, .int .i64 0, .int .i64 0]) ?_ 5 _ rfl; (with_reducible repeat (first | refine blk_drewN ?_ _ | refine blk_drew ?_ | refine blk_alloc ?_ _)); refine blk_put (cs := #[.int .i64 t269, .int .i64 t270, .int .i64 t271, .int .i64 t272, .int .i64 0, .int .i64 0, .int .i64 0, .int .i64 0]) ?_ 4 _ rfl; (with_reducible repeat (first | refine blk_drewN ?_ _ | refine blk_drew ?_ | refine blk_alloc ?_ _)); refine blk_put (cs := #[.int .i64 t269, .int .i64 t270, .int .i64 t271, .int .i64 0, .int .i64 0, .int .i64 0, .int .i64 0, .int .i64 0]) ?_ 3 _ rfl; (with_reducible repeat (first | refine blk_drewN ?_ _ | refine blk_drew ?_ | refine blk_alloc ?_ _)); refine blk_put (cs := #[.int .i64 t269, .int .i64 t270, .int .i64 0, .int .i64 0, .int .i64 0, .int .i64 0, .int .i64 0, .int .i64 0]) ?_ 2 _ rfl; (with_reducible repeat (first | refine blk_drewN ?_ _ | refine blk_drew ?_ | refine blk_alloc ?_ _)); refine blk_put (cs := #[.int .i64 t269, .int .i64 0, .int .i64 0, .int .i64 0, .int .i64 0, .int .i64 0, .int .i64 0, .int .i64 0]) ?_ 1 _ rfl; (with_reducible repeat (first | refine blk_drewN ?_ _ | refine blk_drew ?_ | refine blk_alloc ?_ _)); refine blk_put (cs := #[.int .i64 0, .int .i64 0, .int .i64 0, .int .i64 0, .int .i64 0, .int .i64 0, .int .i64 0, .int .i64 0]) ?_ 0 _ rfl; (with_reducible repeat (first | refine blk_drewN ?_ _ | refine blk_drew ?_ | refine blk_alloc ?_ _)); exact BK278.out) hb); have n5_ := Aside0.mk (below_step (by repeat (first | (with_reducible first | exact HB.out | apply below_alloc | apply pw_below_drewN | apply below_drew1 | refine below_set ?_ GE260.out | refine below_set ?_ GE267.out | refine below_set ?_ GE268.out | refine below_set ?_ GE278.out) | exact HB.out)) hb); clear HO266; clear BK260; clear BK267; clear BK268; clear BK278; clear HB; have HO266 := n0_; have BK260 := n1_; have BK267 := n2_; have BK268 := n3_; have BK278 := n4_; have HB := n5_; clear n0_ n1_ n2_ n3_ n4_ n5_; (try clear hb); (try clear hb2); (try clear hk); (try clear hi)))
        go_meet
        case rel => exact ⟨_, (decide (a0_10 > 1024)), (by first | rfl | (simp; done) | (simp [*]; done)), H', ⟨by first | omega | exact Nat.le_refl _⟩, ⟨by (with_reducible repeat (first | apply Kd.V_alloc | apply Kd.V_drewN | apply Kd.V_drew)); exact Kd.V_mono HO266.out (fun _ hk => ⟨hk.1.1, ⟨hk.1.2.1, ⟨hk.1.2.2, hk.2⟩⟩⟩)⟩, ⟨by (with_reducible repeat (first | refine blk_drewN ?_ _ | refine blk_drew ?_ | refine blk_alloc ?_ _)); exact BK260.out⟩, ⟨by (with_reducible repeat (first | refine blk_drewN ?_ _ | refine blk_drew ?_ | refine blk_alloc ?_ _)); exact BK267.out⟩, ⟨by (with_reducible repeat (first | refine blk_drewN ?_ _ | refine blk_drew ?_ | refine blk_alloc ?_ _)); exact BK268.out⟩, ⟨by (with_reducible repeat (first | refine blk_drewN ?_ _ | refine blk_drew ?_ | refine blk_alloc ?_ _)); exact BK278.out⟩, ⟨by repeat (first | (with_reducible first | exact HB.out | apply below_alloc | apply pw_below_drewN | apply below_drew1 | refine below_set ?_ GE260.out | refine below_set ?_ GE267.out | refine below_set ?_ GE268.out | refine below_set ?_ GE278.out) | exact HB.out)⟩⟩
    · replace c34 := Bool.eq_false_iff.mpr c34
      subst c34
      have H1 : (bivouaclaw16_ShotFlies.j0 k a0_10 t277 true t261 t262 t263 t264 a0_4 a0_5 a0_6 a0_7 a0_8 a0_9 t269 t270 t271 t272 t273 t274 t275 t276) = some r := by rw [if_neg (show ¬ (false = true) by decide)] at H; exact H
      clear H
      have H := H1
      clear H1
      have H' := Aside0.mk H
      clear H
      have hnb52 := NB267_260.out
      have hnc52 := NB260_267.out
      have hnb53 := NB267_268.out
      have hnc53 := NB268_267.out
      have hnb54 := NB267_278.out
      have hnc54 := NB278_267.out
      have hcz55_0 : w28.cell? ⟨gb267, 0, none⟩ = some (.int .i64 t261) := (blk_cell BK267.out 0).trans rfl
      have hcz55_1 : w28.cell? ⟨gb267, 1, none⟩ = some (.int .i64 t262) := (blk_cell BK267.out 1).trans rfl
      have hcz55_2 : w28.cell? ⟨gb267, 2, none⟩ = some (.int .i64 t263) := (blk_cell BK267.out 2).trans rfl
      have hcz55_3 : w28.cell? ⟨gb267, 3, none⟩ = some (.slice Ao14 t264.length co14) := (blk_cell BK267.out 3).trans rfl
      have hfz55_0 := blk_frozen BK267.out 0
      have hfz55_1 := blk_frozen BK267.out 1
      have hfz55_2 := blk_frozen BK267.out 2
      have hfz55_3 := blk_frozen BK267.out 3
      have hnb56 := NB268_260.out
      have hnc56 := NB260_268.out
      have hnb57 := NB268_278.out
      have hnc57 := NB278_268.out
      have hcz58_0 : w28.cell? ⟨gb268, 0, none⟩ = some (.int .i64 a0_4) := (blk_cell BK268.out 0).trans rfl
      have hcz58_1 : w28.cell? ⟨gb268, 1, none⟩ = some (.int .i64 a0_5) := (blk_cell BK268.out 1).trans rfl
      have hcz58_2 : w28.cell? ⟨gb268, 2, none⟩ = some (.int .i64 a0_6) := (blk_cell BK268.out 2).trans rfl
      have hcz58_3 : w28.cell? ⟨gb268, 3, none⟩ = some (.int .i64 a0_7) := (blk_cell BK268.out 3).trans rfl
      have hcz58_4 : w28.cell? ⟨gb268, 4, none⟩ = some (.int .i64 a0_8) := (blk_cell BK268.out 4).trans rfl
      have hcz58_5 : w28.cell? ⟨gb268, 5, none⟩ = some (.int .i64 a0_9) := (blk_cell BK268.out 5).trans rfl
      have hfz58_0 := blk_frozen BK268.out 0
      have hfz58_1 := blk_frozen BK268.out 1
      have hfz58_2 := blk_frozen BK268.out 2
      have hfz58_3 := blk_frozen BK268.out 3
      have hfz58_4 := blk_frozen BK268.out 4
      have hfz58_5 := blk_frozen BK268.out 5
      go_wp2_with (first | ((with_reducible refine gate_callee (f := 13) rfl ?_); refine goesL_ (some 24) rfl rfl Try.func13 (by kernel_rfl) rfl #[.agg #[.int .i64 t261, .int .i64 t262, .int .i64 t263, .slice Ao14 t264.length co14], .agg #[.int .i64 a0_4, .int .i64 a0_5, .int .i64 a0_6, .int .i64 a0_7, .int .i64 a0_8, .int .i64 a0_9]] rfl (by (try simp only [List.map_toArray, List.map_cons, List.map_nil]); first | done | rfl | (simp only [List.length_drop, List.length_take]; rfl)) ?_; (with_reducible refine (bivouacref16_May.calls k t261 t262 t263 _ _ t264 a0_4 a0_5 a0_6 a0_7 a0_8 a0_9 false _ ?side1 ?side2 A33.out).mono ?_); (case side1 => refine (Kd.V_reads' (e := 5) (base := w.heap.size) (ok := fun k_ => ((k_ ≠ gb260 ∧ (k_ ≠ gb267 ∧ k_ ≠ gb268)) ∧ k_ ≠ gb278)) (n := t264.length) (c := co14) ?_).2.2; exact (by (with_reducible repeat (first | apply Kd.V_alloc | apply Kd.V_drewN | apply Kd.V_drew)); exact (Kd.V_mono (Kd.V_far (p := ⟨gb278, 7, none⟩) (Kd.V_far (p := ⟨gb278, 6, none⟩) (Kd.V_far (p := ⟨gb278, 5, none⟩) (Kd.V_far (p := ⟨gb278, 4, none⟩) (Kd.V_far (p := ⟨gb278, 3, none⟩) (Kd.V_far (p := ⟨gb278, 2, none⟩) (Kd.V_far (p := ⟨gb278, 1, none⟩) (Kd.V_far (p := ⟨gb278, 0, none⟩) (Kd.V_mono HO266.out (fun k_ hk => (⟨hk, hk.2⟩ : _ ∧ k_ ≠ gb278))) (fun _ hk => hk.2) (.int .i64 t269)) (fun _ hk => hk.2) (.int .i64 t270)) (fun _ hk => hk.2) (.int .i64 t271)) (fun _ hk => hk.2) (.int .i64 t272)) (fun _ hk => hk.2) (.int .i64 t273)) (fun _ hk => hk.2) (.int .i64 t274)) (fun _ hk => hk.2) (.int .i64 t275)) (fun _ hk => hk.2) (.int .i64 t276)) (fun _ h_ => h_.1)))); (case side2 => exact (Kd.V_reads' HO266.out).2.1); rintro e w59 ⟨rfl, hb⟩; refine ⟨_, rfl, ?_⟩; have n0_ := Aside0.mk (Kd.V_below (by (with_reducible repeat (first | apply Kd.V_alloc | apply Kd.V_drewN | apply Kd.V_drew)); exact (Kd.V_mono (Kd.V_far (p := ⟨gb278, 7, none⟩) (Kd.V_far (p := ⟨gb278, 6, none⟩) (Kd.V_far (p := ⟨gb278, 5, none⟩) (Kd.V_far (p := ⟨gb278, 4, none⟩) (Kd.V_far (p := ⟨gb278, 3, none⟩) (Kd.V_far (p := ⟨gb278, 2, none⟩) (Kd.V_far (p := ⟨gb278, 1, none⟩) (Kd.V_far (p := ⟨gb278, 0, none⟩) (Kd.V_mono HO266.out (fun k_ hk => (⟨hk, hk.2⟩ : _ ∧ k_ ≠ gb278))) (fun _ hk => hk.2) (.int .i64 t269)) (fun _ hk => hk.2) (.int .i64 t270)) (fun _ hk => hk.2) (.int .i64 t271)) (fun _ hk => hk.2) (.int .i64 t272)) (fun _ hk => hk.2) (.int .i64 t273)) (fun _ hk => hk.2) (.int .i64 t274)) (fun _ hk => hk.2) (.int .i64 t275)) (fun _ hk => hk.2) (.int .i64 t276)) (fun _ h_ => h_.1))) hb); have n1_ := Aside0.mk (blk_below (g := gb260) (o := .cells #[.int .i64 a0_0, .int .i64 a0_1, .int .i64 a0_2, .slice A0_3 l0_3.length c0_3, .int .i64 a0_4, .int .i64 a0_5, .int .i64 a0_6, .int .i64 a0_7, .int .i64 a0_8, .int .i64 a0_9, .int .i64 a0_10, .int .u8 a0_11] 36 (0, 0)) (by (with_reducible repeat (first | refine blk_drewN ?_ _ | refine blk_drew ?_ | refine blk_alloc ?_ _)); refine blk_far ?_ NB260_278.out _; (with_reducible repeat (first | refine blk_drewN ?_ _ | refine blk_drew ?_ | refine blk_alloc ?_ _)); refine blk_far ?_ NB260_278.out _; (with_reducible repeat (first | refine blk_drewN ?_ _ | refine blk_drew ?_ | refine blk_alloc ?_ _)); refine blk_far ?_ NB260_278.out _; (with_reducible repeat (first | refine blk_drewN ?_ _ | refine blk_drew ?_ | refine blk_alloc ?_ _)); refine blk_far ?_ NB260_278.out _; (with_reducible repeat (first | refine blk_drewN ?_ _ | refine blk_drew ?_ | refine blk_alloc ?_ _)); refine blk_far ?_ NB260_278.out _; (with_reducible repeat (first | refine blk_drewN ?_ _ | refine blk_drew ?_ | refine blk_alloc ?_ _)); refine blk_far ?_ NB260_278.out _; (with_reducible repeat (first | refine blk_drewN ?_ _ | refine blk_drew ?_ | refine blk_alloc ?_ _)); refine blk_far ?_ NB260_278.out _; (with_reducible repeat (first | refine blk_drewN ?_ _ | refine blk_drew ?_ | refine blk_alloc ?_ _)); refine blk_far ?_ NB260_278.out _; (with_reducible repeat (first | refine blk_drewN ?_ _ | refine blk_drew ?_ | refine blk_alloc ?_ _)); exact BK260.out) hb); have n2_ := Aside0.mk (blk_below (g := gb267) (o := .cells #[.int .i64 t261, .int .i64 t262, .int .i64 t263, .slice Ao14 t264.length co14] 25 (0, 0)) (by (with_reducible repeat (first | refine blk_drewN ?_ _ | refine blk_drew ?_ | refine blk_alloc ?_ _)); refine blk_far ?_ NB267_278.out _; (with_reducible repeat (first | refine blk_drewN ?_ _ | refine blk_drew ?_ | refine blk_alloc ?_ _)); refine blk_far ?_ NB267_278.out _; (with_reducible repeat (first | refine blk_drewN ?_ _ | refine blk_drew ?_ | refine blk_alloc ?_ _)); refine blk_far ?_ NB267_278.out _; (with_reducible repeat (first | refine blk_drewN ?_ _ | refine blk_drew ?_ | refine blk_alloc ?_ _)); refine blk_far ?_ NB267_278.out _; (with_reducible repeat (first | refine blk_drewN ?_ _ | refine blk_drew ?_ | refine blk_alloc ?_ _)); refine blk_far ?_ NB267_278.out _; (with_reducible repeat (first | refine blk_drewN ?_ _ | refine blk_drew ?_ | refine blk_alloc ?_ _)); refine blk_far ?_ NB267_278.out _; (with_reducible repeat (first | refine blk_drewN ?_ _ | refine blk_drew ?_ | refine blk_alloc ?_ _)); refine blk_far ?_ NB267_278.out _; (with_reducible repeat (first | refine blk_drewN ?_ _ | refine blk_drew ?_ | refine blk_alloc ?_ _)); refine blk_far ?_ NB267_278.out _; (with_reducible repeat (first | refine blk_drewN ?_ _ | refine blk_drew ?_ | refine blk_alloc ?_ _)); exact BK267.out) hb); have n3_ := Aside0.mk (blk_below (g := gb268) (o := .cells #[.int .i64 a0_4, .int .i64 a0_5, .int .i64 a0_6, .int .i64 a0_7, .int .i64 a0_8, .int .i64 a0_9] 27 (0, 0)) (by (with_reducible repeat (first | refine blk_drewN ?_ _ | refine blk_drew ?_ | refine blk_alloc ?_ _)); refine blk_far ?_ NB268_278.out _; (with_reducible repeat (first | refine blk_drewN ?_ _ | refine blk_drew ?_ | refine blk_alloc ?_ _)); refine blk_far ?_ NB268_278.out _; (with_reducible repeat (first | refine blk_drewN ?_ _ | refine blk_drew ?_ | refine blk_alloc ?_ _)); refine blk_far ?_ NB268_278.out _; (with_reducible repeat (first | refine blk_drewN ?_ _ | refine blk_drew ?_ | refine blk_alloc ?_ _)); refine blk_far ?_ NB268_278.out _; (with_reducible repeat (first | refine blk_drewN ?_ _ | refine blk_drew ?_ | refine blk_alloc ?_ _)); refine blk_far ?_ NB268_278.out _; (with_reducible repeat (first | refine blk_drewN ?_ _ | refine blk_drew ?_ | refine blk_alloc ?_ _)); refine blk_far ?_ NB268_278.out _; (with_reducible repeat (first | refine blk_drewN ?_ _ | refine blk_drew ?_ | refine blk_alloc ?_ _)); refine blk_far ?_ NB268_278.out _; (with_reducible repeat (first | refine blk_drewN ?_ _ | refine blk_drew ?_ | refine blk_alloc ?_ _)); refine blk_far ?_ NB268_278.out _; (with_reducible repeat (first | refine blk_drewN ?_ _ | refine blk_drew ?_ | refine blk_alloc ?_ _)); exact BK268.out) hb); have n4_ := Aside0.mk (blk_below (g := gb278) (o := .cells #[.int .i64 t269, .int .i64 t270, .int .i64 t271, .int .i64 t272, .int .i64 t273, .int .i64 t274, .int .i64 t275, .int .i64 t276] 38 (0, 0)) (by (with_reducible repeat (first | refine blk_drewN ?_ _ | refine blk_drew ?_ | refine blk_alloc ?_ _)); refine blk_put (cs := #[.int .i64 t269, .int .i64 t270, .int .i64 t271, .int .i64 t272, .int .i64 t273, .int .i64 t274, .int .i64 t275, .int .i64 0]) ?_ 7 _ rfl; (with_reducible repeat (first | refine blk_drewN ?_ _ | refine blk_drew ?_ | refine blk_alloc ?_ _)); refine blk_put (cs := #[.int .i64 t269, .int .i64 t270, .int .i64 t271, .int .i64 t272, .int .i64 t273, .int .i64 t274, .int .i64 0, .int .i64 0]) ?_ 6 _ rfl; (with_reducible repeat (first | refine blk_drewN ?_ _ | refine blk_drew ?_ | refine blk_alloc ?_ _)); refine blk_put (cs := #[.int .i64 t269, .int .i64 t270, .int .i64 t271, .int .i64 t272, .int .i64 t273, .int .i64 0, .int .i64 0, .int .i64 0]) ?_ 5 _ rfl; (with_reducible repeat (first | refine blk_drewN ?_ _ | refine blk_drew ?_ | refine blk_alloc ?_ _)); refine blk_put (cs := #[.int .i64 t269, .int .i64 t270, .int .i64 t271, .int .i64 t272, .int .i64 0, .int .i64 0, .int .i64 0, .int .i64 0]) ?_ 4 _ rfl; (with_reducible repeat (first | refine blk_drewN ?_ _ | refine blk_drew ?_ | refine blk_alloc ?_ _)); refine blk_put (cs := #[.int .i64 t269, .int .i64 t270, .int .i64 t271, .int .i64 0, .int .i64 0, .int .i64 0, .int .i64 0, .int .i64 0]) ?_ 3 _ rfl; (with_reducible repeat (first | refine blk_drewN ?_ _ | refine blk_drew ?_ | refine blk_alloc ?_ _)); refine blk_put (cs := #[.int .i64 t269, .int .i64 t270, .int .i64 0, .int .i64 0, .int .i64 0, .int .i64 0, .int .i64 0, .int .i64 0]) ?_ 2 _ rfl; (with_reducible repeat (first | refine blk_drewN ?_ _ | refine blk_drew ?_ | refine blk_alloc ?_ _)); refine blk_put (cs := #[.int .i64 t269, .int .i64 0, .int .i64 0, .int .i64 0, .int .i64 0, .int .i64 0, .int .i64 0, .int .i64 0]) ?_ 1 _ rfl; (with_reducible repeat (first | refine blk_drewN ?_ _ | refine blk_drew ?_ | refine blk_alloc ?_ _)); refine blk_put (cs := #[.int .i64 0, .int .i64 0, .int .i64 0, .int .i64 0, .int .i64 0, .int .i64 0, .int .i64 0, .int .i64 0]) ?_ 0 _ rfl; (with_reducible repeat (first | refine blk_drewN ?_ _ | refine blk_drew ?_ | refine blk_alloc ?_ _)); exact BK278.out) hb); have n5_ := Aside0.mk (below_step (by repeat (first | (with_reducible first | exact HB.out | apply below_alloc | apply pw_below_drewN | apply below_drew1 | refine below_set ?_ GE260.out | refine below_set ?_ GE267.out | refine below_set ?_ GE268.out | refine below_set ?_ GE278.out) | exact HB.out)) hb); clear HO266; clear BK260; clear BK267; clear BK268; clear BK278; clear HB; have HO266 := n0_; have BK260 := n1_; have BK267 := n2_; have BK268 := n3_; have BK278 := n4_; have HB := n5_; clear n0_ n1_ n2_ n3_ n4_ n5_; (try clear hb); (try clear hb2); (try clear hk); (try clear hi)))
      go_meet
      case rel => exact ⟨_, (true), (by first | rfl | (simp; done) | (simp [*]; done)), H', ⟨by first | omega | exact Nat.le_refl _⟩, ⟨by (with_reducible repeat (first | apply Kd.V_alloc | apply Kd.V_drewN | apply Kd.V_drew)); exact Kd.V_mono HO266.out (fun _ hk => ⟨hk.1.1, ⟨hk.1.2.1, ⟨hk.1.2.2, hk.2⟩⟩⟩)⟩, ⟨by (with_reducible repeat (first | refine blk_drewN ?_ _ | refine blk_drew ?_ | refine blk_alloc ?_ _)); exact BK260.out⟩, ⟨by (with_reducible repeat (first | refine blk_drewN ?_ _ | refine blk_drew ?_ | refine blk_alloc ?_ _)); exact BK267.out⟩, ⟨by (with_reducible repeat (first | refine blk_drewN ?_ _ | refine blk_drew ?_ | refine blk_alloc ?_ _)); exact BK268.out⟩, ⟨by (with_reducible repeat (first | refine blk_drewN ?_ _ | refine blk_drew ?_ | refine blk_alloc ?_ _)); exact BK278.out⟩, ⟨by repeat (first | (with_reducible first | exact HB.out | apply below_alloc | apply pw_below_drewN | apply below_drew1 | refine below_set ?_ GE260.out | refine below_set ?_ GE267.out | refine below_set ?_ GE268.out | refine below_set ?_ GE278.out) | exact HB.out)⟩⟩
  case rest =>
    clear HC4
    try clear c1
    try clear c2
    try clear p2
    try clear c3
    try clear c4
    try clear c5
    try clear c11
    try clear c13
    try clear c17
    try clear c22
    try clear c23
    try clear c25
    try clear c29
    try clear c30
    try clear c31
    try clear c34
    try clear c35
    try clear c35b0
    try clear c36
    try clear c37
    try clear c38
    try clear c40
    try clear c41
    try clear c44
    try clear c45
    try clear c46
    try clear c48
    try clear c49
    try clear c52
    try clear c53
    try clear c54
    try clear c56
    try clear c57
    try clear hcz24_0
    try clear hcz24_1
    try clear hcz24_2
    try clear hcz24_3
    try clear hcz26_0
    try clear hcz26_1
    try clear hcz26_2
    try clear hcz26_3
    try clear hcz26_4
    try clear hcz26_5
    try clear hcz32_0
    try clear hcz32_1
    try clear hcz32_2
    try clear hcz32_3
    try clear hcz32_4
    try clear hcz32_5
    try clear hcz32_6
    try clear hcz32_7
    try clear hcz39_0
    try clear hcz39_1
    try clear hcz39_2
    try clear hcz39_3
    try clear hcz42_0
    try clear hcz42_1
    try clear hcz42_2
    try clear hcz42_3
    try clear hcz42_4
    try clear hcz42_5
    try clear hcz47_0
    try clear hcz47_1
    try clear hcz47_2
    try clear hcz47_3
    try clear hcz50_0
    try clear hcz50_1
    try clear hcz50_2
    try clear hcz50_3
    try clear hcz50_4
    try clear hcz50_5
    try clear hcz55_0
    try clear hcz55_1
    try clear hcz55_2
    try clear hcz55_3
    try clear hcz58_0
    try clear hcz58_1
    try clear hcz58_2
    try clear hcz58_3
    try clear hcz58_4
    try clear hcz58_5
    try clear hfz24_0
    try clear hfz24_1
    try clear hfz24_2
    try clear hfz24_3
    try clear hfz26_0
    try clear hfz26_1
    try clear hfz26_2
    try clear hfz26_3
    try clear hfz26_4
    try clear hfz26_5
    try clear hfz32_0
    try clear hfz32_1
    try clear hfz32_2
    try clear hfz32_3
    try clear hfz32_4
    try clear hfz32_5
    try clear hfz32_6
    try clear hfz32_7
    try clear hfz39_0
    try clear hfz39_1
    try clear hfz39_2
    try clear hfz39_3
    try clear hfz42_0
    try clear hfz42_1
    try clear hfz42_2
    try clear hfz42_3
    try clear hfz42_4
    try clear hfz42_5
    try clear hfz47_0
    try clear hfz47_1
    try clear hfz47_2
    try clear hfz47_3
    try clear hfz50_0
    try clear hfz50_1
    try clear hfz50_2
    try clear hfz50_3
    try clear hfz50_4
    try clear hfz50_5
    try clear hfz55_0
    try clear hfz55_1
    try clear hfz55_2
    try clear hfz55_3
    try clear hfz58_0
    try clear hfz58_1
    try clear hfz58_2
    try clear hfz58_3
    try clear hfz58_4
    try clear hfz58_5
    obtain ⟨kq, x33_3, rfl, HA, HJ3, HO_268003, BK260, BK267, BK268, BK278, HB⟩ := hcut
    cases kq with
    | zero => exact absurd HA.out (by simp [bivouaclaw16_ShotFlies.j0])
    | succ kj3 =>
      have H := HA.out
      clear HA
      simp only [bivouaclaw16_ShotFlies.j0] at H
      by_cases c60 : x33_3 = true
      · subst c60
        have H1 : (if (t269 == 0 && (t270 == 0 && ((t271 == 0 && (t272 == 0 && (t273 == 0 && (t274 == 0 && (t275 == 0 && (t276 == 0))))))))) = true then (if t277 = 1 then ((bivouaclaw16_awake.f).bind fun t280 => (some t280)) else (some false)) else (some false)) = some r := by rw [if_pos rfl] at H; exact H
        clear H
        have H := H1
        clear H1
        by_cases c61 : (t269 == 0 && (t270 == 0 && ((t271 == 0 && (t272 == 0 && (t273 == 0 && (t274 == 0 && (t275 == 0 && (t276 == 0))))))))) = true
        · rw [if_pos c61] at H
          have c61b0 : (t269 == 0 && (t270 == 0 && ((t271 == 0 && (t272 == 0 && (t273 == 0 && (t274 == 0 && (t275 == 0 && (t276 == 0))))))))) = true := c61
          (try (have c61b1 : decide (t269 = 0 && (t270 == 0 && ((t271 == 0 && (t272 == 0 && (t273 == 0 && (t274 == 0 && (t275 == 0 && (t276 == 0))))))))) = true := by simpa using c61))
          (try (have c61b2 : (t269 == 0 && (t270 == 0 && ((t271 == 0 && (t272 == 0 && (t273 == 0 && (t274 == 0 && (t275 == 0 && (t276 == 0))))))))) = true := by simpa using c61))
          clear c61
          by_cases c62 : t277 = 1
          · rw [if_pos c62] at H
            have c62b0 : (t277 == 1) = true := beq_iff_eq.mpr c62
            have c62b1 : (t277 != 1) = false := bne_eq_false_iff_eq.mpr c62
            clear c62
            replace H := Option.bind_eq_some_iff.mp H
            obtain ⟨t280, A630, H⟩ := H
            replace H : (some t280) = some r := H
            have A63 := Aside0.mk A630
            clear A630
            obtain rfl := Option.some.inj H
            have hnb64 := NB278_260.out
            have hnc64 := NB260_278.out
            have hnb65 := NB278_267.out
            have hnc65 := NB267_278.out
            have hnb66 := NB278_268.out
            have hnc66 := NB268_278.out
            have hcz67_0 : wc.cell? ⟨gb278, 0, none⟩ = some (.int .i64 t269) := (blk_cell BK278.out 0).trans rfl
            have hcz67_1 : wc.cell? ⟨gb278, 1, none⟩ = some (.int .i64 t270) := (blk_cell BK278.out 1).trans rfl
            have hcz67_2 : wc.cell? ⟨gb278, 2, none⟩ = some (.int .i64 t271) := (blk_cell BK278.out 2).trans rfl
            have hcz67_3 : wc.cell? ⟨gb278, 3, none⟩ = some (.int .i64 t272) := (blk_cell BK278.out 3).trans rfl
            have hcz67_4 : wc.cell? ⟨gb278, 4, none⟩ = some (.int .i64 t273) := (blk_cell BK278.out 4).trans rfl
            have hcz67_5 : wc.cell? ⟨gb278, 5, none⟩ = some (.int .i64 t274) := (blk_cell BK278.out 5).trans rfl
            have hcz67_6 : wc.cell? ⟨gb278, 6, none⟩ = some (.int .i64 t275) := (blk_cell BK278.out 6).trans rfl
            have hcz67_7 : wc.cell? ⟨gb278, 7, none⟩ = some (.int .i64 t276) := (blk_cell BK278.out 7).trans rfl
            have hfz67_0 := blk_frozen BK278.out 0
            have hfz67_1 := blk_frozen BK278.out 1
            have hfz67_2 := blk_frozen BK278.out 2
            have hfz67_3 := blk_frozen BK278.out 3
            have hfz67_4 := blk_frozen BK278.out 4
            have hfz67_5 := blk_frozen BK278.out 5
            have hfz67_6 := blk_frozen BK278.out 6
            have hfz67_7 := blk_frozen BK278.out 7
            go_wp2_with (first | (go_at_call 10; (with_reducible refine (bivouaclaw16_awake.calls  t280 _ A63.out).mono ?_); rintro e w68 ⟨rfl, hb⟩; have n0_ := Aside0.mk (Kd.V_below (by (with_reducible repeat (first | apply Kd.V_alloc | apply Kd.V_drewN | apply Kd.V_drew)); exact HO_268003.out) hb); have n1_ := Aside0.mk (blk_below (g := gb260) (o := .cells #[.int .i64 a0_0, .int .i64 a0_1, .int .i64 a0_2, .slice A0_3 l0_3.length c0_3, .int .i64 a0_4, .int .i64 a0_5, .int .i64 a0_6, .int .i64 a0_7, .int .i64 a0_8, .int .i64 a0_9, .int .i64 a0_10, .int .u8 a0_11] 36 (0, 0)) (by (with_reducible repeat (first | refine blk_drewN ?_ _ | refine blk_drew ?_ | refine blk_alloc ?_ _)); exact BK260.out) hb); have n2_ := Aside0.mk (blk_below (g := gb267) (o := .cells #[.int .i64 t261, .int .i64 t262, .int .i64 t263, .slice Ao14 t264.length co14] 25 (0, 0)) (by (with_reducible repeat (first | refine blk_drewN ?_ _ | refine blk_drew ?_ | refine blk_alloc ?_ _)); exact BK267.out) hb); have n3_ := Aside0.mk (blk_below (g := gb268) (o := .cells #[.int .i64 a0_4, .int .i64 a0_5, .int .i64 a0_6, .int .i64 a0_7, .int .i64 a0_8, .int .i64 a0_9] 27 (0, 0)) (by (with_reducible repeat (first | refine blk_drewN ?_ _ | refine blk_drew ?_ | refine blk_alloc ?_ _)); exact BK268.out) hb); have n4_ := Aside0.mk (blk_below (g := gb278) (o := .cells #[.int .i64 t269, .int .i64 t270, .int .i64 t271, .int .i64 t272, .int .i64 t273, .int .i64 t274, .int .i64 t275, .int .i64 t276] 38 (0, 0)) (by (with_reducible repeat (first | refine blk_drewN ?_ _ | refine blk_drew ?_ | refine blk_alloc ?_ _)); exact BK278.out) hb); have n5_ := Aside0.mk (below_step (by repeat (first | (with_reducible first | exact HB.out | apply below_alloc | apply pw_below_drewN | apply below_drew1 | refine below_set ?_ GE260.out | refine below_set ?_ GE267.out | refine below_set ?_ GE268.out | refine below_set ?_ GE278.out) | exact HB.out)) hb); clear HO_268003; clear BK260; clear BK267; clear BK268; clear BK278; clear HB; have HO_268003 := n0_; have BK260 := n1_; have BK267 := n2_; have BK268 := n3_; have BK278 := n4_; have HB := n5_; clear n0_ n1_ n2_ n3_ n4_ n5_; (try clear hb); (try clear hb2); (try clear hk); (try clear hi)))
            go_ret
            exact ⟨by first | rfl | (simp [errW_none, errW_some] <;> rfl) | (simp [*, errW_none, errW_some] <;> rfl) | (rw [Int.tdiv_eq_ediv_of_nonneg (by assumption)]; rfl), by repeat (first | (with_reducible first | exact HB.out | apply below_alloc | apply pw_below_drewN | apply below_drew1 | refine below_set ?_ GE260.out | refine below_set ?_ GE267.out | refine below_set ?_ GE268.out | refine below_set ?_ GE278.out) | exact HB.out)⟩
          · rw [if_neg c62] at H
            have c62b0 : (t277 == 1) = false := beq_eq_false_iff_ne.mpr c62
            have c62b1 : (t277 != 1) = true := bne_iff_ne.mpr c62
            obtain rfl := Option.some.inj H
            have hnb69 := NB278_260.out
            have hnc69 := NB260_278.out
            have hnb70 := NB278_267.out
            have hnc70 := NB267_278.out
            have hnb71 := NB278_268.out
            have hnc71 := NB268_278.out
            have hcz72_0 : wc.cell? ⟨gb278, 0, none⟩ = some (.int .i64 t269) := (blk_cell BK278.out 0).trans rfl
            have hcz72_1 : wc.cell? ⟨gb278, 1, none⟩ = some (.int .i64 t270) := (blk_cell BK278.out 1).trans rfl
            have hcz72_2 : wc.cell? ⟨gb278, 2, none⟩ = some (.int .i64 t271) := (blk_cell BK278.out 2).trans rfl
            have hcz72_3 : wc.cell? ⟨gb278, 3, none⟩ = some (.int .i64 t272) := (blk_cell BK278.out 3).trans rfl
            have hcz72_4 : wc.cell? ⟨gb278, 4, none⟩ = some (.int .i64 t273) := (blk_cell BK278.out 4).trans rfl
            have hcz72_5 : wc.cell? ⟨gb278, 5, none⟩ = some (.int .i64 t274) := (blk_cell BK278.out 5).trans rfl
            have hcz72_6 : wc.cell? ⟨gb278, 6, none⟩ = some (.int .i64 t275) := (blk_cell BK278.out 6).trans rfl
            have hcz72_7 : wc.cell? ⟨gb278, 7, none⟩ = some (.int .i64 t276) := (blk_cell BK278.out 7).trans rfl
            have hfz72_0 := blk_frozen BK278.out 0
            have hfz72_1 := blk_frozen BK278.out 1
            have hfz72_2 := blk_frozen BK278.out 2
            have hfz72_3 := blk_frozen BK278.out 3
            have hfz72_4 := blk_frozen BK278.out 4
            have hfz72_5 := blk_frozen BK278.out 5
            have hfz72_6 := blk_frozen BK278.out 6
            have hfz72_7 := blk_frozen BK278.out 7
            go_wp2
            go_ret
            exact ⟨by first | rfl | (simp [errW_none, errW_some] <;> rfl) | (simp [*, errW_none, errW_some] <;> rfl) | (rw [Int.tdiv_eq_ediv_of_nonneg (by assumption)]; rfl), by repeat (first | (with_reducible first | exact HB.out | apply below_alloc | apply pw_below_drewN | apply below_drew1 | refine below_set ?_ GE260.out | refine below_set ?_ GE267.out | refine below_set ?_ GE268.out | refine below_set ?_ GE278.out) | exact HB.out)⟩
        · rw [if_neg c61] at H
          have c61b0 : (t269 == 0 && (t270 == 0 && ((t271 == 0 && (t272 == 0 && (t273 == 0 && (t274 == 0 && (t275 == 0 && (t276 == 0))))))))) = false := by simpa using c61
          (try (have c61b1 : decide (t269 = 0 && (t270 == 0 && ((t271 == 0 && (t272 == 0 && (t273 == 0 && (t274 == 0 && (t275 == 0 && (t276 == 0))))))))) = false := by simpa using c61))
          (try (have c61b2 : (t269 == 0 && (t270 == 0 && ((t271 == 0 && (t272 == 0 && (t273 == 0 && (t274 == 0 && (t275 == 0 && (t276 == 0))))))))) = false := by simpa using c61))
          (try (have c61b3 : ¬ (t269 = 0 && (t270 == 0 && ((t271 == 0 && (t272 == 0 && (t273 == 0 && (t274 == 0 && (t275 == 0 && (t276 == 0))))))))) := by simpa using c61))
          clear c61
          obtain rfl := Option.some.inj H
          have hnb73 := NB278_260.out
          have hnc73 := NB260_278.out
          have hnb74 := NB278_267.out
          have hnc74 := NB267_278.out
          have hnb75 := NB278_268.out
          have hnc75 := NB268_278.out
          have hcz76_0 : wc.cell? ⟨gb278, 0, none⟩ = some (.int .i64 t269) := (blk_cell BK278.out 0).trans rfl
          have hcz76_1 : wc.cell? ⟨gb278, 1, none⟩ = some (.int .i64 t270) := (blk_cell BK278.out 1).trans rfl
          have hcz76_2 : wc.cell? ⟨gb278, 2, none⟩ = some (.int .i64 t271) := (blk_cell BK278.out 2).trans rfl
          have hcz76_3 : wc.cell? ⟨gb278, 3, none⟩ = some (.int .i64 t272) := (blk_cell BK278.out 3).trans rfl
          have hcz76_4 : wc.cell? ⟨gb278, 4, none⟩ = some (.int .i64 t273) := (blk_cell BK278.out 4).trans rfl
          have hcz76_5 : wc.cell? ⟨gb278, 5, none⟩ = some (.int .i64 t274) := (blk_cell BK278.out 5).trans rfl
          have hcz76_6 : wc.cell? ⟨gb278, 6, none⟩ = some (.int .i64 t275) := (blk_cell BK278.out 6).trans rfl
          have hcz76_7 : wc.cell? ⟨gb278, 7, none⟩ = some (.int .i64 t276) := (blk_cell BK278.out 7).trans rfl
          have hfz76_0 := blk_frozen BK278.out 0
          have hfz76_1 := blk_frozen BK278.out 1
          have hfz76_2 := blk_frozen BK278.out 2
          have hfz76_3 := blk_frozen BK278.out 3
          have hfz76_4 := blk_frozen BK278.out 4
          have hfz76_5 := blk_frozen BK278.out 5
          have hfz76_6 := blk_frozen BK278.out 6
          have hfz76_7 := blk_frozen BK278.out 7
          go_wp2
          go_ret
          exact ⟨by first | rfl | (simp [errW_none, errW_some] <;> rfl) | (simp [*, errW_none, errW_some] <;> rfl) | (rw [Int.tdiv_eq_ediv_of_nonneg (by assumption)]; rfl), by repeat (first | (with_reducible first | exact HB.out | apply below_alloc | apply pw_below_drewN | apply below_drew1 | refine below_set ?_ GE260.out | refine below_set ?_ GE267.out | refine below_set ?_ GE268.out | refine below_set ?_ GE278.out) | exact HB.out)⟩
      · replace c60 := Bool.eq_false_iff.mpr c60
        subst c60
        have H1 : ((bivouacref16_Fly.f kj3 t261 t262 t263 t264 a0_4 a0_5 a0_6 a0_7 a0_8 a0_9 a0_10).bind fun bt281 => (if (t269 == bt281.1 && (t270 == bt281.2.1 && ((t271 == bt281.2.2.1 && (t272 == bt281.2.2.2.1 && (t273 == bt281.2.2.2.2.1 && (t274 == bt281.2.2.2.2.2.1 && (t275 == bt281.2.2.2.2.2.2.1 && (t276 == bt281.2.2.2.2.2.2.2))))))))) = true then (if t277 = 0 then ((bivouaclaw16_awake.f).bind fun t289 => (some t289)) else (some false)) else (some false))) = some r := by rw [if_neg (show ¬ (false = true) by decide)] at H; exact H
        clear H
        have H := H1
        clear H1
        replace H := Option.bind_eq_some_iff.mp H
        obtain ⟨⟨t281, t282, t283, t284, t285, t286, t287, t288⟩, A770, H⟩ := H
        replace H : (if (t269 == t281 && (t270 == t282 && ((t271 == t283 && (t272 == t284 && (t273 == t285 && (t274 == t286 && (t275 == t287 && (t276 == t288))))))))) = true then (if t277 = 0 then ((bivouaclaw16_awake.f).bind fun t289 => (some t289)) else (some false)) else (some false)) = some r := H
        have A77 := Aside0.mk A770
        clear A770
        by_cases c78 : (t269 == t281 && (t270 == t282 && ((t271 == t283 && (t272 == t284 && (t273 == t285 && (t274 == t286 && (t275 == t287 && (t276 == t288))))))))) = true
        · rw [if_pos c78] at H
          have c78b0 : (t269 == t281 && (t270 == t282 && ((t271 == t283 && (t272 == t284 && (t273 == t285 && (t274 == t286 && (t275 == t287 && (t276 == t288))))))))) = true := c78
          (try (have c78b1 : decide (t269 = t281 && (t270 == t282 && ((t271 == t283 && (t272 == t284 && (t273 == t285 && (t274 == t286 && (t275 == t287 && (t276 == t288))))))))) = true := by simpa using c78))
          (try (have c78b2 : (t269 == t281 && (t270 == t282 && ((t271 == t283 && (t272 == t284 && (t273 == t285 && (t274 == t286 && (t275 == t287 && (t276 == t288))))))))) = true := by simpa using c78))
          clear c78
          by_cases c79 : t277 = 0
          · rw [if_pos c79] at H
            have c79b0 : (t277 == 0) = true := beq_iff_eq.mpr c79
            have c79b1 : (t277 != 0) = false := bne_eq_false_iff_eq.mpr c79
            clear c79
            replace H := Option.bind_eq_some_iff.mp H
            obtain ⟨t289, A800, H⟩ := H
            replace H : (some t289) = some r := H
            have A80 := Aside0.mk A800
            clear A800
            obtain rfl := Option.some.inj H
            try go_wp2
            have n0_ := Aside0.mk (Kd.V_drew HO_268003.out)
            have n1_ := Aside0.mk (blk_drew BK260.out)
            have n2_ := Aside0.mk (blk_drew BK267.out)
            have n3_ := Aside0.mk (blk_drew BK268.out)
            have n4_ := Aside0.mk (blk_drew BK278.out)
            have n5_ := Aside0.mk (below_drew1 HB.out)
            clear HO_268003
            clear BK260
            clear BK267
            clear BK268
            clear BK278
            clear HB
            have HO_268003 := n0_
            have BK260 := n1_
            have BK267 := n2_
            have BK268 := n3_
            have BK278 := n4_
            have HB := n5_
            clear n0_ n1_ n2_ n3_ n4_ n5_
            refine start_ (n := 14) (S := fun w' => w'.cell? ⟨gb278, 0, none⟩ = some (.int .i64 t269) ∧ w'.cell? ⟨gb278, 1, none⟩ = some (.int .i64 t270) ∧ w'.cell? ⟨gb278, 2, none⟩ = some (.int .i64 t271) ∧ w'.cell? ⟨gb278, 3, none⟩ = some (.int .i64 t272) ∧ w'.cell? ⟨gb278, 4, none⟩ = some (.int .i64 t273) ∧ w'.cell? ⟨gb278, 5, none⟩ = some (.int .i64 t274) ∧ w'.cell? ⟨gb278, 6, none⟩ = some (.int .i64 t275) ∧ w'.cell? ⟨gb278, 7, none⟩ = some (.int .i64 t276) ∧ w'.cell? ⟨gb267, 0, none⟩ = some (.int .i64 t261) ∧ w'.cell? ⟨gb267, 1, none⟩ = some (.int .i64 t262) ∧ w'.cell? ⟨gb267, 2, none⟩ = some (.int .i64 t263) ∧ w'.cell? ⟨gb267, 3, none⟩ = some (.slice Ao14 t264.length co14) ∧ w'.cell? ⟨gb268, 0, none⟩ = some (.int .i64 a0_4) ∧ w'.cell? ⟨gb268, 1, none⟩ = some (.int .i64 a0_5) ∧ w'.cell? ⟨gb268, 2, none⟩ = some (.int .i64 a0_6) ∧ w'.cell? ⟨gb268, 3, none⟩ = some (.int .i64 a0_7) ∧ w'.cell? ⟨gb268, 4, none⟩ = some (.int .i64 a0_8) ∧ w'.cell? ⟨gb268, 5, none⟩ = some (.int .i64 a0_9)) (ds := []) #[false, false, false, false, false, false, false, false, false, false, false, false, false, false] (by kernel_rfl) rfl rfl ⟨(blk_cell BK278.out 0).trans rfl, (blk_cell BK278.out 1).trans rfl, (blk_cell BK278.out 2).trans rfl, (blk_cell BK278.out 3).trans rfl, (blk_cell BK278.out 4).trans rfl, (blk_cell BK278.out 5).trans rfl, (blk_cell BK278.out 6).trans rfl, (blk_cell BK278.out 7).trans rfl, (blk_cell BK267.out 0).trans rfl, (blk_cell BK267.out 1).trans rfl, (blk_cell BK267.out 2).trans rfl, (blk_cell BK267.out 3).trans rfl, (blk_cell BK268.out 0).trans rfl, (blk_cell BK268.out 1).trans rfl, (blk_cell BK268.out 2).trans rfl, (blk_cell BK268.out 3).trans rfl, (blk_cell BK268.out 4).trans rfl, (blk_cell BK268.out 5).trans rfl⟩ (fun hHeld => ?_); refine with_tabW bivouaclaw16_ShotFlies.tab5 bivouaclaw16_ShotFlies.bits5 (fun HT_ HW_ => ?_)
            generalize wc.drew = w81 at HO_268003 BK260 BK267 BK268 BK278 HB hHeld ⊢
            refine pure_ (i := 3) (N := some 47) (v := ?_) (a' := ?_) #[false, false, false, true, false, false, false, false, false, false, false, false, false, false] rfl rfl (any_of HT_.out (by kernel_rfl)) (fun _ _ _ h => h) (Or.inl ⟨by rfl, ?_⟩) ?_ ?_
            rotate_left
            · intro w'
              go_simp
              with_reducible rfl
            rotate_left
            · simp only [Act.put, List.setIfInBounds_toArray, List.set_cons_zero, List.set_cons_succ, i64_w, i32_w]
              rfl
            refine take_ (i := 0) (N := some 44) (v := ?_) (a' := ?_) #[true, false, false, true, false, false, false, false, false, false, false, false, false, false] rfl rfl (take_ofW HT_.out HW_.out (by kernel_rfl)) (fun _ _ _ h => h) (Or.inl ⟨by rfl, ?_⟩) hHeld ?_ ?_
            rotate_left
            · rintro w' ⟨s0, s1, s2, s3, s4, s5, s6, s7, s8, s9, s10, s11, s12, s13, s14, s15, s16, s17⟩
              go_simp
              with_reducible rfl
            rotate_left
            · simp only [Act.put, List.setIfInBounds_toArray, List.set_cons_zero, List.set_cons_succ, i64_w, i32_w]
              rfl
            refine take_ (i := 1) (N := some 45) (v := ?_) (a' := ?_) #[true, true, false, true, false, false, false, false, false, false, false, false, false, false] rfl rfl (take_ofW HT_.out HW_.out (by kernel_rfl)) (fun _ _ _ h => h) (Or.inl ⟨by rfl, ?_⟩) hHeld ?_ ?_
            rotate_left
            · rintro w' ⟨s0, s1, s2, s3, s4, s5, s6, s7, s8, s9, s10, s11, s12, s13, s14, s15, s16, s17⟩
              go_simp
              with_reducible rfl
            rotate_left
            · simp only [Act.put, List.setIfInBounds_toArray, List.set_cons_zero, List.set_cons_succ, i64_w, i32_w]
              rfl
            refine take_ (i := 2) (N := some 46) (v := ?_) (a' := ?_) #[true, true, true, true, false, false, false, false, false, false, false, false, false, false] rfl rfl (take_ofW HT_.out HW_.out (by kernel_rfl)) (fun _ _ _ h => h) (Or.inl ⟨by rfl, ?_⟩) hHeld ?_ ?_
            rotate_left
            · rintro w' ⟨s0, s1, s2, s3, s4, s5, s6, s7, s8, s9, s10, s11, s12, s13, s14, s15, s16, s17⟩
              go_simp
              with_reducible rfl
            rotate_left
            · simp only [Act.put, List.setIfInBounds_toArray, List.set_cons_zero, List.set_cons_succ, i64_w, i32_w]
              rfl
            refine one_ (i := 4) (N := some 48) #[true, true, true, true, true, false, false, false, false, false, false, false, false, false] rfl rfl (one_of HT_.out (by kernel_rfl)) (by decide) (fun K hK => ?_)
            refine goes_ Try.func18 (by kernel_rfl) rfl #[.agg #[.int .i64 t261, .int .i64 t262, .int .i64 t263, .slice Ao14 t264.length co14], .agg #[.int .i64 a0_4, .int .i64 a0_5, .int .i64 a0_6, .int .i64 a0_7, .int .i64 a0_8, .int .i64 a0_9], .int .i64 a0_10] (by rfl) rfl rfl (by (try simp only [List.map_toArray, List.map_cons, List.map_nil]); first | done | rfl | (simp only [List.length_drop, List.length_take]; rfl)) ?_
            with_reducible refine (bivouacref16_Fly.calls kj3 t261 t262 t263 _ _ t264 a0_4 a0_5 a0_6 a0_7 a0_8 a0_9 a0_10 t281 t282 t283 t284 t285 t286 t287 t288 _ ?side1 ?side2 A77.out).mono ?_
            (case side1 => repeat (first | exact (Kd.V_reads' HO_268003.out).2.2 | (with_reducible refine Kd.C_alloc ?_ _) | (with_reducible refine Kd.C_drewN ?_ _) | (with_reducible refine Kd.C_drew ?_)))
            (case side2 => exact (Kd.V_reads' HO_268003.out).2.1)
            rintro e w82 ⟨rfl, hb⟩
            refine ⟨_, rfl, ?_⟩
            have n0_ := Aside0.mk (Kd.V_below (by (with_reducible repeat (first | apply Kd.V_alloc | apply Kd.V_drewN | apply Kd.V_drew)); exact HO_268003.out) hb)
            have n1_ := Aside0.mk (blk_below (g := gb260) (o := .cells #[.int .i64 a0_0, .int .i64 a0_1, .int .i64 a0_2, .slice A0_3 l0_3.length c0_3, .int .i64 a0_4, .int .i64 a0_5, .int .i64 a0_6, .int .i64 a0_7, .int .i64 a0_8, .int .i64 a0_9, .int .i64 a0_10, .int .u8 a0_11] 36 (0, 0)) (by (with_reducible repeat (first | refine blk_drewN ?_ _ | refine blk_drew ?_ | refine blk_alloc ?_ _)); exact BK260.out) hb)
            have n2_ := Aside0.mk (blk_below (g := gb267) (o := .cells #[.int .i64 t261, .int .i64 t262, .int .i64 t263, .slice Ao14 t264.length co14] 25 (0, 0)) (by (with_reducible repeat (first | refine blk_drewN ?_ _ | refine blk_drew ?_ | refine blk_alloc ?_ _)); exact BK267.out) hb)
            have n3_ := Aside0.mk (blk_below (g := gb268) (o := .cells #[.int .i64 a0_4, .int .i64 a0_5, .int .i64 a0_6, .int .i64 a0_7, .int .i64 a0_8, .int .i64 a0_9] 27 (0, 0)) (by (with_reducible repeat (first | refine blk_drewN ?_ _ | refine blk_drew ?_ | refine blk_alloc ?_ _)); exact BK268.out) hb)
            have n4_ := Aside0.mk (blk_below (g := gb278) (o := .cells #[.int .i64 t269, .int .i64 t270, .int .i64 t271, .int .i64 t272, .int .i64 t273, .int .i64 t274, .int .i64 t275, .int .i64 t276] 38 (0, 0)) (by (with_reducible repeat (first | refine blk_drewN ?_ _ | refine blk_drew ?_ | refine blk_alloc ?_ _)); exact BK278.out) hb)
            have n5_ := Aside0.mk (below_step (by repeat (first | (with_reducible first | exact HB.out | apply below_alloc | apply pw_below_drewN | apply below_drew1 | refine below_set ?_ GE260.out | refine below_set ?_ GE267.out | refine below_set ?_ GE268.out | refine below_set ?_ GE278.out) | exact HB.out)) hb)
            clear HO_268003
            clear BK260
            clear BK267
            clear BK268
            clear BK278
            clear HB
            have HO_268003 := n0_
            have BK260 := n1_
            have BK267 := n2_
            have BK268 := n3_
            have BK278 := n4_
            have HB := n5_
            clear n0_ n1_ n2_ n3_ n4_ n5_
            (try clear hb)
            (try clear hb2)
            (try clear hk)
            (try clear hi)
            refine hK.out _ _ ⟨(blk_cell BK278.out 0).trans rfl, (blk_cell BK278.out 1).trans rfl, (blk_cell BK278.out 2).trans rfl, (blk_cell BK278.out 3).trans rfl, (blk_cell BK278.out 4).trans rfl, (blk_cell BK278.out 5).trans rfl, (blk_cell BK278.out 6).trans rfl, (blk_cell BK278.out 7).trans rfl, (blk_cell BK267.out 0).trans rfl, (blk_cell BK267.out 1).trans rfl, (blk_cell BK267.out 2).trans rfl, (blk_cell BK267.out 3).trans rfl, (blk_cell BK268.out 0).trans rfl, (blk_cell BK268.out 1).trans rfl, (blk_cell BK268.out 2).trans rfl, (blk_cell BK268.out 3).trans rfl, (blk_cell BK268.out 4).trans rfl, (blk_cell BK268.out 5).trans rfl⟩ (fun hHeld => ?_)
            clear hK K
            refine norm_ (a' := ?_) ?_ ?_
            rotate_left
            · show Act.put _ (some 48) _ = _
              simp only [Act.put, List.setIfInBounds_toArray, List.set_cons_zero, List.set_cons_succ, i64_w, i32_w]
              rfl
            refine pure_ (i := 5) (N := some 49) (v := ?_) (a' := ?_) #[true, true, true, true, true, true, false, false, false, false, false, false, false, false] rfl rfl (any_of HT_.out (by kernel_rfl)) (fun _ _ _ h => h) (Or.inl ⟨by rfl, ?_⟩) ?_ ?_
            rotate_left
            · intro w'
              go_simp
              with_reducible rfl
            rotate_left
            · simp only [Act.put, List.setIfInBounds_toArray, List.set_cons_zero, List.set_cons_succ, i64_w, i32_w]
              rfl
            refine pure_ (i := 6) (N := some 50) (v := ?_) (a' := ?_) #[true, true, true, true, true, true, true, false, false, false, false, false, false, false] rfl rfl (any_of HT_.out (by kernel_rfl)) (fun _ _ _ h => h) (Or.inl ⟨by rfl, ?_⟩) ?_ ?_
            rotate_left
            · intro w'
              go_simp
              with_reducible rfl
            rotate_left
            · simp only [Act.put, List.setIfInBounds_toArray, List.set_cons_zero, List.set_cons_succ, i64_w, i32_w]
              rfl
            refine pure_ (i := 7) (N := some 51) (v := ?_) (a' := ?_) #[true, true, true, true, true, true, true, true, false, false, false, false, false, false] rfl rfl (any_of HT_.out (by kernel_rfl)) (fun _ _ _ h => h) (Or.inl ⟨by rfl, ?_⟩) ?_ ?_
            rotate_left
            · intro w'
              go_simp
              with_reducible rfl
            rotate_left
            · simp only [Act.put, List.setIfInBounds_toArray, List.set_cons_zero, List.set_cons_succ, i64_w, i32_w]
              rfl
            refine pure_ (i := 8) (N := some 52) (v := ?_) (a' := ?_) #[true, true, true, true, true, true, true, true, true, false, false, false, false, false] rfl rfl (any_of HT_.out (by kernel_rfl)) (fun _ _ _ h => h) (Or.inl ⟨by rfl, ?_⟩) ?_ ?_
            rotate_left
            · intro w'
              go_simp
              with_reducible rfl
            rotate_left
            · simp only [Act.put, List.setIfInBounds_toArray, List.set_cons_zero, List.set_cons_succ, i64_w, i32_w]
              rfl
            refine pure_ (i := 9) (N := some 53) (v := ?_) (a' := ?_) #[true, true, true, true, true, true, true, true, true, true, false, false, false, false] rfl rfl (any_of HT_.out (by kernel_rfl)) (fun _ _ _ h => h) (Or.inl ⟨by rfl, ?_⟩) ?_ ?_
            rotate_left
            · intro w'
              go_simp
              with_reducible rfl
            rotate_left
            · simp only [Act.put, List.setIfInBounds_toArray, List.set_cons_zero, List.set_cons_succ, i64_w, i32_w]
              rfl
            refine pure_ (i := 10) (N := some 54) (v := ?_) (a' := ?_) #[true, true, true, true, true, true, true, true, true, true, true, false, false, false] rfl rfl (any_of HT_.out (by kernel_rfl)) (fun _ _ _ h => h) (Or.inl ⟨by rfl, ?_⟩) ?_ ?_
            rotate_left
            · intro w'
              go_simp
              with_reducible rfl
            rotate_left
            · simp only [Act.put, List.setIfInBounds_toArray, List.set_cons_zero, List.set_cons_succ, i64_w, i32_w]
              rfl
            refine one_ (i := 11) (N := some 55) #[true, true, true, true, true, true, true, true, true, true, true, true, false, false] rfl rfl (one_of HT_.out (by kernel_rfl)) (by decide) (fun K hK => ?_)
            refine goes_ Try.func10 (by kernel_rfl) rfl #[] (by rfl) rfl rfl (by (try simp only [List.map_toArray, List.map_cons, List.map_nil]); first | done | rfl | (simp only [List.length_drop, List.length_take]; rfl)) ?_
            with_reducible refine (bivouaclaw16_awake.calls  t289 _ A80.out).mono ?_
            rintro e w83 ⟨rfl, hb⟩
            refine ⟨_, rfl, ?_⟩
            have n0_ := Aside0.mk (Kd.V_below (by (with_reducible repeat (first | apply Kd.V_alloc | apply Kd.V_drewN | apply Kd.V_drew)); exact HO_268003.out) hb)
            have n1_ := Aside0.mk (blk_below (g := gb260) (o := .cells #[.int .i64 a0_0, .int .i64 a0_1, .int .i64 a0_2, .slice A0_3 l0_3.length c0_3, .int .i64 a0_4, .int .i64 a0_5, .int .i64 a0_6, .int .i64 a0_7, .int .i64 a0_8, .int .i64 a0_9, .int .i64 a0_10, .int .u8 a0_11] 36 (0, 0)) (by (with_reducible repeat (first | refine blk_drewN ?_ _ | refine blk_drew ?_ | refine blk_alloc ?_ _)); exact BK260.out) hb)
            have n2_ := Aside0.mk (blk_below (g := gb267) (o := .cells #[.int .i64 t261, .int .i64 t262, .int .i64 t263, .slice Ao14 t264.length co14] 25 (0, 0)) (by (with_reducible repeat (first | refine blk_drewN ?_ _ | refine blk_drew ?_ | refine blk_alloc ?_ _)); exact BK267.out) hb)
            have n3_ := Aside0.mk (blk_below (g := gb268) (o := .cells #[.int .i64 a0_4, .int .i64 a0_5, .int .i64 a0_6, .int .i64 a0_7, .int .i64 a0_8, .int .i64 a0_9] 27 (0, 0)) (by (with_reducible repeat (first | refine blk_drewN ?_ _ | refine blk_drew ?_ | refine blk_alloc ?_ _)); exact BK268.out) hb)
            have n4_ := Aside0.mk (blk_below (g := gb278) (o := .cells #[.int .i64 t269, .int .i64 t270, .int .i64 t271, .int .i64 t272, .int .i64 t273, .int .i64 t274, .int .i64 t275, .int .i64 t276] 38 (0, 0)) (by (with_reducible repeat (first | refine blk_drewN ?_ _ | refine blk_drew ?_ | refine blk_alloc ?_ _)); exact BK278.out) hb)
            have n5_ := Aside0.mk (below_step (by repeat (first | (with_reducible first | exact HB.out | apply below_alloc | apply pw_below_drewN | apply below_drew1 | refine below_set ?_ GE260.out | refine below_set ?_ GE267.out | refine below_set ?_ GE268.out | refine below_set ?_ GE278.out) | exact HB.out)) hb)
            clear HO_268003
            clear BK260
            clear BK267
            clear BK268
            clear BK278
            clear HB
            have HO_268003 := n0_
            have BK260 := n1_
            have BK267 := n2_
            have BK268 := n3_
            have BK278 := n4_
            have HB := n5_
            clear n0_ n1_ n2_ n3_ n4_ n5_
            (try clear hb)
            (try clear hb2)
            (try clear hk)
            (try clear hi)
            refine hK.out _ _ ⟨(blk_cell BK278.out 0).trans rfl, (blk_cell BK278.out 1).trans rfl, (blk_cell BK278.out 2).trans rfl, (blk_cell BK278.out 3).trans rfl, (blk_cell BK278.out 4).trans rfl, (blk_cell BK278.out 5).trans rfl, (blk_cell BK278.out 6).trans rfl, (blk_cell BK278.out 7).trans rfl, (blk_cell BK267.out 0).trans rfl, (blk_cell BK267.out 1).trans rfl, (blk_cell BK267.out 2).trans rfl, (blk_cell BK267.out 3).trans rfl, (blk_cell BK268.out 0).trans rfl, (blk_cell BK268.out 1).trans rfl, (blk_cell BK268.out 2).trans rfl, (blk_cell BK268.out 3).trans rfl, (blk_cell BK268.out 4).trans rfl, (blk_cell BK268.out 5).trans rfl⟩ (fun hHeld => ?_)
            clear hK K
            refine norm_ (a' := ?_) ?_ ?_
            rotate_left
            · show Act.put _ (some 55) _ = _
              simp only [Act.put, List.setIfInBounds_toArray, List.set_cons_zero, List.set_cons_succ, i64_w, i32_w]
              rfl
            refine pure_ (i := 12) (N := some 56) (v := ?_) (a' := ?_) #[true, true, true, true, true, true, true, true, true, true, true, true, true, false] rfl rfl (any_of HT_.out (by kernel_rfl)) (fun _ _ _ h => h) (Or.inl ⟨by rfl, ?_⟩) ?_ ?_
            rotate_left
            · intro w'
              go_simp
              with_reducible rfl
            rotate_left
            · simp only [Act.put, List.setIfInBounds_toArray, List.set_cons_zero, List.set_cons_succ, i64_w, i32_w]
              rfl
            refine pure_ (i := 13) (N := some 2) (v := ?_) (a' := ?_) #[true, true, true, true, true, true, true, true, true, true, true, true, true, true] rfl rfl (any_of HT_.out (by kernel_rfl)) (fun _ _ _ h => h) (Or.inl ⟨by rfl, ?_⟩) ?_ ?_
            rotate_left
            · intro w'
              go_simp
              with_reducible rfl
            rotate_left
            · simp only [Act.put, List.setIfInBounds_toArray, List.set_cons_zero, List.set_cons_succ, i64_w, i32_w]
              rfl
            refine done_ (done_of HT_.out (by kernel_rfl)) ?_
            try go_wp2
            go_ret
            exact ⟨by first | rfl | (simp [errW_none, errW_some] <;> rfl) | (simp [*, errW_none, errW_some] <;> rfl) | (rw [Int.tdiv_eq_ediv_of_nonneg (by assumption)]; rfl), by repeat (first | (with_reducible first | exact HB.out | apply below_alloc | apply pw_below_drewN | apply below_drew1 | refine below_set ?_ GE260.out | refine below_set ?_ GE267.out | refine below_set ?_ GE268.out | refine below_set ?_ GE278.out) | exact HB.out)⟩
          · rw [if_neg c79] at H
            have c79b0 : (t277 == 0) = false := beq_eq_false_iff_ne.mpr c79
            have c79b1 : (t277 != 0) = true := bne_iff_ne.mpr c79
            obtain rfl := Option.some.inj H
            try go_wp2
            have n0_ := Aside0.mk (Kd.V_drew HO_268003.out)
            have n1_ := Aside0.mk (blk_drew BK260.out)
            have n2_ := Aside0.mk (blk_drew BK267.out)
            have n3_ := Aside0.mk (blk_drew BK268.out)
            have n4_ := Aside0.mk (blk_drew BK278.out)
            have n5_ := Aside0.mk (below_drew1 HB.out)
            clear HO_268003
            clear BK260
            clear BK267
            clear BK268
            clear BK278
            clear HB
            have HO_268003 := n0_
            have BK260 := n1_
            have BK267 := n2_
            have BK268 := n3_
            have BK278 := n4_
            have HB := n5_
            clear n0_ n1_ n2_ n3_ n4_ n5_
            refine start_ (n := 14) (S := fun w' => w'.cell? ⟨gb278, 0, none⟩ = some (.int .i64 t269) ∧ w'.cell? ⟨gb278, 1, none⟩ = some (.int .i64 t270) ∧ w'.cell? ⟨gb278, 2, none⟩ = some (.int .i64 t271) ∧ w'.cell? ⟨gb278, 3, none⟩ = some (.int .i64 t272) ∧ w'.cell? ⟨gb278, 4, none⟩ = some (.int .i64 t273) ∧ w'.cell? ⟨gb278, 5, none⟩ = some (.int .i64 t274) ∧ w'.cell? ⟨gb278, 6, none⟩ = some (.int .i64 t275) ∧ w'.cell? ⟨gb278, 7, none⟩ = some (.int .i64 t276) ∧ w'.cell? ⟨gb267, 0, none⟩ = some (.int .i64 t261) ∧ w'.cell? ⟨gb267, 1, none⟩ = some (.int .i64 t262) ∧ w'.cell? ⟨gb267, 2, none⟩ = some (.int .i64 t263) ∧ w'.cell? ⟨gb267, 3, none⟩ = some (.slice Ao14 t264.length co14) ∧ w'.cell? ⟨gb268, 0, none⟩ = some (.int .i64 a0_4) ∧ w'.cell? ⟨gb268, 1, none⟩ = some (.int .i64 a0_5) ∧ w'.cell? ⟨gb268, 2, none⟩ = some (.int .i64 a0_6) ∧ w'.cell? ⟨gb268, 3, none⟩ = some (.int .i64 a0_7) ∧ w'.cell? ⟨gb268, 4, none⟩ = some (.int .i64 a0_8) ∧ w'.cell? ⟨gb268, 5, none⟩ = some (.int .i64 a0_9)) (ds := []) #[false, false, false, false, false, false, false, false, false, false, false, false, false, false] (by kernel_rfl) rfl rfl ⟨(blk_cell BK278.out 0).trans rfl, (blk_cell BK278.out 1).trans rfl, (blk_cell BK278.out 2).trans rfl, (blk_cell BK278.out 3).trans rfl, (blk_cell BK278.out 4).trans rfl, (blk_cell BK278.out 5).trans rfl, (blk_cell BK278.out 6).trans rfl, (blk_cell BK278.out 7).trans rfl, (blk_cell BK267.out 0).trans rfl, (blk_cell BK267.out 1).trans rfl, (blk_cell BK267.out 2).trans rfl, (blk_cell BK267.out 3).trans rfl, (blk_cell BK268.out 0).trans rfl, (blk_cell BK268.out 1).trans rfl, (blk_cell BK268.out 2).trans rfl, (blk_cell BK268.out 3).trans rfl, (blk_cell BK268.out 4).trans rfl, (blk_cell BK268.out 5).trans rfl⟩ (fun hHeld => ?_); refine with_tabW bivouaclaw16_ShotFlies.tab5 bivouaclaw16_ShotFlies.bits5 (fun HT_ HW_ => ?_)
            generalize wc.drew = w84 at HO_268003 BK260 BK267 BK268 BK278 HB hHeld ⊢
            refine pure_ (i := 3) (N := some 47) (v := ?_) (a' := ?_) #[false, false, false, true, false, false, false, false, false, false, false, false, false, false] rfl rfl (any_of HT_.out (by kernel_rfl)) (fun _ _ _ h => h) (Or.inl ⟨by rfl, ?_⟩) ?_ ?_
            rotate_left
            · intro w'
              go_simp
              with_reducible rfl
            rotate_left
            · simp only [Act.put, List.setIfInBounds_toArray, List.set_cons_zero, List.set_cons_succ, i64_w, i32_w]
              rfl
            refine take_ (i := 0) (N := some 44) (v := ?_) (a' := ?_) #[true, false, false, true, false, false, false, false, false, false, false, false, false, false] rfl rfl (take_ofW HT_.out HW_.out (by kernel_rfl)) (fun _ _ _ h => h) (Or.inl ⟨by rfl, ?_⟩) hHeld ?_ ?_
            rotate_left
            · rintro w' ⟨s0, s1, s2, s3, s4, s5, s6, s7, s8, s9, s10, s11, s12, s13, s14, s15, s16, s17⟩
              go_simp
              with_reducible rfl
            rotate_left
            · simp only [Act.put, List.setIfInBounds_toArray, List.set_cons_zero, List.set_cons_succ, i64_w, i32_w]
              rfl
            refine take_ (i := 1) (N := some 45) (v := ?_) (a' := ?_) #[true, true, false, true, false, false, false, false, false, false, false, false, false, false] rfl rfl (take_ofW HT_.out HW_.out (by kernel_rfl)) (fun _ _ _ h => h) (Or.inl ⟨by rfl, ?_⟩) hHeld ?_ ?_
            rotate_left
            · rintro w' ⟨s0, s1, s2, s3, s4, s5, s6, s7, s8, s9, s10, s11, s12, s13, s14, s15, s16, s17⟩
              go_simp
              with_reducible rfl
            rotate_left
            · simp only [Act.put, List.setIfInBounds_toArray, List.set_cons_zero, List.set_cons_succ, i64_w, i32_w]
              rfl
            refine take_ (i := 2) (N := some 46) (v := ?_) (a' := ?_) #[true, true, true, true, false, false, false, false, false, false, false, false, false, false] rfl rfl (take_ofW HT_.out HW_.out (by kernel_rfl)) (fun _ _ _ h => h) (Or.inl ⟨by rfl, ?_⟩) hHeld ?_ ?_
            rotate_left
            · rintro w' ⟨s0, s1, s2, s3, s4, s5, s6, s7, s8, s9, s10, s11, s12, s13, s14, s15, s16, s17⟩
              go_simp
              with_reducible rfl
            rotate_left
            · simp only [Act.put, List.setIfInBounds_toArray, List.set_cons_zero, List.set_cons_succ, i64_w, i32_w]
              rfl
            refine one_ (i := 4) (N := some 48) #[true, true, true, true, true, false, false, false, false, false, false, false, false, false] rfl rfl (one_of HT_.out (by kernel_rfl)) (by decide) (fun K hK => ?_)
            refine goes_ Try.func18 (by kernel_rfl) rfl #[.agg #[.int .i64 t261, .int .i64 t262, .int .i64 t263, .slice Ao14 t264.length co14], .agg #[.int .i64 a0_4, .int .i64 a0_5, .int .i64 a0_6, .int .i64 a0_7, .int .i64 a0_8, .int .i64 a0_9], .int .i64 a0_10] (by rfl) rfl rfl (by (try simp only [List.map_toArray, List.map_cons, List.map_nil]); first | done | rfl | (simp only [List.length_drop, List.length_take]; rfl)) ?_
            with_reducible refine (bivouacref16_Fly.calls kj3 t261 t262 t263 _ _ t264 a0_4 a0_5 a0_6 a0_7 a0_8 a0_9 a0_10 t281 t282 t283 t284 t285 t286 t287 t288 _ ?side1 ?side2 A77.out).mono ?_
            (case side1 => repeat (first | exact (Kd.V_reads' HO_268003.out).2.2 | (with_reducible refine Kd.C_alloc ?_ _) | (with_reducible refine Kd.C_drewN ?_ _) | (with_reducible refine Kd.C_drew ?_)))
            (case side2 => exact (Kd.V_reads' HO_268003.out).2.1)
            rintro e w85 ⟨rfl, hb⟩
            refine ⟨_, rfl, ?_⟩
            have n0_ := Aside0.mk (Kd.V_below (by (with_reducible repeat (first | apply Kd.V_alloc | apply Kd.V_drewN | apply Kd.V_drew)); exact HO_268003.out) hb)
            have n1_ := Aside0.mk (blk_below (g := gb260) (o := .cells #[.int .i64 a0_0, .int .i64 a0_1, .int .i64 a0_2, .slice A0_3 l0_3.length c0_3, .int .i64 a0_4, .int .i64 a0_5, .int .i64 a0_6, .int .i64 a0_7, .int .i64 a0_8, .int .i64 a0_9, .int .i64 a0_10, .int .u8 a0_11] 36 (0, 0)) (by (with_reducible repeat (first | refine blk_drewN ?_ _ | refine blk_drew ?_ | refine blk_alloc ?_ _)); exact BK260.out) hb)
            have n2_ := Aside0.mk (blk_below (g := gb267) (o := .cells #[.int .i64 t261, .int .i64 t262, .int .i64 t263, .slice Ao14 t264.length co14] 25 (0, 0)) (by (with_reducible repeat (first | refine blk_drewN ?_ _ | refine blk_drew ?_ | refine blk_alloc ?_ _)); exact BK267.out) hb)
            have n3_ := Aside0.mk (blk_below (g := gb268) (o := .cells #[.int .i64 a0_4, .int .i64 a0_5, .int .i64 a0_6, .int .i64 a0_7, .int .i64 a0_8, .int .i64 a0_9] 27 (0, 0)) (by (with_reducible repeat (first | refine blk_drewN ?_ _ | refine blk_drew ?_ | refine blk_alloc ?_ _)); exact BK268.out) hb)
            have n4_ := Aside0.mk (blk_below (g := gb278) (o := .cells #[.int .i64 t269, .int .i64 t270, .int .i64 t271, .int .i64 t272, .int .i64 t273, .int .i64 t274, .int .i64 t275, .int .i64 t276] 38 (0, 0)) (by (with_reducible repeat (first | refine blk_drewN ?_ _ | refine blk_drew ?_ | refine blk_alloc ?_ _)); exact BK278.out) hb)
            have n5_ := Aside0.mk (below_step (by repeat (first | (with_reducible first | exact HB.out | apply below_alloc | apply pw_below_drewN | apply below_drew1 | refine below_set ?_ GE260.out | refine below_set ?_ GE267.out | refine below_set ?_ GE268.out | refine below_set ?_ GE278.out) | exact HB.out)) hb)
            clear HO_268003
            clear BK260
            clear BK267
            clear BK268
            clear BK278
            clear HB
            have HO_268003 := n0_
            have BK260 := n1_
            have BK267 := n2_
            have BK268 := n3_
            have BK278 := n4_
            have HB := n5_
            clear n0_ n1_ n2_ n3_ n4_ n5_
            (try clear hb)
            (try clear hb2)
            (try clear hk)
            (try clear hi)
            refine hK.out _ _ ⟨(blk_cell BK278.out 0).trans rfl, (blk_cell BK278.out 1).trans rfl, (blk_cell BK278.out 2).trans rfl, (blk_cell BK278.out 3).trans rfl, (blk_cell BK278.out 4).trans rfl, (blk_cell BK278.out 5).trans rfl, (blk_cell BK278.out 6).trans rfl, (blk_cell BK278.out 7).trans rfl, (blk_cell BK267.out 0).trans rfl, (blk_cell BK267.out 1).trans rfl, (blk_cell BK267.out 2).trans rfl, (blk_cell BK267.out 3).trans rfl, (blk_cell BK268.out 0).trans rfl, (blk_cell BK268.out 1).trans rfl, (blk_cell BK268.out 2).trans rfl, (blk_cell BK268.out 3).trans rfl, (blk_cell BK268.out 4).trans rfl, (blk_cell BK268.out 5).trans rfl⟩ (fun hHeld => ?_)
            clear hK K
            refine norm_ (a' := ?_) ?_ ?_
            rotate_left
            · show Act.put _ (some 48) _ = _
              simp only [Act.put, List.setIfInBounds_toArray, List.set_cons_zero, List.set_cons_succ, i64_w, i32_w]
              rfl
            refine pure_ (i := 5) (N := some 49) (v := ?_) (a' := ?_) #[true, true, true, true, true, true, false, false, false, false, false, false, false, false] rfl rfl (any_of HT_.out (by kernel_rfl)) (fun _ _ _ h => h) (Or.inl ⟨by rfl, ?_⟩) ?_ ?_
            rotate_left
            · intro w'
              go_simp
              with_reducible rfl
            rotate_left
            · simp only [Act.put, List.setIfInBounds_toArray, List.set_cons_zero, List.set_cons_succ, i64_w, i32_w]
              rfl
            refine pure_ (i := 6) (N := some 50) (v := ?_) (a' := ?_) #[true, true, true, true, true, true, true, false, false, false, false, false, false, false] rfl rfl (any_of HT_.out (by kernel_rfl)) (fun _ _ _ h => h) (Or.inl ⟨by rfl, ?_⟩) ?_ ?_
            rotate_left
            · intro w'
              go_simp
              with_reducible rfl
            rotate_left
            · simp only [Act.put, List.setIfInBounds_toArray, List.set_cons_zero, List.set_cons_succ, i64_w, i32_w]
              rfl
            refine pure_ (i := 7) (N := some 51) (v := ?_) (a' := ?_) #[true, true, true, true, true, true, true, true, false, false, false, false, false, false] rfl rfl (any_of HT_.out (by kernel_rfl)) (fun _ _ _ h => h) (Or.inl ⟨by rfl, ?_⟩) ?_ ?_
            rotate_left
            · intro w'
              go_simp
              with_reducible rfl
            rotate_left
            · simp only [Act.put, List.setIfInBounds_toArray, List.set_cons_zero, List.set_cons_succ, i64_w, i32_w]
              rfl
            refine pure_ (i := 8) (N := some 52) (v := ?_) (a' := ?_) #[true, true, true, true, true, true, true, true, true, false, false, false, false, false] rfl rfl (any_of HT_.out (by kernel_rfl)) (fun _ _ _ h => h) (Or.inl ⟨by rfl, ?_⟩) ?_ ?_
            rotate_left
            · intro w'
              go_simp
              with_reducible rfl
            rotate_left
            · simp only [Act.put, List.setIfInBounds_toArray, List.set_cons_zero, List.set_cons_succ, i64_w, i32_w]
              rfl
            refine pure_ (i := 9) (N := some 53) (v := ?_) (a' := ?_) #[true, true, true, true, true, true, true, true, true, true, false, false, false, false] rfl rfl (any_of HT_.out (by kernel_rfl)) (fun _ _ _ h => h) (Or.inl ⟨by rfl, ?_⟩) ?_ ?_
            rotate_left
            · intro w'
              go_simp
              with_reducible rfl
            rotate_left
            · simp only [Act.put, List.setIfInBounds_toArray, List.set_cons_zero, List.set_cons_succ, i64_w, i32_w]
              rfl
            refine pure_ (i := 10) (N := some 54) (v := ?_) (a' := ?_) #[true, true, true, true, true, true, true, true, true, true, true, false, false, false] rfl rfl (any_of HT_.out (by kernel_rfl)) (fun _ _ _ h => h) (Or.inl ⟨by rfl, ?_⟩) ?_ ?_
            rotate_left
            · intro w'
              go_simp
              with_reducible rfl
            rotate_left
            · simp only [Act.put, List.setIfInBounds_toArray, List.set_cons_zero, List.set_cons_succ, i64_w, i32_w]
              rfl
            refine pure_ (i := 11) (N := some 55) (v := undef) (a' := ?_) #[true, true, true, true, true, true, true, true, true, true, true, true, false, false] rfl rfl (any_of HT_.out (by kernel_rfl)) (fun _ _ _ h => h) (Or.inr ⟨by rfl, rfl⟩) ?_ ?_
            rotate_left
            · simp only [Act.put, List.setIfInBounds_toArray, List.set_cons_zero, List.set_cons_succ, i64_w, i32_w]
              rfl
            refine pure_ (i := 12) (N := some 56) (v := ?_) (a' := ?_) #[true, true, true, true, true, true, true, true, true, true, true, true, true, false] rfl rfl (any_of HT_.out (by kernel_rfl)) (fun _ _ _ h => h) (Or.inl ⟨by rfl, ?_⟩) ?_ ?_
            rotate_left
            · intro w'
              go_simp
              with_reducible rfl
            rotate_left
            · simp only [Act.put, List.setIfInBounds_toArray, List.set_cons_zero, List.set_cons_succ, i64_w, i32_w]
              rfl
            refine pure_ (i := 13) (N := some 2) (v := ?_) (a' := ?_) #[true, true, true, true, true, true, true, true, true, true, true, true, true, true] rfl rfl (any_of HT_.out (by kernel_rfl)) (fun _ _ _ h => h) (Or.inl ⟨by rfl, ?_⟩) ?_ ?_
            rotate_left
            · intro w'
              go_simp
              with_reducible rfl
            rotate_left
            · simp only [Act.put, List.setIfInBounds_toArray, List.set_cons_zero, List.set_cons_succ, i64_w, i32_w]
              rfl
            refine done_ (done_of HT_.out (by kernel_rfl)) ?_
            try go_wp2
            go_ret
            exact ⟨by first | rfl | (simp [errW_none, errW_some] <;> rfl) | (simp [*, errW_none, errW_some] <;> rfl) | (rw [Int.tdiv_eq_ediv_of_nonneg (by assumption)]; rfl), by repeat (first | (with_reducible first | exact HB.out | apply below_alloc | apply pw_below_drewN | apply below_drew1 | refine below_set ?_ GE260.out | refine below_set ?_ GE267.out | refine below_set ?_ GE268.out | refine below_set ?_ GE278.out) | exact HB.out)⟩
        · rw [if_neg c78] at H
          have c78b0 : (t269 == t281 && (t270 == t282 && ((t271 == t283 && (t272 == t284 && (t273 == t285 && (t274 == t286 && (t275 == t287 && (t276 == t288))))))))) = false := by simpa using c78
          (try (have c78b1 : decide (t269 = t281 && (t270 == t282 && ((t271 == t283 && (t272 == t284 && (t273 == t285 && (t274 == t286 && (t275 == t287 && (t276 == t288))))))))) = false := by simpa using c78))
          (try (have c78b2 : (t269 == t281 && (t270 == t282 && ((t271 == t283 && (t272 == t284 && (t273 == t285 && (t274 == t286 && (t275 == t287 && (t276 == t288))))))))) = false := by simpa using c78))
          (try (have c78b3 : ¬ (t269 = t281 && (t270 == t282 && ((t271 == t283 && (t272 == t284 && (t273 == t285 && (t274 == t286 && (t275 == t287 && (t276 == t288))))))))) := by simpa using c78))
          clear c78
          obtain rfl := Option.some.inj H
          try go_wp2
          have n0_ := Aside0.mk (Kd.V_drew HO_268003.out)
          have n1_ := Aside0.mk (blk_drew BK260.out)
          have n2_ := Aside0.mk (blk_drew BK267.out)
          have n3_ := Aside0.mk (blk_drew BK268.out)
          have n4_ := Aside0.mk (blk_drew BK278.out)
          have n5_ := Aside0.mk (below_drew1 HB.out)
          clear HO_268003
          clear BK260
          clear BK267
          clear BK268
          clear BK278
          clear HB
          have HO_268003 := n0_
          have BK260 := n1_
          have BK267 := n2_
          have BK268 := n3_
          have BK278 := n4_
          have HB := n5_
          clear n0_ n1_ n2_ n3_ n4_ n5_
          refine start_ (n := 14) (S := fun w' => w'.cell? ⟨gb278, 0, none⟩ = some (.int .i64 t269) ∧ w'.cell? ⟨gb278, 1, none⟩ = some (.int .i64 t270) ∧ w'.cell? ⟨gb278, 2, none⟩ = some (.int .i64 t271) ∧ w'.cell? ⟨gb278, 3, none⟩ = some (.int .i64 t272) ∧ w'.cell? ⟨gb278, 4, none⟩ = some (.int .i64 t273) ∧ w'.cell? ⟨gb278, 5, none⟩ = some (.int .i64 t274) ∧ w'.cell? ⟨gb278, 6, none⟩ = some (.int .i64 t275) ∧ w'.cell? ⟨gb278, 7, none⟩ = some (.int .i64 t276) ∧ w'.cell? ⟨gb267, 0, none⟩ = some (.int .i64 t261) ∧ w'.cell? ⟨gb267, 1, none⟩ = some (.int .i64 t262) ∧ w'.cell? ⟨gb267, 2, none⟩ = some (.int .i64 t263) ∧ w'.cell? ⟨gb267, 3, none⟩ = some (.slice Ao14 t264.length co14) ∧ w'.cell? ⟨gb268, 0, none⟩ = some (.int .i64 a0_4) ∧ w'.cell? ⟨gb268, 1, none⟩ = some (.int .i64 a0_5) ∧ w'.cell? ⟨gb268, 2, none⟩ = some (.int .i64 a0_6) ∧ w'.cell? ⟨gb268, 3, none⟩ = some (.int .i64 a0_7) ∧ w'.cell? ⟨gb268, 4, none⟩ = some (.int .i64 a0_8) ∧ w'.cell? ⟨gb268, 5, none⟩ = some (.int .i64 a0_9)) (ds := []) #[false, false, false, false, false, false, false, false, false, false, false, false, false, false] (by kernel_rfl) rfl rfl ⟨(blk_cell BK278.out 0).trans rfl, (blk_cell BK278.out 1).trans rfl, (blk_cell BK278.out 2).trans rfl, (blk_cell BK278.out 3).trans rfl, (blk_cell BK278.out 4).trans rfl, (blk_cell BK278.out 5).trans rfl, (blk_cell BK278.out 6).trans rfl, (blk_cell BK278.out 7).trans rfl, (blk_cell BK267.out 0).trans rfl, (blk_cell BK267.out 1).trans rfl, (blk_cell BK267.out 2).trans rfl, (blk_cell BK267.out 3).trans rfl, (blk_cell BK268.out 0).trans rfl, (blk_cell BK268.out 1).trans rfl, (blk_cell BK268.out 2).trans rfl, (blk_cell BK268.out 3).trans rfl, (blk_cell BK268.out 4).trans rfl, (blk_cell BK268.out 5).trans rfl⟩ (fun hHeld => ?_); refine with_tabW bivouaclaw16_ShotFlies.tab5 bivouaclaw16_ShotFlies.bits5 (fun HT_ HW_ => ?_)
          generalize wc.drew = w86 at HO_268003 BK260 BK267 BK268 BK278 HB hHeld ⊢
          refine pure_ (i := 3) (N := some 47) (v := ?_) (a' := ?_) #[false, false, false, true, false, false, false, false, false, false, false, false, false, false] rfl rfl (any_of HT_.out (by kernel_rfl)) (fun _ _ _ h => h) (Or.inl ⟨by rfl, ?_⟩) ?_ ?_
          rotate_left
          · intro w'
            go_simp
            with_reducible rfl
          rotate_left
          · simp only [Act.put, List.setIfInBounds_toArray, List.set_cons_zero, List.set_cons_succ, i64_w, i32_w]
            rfl
          refine take_ (i := 0) (N := some 44) (v := ?_) (a' := ?_) #[true, false, false, true, false, false, false, false, false, false, false, false, false, false] rfl rfl (take_ofW HT_.out HW_.out (by kernel_rfl)) (fun _ _ _ h => h) (Or.inl ⟨by rfl, ?_⟩) hHeld ?_ ?_
          rotate_left
          · rintro w' ⟨s0, s1, s2, s3, s4, s5, s6, s7, s8, s9, s10, s11, s12, s13, s14, s15, s16, s17⟩
            go_simp
            with_reducible rfl
          rotate_left
          · simp only [Act.put, List.setIfInBounds_toArray, List.set_cons_zero, List.set_cons_succ, i64_w, i32_w]
            rfl
          refine take_ (i := 1) (N := some 45) (v := ?_) (a' := ?_) #[true, true, false, true, false, false, false, false, false, false, false, false, false, false] rfl rfl (take_ofW HT_.out HW_.out (by kernel_rfl)) (fun _ _ _ h => h) (Or.inl ⟨by rfl, ?_⟩) hHeld ?_ ?_
          rotate_left
          · rintro w' ⟨s0, s1, s2, s3, s4, s5, s6, s7, s8, s9, s10, s11, s12, s13, s14, s15, s16, s17⟩
            go_simp
            with_reducible rfl
          rotate_left
          · simp only [Act.put, List.setIfInBounds_toArray, List.set_cons_zero, List.set_cons_succ, i64_w, i32_w]
            rfl
          refine take_ (i := 2) (N := some 46) (v := ?_) (a' := ?_) #[true, true, true, true, false, false, false, false, false, false, false, false, false, false] rfl rfl (take_ofW HT_.out HW_.out (by kernel_rfl)) (fun _ _ _ h => h) (Or.inl ⟨by rfl, ?_⟩) hHeld ?_ ?_
          rotate_left
          · rintro w' ⟨s0, s1, s2, s3, s4, s5, s6, s7, s8, s9, s10, s11, s12, s13, s14, s15, s16, s17⟩
            go_simp
            with_reducible rfl
          rotate_left
          · simp only [Act.put, List.setIfInBounds_toArray, List.set_cons_zero, List.set_cons_succ, i64_w, i32_w]
            rfl
          refine one_ (i := 4) (N := some 48) #[true, true, true, true, true, false, false, false, false, false, false, false, false, false] rfl rfl (one_of HT_.out (by kernel_rfl)) (by decide) (fun K hK => ?_)
          refine goes_ Try.func18 (by kernel_rfl) rfl #[.agg #[.int .i64 t261, .int .i64 t262, .int .i64 t263, .slice Ao14 t264.length co14], .agg #[.int .i64 a0_4, .int .i64 a0_5, .int .i64 a0_6, .int .i64 a0_7, .int .i64 a0_8, .int .i64 a0_9], .int .i64 a0_10] (by rfl) rfl rfl (by (try simp only [List.map_toArray, List.map_cons, List.map_nil]); first | done | rfl | (simp only [List.length_drop, List.length_take]; rfl)) ?_
          with_reducible refine (bivouacref16_Fly.calls kj3 t261 t262 t263 _ _ t264 a0_4 a0_5 a0_6 a0_7 a0_8 a0_9 a0_10 t281 t282 t283 t284 t285 t286 t287 t288 _ ?side1 ?side2 A77.out).mono ?_
          (case side1 => repeat (first | exact (Kd.V_reads' HO_268003.out).2.2 | (with_reducible refine Kd.C_alloc ?_ _) | (with_reducible refine Kd.C_drewN ?_ _) | (with_reducible refine Kd.C_drew ?_)))
          (case side2 => exact (Kd.V_reads' HO_268003.out).2.1)
          rintro e w87 ⟨rfl, hb⟩
          refine ⟨_, rfl, ?_⟩
          have n0_ := Aside0.mk (Kd.V_below (by (with_reducible repeat (first | apply Kd.V_alloc | apply Kd.V_drewN | apply Kd.V_drew)); exact HO_268003.out) hb)
          have n1_ := Aside0.mk (blk_below (g := gb260) (o := .cells #[.int .i64 a0_0, .int .i64 a0_1, .int .i64 a0_2, .slice A0_3 l0_3.length c0_3, .int .i64 a0_4, .int .i64 a0_5, .int .i64 a0_6, .int .i64 a0_7, .int .i64 a0_8, .int .i64 a0_9, .int .i64 a0_10, .int .u8 a0_11] 36 (0, 0)) (by (with_reducible repeat (first | refine blk_drewN ?_ _ | refine blk_drew ?_ | refine blk_alloc ?_ _)); exact BK260.out) hb)
          have n2_ := Aside0.mk (blk_below (g := gb267) (o := .cells #[.int .i64 t261, .int .i64 t262, .int .i64 t263, .slice Ao14 t264.length co14] 25 (0, 0)) (by (with_reducible repeat (first | refine blk_drewN ?_ _ | refine blk_drew ?_ | refine blk_alloc ?_ _)); exact BK267.out) hb)
          have n3_ := Aside0.mk (blk_below (g := gb268) (o := .cells #[.int .i64 a0_4, .int .i64 a0_5, .int .i64 a0_6, .int .i64 a0_7, .int .i64 a0_8, .int .i64 a0_9] 27 (0, 0)) (by (with_reducible repeat (first | refine blk_drewN ?_ _ | refine blk_drew ?_ | refine blk_alloc ?_ _)); exact BK268.out) hb)
          have n4_ := Aside0.mk (blk_below (g := gb278) (o := .cells #[.int .i64 t269, .int .i64 t270, .int .i64 t271, .int .i64 t272, .int .i64 t273, .int .i64 t274, .int .i64 t275, .int .i64 t276] 38 (0, 0)) (by (with_reducible repeat (first | refine blk_drewN ?_ _ | refine blk_drew ?_ | refine blk_alloc ?_ _)); exact BK278.out) hb)
          have n5_ := Aside0.mk (below_step (by repeat (first | (with_reducible first | exact HB.out | apply below_alloc | apply pw_below_drewN | apply below_drew1 | refine below_set ?_ GE260.out | refine below_set ?_ GE267.out | refine below_set ?_ GE268.out | refine below_set ?_ GE278.out) | exact HB.out)) hb)
          clear HO_268003
          clear BK260
          clear BK267
          clear BK268
          clear BK278
          clear HB
          have HO_268003 := n0_
          have BK260 := n1_
          have BK267 := n2_
          have BK268 := n3_
          have BK278 := n4_
          have HB := n5_
          clear n0_ n1_ n2_ n3_ n4_ n5_
          (try clear hb)
          (try clear hb2)
          (try clear hk)
          (try clear hi)
          refine hK.out _ _ ⟨(blk_cell BK278.out 0).trans rfl, (blk_cell BK278.out 1).trans rfl, (blk_cell BK278.out 2).trans rfl, (blk_cell BK278.out 3).trans rfl, (blk_cell BK278.out 4).trans rfl, (blk_cell BK278.out 5).trans rfl, (blk_cell BK278.out 6).trans rfl, (blk_cell BK278.out 7).trans rfl, (blk_cell BK267.out 0).trans rfl, (blk_cell BK267.out 1).trans rfl, (blk_cell BK267.out 2).trans rfl, (blk_cell BK267.out 3).trans rfl, (blk_cell BK268.out 0).trans rfl, (blk_cell BK268.out 1).trans rfl, (blk_cell BK268.out 2).trans rfl, (blk_cell BK268.out 3).trans rfl, (blk_cell BK268.out 4).trans rfl, (blk_cell BK268.out 5).trans rfl⟩ (fun hHeld => ?_)
          clear hK K
          refine norm_ (a' := ?_) ?_ ?_
          rotate_left
          · show Act.put _ (some 48) _ = _
            simp only [Act.put, List.setIfInBounds_toArray, List.set_cons_zero, List.set_cons_succ, i64_w, i32_w]
            rfl
          refine pure_ (i := 5) (N := some 49) (v := ?_) (a' := ?_) #[true, true, true, true, true, true, false, false, false, false, false, false, false, false] rfl rfl (any_of HT_.out (by kernel_rfl)) (fun _ _ _ h => h) (Or.inl ⟨by rfl, ?_⟩) ?_ ?_
          rotate_left
          · intro w'
            go_simp
            with_reducible rfl
          rotate_left
          · simp only [Act.put, List.setIfInBounds_toArray, List.set_cons_zero, List.set_cons_succ, i64_w, i32_w]
            rfl
          refine pure_ (i := 6) (N := some 50) (v := ?_) (a' := ?_) #[true, true, true, true, true, true, true, false, false, false, false, false, false, false] rfl rfl (any_of HT_.out (by kernel_rfl)) (fun _ _ _ h => h) (Or.inl ⟨by rfl, ?_⟩) ?_ ?_
          rotate_left
          · intro w'
            go_simp
            with_reducible rfl
          rotate_left
          · simp only [Act.put, List.setIfInBounds_toArray, List.set_cons_zero, List.set_cons_succ, i64_w, i32_w]
            rfl
          refine pure_ (i := 7) (N := some 51) (v := undef) (a' := ?_) #[true, true, true, true, true, true, true, true, false, false, false, false, false, false] rfl rfl (any_of HT_.out (by kernel_rfl)) (fun _ _ _ h => h) (Or.inr ⟨by rfl, rfl⟩) ?_ ?_
          rotate_left
          · simp only [Act.put, List.setIfInBounds_toArray, List.set_cons_zero, List.set_cons_succ, i64_w, i32_w]
            rfl
          refine pure_ (i := 8) (N := some 52) (v := undef) (a' := ?_) #[true, true, true, true, true, true, true, true, true, false, false, false, false, false] rfl rfl (any_of HT_.out (by kernel_rfl)) (fun _ _ _ h => h) (Or.inr ⟨by rfl, rfl⟩) ?_ ?_
          rotate_left
          · simp only [Act.put, List.setIfInBounds_toArray, List.set_cons_zero, List.set_cons_succ, i64_w, i32_w]
            rfl
          refine pure_ (i := 9) (N := some 53) (v := ?_) (a' := ?_) #[true, true, true, true, true, true, true, true, true, true, false, false, false, false] rfl rfl (any_of HT_.out (by kernel_rfl)) (fun _ _ _ h => h) (Or.inl ⟨by rfl, ?_⟩) ?_ ?_
          rotate_left
          · intro w'
            go_simp
            with_reducible rfl
          rotate_left
          · simp only [Act.put, List.setIfInBounds_toArray, List.set_cons_zero, List.set_cons_succ, i64_w, i32_w]
            rfl
          refine pure_ (i := 10) (N := some 54) (v := ?_) (a' := ?_) #[true, true, true, true, true, true, true, true, true, true, true, false, false, false] rfl rfl (any_of HT_.out (by kernel_rfl)) (fun _ _ _ h => h) (Or.inl ⟨by rfl, ?_⟩) ?_ ?_
          rotate_left
          · intro w'
            go_simp
            with_reducible rfl
          rotate_left
          · simp only [Act.put, List.setIfInBounds_toArray, List.set_cons_zero, List.set_cons_succ, i64_w, i32_w]
            rfl
          refine pure_ (i := 11) (N := some 55) (v := undef) (a' := ?_) #[true, true, true, true, true, true, true, true, true, true, true, true, false, false] rfl rfl (any_of HT_.out (by kernel_rfl)) (fun _ _ _ h => h) (Or.inr ⟨by rfl, rfl⟩) ?_ ?_
          rotate_left
          · simp only [Act.put, List.setIfInBounds_toArray, List.set_cons_zero, List.set_cons_succ, i64_w, i32_w]
            rfl
          refine pure_ (i := 12) (N := some 56) (v := ?_) (a' := ?_) #[true, true, true, true, true, true, true, true, true, true, true, true, true, false] rfl rfl (any_of HT_.out (by kernel_rfl)) (fun _ _ _ h => h) (Or.inl ⟨by rfl, ?_⟩) ?_ ?_
          rotate_left
          · intro w'
            go_simp
            with_reducible rfl
          rotate_left
          · simp only [Act.put, List.setIfInBounds_toArray, List.set_cons_zero, List.set_cons_succ, i64_w, i32_w]
            rfl
          refine pure_ (i := 13) (N := some 2) (v := ?_) (a' := ?_) #[true, true, true, true, true, true, true, true, true, true, true, true, true, true] rfl rfl (any_of HT_.out (by kernel_rfl)) (fun _ _ _ h => h) (Or.inl ⟨by rfl, ?_⟩) ?_ ?_
          rotate_left
          · intro w'
            go_simp
            with_reducible rfl
          rotate_left
          · simp only [Act.put, List.setIfInBounds_toArray, List.set_cons_zero, List.set_cons_succ, i64_w, i32_w]
            rfl
          refine done_ (done_of HT_.out (by kernel_rfl)) ?_
          try go_wp2
          go_ret
          exact ⟨by first | rfl | (simp [errW_none, errW_some] <;> rfl) | (simp [*, errW_none, errW_some] <;> rfl) | (rw [Int.tdiv_eq_ediv_of_nonneg (by assumption)]; rfl), by repeat (first | (with_reducible first | exact HB.out | apply below_alloc | apply pw_below_drewN | apply below_drew1 | refine below_set ?_ GE260.out | refine below_set ?_ GE267.out | refine below_set ?_ GE268.out | refine below_set ?_ GE278.out) | exact HB.out)⟩

/-- THE ONE PURE STATEMENT of bivouaclaw16_ShotFlies. -/
def bivouaclaw16_ShotFlies.Pure : Prop := ∀ (a0_0 : Int) (a0_1 : Int) (a0_2 : Int) (l0_3 : List Int) (a0_4 : Int) (a0_5 : Int) (a0_6 : Int) (a0_7 : Int) (a0_8 : Int) (a0_9 : Int) (a0_10 : Int) (a0_11 : Int), (Lit.int .i64 a0_0).wf = true → (Lit.int .i64 a0_1).wf = true → (Lit.int .i64 a0_2).wf = true → l0_3.length ≤ maxLen → (∀ x ∈ l0_3, (Lit.int .u8 x).wf = true) → (Lit.int .i64 a0_4).wf = true → (Lit.int .i64 a0_5).wf = true → (Lit.int .i64 a0_6).wf = true → (Lit.int .i64 a0_7).wf = true → (Lit.int .i64 a0_8).wf = true → (Lit.int .i64 a0_9).wf = true → (Lit.int .i64 a0_10).wf = true → (Lit.int .u8 a0_11).wf = true → ∃ k, bivouaclaw16_ShotFlies.f k a0_0 a0_1 a0_2 l0_3 a0_4 a0_5 a0_6 a0_7 a0_8 a0_9 a0_10 a0_11 = some true
theorem bivouaclaw16_ShotFlies.walked : True := trivial

end Go.Proofs.Ytfcocbkfodmmbaa.PA
