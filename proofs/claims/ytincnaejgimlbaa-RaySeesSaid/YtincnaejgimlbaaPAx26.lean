-- WRITTEN BY A PROGRAM OF THIS SESSION (a turned copy of the kit's printer), for this claim. Nothing here is trusted: Lean checks it.
import Derived.Test.YtincnaejgimlbaaPAx0
import Derived.Test.YtincnaejgimlbaaPAx15
import Derived.Test.YtincnaejgimlbaaPAx20
import Derived.Test.YtincnaejgimlbaaPAx21
import Derived.Test.YtincnaejgimlbaaPAx22
import Derived.Test.YtincnaejgimlbaaPAx25
import Derived.Test.YtincnaejgimlbaaGAraySees
namespace Go.Proofs.Ytincnaejgimlbaa.PA
open Go.RowKit Go.Proofs.YtincnaejgimlbaaW.PrintWords Go.Proofs.YtincnaejgimlbaaW.PrintLast Go.Proofs.YtincnaejgimlbaaW.PrintMore
attribute [local go_sem] max2_int min2_int max_two min_two max_three min_three max_four min_four   -- for this text's walks alone
set_option linter.unusedVariables false
set_option linter.unusedSimpArgs false

/-! ### bivouaclaw08_RaySees: function 6 -/
mutual
def bivouaclaw08_RaySees.j0 : Nat → Bool → Int → Bool → Int → Int → Int → List Int → Int → Int → Int → Int → Int → Int → Int → Int → Int → List Int → Option (Bool)
  | 0, _, _, _, _, _, _, _, _, _, _, _, _, _, _, _, _, _ => none
  | k + 1, x4, x5, x50, x243000, x243001, x243002, x243003, x243004, x243005, x243006, x243007, x243008, x243009, x250000, x250001, x250002, x250003 => if x50 = true then (if x4 = true then (some false) else (if x5 = 1 then ((bivouaclaw08_awake.f k).bind fun t253 => (some t253)) else (some false))) else ((bivouacref08_Is.f x250000 x250001 x250002 x250003 x243004 x243005).bind fun t254 => (if t254 = true then ((bivouacref08_Is.f x250000 x250001 x250002 x250003 x243006 x243007).bind fun t255 => (bivouaclaw08_RaySees.j1 k x4 x5 (!t255) x243000 x243001 x243002 x243003 x243004 x243005 x243006 x243007 x243008 x243009 x250000 x250001 x250002 x250003)) else (bivouaclaw08_RaySees.j1 k x4 x5 true x243000 x243001 x243002 x243003 x243004 x243005 x243006 x243007 x243008 x243009 x250000 x250001 x250002 x250003)))
def bivouaclaw08_RaySees.j1 : Nat → Bool → Int → Bool → Int → Int → Int → List Int → Int → Int → Int → Int → Int → Int → Int → Int → Int → List Int → Option (Bool)
  | 0, _, _, _, _, _, _, _, _, _, _, _, _, _, _, _, _, _ => none
  | k + 1, x4, x5, x75, x243000, x243001, x243002, x243003, x243004, x243005, x243006, x243007, x243008, x243009, x250000, x250001, x250002, x250003 => if x75 = true then (if x4 = true then (some false) else (if x5 = 4 then ((bivouaclaw08_awake.f k).bind fun t256 => (some t256)) else (some false))) else ((bivouacref08_Sees.f k x250000 x250001 x250002 x250003 x243004 x243005 x243006 x243007 x243008 x243009).bind fun t257 => (if (x4 == t257) = true then (if x5 = 0 then ((bivouaclaw08_awake.f k).bind fun t258 => (some t258)) else (some false)) else (some false)))
end
def bivouaclaw08_RaySees.f (k : Nat) (a0_0 : Int) (a0_1 : Int) (a0_2 : Int) (l0_3 : List Int) (a0_4 : Int) (a0_5 : Int) (a0_6 : Int) (a0_7 : Int) (a0_8 : Int) (a0_9 : Int) : Option (Bool) := (bivouaclaw08_few.f a0_0 a0_1 a0_2 l0_3).bind fun bt243 => ((ray_Sees.f k bt243.1 bt243.2.1 bt243.2.2.1 bt243.2.2.2 a0_4 a0_5 a0_6 a0_7 a0_8 a0_9).bind fun bt250 => ((bivouacref06_Check.f k bt243.1 bt243.2.1 bt243.2.2.1 bt243.2.2.2).bind fun t252 => (if t252 = 0 then (if a0_8 < 0 then (bivouaclaw08_RaySees.j0 k bt250.1 bt250.2 true a0_0 a0_1 a0_2 l0_3 a0_4 a0_5 a0_6 a0_7 a0_8 a0_9 bt243.1 bt243.2.1 bt243.2.2.1 bt243.2.2.2) else (if a0_8 > 255 then (bivouaclaw08_RaySees.j0 k bt250.1 bt250.2 true a0_0 a0_1 a0_2 l0_3 a0_4 a0_5 a0_6 a0_7 a0_8 a0_9 bt243.1 bt243.2.1 bt243.2.2.1 bt243.2.2.2) else (if a0_9 < 0 then (bivouaclaw08_RaySees.j0 k bt250.1 bt250.2 true a0_0 a0_1 a0_2 l0_3 a0_4 a0_5 a0_6 a0_7 a0_8 a0_9 bt243.1 bt243.2.1 bt243.2.2.1 bt243.2.2.2) else (bivouaclaw08_RaySees.j0 k bt250.1 bt250.2 (decide (a0_9 > 255)) a0_0 a0_1 a0_2 l0_3 a0_4 a0_5 a0_6 a0_7 a0_8 a0_9 bt243.1 bt243.2.1 bt243.2.2.1 bt243.2.2.2)))) else (bivouaclaw08_RaySees.j0 k bt250.1 bt250.2 true a0_0 a0_1 a0_2 l0_3 a0_4 a0_5 a0_6 a0_7 a0_8 a0_9 bt243.1 bt243.2.1 bt243.2.2.1 bt243.2.2.2))))
theorem bivouaclaw08_RaySees.mono_l : ∀ k, (∀ y0 y1 y2 y3 y4 y5 y6 y7 y8 y9 y10 y11 y12 y13 y14 y15 y16, LeO (bivouaclaw08_RaySees.j0 k y0 y1 y2 y3 y4 y5 y6 y7 y8 y9 y10 y11 y12 y13 y14 y15 y16) (bivouaclaw08_RaySees.j0 (k + 1) y0 y1 y2 y3 y4 y5 y6 y7 y8 y9 y10 y11 y12 y13 y14 y15 y16)) ∧ (∀ y0 y1 y2 y3 y4 y5 y6 y7 y8 y9 y10 y11 y12 y13 y14 y15 y16, LeO (bivouaclaw08_RaySees.j1 k y0 y1 y2 y3 y4 y5 y6 y7 y8 y9 y10 y11 y12 y13 y14 y15 y16) (bivouaclaw08_RaySees.j1 (k + 1) y0 y1 y2 y3 y4 y5 y6 y7 y8 y9 y10 y11 y12 y13 y14 y15 y16))
  | 0 => ⟨fun _ _ _ _ _ _ _ _ _ _ _ _ _ _ _ _ _ r h => by simp [bivouaclaw08_RaySees.j0] at h, fun _ _ _ _ _ _ _ _ _ _ _ _ _ _ _ _ _ r h => by simp [bivouaclaw08_RaySees.j1] at h⟩
  | k + 1 => by
    obtain ⟨ih0, ih1⟩ := bivouaclaw08_RaySees.mono_l k
    refine ⟨?_, ?_⟩
    · intro y0 y1 y2 y3 y4 y5 y6 y7 y8 y9 y10 y11 y12 y13 y14 y15 y16
      unfold bivouaclaw08_RaySees.j0
      repeat' first
      | (with_reducible exact ih0 _ _ _ _ _ _ _ _ _ _ _ _ _ _ _ _ _)
      | (with_reducible exact ih1 _ _ _ _ _ _ _ _ _ _ _ _ _ _ _ _ _)
      | (with_reducible exact bivouaclaw08_awake.mono _)
      | (with_reducible exact bivouacref06_Check.mono _ _ _ _ _)
      | (with_reducible exact bivouacref08_Sees.mono _ _ _ _ _ _ _ _ _ _ _)
      | (with_reducible exact ray_Sees.mono _ _ _ _ _ _ _ _ _ _ _)
      | (with_reducible exact LeO.refl _)
      | (with_reducible exact LeO.none _)
      | (with_reducible refine LeO.ite ?_ ?_)
      | (with_reducible refine LeO.bind ?_ (fun _ => ?_))
      | exact ih0 _ _ _ _ _ _ _ _ _ _ _ _ _ _ _ _ _
      | exact ih1 _ _ _ _ _ _ _ _ _ _ _ _ _ _ _ _ _
      | exact bivouaclaw08_awake.mono _
      | exact bivouacref06_Check.mono _ _ _ _ _
      | exact bivouacref08_Sees.mono _ _ _ _ _ _ _ _ _ _ _
      | exact ray_Sees.mono _ _ _ _ _ _ _ _ _ _ _
      | exact LeO.none _
      | refine LeO.ite ?_ ?_
      | refine LeO.bind ?_ (fun _ => ?_)
    · intro y0 y1 y2 y3 y4 y5 y6 y7 y8 y9 y10 y11 y12 y13 y14 y15 y16
      unfold bivouaclaw08_RaySees.j1
      repeat' first
      | (with_reducible exact ih0 _ _ _ _ _ _ _ _ _ _ _ _ _ _ _ _ _)
      | (with_reducible exact ih1 _ _ _ _ _ _ _ _ _ _ _ _ _ _ _ _ _)
      | (with_reducible exact bivouaclaw08_awake.mono _)
      | (with_reducible exact bivouacref06_Check.mono _ _ _ _ _)
      | (with_reducible exact bivouacref08_Sees.mono _ _ _ _ _ _ _ _ _ _ _)
      | (with_reducible exact ray_Sees.mono _ _ _ _ _ _ _ _ _ _ _)
      | (with_reducible exact LeO.refl _)
      | (with_reducible exact LeO.none _)
      | (with_reducible refine LeO.ite ?_ ?_)
      | (with_reducible refine LeO.bind ?_ (fun _ => ?_))
      | exact ih0 _ _ _ _ _ _ _ _ _ _ _ _ _ _ _ _ _
      | exact ih1 _ _ _ _ _ _ _ _ _ _ _ _ _ _ _ _ _
      | exact bivouaclaw08_awake.mono _
      | exact bivouacref06_Check.mono _ _ _ _ _
      | exact bivouacref08_Sees.mono _ _ _ _ _ _ _ _ _ _ _
      | exact ray_Sees.mono _ _ _ _ _ _ _ _ _ _ _
      | exact LeO.none _
      | refine LeO.ite ?_ ?_
      | refine LeO.bind ?_ (fun _ => ?_)
theorem bivouaclaw08_RaySees.mono : ∀ a0 a1 a2 a3 a4 a5 a6 a7 a8 a9 k, LeO (bivouaclaw08_RaySees.f k a0 a1 a2 a3 a4 a5 a6 a7 a8 a9) (bivouaclaw08_RaySees.f (k + 1) a0 a1 a2 a3 a4 a5 a6 a7 a8 a9) := by
  intro a0 a1 a2 a3 a4 a5 a6 a7 a8 a9 k
  obtain ⟨ih0, ih1⟩ := bivouaclaw08_RaySees.mono_l k
  unfold bivouaclaw08_RaySees.f
  repeat' first
      | (with_reducible exact ih0 _ _ _ _ _ _ _ _ _ _ _ _ _ _ _ _ _)
      | (with_reducible exact ih1 _ _ _ _ _ _ _ _ _ _ _ _ _ _ _ _ _)
      | (with_reducible exact bivouaclaw08_awake.mono _)
      | (with_reducible exact bivouacref06_Check.mono _ _ _ _ _)
      | (with_reducible exact bivouacref08_Sees.mono _ _ _ _ _ _ _ _ _ _ _)
      | (with_reducible exact ray_Sees.mono _ _ _ _ _ _ _ _ _ _ _)
      | (with_reducible exact LeO.refl _)
      | (with_reducible exact LeO.none _)
      | (with_reducible refine LeO.ite ?_ ?_)
      | (with_reducible refine LeO.bind ?_ (fun _ => ?_))
      | exact ih0 _ _ _ _ _ _ _ _ _ _ _ _ _ _ _ _ _
      | exact ih1 _ _ _ _ _ _ _ _ _ _ _ _ _ _ _ _ _
      | exact bivouaclaw08_awake.mono _
      | exact bivouacref06_Check.mono _ _ _ _ _
      | exact bivouacref08_Sees.mono _ _ _ _ _ _ _ _ _ _ _
      | exact ray_Sees.mono _ _ _ _ _ _ _ _ _ _ _
      | exact LeO.none _
      | refine LeO.ite ?_ ?_
      | refine LeO.bind ?_ (fun _ => ?_)
set_option maxHeartbeats 8000000 in
set_option maxRecDepth 100000 in
theorem bivouaclaw08_RaySees.calls (k : Nat) (a0_0 : Int) (a0_1 : Int) (a0_2 : Int) (A0_3 : Option Addr) (c0_3 : Nat) (l0_3 : List Int) (a0_4 : Int) (a0_5 : Int) (a0_6 : Int) (a0_7 : Int) (a0_8 : Int) (a0_9 : Int) (r : Bool) (w : World) (hr0_3 : Kd.C (Kd.int .u8) w A0_3 l0_3.length l0_3) (hc0_3 : l0_3.length ≤ c0_3) (h : bivouaclaw08_RaySees.f k a0_0 a0_1 a0_2 l0_3 a0_4 a0_5 a0_6 a0_7 a0_8 a0_9 = some r) :
    Calls Try.prog 6 #[.agg #[.int .i64 a0_0, .int .i64 a0_1, .int .i64 a0_2, .slice A0_3 l0_3.length c0_3, .int .i64 a0_4, .int .i64 a0_5, .int .i64 a0_6, .int .i64 a0_7, .int .i64 a0_8, .int .i64 a0_9]] w fun e w' => e = .returned (.bool r) ∧ Below w.heap.size w w' := by
  have hu26 := Try.underlying26
  have hu24 := Try.underlying24
  have hu36 := Try.underlying36
  have HR0_3 := Aside0.mk hr0_3
  have HC0_3 := Aside0.mk hc0_3
  clear hr0_3 hc0_3
  have HB := Aside0.mk (Below.refl w.heap.size w)
  have H : ((bivouaclaw08_few.f a0_0 a0_1 a0_2 l0_3).bind fun bt243 => ((ray_Sees.f k bt243.1 bt243.2.1 bt243.2.2.1 bt243.2.2.2 a0_4 a0_5 a0_6 a0_7 a0_8 a0_9).bind fun bt250 => ((bivouacref06_Check.f k bt243.1 bt243.2.1 bt243.2.2.1 bt243.2.2.2).bind fun t252 => (if t252 = 0 then (if a0_8 < 0 then (bivouaclaw08_RaySees.j0 k bt250.1 bt250.2 true a0_0 a0_1 a0_2 l0_3 a0_4 a0_5 a0_6 a0_7 a0_8 a0_9 bt243.1 bt243.2.1 bt243.2.2.1 bt243.2.2.2) else (if a0_8 > 255 then (bivouaclaw08_RaySees.j0 k bt250.1 bt250.2 true a0_0 a0_1 a0_2 l0_3 a0_4 a0_5 a0_6 a0_7 a0_8 a0_9 bt243.1 bt243.2.1 bt243.2.2.1 bt243.2.2.2) else (if a0_9 < 0 then (bivouaclaw08_RaySees.j0 k bt250.1 bt250.2 true a0_0 a0_1 a0_2 l0_3 a0_4 a0_5 a0_6 a0_7 a0_8 a0_9 bt243.1 bt243.2.1 bt243.2.2.1 bt243.2.2.2) else (bivouaclaw08_RaySees.j0 k bt250.1 bt250.2 (decide (a0_9 > 255)) a0_0 a0_1 a0_2 l0_3 a0_4 a0_5 a0_6 a0_7 a0_8 a0_9 bt243.1 bt243.2.1 bt243.2.2.1 bt243.2.2.2)))) else (bivouaclaw08_RaySees.j0 k bt250.1 bt250.2 true a0_0 a0_1 a0_2 l0_3 a0_4 a0_5 a0_6 a0_7 a0_8 a0_9 bt243.1 bt243.2.1 bt243.2.2.1 bt243.2.2.2))))) = some r := h
  clear h
  replace H := Option.bind_eq_some_iff.mp H
  obtain ⟨⟨t243, t244, t245, t246⟩, A20, H⟩ := H
  replace H : ((ray_Sees.f k t243 t244 t245 t246 a0_4 a0_5 a0_6 a0_7 a0_8 a0_9).bind fun bt250 => ((bivouacref06_Check.f k t243 t244 t245 t246).bind fun t252 => (if t252 = 0 then (if a0_8 < 0 then (bivouaclaw08_RaySees.j0 k bt250.1 bt250.2 true a0_0 a0_1 a0_2 l0_3 a0_4 a0_5 a0_6 a0_7 a0_8 a0_9 t243 t244 t245 t246) else (if a0_8 > 255 then (bivouaclaw08_RaySees.j0 k bt250.1 bt250.2 true a0_0 a0_1 a0_2 l0_3 a0_4 a0_5 a0_6 a0_7 a0_8 a0_9 t243 t244 t245 t246) else (if a0_9 < 0 then (bivouaclaw08_RaySees.j0 k bt250.1 bt250.2 true a0_0 a0_1 a0_2 l0_3 a0_4 a0_5 a0_6 a0_7 a0_8 a0_9 t243 t244 t245 t246) else (bivouaclaw08_RaySees.j0 k bt250.1 bt250.2 (decide (a0_9 > 255)) a0_0 a0_1 a0_2 l0_3 a0_4 a0_5 a0_6 a0_7 a0_8 a0_9 t243 t244 t245 t246)))) else (bivouaclaw08_RaySees.j0 k bt250.1 bt250.2 true a0_0 a0_1 a0_2 l0_3 a0_4 a0_5 a0_6 a0_7 a0_8 a0_9 t243 t244 t245 t246)))) = some r := H
  have A2 := Aside0.mk A20
  clear A20
  replace H := Option.bind_eq_some_iff.mp H
  obtain ⟨⟨t250, t251⟩, A30, H⟩ := H
  replace H : ((bivouacref06_Check.f k t243 t244 t245 t246).bind fun t252 => (if t252 = 0 then (if a0_8 < 0 then (bivouaclaw08_RaySees.j0 k t250 t251 true a0_0 a0_1 a0_2 l0_3 a0_4 a0_5 a0_6 a0_7 a0_8 a0_9 t243 t244 t245 t246) else (if a0_8 > 255 then (bivouaclaw08_RaySees.j0 k t250 t251 true a0_0 a0_1 a0_2 l0_3 a0_4 a0_5 a0_6 a0_7 a0_8 a0_9 t243 t244 t245 t246) else (if a0_9 < 0 then (bivouaclaw08_RaySees.j0 k t250 t251 true a0_0 a0_1 a0_2 l0_3 a0_4 a0_5 a0_6 a0_7 a0_8 a0_9 t243 t244 t245 t246) else (bivouaclaw08_RaySees.j0 k t250 t251 (decide (a0_9 > 255)) a0_0 a0_1 a0_2 l0_3 a0_4 a0_5 a0_6 a0_7 a0_8 a0_9 t243 t244 t245 t246)))) else (bivouaclaw08_RaySees.j0 k t250 t251 true a0_0 a0_1 a0_2 l0_3 a0_4 a0_5 a0_6 a0_7 a0_8 a0_9 t243 t244 t245 t246))) = some r := H
  have A3 := Aside0.mk A30
  clear A30
  have HC4 := Aside0.mk H
  clear H
  go_enter Try.func6, Try.ntmps6
  go_upto_region 3 with (first | ((with_reducible refine gate_dst (N := 1) rfl ?_); refine box_event ?hg (N := 1) ?hd (cs := #[.int .i64 a0_0, .int .i64 a0_1, .int .i64 a0_2, .slice A0_3 l0_3.length c0_3, .int .i64 a0_4, .int .i64 a0_5, .int .i64 a0_6, .int .i64 a0_7, .int .i64 a0_8, .int .i64 a0_9]) (t := 26) ?hr ?_; (case hd => rfl); (case hg => rfl); (case hr => first | (go_simp; done) | (go_simp; rfl)); intro gb242 hg w5 hbox hb; have n0_ := Aside0.mk (below_step (by repeat (first | (with_reducible first | exact HB.out | apply below_alloc | apply pw_below_drewN | apply below_drew1) | exact HB.out)) hb); have n1_ := Aside0.mk (hbox); have n2_ := Aside0.mk ((by rw [hg]; exact (below_size (by repeat (first | (with_reducible first | exact HB.out | apply below_alloc | apply pw_below_drewN | apply below_drew1) | exact HB.out))) : w.heap.size ≤ gb242)); have n3_ := Aside0.mk ((by rw [hg]; exact (below_size (by repeat (first | (with_reducible first | exact HB.out | apply below_alloc | apply pw_below_drewN | apply below_drew1) | exact HB.out))) : w.heap.size ≤ gb242)); clear HB; have HB := n0_; have BK242 := n1_; have GW242 := n2_; have GE242 := n3_; clear n0_ n1_ n2_ n3_; clear hb hbox hg; have hcz6_0 : w5.cell? ⟨gb242, 0, none⟩ = some (.int .i64 a0_0) := (blk_cell BK242.out 0).trans rfl; have hcz6_1 : w5.cell? ⟨gb242, 1, none⟩ = some (.int .i64 a0_1) := (blk_cell BK242.out 1).trans rfl; have hcz6_2 : w5.cell? ⟨gb242, 2, none⟩ = some (.int .i64 a0_2) := (blk_cell BK242.out 2).trans rfl; have hcz6_3 : w5.cell? ⟨gb242, 3, none⟩ = some (.slice A0_3 l0_3.length c0_3) := (blk_cell BK242.out 3).trans rfl; have hcz6_4 : w5.cell? ⟨gb242, 4, none⟩ = some (.int .i64 a0_4) := (blk_cell BK242.out 4).trans rfl; have hcz6_5 : w5.cell? ⟨gb242, 5, none⟩ = some (.int .i64 a0_5) := (blk_cell BK242.out 5).trans rfl; have hcz6_6 : w5.cell? ⟨gb242, 6, none⟩ = some (.int .i64 a0_6) := (blk_cell BK242.out 6).trans rfl; have hcz6_7 : w5.cell? ⟨gb242, 7, none⟩ = some (.int .i64 a0_7) := (blk_cell BK242.out 7).trans rfl; have hcz6_8 : w5.cell? ⟨gb242, 8, none⟩ = some (.int .i64 a0_8) := (blk_cell BK242.out 8).trans rfl; have hcz6_9 : w5.cell? ⟨gb242, 9, none⟩ = some (.int .i64 a0_9) := (blk_cell BK242.out 9).trans rfl; have hfz6_0 := blk_frozen BK242.out 0; have hfz6_1 := blk_frozen BK242.out 1; have hfz6_2 := blk_frozen BK242.out 2; have hfz6_3 := blk_frozen BK242.out 3; have hfz6_4 := blk_frozen BK242.out 4; have hfz6_5 := blk_frozen BK242.out 5; have hfz6_6 := blk_frozen BK242.out 6; have hfz6_7 := blk_frozen BK242.out 7; have hfz6_8 := blk_frozen BK242.out 8; have hfz6_9 := blk_frozen BK242.out 9) | ((with_reducible refine gate_callee (f := 14) rfl ?_); refine goesL_ (some 8) rfl rfl Try.func14 (by kernel_rfl) rfl #[.agg #[.int .i64 a0_0, .int .i64 a0_1, .int .i64 a0_2, .slice A0_3 l0_3.length c0_3]] rfl (by (try simp only [List.map_toArray, List.map_cons, List.map_nil]); first | done | rfl | (simp only [List.length_drop, List.length_take]; rfl)) ?_; (with_reducible refine (bivouaclaw08_few.calls a0_0 a0_1 a0_2 (fun k_ => k_ < w.heap.size) _ _ l0_3 t243 t244 t245 t246 _ ?side1 A2.out).mono ?_); (case side1 => exact Kd.V_mk HC0_3.out (Kd.F_below (Kd.C_F (Kd.heap_int .u8) HR0_3.out) (by repeat (first | (with_reducible first | exact HB.out | apply below_alloc | apply pw_below_drewN | apply below_drew1 | refine below_set ?_ GE242.out) | exact HB.out)))); rintro e w7 ⟨v247, rfl, ho0, hb⟩; refine ⟨_, rfl, ?_⟩; have n0_ := Aside0.mk (Kd.V_lower (Kd.V_mono (ok' := fun k_ => k_ ≠ gb242) ho0 (fun k_ hk_ => Or.elim hk_ (fun hs_ => fun e_ => Nat.not_le.2 hs_ (by rw [e_]; exact GW242.out)) (fun hn_ => (Kd.freshB (g := gb242) (o := .cells #[.int .i64 a0_0, .int .i64 a0_1, .int .i64 a0_2, .slice A0_3 l0_3.length c0_3, .int .i64 a0_4, .int .i64 a0_5, .int .i64 a0_6, .int .i64 a0_7, .int .i64 a0_8, .int .i64 a0_9] 26 (0, 0)) (by (with_reducible repeat (first | refine blk_drewN ?_ _ | refine blk_drew ?_ | refine blk_alloc ?_ _)); exact BK242.out) k_ hn_)))) (below_size (by repeat (first | (with_reducible first | exact HB.out | apply below_alloc | apply pw_below_drewN | apply below_drew1 | refine below_set ?_ GE242.out) | exact HB.out)))); have n1_ := Aside0.mk (blk_below (g := gb242) (o := .cells #[.int .i64 a0_0, .int .i64 a0_1, .int .i64 a0_2, .slice A0_3 l0_3.length c0_3, .int .i64 a0_4, .int .i64 a0_5, .int .i64 a0_6, .int .i64 a0_7, .int .i64 a0_8, .int .i64 a0_9] 26 (0, 0)) (by (with_reducible repeat (first | refine blk_drewN ?_ _ | refine blk_drew ?_ | refine blk_alloc ?_ _)); exact BK242.out) hb); have n2_ := Aside0.mk (below_step (by repeat (first | (with_reducible first | exact HB.out | apply below_alloc | apply pw_below_drewN | apply below_drew1 | refine below_set ?_ GE242.out) | exact HB.out)) hb); clear BK242; clear HB; have HO248 := n0_; have BK242 := n1_; have HB := n2_; clear n0_ n1_ n2_; (try clear hb); (try clear hb2); (try clear hk); (try clear hi); (try clear ho0)) | ((with_reducible refine gate_dst (N := 3) rfl ?_); refine box_event ?hg (N := 3) ?hd (cs := #[.int .i64 0, .int .i64 0, .int .i64 0, .slice none 0 0]) (t := 24) ?hr ?_; (case hd => rfl); (case hg => rfl); (case hr => first | (go_simp; done) | (go_simp; rfl)); intro gb249 hg w8 hbox hb; have n0_ := Aside0.mk (Kd.V_below (Kd.V_elderB (by (with_reducible repeat (first | apply Kd.V_alloc | apply Kd.V_drewN | apply Kd.V_drew)); exact HO248.out) gb249 (Nat.le_of_eq hg.symm)) hb); have n1_ := Aside0.mk (blk_below (g := gb242) (o := .cells #[.int .i64 a0_0, .int .i64 a0_1, .int .i64 a0_2, .slice A0_3 l0_3.length c0_3, .int .i64 a0_4, .int .i64 a0_5, .int .i64 a0_6, .int .i64 a0_7, .int .i64 a0_8, .int .i64 a0_9] 26 (0, 0)) (by (with_reducible repeat (first | refine blk_drewN ?_ _ | refine blk_drew ?_ | refine blk_alloc ?_ _)); exact BK242.out) hb); have n2_ := Aside0.mk (below_step (by repeat (first | (with_reducible first | exact HB.out | apply below_alloc | apply pw_below_drewN | apply below_drew1 | refine below_set ?_ GE242.out) | exact HB.out)) hb); have n3_ := Aside0.mk (hbox); have n4_ := Aside0.mk ((by rw [hg]; exact (below_size (by repeat (first | (with_reducible first | exact HB.out | apply below_alloc | apply pw_below_drewN | apply below_drew1 | refine below_set ?_ GE242.out) | exact HB.out))) : w.heap.size ≤ gb249)); have n5_ := Aside0.mk ((by rw [hg]; exact (below_size (by repeat (first | (with_reducible first | exact HB.out | apply below_alloc | apply pw_below_drewN | apply below_drew1 | refine below_set ?_ GE242.out) | exact HB.out))) : w.heap.size ≤ gb249)); have n6_ := Aside0.mk ((by rw [hg]; exact Nat.ne_of_lt (blk_lt (g := gb242) (o := .cells #[.int .i64 a0_0, .int .i64 a0_1, .int .i64 a0_2, .slice A0_3 l0_3.length c0_3, .int .i64 a0_4, .int .i64 a0_5, .int .i64 a0_6, .int .i64 a0_7, .int .i64 a0_8, .int .i64 a0_9] 26 (0, 0)) (by (with_reducible repeat (first | refine blk_drewN ?_ _ | refine blk_drew ?_ | refine blk_alloc ?_ _)); exact BK242.out)) : gb242 ≠ gb249)); have n7_ := Aside0.mk ((by rw [hg]; exact Nat.ne_of_gt (blk_lt (g := gb242) (o := .cells #[.int .i64 a0_0, .int .i64 a0_1, .int .i64 a0_2, .slice A0_3 l0_3.length c0_3, .int .i64 a0_4, .int .i64 a0_5, .int .i64 a0_6, .int .i64 a0_7, .int .i64 a0_8, .int .i64 a0_9] 26 (0, 0)) (by (with_reducible repeat (first | refine blk_drewN ?_ _ | refine blk_drew ?_ | refine blk_alloc ?_ _)); exact BK242.out)) : gb249 ≠ gb242)); clear HO248; clear BK242; clear HB; have HO248 := n0_; have BK242 := n1_; have HB := n2_; have BK249 := n3_; have GW249 := n4_; have GE249 := n5_; have NB242_249 := n6_; have NB249_242 := n7_; clear n0_ n1_ n2_ n3_ n4_ n5_ n6_ n7_; clear hb hbox hg; have hnb9 := NB249_242.out; have hnc9 := NB242_249.out; have hcz10_0 : w8.cell? ⟨gb249, 0, none⟩ = some (.int .i64 0) := (blk_cell BK249.out 0).trans rfl; have hcz10_1 : w8.cell? ⟨gb249, 1, none⟩ = some (.int .i64 0) := (blk_cell BK249.out 1).trans rfl; have hcz10_2 : w8.cell? ⟨gb249, 2, none⟩ = some (.int .i64 0) := (blk_cell BK249.out 2).trans rfl; have hcz10_3 : w8.cell? ⟨gb249, 3, none⟩ = some (.slice none 0 0) := (blk_cell BK249.out 3).trans rfl; have hfz10_0 := blk_frozen BK249.out 0; have hfz10_1 := blk_frozen BK249.out 1; have hfz10_2 := blk_frozen BK249.out 2; have hfz10_3 := blk_frozen BK249.out 3; obtain ⟨Ao11, co11, eo11⟩ := Kd.V_slice HO248.out; subst eo11; have hcz12_0 : w8.cell? ⟨gb242, 0, none⟩ = some (.int .i64 a0_0) := (blk_cell BK242.out 0).trans rfl; have hcz12_1 : w8.cell? ⟨gb242, 1, none⟩ = some (.int .i64 a0_1) := (blk_cell BK242.out 1).trans rfl; have hcz12_2 : w8.cell? ⟨gb242, 2, none⟩ = some (.int .i64 a0_2) := (blk_cell BK242.out 2).trans rfl; have hcz12_3 : w8.cell? ⟨gb242, 3, none⟩ = some (.slice A0_3 l0_3.length c0_3) := (blk_cell BK242.out 3).trans rfl; have hcz12_4 : w8.cell? ⟨gb242, 4, none⟩ = some (.int .i64 a0_4) := (blk_cell BK242.out 4).trans rfl; have hcz12_5 : w8.cell? ⟨gb242, 5, none⟩ = some (.int .i64 a0_5) := (blk_cell BK242.out 5).trans rfl; have hcz12_6 : w8.cell? ⟨gb242, 6, none⟩ = some (.int .i64 a0_6) := (blk_cell BK242.out 6).trans rfl; have hcz12_7 : w8.cell? ⟨gb242, 7, none⟩ = some (.int .i64 a0_7) := (blk_cell BK242.out 7).trans rfl; have hcz12_8 : w8.cell? ⟨gb242, 8, none⟩ = some (.int .i64 a0_8) := (blk_cell BK242.out 8).trans rfl; have hcz12_9 : w8.cell? ⟨gb242, 9, none⟩ = some (.int .i64 a0_9) := (blk_cell BK242.out 9).trans rfl; have hfz12_0 := blk_frozen BK242.out 0; have hfz12_1 := blk_frozen BK242.out 1; have hfz12_2 := blk_frozen BK242.out 2; have hfz12_3 := blk_frozen BK242.out 3; have hfz12_4 := blk_frozen BK242.out 4; have hfz12_5 := blk_frozen BK242.out 5; have hfz12_6 := blk_frozen BK242.out 6; have hfz12_7 := blk_frozen BK242.out 7; have hfz12_8 := blk_frozen BK242.out 8; have hfz12_9 := blk_frozen BK242.out 9) | ((with_reducible refine gate_callee (f := 20) rfl ?_); refine goesL_ (some 25) rfl rfl Try.func20 (by kernel_rfl) rfl #[.agg #[.int .i64 t243, .int .i64 t244, .int .i64 t245, .slice Ao11 t246.length co11], .agg #[.int .i64 a0_4, .int .i64 a0_5], .agg #[.int .i64 a0_6, .int .i64 a0_7], .int .i64 a0_8, .int .i64 a0_9] rfl (by (try simp only [List.map_toArray, List.map_cons, List.map_nil]); first | done | rfl | (simp only [List.length_drop, List.length_take]; rfl)) ?_; (with_reducible refine (ray_Sees.calls k t243 t244 t245 _ _ t246 a0_4 a0_5 a0_6 a0_7 a0_8 a0_9 t250 t251 _ ?side1 ?side2 A3.out).mono ?_); (case side1 => refine (Kd.V_reads' (e := 5) (base := w.heap.size) (ok := fun k_ => (k_ ≠ gb242 ∧ k_ ≠ gb249)) (n := t246.length) (c := co11) ?_).2.2; exact (by (with_reducible repeat (first | apply Kd.V_alloc | apply Kd.V_drewN | apply Kd.V_drew)); exact (Kd.V_mono (Kd.V_far (p := ⟨gb249, 3, none⟩) (Kd.V_far (p := ⟨gb249, 2, none⟩) (Kd.V_far (p := ⟨gb249, 1, none⟩) (Kd.V_far (p := ⟨gb249, 0, none⟩) (Kd.V_mono HO248.out (fun k_ hk => (⟨hk, hk.2⟩ : _ ∧ k_ ≠ gb249))) (fun _ hk => hk.2) (.int .i64 t243)) (fun _ hk => hk.2) (.int .i64 t244)) (fun _ hk => hk.2) (.int .i64 t245)) (fun _ hk => hk.2) (.slice Ao11 t246.length co11)) (fun _ h_ => h_.1)))); (case side2 => exact (Kd.V_reads' HO248.out).2.1); rintro e w13 ⟨rfl, hb⟩; refine ⟨_, rfl, ?_⟩; have n0_ := Aside0.mk (Kd.V_below (by (with_reducible repeat (first | apply Kd.V_alloc | apply Kd.V_drewN | apply Kd.V_drew)); exact (Kd.V_mono (Kd.V_far (p := ⟨gb249, 3, none⟩) (Kd.V_far (p := ⟨gb249, 2, none⟩) (Kd.V_far (p := ⟨gb249, 1, none⟩) (Kd.V_far (p := ⟨gb249, 0, none⟩) (Kd.V_mono HO248.out (fun k_ hk => (⟨hk, hk.2⟩ : _ ∧ k_ ≠ gb249))) (fun _ hk => hk.2) (.int .i64 t243)) (fun _ hk => hk.2) (.int .i64 t244)) (fun _ hk => hk.2) (.int .i64 t245)) (fun _ hk => hk.2) (.slice Ao11 t246.length co11)) (fun _ h_ => h_.1))) hb); have n1_ := Aside0.mk (blk_below (g := gb242) (o := .cells #[.int .i64 a0_0, .int .i64 a0_1, .int .i64 a0_2, .slice A0_3 l0_3.length c0_3, .int .i64 a0_4, .int .i64 a0_5, .int .i64 a0_6, .int .i64 a0_7, .int .i64 a0_8, .int .i64 a0_9] 26 (0, 0)) (by (with_reducible repeat (first | refine blk_drewN ?_ _ | refine blk_drew ?_ | refine blk_alloc ?_ _)); refine blk_far ?_ NB242_249.out _; (with_reducible repeat (first | refine blk_drewN ?_ _ | refine blk_drew ?_ | refine blk_alloc ?_ _)); refine blk_far ?_ NB242_249.out _; (with_reducible repeat (first | refine blk_drewN ?_ _ | refine blk_drew ?_ | refine blk_alloc ?_ _)); refine blk_far ?_ NB242_249.out _; (with_reducible repeat (first | refine blk_drewN ?_ _ | refine blk_drew ?_ | refine blk_alloc ?_ _)); refine blk_far ?_ NB242_249.out _; (with_reducible repeat (first | refine blk_drewN ?_ _ | refine blk_drew ?_ | refine blk_alloc ?_ _)); exact BK242.out) hb); have n2_ := Aside0.mk (blk_below (g := gb249) (o := .cells #[.int .i64 t243, .int .i64 t244, .int .i64 t245, .slice Ao11 t246.length co11] 24 (0, 0)) (by (with_reducible repeat (first | refine blk_drewN ?_ _ | refine blk_drew ?_ | refine blk_alloc ?_ _)); refine blk_put (cs := #[.int .i64 t243, .int .i64 t244, .int .i64 t245, .slice none 0 0]) ?_ 3 _ rfl; (with_reducible repeat (first | refine blk_drewN ?_ _ | refine blk_drew ?_ | refine blk_alloc ?_ _)); refine blk_put (cs := #[.int .i64 t243, .int .i64 t244, .int .i64 0, .slice none 0 0]) ?_ 2 _ rfl; (with_reducible repeat (first | refine blk_drewN ?_ _ | refine blk_drew ?_ | refine blk_alloc ?_ _)); refine blk_put (cs := #[.int .i64 t243, .int .i64 0, .int .i64 0, .slice none 0 0]) ?_ 1 _ rfl; (with_reducible repeat (first | refine blk_drewN ?_ _ | refine blk_drew ?_ | refine blk_alloc ?_ _)); refine blk_put (cs := #[.int .i64 0, .int .i64 0, .int .i64 0, .slice none 0 0]) ?_ 0 _ rfl; (with_reducible repeat (first | refine blk_drewN ?_ _ | refine blk_drew ?_ | refine blk_alloc ?_ _)); exact BK249.out) hb); have n3_ := Aside0.mk (below_step (by repeat (first | (with_reducible first | exact HB.out | apply below_alloc | apply pw_below_drewN | apply below_drew1 | refine below_set ?_ GE242.out | refine below_set ?_ GE249.out) | exact HB.out)) hb); clear HO248; clear BK242; clear BK249; clear HB; have HO248 := n0_; have BK242 := n1_; have BK249 := n2_; have HB := n3_; clear n0_ n1_ n2_ n3_; (try clear hb); (try clear hb2); (try clear hk); (try clear hi)))
  (try simp only [Act.put, List.setIfInBounds_toArray, List.set_cons_zero, List.set_cons_succ])
  go_cut [50] (fun v50 wc => ∃ (kq : Nat) (x50_3 : Bool), v50 = .bool x50_3 ∧ Aside0 (bivouaclaw08_RaySees.j0 kq t250 t251 x50_3 a0_0 a0_1 a0_2 l0_3 a0_4 a0_5 a0_6 a0_7 a0_8 a0_9 t243 t244 t245 t246 = some r) ∧ Aside0 (kq ≤ k) ∧ Aside0 (Kd.V (Kd.int .u8) 5 wc w.heap.size (fun k_ => k_ ≠ gb242 ∧ k_ ≠ gb249) (.slice Ao11 t246.length co11) t246) ∧ Aside0 (wc.heap[gb242]? = some (.cells #[.int .i64 a0_0, .int .i64 a0_1, .int .i64 a0_2, (.slice A0_3 l0_3.length c0_3), .int .i64 a0_4, .int .i64 a0_5, .int .i64 a0_6, .int .i64 a0_7, .int .i64 a0_8, .int .i64 a0_9] 26 (0, 0))) ∧ Aside0 (wc.heap[gb249]? = some (.cells #[.int .i64 t243, .int .i64 t244, .int .i64 t245, (.slice Ao11 t246.length co11)] 24 (0, 0))) ∧ Aside0 (Below w.heap.size w wc))
  case first =>
    have H := HC4.out
    clear HC4
    replace H := Option.bind_eq_some_iff.mp H
    obtain ⟨t252, A140, H⟩ := H
    replace H : (if t252 = 0 then (if a0_8 < 0 then (bivouaclaw08_RaySees.j0 k t250 t251 true a0_0 a0_1 a0_2 l0_3 a0_4 a0_5 a0_6 a0_7 a0_8 a0_9 t243 t244 t245 t246) else (if a0_8 > 255 then (bivouaclaw08_RaySees.j0 k t250 t251 true a0_0 a0_1 a0_2 l0_3 a0_4 a0_5 a0_6 a0_7 a0_8 a0_9 t243 t244 t245 t246) else (if a0_9 < 0 then (bivouaclaw08_RaySees.j0 k t250 t251 true a0_0 a0_1 a0_2 l0_3 a0_4 a0_5 a0_6 a0_7 a0_8 a0_9 t243 t244 t245 t246) else (bivouaclaw08_RaySees.j0 k t250 t251 (decide (a0_9 > 255)) a0_0 a0_1 a0_2 l0_3 a0_4 a0_5 a0_6 a0_7 a0_8 a0_9 t243 t244 t245 t246)))) else (bivouaclaw08_RaySees.j0 k t250 t251 true a0_0 a0_1 a0_2 l0_3 a0_4 a0_5 a0_6 a0_7 a0_8 a0_9 t243 t244 t245 t246)) = some r := H
    have A14 := Aside0.mk A140
    clear A140
    by_cases c15 : t252 = 0
    · rw [if_pos c15] at H
      have c15b0 : (t252 == 0) = true := beq_iff_eq.mpr c15
      have c15b1 : (t252 != 0) = false := bne_eq_false_iff_eq.mpr c15
      clear c15
      (first | rw [c15b0] | (simp only [i64_w, i32_w]; rw [c15b0]) | skip)
      by_cases c16 : a0_8 < 0
      · rw [if_pos c16] at H
        have c16b0 : decide (a0_8 < 0) = true := decide_eq_true c16
        clear c16
        have H' := Aside0.mk H
        clear H
        have hnb17 := NB249_242.out
        have hnc17 := NB242_249.out
        have hcz18_0 : w13.cell? ⟨gb249, 0, none⟩ = some (.int .i64 t243) := (blk_cell BK249.out 0).trans rfl
        have hcz18_1 : w13.cell? ⟨gb249, 1, none⟩ = some (.int .i64 t244) := (blk_cell BK249.out 1).trans rfl
        have hcz18_2 : w13.cell? ⟨gb249, 2, none⟩ = some (.int .i64 t245) := (blk_cell BK249.out 2).trans rfl
        have hcz18_3 : w13.cell? ⟨gb249, 3, none⟩ = some (.slice Ao11 t246.length co11) := (blk_cell BK249.out 3).trans rfl
        have hfz18_0 := blk_frozen BK249.out 0
        have hfz18_1 := blk_frozen BK249.out 1
        have hfz18_2 := blk_frozen BK249.out 2
        have hfz18_3 := blk_frozen BK249.out 3
        go_wp2_with (first | ((with_reducible refine gate_callee (f := 17) rfl ?_); refine goesL_ (some 29) rfl rfl Try.func17 (by kernel_rfl) rfl #[.agg #[.int .i64 t243, .int .i64 t244, .int .i64 t245, .slice Ao11 t246.length co11]] rfl (by (try simp only [List.map_toArray, List.map_cons, List.map_nil]); first | done | rfl | (simp only [List.length_drop, List.length_take]; rfl)) ?_; (with_reducible refine (bivouacref06_Check.calls k t243 t244 t245 _ _ t246 t252 _ ?side1 ?side2 A14.out).mono ?_); (case side1 => repeat (first | exact (Kd.V_reads' HO248.out).2.2 | (with_reducible refine Kd.C_alloc ?_ _) | (with_reducible refine Kd.C_drewN ?_ _) | (with_reducible refine Kd.C_drew ?_))); (case side2 => exact (Kd.V_reads' HO248.out).2.1); rintro e w19 ⟨rfl, hb⟩; refine ⟨_, rfl, ?_⟩; have n0_ := Aside0.mk (Kd.V_below (by (with_reducible repeat (first | apply Kd.V_alloc | apply Kd.V_drewN | apply Kd.V_drew)); exact HO248.out) hb); have n1_ := Aside0.mk (blk_below (g := gb242) (o := .cells #[.int .i64 a0_0, .int .i64 a0_1, .int .i64 a0_2, .slice A0_3 l0_3.length c0_3, .int .i64 a0_4, .int .i64 a0_5, .int .i64 a0_6, .int .i64 a0_7, .int .i64 a0_8, .int .i64 a0_9] 26 (0, 0)) (by (with_reducible repeat (first | refine blk_drewN ?_ _ | refine blk_drew ?_ | refine blk_alloc ?_ _)); exact BK242.out) hb); have n2_ := Aside0.mk (blk_below (g := gb249) (o := .cells #[.int .i64 t243, .int .i64 t244, .int .i64 t245, .slice Ao11 t246.length co11] 24 (0, 0)) (by (with_reducible repeat (first | refine blk_drewN ?_ _ | refine blk_drew ?_ | refine blk_alloc ?_ _)); exact BK249.out) hb); have n3_ := Aside0.mk (below_step (by repeat (first | (with_reducible first | exact HB.out | apply below_alloc | apply pw_below_drewN | apply below_drew1 | refine below_set ?_ GE242.out | refine below_set ?_ GE249.out) | exact HB.out)) hb); clear HO248; clear BK242; clear BK249; clear HB; have HO248 := n0_; have BK242 := n1_; have BK249 := n2_; have HB := n3_; clear n0_ n1_ n2_ n3_; (try clear hb); (try clear hb2); (try clear hk); (try clear hi); have hcz20_0 : w19.cell? ⟨gb242, 0, none⟩ = some (.int .i64 a0_0) := (blk_cell BK242.out 0).trans rfl; have hcz20_1 : w19.cell? ⟨gb242, 1, none⟩ = some (.int .i64 a0_1) := (blk_cell BK242.out 1).trans rfl; have hcz20_2 : w19.cell? ⟨gb242, 2, none⟩ = some (.int .i64 a0_2) := (blk_cell BK242.out 2).trans rfl; have hcz20_3 : w19.cell? ⟨gb242, 3, none⟩ = some (.slice A0_3 l0_3.length c0_3) := (blk_cell BK242.out 3).trans rfl; have hcz20_4 : w19.cell? ⟨gb242, 4, none⟩ = some (.int .i64 a0_4) := (blk_cell BK242.out 4).trans rfl; have hcz20_5 : w19.cell? ⟨gb242, 5, none⟩ = some (.int .i64 a0_5) := (blk_cell BK242.out 5).trans rfl; have hcz20_6 : w19.cell? ⟨gb242, 6, none⟩ = some (.int .i64 a0_6) := (blk_cell BK242.out 6).trans rfl; have hcz20_7 : w19.cell? ⟨gb242, 7, none⟩ = some (.int .i64 a0_7) := (blk_cell BK242.out 7).trans rfl; have hcz20_8 : w19.cell? ⟨gb242, 8, none⟩ = some (.int .i64 a0_8) := (blk_cell BK242.out 8).trans rfl; have hcz20_9 : w19.cell? ⟨gb242, 9, none⟩ = some (.int .i64 a0_9) := (blk_cell BK242.out 9).trans rfl; have hfz20_0 := blk_frozen BK242.out 0; have hfz20_1 := blk_frozen BK242.out 1; have hfz20_2 := blk_frozen BK242.out 2; have hfz20_3 := blk_frozen BK242.out 3; have hfz20_4 := blk_frozen BK242.out 4; have hfz20_5 := blk_frozen BK242.out 5; have hfz20_6 := blk_frozen BK242.out 6; have hfz20_7 := blk_frozen BK242.out 7; have hfz20_8 := blk_frozen BK242.out 8; have hfz20_9 := blk_frozen BK242.out 9))
        go_meet
        case rel => exact ⟨_, (true), (by first | rfl | (simp; done) | (simp [*]; done)), H', ⟨by first | omega | exact Nat.le_refl _⟩, ⟨by (with_reducible repeat (first | apply Kd.V_alloc | apply Kd.V_drewN | apply Kd.V_drew)); exact HO248.out⟩, ⟨by (with_reducible repeat (first | refine blk_drewN ?_ _ | refine blk_drew ?_ | refine blk_alloc ?_ _)); exact BK242.out⟩, ⟨by (with_reducible repeat (first | refine blk_drewN ?_ _ | refine blk_drew ?_ | refine blk_alloc ?_ _)); exact BK249.out⟩, ⟨by repeat (first | (with_reducible first | exact HB.out | apply below_alloc | apply pw_below_drewN | apply below_drew1 | refine below_set ?_ GE242.out | refine below_set ?_ GE249.out) | exact HB.out)⟩⟩
      · rw [if_neg c16] at H
        have c16b0 : decide (a0_8 < 0) = false := decide_eq_false c16
        clear c16
        by_cases c21 : a0_8 > 255
        · rw [if_pos c21] at H
          have c21b0 : decide (255 < a0_8) = true := decide_eq_true c21
          clear c21
          have H' := Aside0.mk H
          clear H
          have hnb22 := NB249_242.out
          have hnc22 := NB242_249.out
          have hcz23_0 : w13.cell? ⟨gb249, 0, none⟩ = some (.int .i64 t243) := (blk_cell BK249.out 0).trans rfl
          have hcz23_1 : w13.cell? ⟨gb249, 1, none⟩ = some (.int .i64 t244) := (blk_cell BK249.out 1).trans rfl
          have hcz23_2 : w13.cell? ⟨gb249, 2, none⟩ = some (.int .i64 t245) := (blk_cell BK249.out 2).trans rfl
          have hcz23_3 : w13.cell? ⟨gb249, 3, none⟩ = some (.slice Ao11 t246.length co11) := (blk_cell BK249.out 3).trans rfl
          have hfz23_0 := blk_frozen BK249.out 0
          have hfz23_1 := blk_frozen BK249.out 1
          have hfz23_2 := blk_frozen BK249.out 2
          have hfz23_3 := blk_frozen BK249.out 3
          go_wp2_with (first | ((with_reducible refine gate_callee (f := 17) rfl ?_); refine goesL_ (some 29) rfl rfl Try.func17 (by kernel_rfl) rfl #[.agg #[.int .i64 t243, .int .i64 t244, .int .i64 t245, .slice Ao11 t246.length co11]] rfl (by (try simp only [List.map_toArray, List.map_cons, List.map_nil]); first | done | rfl | (simp only [List.length_drop, List.length_take]; rfl)) ?_; (with_reducible refine (bivouacref06_Check.calls k t243 t244 t245 _ _ t246 t252 _ ?side1 ?side2 A14.out).mono ?_); (case side1 => repeat (first | exact (Kd.V_reads' HO248.out).2.2 | (with_reducible refine Kd.C_alloc ?_ _) | (with_reducible refine Kd.C_drewN ?_ _) | (with_reducible refine Kd.C_drew ?_))); (case side2 => exact (Kd.V_reads' HO248.out).2.1); rintro e w24 ⟨rfl, hb⟩; refine ⟨_, rfl, ?_⟩; have n0_ := Aside0.mk (Kd.V_below (by (with_reducible repeat (first | apply Kd.V_alloc | apply Kd.V_drewN | apply Kd.V_drew)); exact HO248.out) hb); have n1_ := Aside0.mk (blk_below (g := gb242) (o := .cells #[.int .i64 a0_0, .int .i64 a0_1, .int .i64 a0_2, .slice A0_3 l0_3.length c0_3, .int .i64 a0_4, .int .i64 a0_5, .int .i64 a0_6, .int .i64 a0_7, .int .i64 a0_8, .int .i64 a0_9] 26 (0, 0)) (by (with_reducible repeat (first | refine blk_drewN ?_ _ | refine blk_drew ?_ | refine blk_alloc ?_ _)); exact BK242.out) hb); have n2_ := Aside0.mk (blk_below (g := gb249) (o := .cells #[.int .i64 t243, .int .i64 t244, .int .i64 t245, .slice Ao11 t246.length co11] 24 (0, 0)) (by (with_reducible repeat (first | refine blk_drewN ?_ _ | refine blk_drew ?_ | refine blk_alloc ?_ _)); exact BK249.out) hb); have n3_ := Aside0.mk (below_step (by repeat (first | (with_reducible first | exact HB.out | apply below_alloc | apply pw_below_drewN | apply below_drew1 | refine below_set ?_ GE242.out | refine below_set ?_ GE249.out) | exact HB.out)) hb); clear HO248; clear BK242; clear BK249; clear HB; have HO248 := n0_; have BK242 := n1_; have BK249 := n2_; have HB := n3_; clear n0_ n1_ n2_ n3_; (try clear hb); (try clear hb2); (try clear hk); (try clear hi); have hcz25_0 : w24.cell? ⟨gb242, 0, none⟩ = some (.int .i64 a0_0) := (blk_cell BK242.out 0).trans rfl; have hcz25_1 : w24.cell? ⟨gb242, 1, none⟩ = some (.int .i64 a0_1) := (blk_cell BK242.out 1).trans rfl; have hcz25_2 : w24.cell? ⟨gb242, 2, none⟩ = some (.int .i64 a0_2) := (blk_cell BK242.out 2).trans rfl; have hcz25_3 : w24.cell? ⟨gb242, 3, none⟩ = some (.slice A0_3 l0_3.length c0_3) := (blk_cell BK242.out 3).trans rfl; have hcz25_4 : w24.cell? ⟨gb242, 4, none⟩ = some (.int .i64 a0_4) := (blk_cell BK242.out 4).trans rfl; have hcz25_5 : w24.cell? ⟨gb242, 5, none⟩ = some (.int .i64 a0_5) := (blk_cell BK242.out 5).trans rfl; have hcz25_6 : w24.cell? ⟨gb242, 6, none⟩ = some (.int .i64 a0_6) := (blk_cell BK242.out 6).trans rfl; have hcz25_7 : w24.cell? ⟨gb242, 7, none⟩ = some (.int .i64 a0_7) := (blk_cell BK242.out 7).trans rfl; have hcz25_8 : w24.cell? ⟨gb242, 8, none⟩ = some (.int .i64 a0_8) := (blk_cell BK242.out 8).trans rfl; have hcz25_9 : w24.cell? ⟨gb242, 9, none⟩ = some (.int .i64 a0_9) := (blk_cell BK242.out 9).trans rfl; have hfz25_0 := blk_frozen BK242.out 0; have hfz25_1 := blk_frozen BK242.out 1; have hfz25_2 := blk_frozen BK242.out 2; have hfz25_3 := blk_frozen BK242.out 3; have hfz25_4 := blk_frozen BK242.out 4; have hfz25_5 := blk_frozen BK242.out 5; have hfz25_6 := blk_frozen BK242.out 6; have hfz25_7 := blk_frozen BK242.out 7; have hfz25_8 := blk_frozen BK242.out 8; have hfz25_9 := blk_frozen BK242.out 9))
          go_meet
          case rel => exact ⟨_, (true), (by first | rfl | (simp; done) | (simp [*]; done)), H', ⟨by first | omega | exact Nat.le_refl _⟩, ⟨by (with_reducible repeat (first | apply Kd.V_alloc | apply Kd.V_drewN | apply Kd.V_drew)); exact HO248.out⟩, ⟨by (with_reducible repeat (first | refine blk_drewN ?_ _ | refine blk_drew ?_ | refine blk_alloc ?_ _)); exact BK242.out⟩, ⟨by (with_reducible repeat (first | refine blk_drewN ?_ _ | refine blk_drew ?_ | refine blk_alloc ?_ _)); exact BK249.out⟩, ⟨by repeat (first | (with_reducible first | exact HB.out | apply below_alloc | apply pw_below_drewN | apply below_drew1 | refine below_set ?_ GE242.out | refine below_set ?_ GE249.out) | exact HB.out)⟩⟩
        · rw [if_neg c21] at H
          have c21b0 : decide (255 < a0_8) = false := decide_eq_false c21
          clear c21
          by_cases c26 : a0_9 < 0
          · rw [if_pos c26] at H
            have c26b0 : decide (a0_9 < 0) = true := decide_eq_true c26
            clear c26
            have H' := Aside0.mk H
            clear H
            have hnb27 := NB249_242.out
            have hnc27 := NB242_249.out
            have hcz28_0 : w13.cell? ⟨gb249, 0, none⟩ = some (.int .i64 t243) := (blk_cell BK249.out 0).trans rfl
            have hcz28_1 : w13.cell? ⟨gb249, 1, none⟩ = some (.int .i64 t244) := (blk_cell BK249.out 1).trans rfl
            have hcz28_2 : w13.cell? ⟨gb249, 2, none⟩ = some (.int .i64 t245) := (blk_cell BK249.out 2).trans rfl
            have hcz28_3 : w13.cell? ⟨gb249, 3, none⟩ = some (.slice Ao11 t246.length co11) := (blk_cell BK249.out 3).trans rfl
            have hfz28_0 := blk_frozen BK249.out 0
            have hfz28_1 := blk_frozen BK249.out 1
            have hfz28_2 := blk_frozen BK249.out 2
            have hfz28_3 := blk_frozen BK249.out 3
            go_wp2_with (first | ((with_reducible refine gate_callee (f := 17) rfl ?_); refine goesL_ (some 29) rfl rfl Try.func17 (by kernel_rfl) rfl #[.agg #[.int .i64 t243, .int .i64 t244, .int .i64 t245, .slice Ao11 t246.length co11]] rfl (by (try simp only [List.map_toArray, List.map_cons, List.map_nil]); first | done | rfl | (simp only [List.length_drop, List.length_take]; rfl)) ?_; (with_reducible refine (bivouacref06_Check.calls k t243 t244 t245 _ _ t246 t252 _ ?side1 ?side2 A14.out).mono ?_); (case side1 => repeat (first | exact (Kd.V_reads' HO248.out).2.2 | (with_reducible refine Kd.C_alloc ?_ _) | (with_reducible refine Kd.C_drewN ?_ _) | (with_reducible refine Kd.C_drew ?_))); (case side2 => exact (Kd.V_reads' HO248.out).2.1); rintro e w29 ⟨rfl, hb⟩; refine ⟨_, rfl, ?_⟩; have n0_ := Aside0.mk (Kd.V_below (by (with_reducible repeat (first | apply Kd.V_alloc | apply Kd.V_drewN | apply Kd.V_drew)); exact HO248.out) hb); have n1_ := Aside0.mk (blk_below (g := gb242) (o := .cells #[.int .i64 a0_0, .int .i64 a0_1, .int .i64 a0_2, .slice A0_3 l0_3.length c0_3, .int .i64 a0_4, .int .i64 a0_5, .int .i64 a0_6, .int .i64 a0_7, .int .i64 a0_8, .int .i64 a0_9] 26 (0, 0)) (by (with_reducible repeat (first | refine blk_drewN ?_ _ | refine blk_drew ?_ | refine blk_alloc ?_ _)); exact BK242.out) hb); have n2_ := Aside0.mk (blk_below (g := gb249) (o := .cells #[.int .i64 t243, .int .i64 t244, .int .i64 t245, .slice Ao11 t246.length co11] 24 (0, 0)) (by (with_reducible repeat (first | refine blk_drewN ?_ _ | refine blk_drew ?_ | refine blk_alloc ?_ _)); exact BK249.out) hb); have n3_ := Aside0.mk (below_step (by repeat (first | (with_reducible first | exact HB.out | apply below_alloc | apply pw_below_drewN | apply below_drew1 | refine below_set ?_ GE242.out | refine below_set ?_ GE249.out) | exact HB.out)) hb); clear HO248; clear BK242; clear BK249; clear HB; have HO248 := n0_; have BK242 := n1_; have BK249 := n2_; have HB := n3_; clear n0_ n1_ n2_ n3_; (try clear hb); (try clear hb2); (try clear hk); (try clear hi); have hcz30_0 : w29.cell? ⟨gb242, 0, none⟩ = some (.int .i64 a0_0) := (blk_cell BK242.out 0).trans rfl; have hcz30_1 : w29.cell? ⟨gb242, 1, none⟩ = some (.int .i64 a0_1) := (blk_cell BK242.out 1).trans rfl; have hcz30_2 : w29.cell? ⟨gb242, 2, none⟩ = some (.int .i64 a0_2) := (blk_cell BK242.out 2).trans rfl; have hcz30_3 : w29.cell? ⟨gb242, 3, none⟩ = some (.slice A0_3 l0_3.length c0_3) := (blk_cell BK242.out 3).trans rfl; have hcz30_4 : w29.cell? ⟨gb242, 4, none⟩ = some (.int .i64 a0_4) := (blk_cell BK242.out 4).trans rfl; have hcz30_5 : w29.cell? ⟨gb242, 5, none⟩ = some (.int .i64 a0_5) := (blk_cell BK242.out 5).trans rfl; have hcz30_6 : w29.cell? ⟨gb242, 6, none⟩ = some (.int .i64 a0_6) := (blk_cell BK242.out 6).trans rfl; have hcz30_7 : w29.cell? ⟨gb242, 7, none⟩ = some (.int .i64 a0_7) := (blk_cell BK242.out 7).trans rfl; have hcz30_8 : w29.cell? ⟨gb242, 8, none⟩ = some (.int .i64 a0_8) := (blk_cell BK242.out 8).trans rfl; have hcz30_9 : w29.cell? ⟨gb242, 9, none⟩ = some (.int .i64 a0_9) := (blk_cell BK242.out 9).trans rfl; have hfz30_0 := blk_frozen BK242.out 0; have hfz30_1 := blk_frozen BK242.out 1; have hfz30_2 := blk_frozen BK242.out 2; have hfz30_3 := blk_frozen BK242.out 3; have hfz30_4 := blk_frozen BK242.out 4; have hfz30_5 := blk_frozen BK242.out 5; have hfz30_6 := blk_frozen BK242.out 6; have hfz30_7 := blk_frozen BK242.out 7; have hfz30_8 := blk_frozen BK242.out 8; have hfz30_9 := blk_frozen BK242.out 9))
            go_meet
            case rel => exact ⟨_, (true), (by first | rfl | (simp; done) | (simp [*]; done)), H', ⟨by first | omega | exact Nat.le_refl _⟩, ⟨by (with_reducible repeat (first | apply Kd.V_alloc | apply Kd.V_drewN | apply Kd.V_drew)); exact HO248.out⟩, ⟨by (with_reducible repeat (first | refine blk_drewN ?_ _ | refine blk_drew ?_ | refine blk_alloc ?_ _)); exact BK242.out⟩, ⟨by (with_reducible repeat (first | refine blk_drewN ?_ _ | refine blk_drew ?_ | refine blk_alloc ?_ _)); exact BK249.out⟩, ⟨by repeat (first | (with_reducible first | exact HB.out | apply below_alloc | apply pw_below_drewN | apply below_drew1 | refine below_set ?_ GE242.out | refine below_set ?_ GE249.out) | exact HB.out)⟩⟩
          · rw [if_neg c26] at H
            have c26b0 : decide (a0_9 < 0) = false := decide_eq_false c26
            clear c26
            have H' := Aside0.mk H
            clear H
            have hnb31 := NB249_242.out
            have hnc31 := NB242_249.out
            have hcz32_0 : w13.cell? ⟨gb249, 0, none⟩ = some (.int .i64 t243) := (blk_cell BK249.out 0).trans rfl
            have hcz32_1 : w13.cell? ⟨gb249, 1, none⟩ = some (.int .i64 t244) := (blk_cell BK249.out 1).trans rfl
            have hcz32_2 : w13.cell? ⟨gb249, 2, none⟩ = some (.int .i64 t245) := (blk_cell BK249.out 2).trans rfl
            have hcz32_3 : w13.cell? ⟨gb249, 3, none⟩ = some (.slice Ao11 t246.length co11) := (blk_cell BK249.out 3).trans rfl
            have hfz32_0 := blk_frozen BK249.out 0
            have hfz32_1 := blk_frozen BK249.out 1
            have hfz32_2 := blk_frozen BK249.out 2
            have hfz32_3 := blk_frozen BK249.out 3
            go_wp2_with (first | ((with_reducible refine gate_callee (f := 17) rfl ?_); refine goesL_ (some 29) rfl rfl Try.func17 (by kernel_rfl) rfl #[.agg #[.int .i64 t243, .int .i64 t244, .int .i64 t245, .slice Ao11 t246.length co11]] rfl (by (try simp only [List.map_toArray, List.map_cons, List.map_nil]); first | done | rfl | (simp only [List.length_drop, List.length_take]; rfl)) ?_; (with_reducible refine (bivouacref06_Check.calls k t243 t244 t245 _ _ t246 t252 _ ?side1 ?side2 A14.out).mono ?_); (case side1 => repeat (first | exact (Kd.V_reads' HO248.out).2.2 | (with_reducible refine Kd.C_alloc ?_ _) | (with_reducible refine Kd.C_drewN ?_ _) | (with_reducible refine Kd.C_drew ?_))); (case side2 => exact (Kd.V_reads' HO248.out).2.1); rintro e w33 ⟨rfl, hb⟩; refine ⟨_, rfl, ?_⟩; have n0_ := Aside0.mk (Kd.V_below (by (with_reducible repeat (first | apply Kd.V_alloc | apply Kd.V_drewN | apply Kd.V_drew)); exact HO248.out) hb); have n1_ := Aside0.mk (blk_below (g := gb242) (o := .cells #[.int .i64 a0_0, .int .i64 a0_1, .int .i64 a0_2, .slice A0_3 l0_3.length c0_3, .int .i64 a0_4, .int .i64 a0_5, .int .i64 a0_6, .int .i64 a0_7, .int .i64 a0_8, .int .i64 a0_9] 26 (0, 0)) (by (with_reducible repeat (first | refine blk_drewN ?_ _ | refine blk_drew ?_ | refine blk_alloc ?_ _)); exact BK242.out) hb); have n2_ := Aside0.mk (blk_below (g := gb249) (o := .cells #[.int .i64 t243, .int .i64 t244, .int .i64 t245, .slice Ao11 t246.length co11] 24 (0, 0)) (by (with_reducible repeat (first | refine blk_drewN ?_ _ | refine blk_drew ?_ | refine blk_alloc ?_ _)); exact BK249.out) hb); have n3_ := Aside0.mk (below_step (by repeat (first | (with_reducible first | exact HB.out | apply below_alloc | apply pw_below_drewN | apply below_drew1 | refine below_set ?_ GE242.out | refine below_set ?_ GE249.out) | exact HB.out)) hb); clear HO248; clear BK242; clear BK249; clear HB; have HO248 := n0_; have BK242 := n1_; have BK249 := n2_; have HB := n3_; clear n0_ n1_ n2_ n3_; (try clear hb); (try clear hb2); (try clear hk); (try clear hi); have hcz34_0 : w33.cell? ⟨gb242, 0, none⟩ = some (.int .i64 a0_0) := (blk_cell BK242.out 0).trans rfl; have hcz34_1 : w33.cell? ⟨gb242, 1, none⟩ = some (.int .i64 a0_1) := (blk_cell BK242.out 1).trans rfl; have hcz34_2 : w33.cell? ⟨gb242, 2, none⟩ = some (.int .i64 a0_2) := (blk_cell BK242.out 2).trans rfl; have hcz34_3 : w33.cell? ⟨gb242, 3, none⟩ = some (.slice A0_3 l0_3.length c0_3) := (blk_cell BK242.out 3).trans rfl; have hcz34_4 : w33.cell? ⟨gb242, 4, none⟩ = some (.int .i64 a0_4) := (blk_cell BK242.out 4).trans rfl; have hcz34_5 : w33.cell? ⟨gb242, 5, none⟩ = some (.int .i64 a0_5) := (blk_cell BK242.out 5).trans rfl; have hcz34_6 : w33.cell? ⟨gb242, 6, none⟩ = some (.int .i64 a0_6) := (blk_cell BK242.out 6).trans rfl; have hcz34_7 : w33.cell? ⟨gb242, 7, none⟩ = some (.int .i64 a0_7) := (blk_cell BK242.out 7).trans rfl; have hcz34_8 : w33.cell? ⟨gb242, 8, none⟩ = some (.int .i64 a0_8) := (blk_cell BK242.out 8).trans rfl; have hcz34_9 : w33.cell? ⟨gb242, 9, none⟩ = some (.int .i64 a0_9) := (blk_cell BK242.out 9).trans rfl; have hfz34_0 := blk_frozen BK242.out 0; have hfz34_1 := blk_frozen BK242.out 1; have hfz34_2 := blk_frozen BK242.out 2; have hfz34_3 := blk_frozen BK242.out 3; have hfz34_4 := blk_frozen BK242.out 4; have hfz34_5 := blk_frozen BK242.out 5; have hfz34_6 := blk_frozen BK242.out 6; have hfz34_7 := blk_frozen BK242.out 7; have hfz34_8 := blk_frozen BK242.out 8; have hfz34_9 := blk_frozen BK242.out 9))
            go_meet
            case rel => exact ⟨_, (decide (a0_9 > 255)), (by first | rfl | (simp; done) | (simp [*]; done)), H', ⟨by first | omega | exact Nat.le_refl _⟩, ⟨by (with_reducible repeat (first | apply Kd.V_alloc | apply Kd.V_drewN | apply Kd.V_drew)); exact HO248.out⟩, ⟨by (with_reducible repeat (first | refine blk_drewN ?_ _ | refine blk_drew ?_ | refine blk_alloc ?_ _)); exact BK242.out⟩, ⟨by (with_reducible repeat (first | refine blk_drewN ?_ _ | refine blk_drew ?_ | refine blk_alloc ?_ _)); exact BK249.out⟩, ⟨by repeat (first | (with_reducible first | exact HB.out | apply below_alloc | apply pw_below_drewN | apply below_drew1 | refine below_set ?_ GE242.out | refine below_set ?_ GE249.out) | exact HB.out)⟩⟩
    · rw [if_neg c15] at H
      have c15b0 : (t252 == 0) = false := beq_eq_false_iff_ne.mpr c15
      have c15b1 : (t252 != 0) = true := bne_iff_ne.mpr c15
      (first | rw [c15b0] | (simp only [i64_w, i32_w]; rw [c15b0]) | skip)
      have H' := Aside0.mk H
      clear H
      have hnb35 := NB249_242.out
      have hnc35 := NB242_249.out
      have hcz36_0 : w13.cell? ⟨gb249, 0, none⟩ = some (.int .i64 t243) := (blk_cell BK249.out 0).trans rfl
      have hcz36_1 : w13.cell? ⟨gb249, 1, none⟩ = some (.int .i64 t244) := (blk_cell BK249.out 1).trans rfl
      have hcz36_2 : w13.cell? ⟨gb249, 2, none⟩ = some (.int .i64 t245) := (blk_cell BK249.out 2).trans rfl
      have hcz36_3 : w13.cell? ⟨gb249, 3, none⟩ = some (.slice Ao11 t246.length co11) := (blk_cell BK249.out 3).trans rfl
      have hfz36_0 := blk_frozen BK249.out 0
      have hfz36_1 := blk_frozen BK249.out 1
      have hfz36_2 := blk_frozen BK249.out 2
      have hfz36_3 := blk_frozen BK249.out 3
      go_wp2_with (first | ((with_reducible refine gate_callee (f := 17) rfl ?_); refine goesL_ (some 29) rfl rfl Try.func17 (by kernel_rfl) rfl #[.agg #[.int .i64 t243, .int .i64 t244, .int .i64 t245, .slice Ao11 t246.length co11]] rfl (by (try simp only [List.map_toArray, List.map_cons, List.map_nil]); first | done | rfl | (simp only [List.length_drop, List.length_take]; rfl)) ?_; (with_reducible refine (bivouacref06_Check.calls k t243 t244 t245 _ _ t246 t252 _ ?side1 ?side2 A14.out).mono ?_); (case side1 => repeat (first | exact (Kd.V_reads' HO248.out).2.2 | (with_reducible refine Kd.C_alloc ?_ _) | (with_reducible refine Kd.C_drewN ?_ _) | (with_reducible refine Kd.C_drew ?_))); (case side2 => exact (Kd.V_reads' HO248.out).2.1); rintro e w37 ⟨rfl, hb⟩; refine ⟨_, rfl, ?_⟩; have n0_ := Aside0.mk (Kd.V_below (by (with_reducible repeat (first | apply Kd.V_alloc | apply Kd.V_drewN | apply Kd.V_drew)); exact HO248.out) hb); have n1_ := Aside0.mk (blk_below (g := gb242) (o := .cells #[.int .i64 a0_0, .int .i64 a0_1, .int .i64 a0_2, .slice A0_3 l0_3.length c0_3, .int .i64 a0_4, .int .i64 a0_5, .int .i64 a0_6, .int .i64 a0_7, .int .i64 a0_8, .int .i64 a0_9] 26 (0, 0)) (by (with_reducible repeat (first | refine blk_drewN ?_ _ | refine blk_drew ?_ | refine blk_alloc ?_ _)); exact BK242.out) hb); have n2_ := Aside0.mk (blk_below (g := gb249) (o := .cells #[.int .i64 t243, .int .i64 t244, .int .i64 t245, .slice Ao11 t246.length co11] 24 (0, 0)) (by (with_reducible repeat (first | refine blk_drewN ?_ _ | refine blk_drew ?_ | refine blk_alloc ?_ _)); exact BK249.out) hb); have n3_ := Aside0.mk (below_step (by repeat (first | (with_reducible first | exact HB.out | apply below_alloc | apply pw_below_drewN | apply below_drew1 | refine below_set ?_ GE242.out | refine below_set ?_ GE249.out) | exact HB.out)) hb); clear HO248; clear BK242; clear BK249; clear HB; have HO248 := n0_; have BK242 := n1_; have BK249 := n2_; have HB := n3_; clear n0_ n1_ n2_ n3_; (try clear hb); (try clear hb2); (try clear hk); (try clear hi)))
      go_meet
      case rel => exact ⟨_, (true), (by first | rfl | (simp; done) | (simp [*]; done)), H', ⟨by first | omega | exact Nat.le_refl _⟩, ⟨by (with_reducible repeat (first | apply Kd.V_alloc | apply Kd.V_drewN | apply Kd.V_drew)); exact HO248.out⟩, ⟨by (with_reducible repeat (first | refine blk_drewN ?_ _ | refine blk_drew ?_ | refine blk_alloc ?_ _)); exact BK242.out⟩, ⟨by (with_reducible repeat (first | refine blk_drewN ?_ _ | refine blk_drew ?_ | refine blk_alloc ?_ _)); exact BK249.out⟩, ⟨by repeat (first | (with_reducible first | exact HB.out | apply below_alloc | apply pw_below_drewN | apply below_drew1 | refine below_set ?_ GE242.out | refine below_set ?_ GE249.out) | exact HB.out)⟩⟩
  case rest =>
    clear HC4
    try clear c1
    try clear c2
    try clear p2
    try clear c3
    try clear c6
    try clear c9
    try clear c14
    try clear c15
    try clear c15b0
    try clear c15b1
    try clear c16
    try clear c16b0
    try clear c17
    try clear c20
    try clear c21
    try clear c21b0
    try clear c22
    try clear c26
    try clear c26b0
    try clear c27
    try clear c31
    try clear c35
    try clear hcz10_0
    try clear hcz10_1
    try clear hcz10_2
    try clear hcz10_3
    try clear hcz12_0
    try clear hcz12_1
    try clear hcz12_2
    try clear hcz12_3
    try clear hcz12_4
    try clear hcz12_5
    try clear hcz12_6
    try clear hcz12_7
    try clear hcz12_8
    try clear hcz12_9
    try clear hcz18_0
    try clear hcz18_1
    try clear hcz18_2
    try clear hcz18_3
    try clear hcz20_0
    try clear hcz20_1
    try clear hcz20_2
    try clear hcz20_3
    try clear hcz20_4
    try clear hcz20_5
    try clear hcz20_6
    try clear hcz20_7
    try clear hcz20_8
    try clear hcz20_9
    try clear hcz23_0
    try clear hcz23_1
    try clear hcz23_2
    try clear hcz23_3
    try clear hcz25_0
    try clear hcz25_1
    try clear hcz25_2
    try clear hcz25_3
    try clear hcz25_4
    try clear hcz25_5
    try clear hcz25_6
    try clear hcz25_7
    try clear hcz25_8
    try clear hcz25_9
    try clear hcz28_0
    try clear hcz28_1
    try clear hcz28_2
    try clear hcz28_3
    try clear hcz30_0
    try clear hcz30_1
    try clear hcz30_2
    try clear hcz30_3
    try clear hcz30_4
    try clear hcz30_5
    try clear hcz30_6
    try clear hcz30_7
    try clear hcz30_8
    try clear hcz30_9
    try clear hcz32_0
    try clear hcz32_1
    try clear hcz32_2
    try clear hcz32_3
    try clear hcz34_0
    try clear hcz34_1
    try clear hcz34_2
    try clear hcz34_3
    try clear hcz34_4
    try clear hcz34_5
    try clear hcz34_6
    try clear hcz34_7
    try clear hcz34_8
    try clear hcz34_9
    try clear hcz36_0
    try clear hcz36_1
    try clear hcz36_2
    try clear hcz36_3
    try clear hcz6_0
    try clear hcz6_1
    try clear hcz6_2
    try clear hcz6_3
    try clear hcz6_4
    try clear hcz6_5
    try clear hcz6_6
    try clear hcz6_7
    try clear hcz6_8
    try clear hcz6_9
    try clear hfz10_0
    try clear hfz10_1
    try clear hfz10_2
    try clear hfz10_3
    try clear hfz12_0
    try clear hfz12_1
    try clear hfz12_2
    try clear hfz12_3
    try clear hfz12_4
    try clear hfz12_5
    try clear hfz12_6
    try clear hfz12_7
    try clear hfz12_8
    try clear hfz12_9
    try clear hfz18_0
    try clear hfz18_1
    try clear hfz18_2
    try clear hfz18_3
    try clear hfz20_0
    try clear hfz20_1
    try clear hfz20_2
    try clear hfz20_3
    try clear hfz20_4
    try clear hfz20_5
    try clear hfz20_6
    try clear hfz20_7
    try clear hfz20_8
    try clear hfz20_9
    try clear hfz23_0
    try clear hfz23_1
    try clear hfz23_2
    try clear hfz23_3
    try clear hfz25_0
    try clear hfz25_1
    try clear hfz25_2
    try clear hfz25_3
    try clear hfz25_4
    try clear hfz25_5
    try clear hfz25_6
    try clear hfz25_7
    try clear hfz25_8
    try clear hfz25_9
    try clear hfz28_0
    try clear hfz28_1
    try clear hfz28_2
    try clear hfz28_3
    try clear hfz30_0
    try clear hfz30_1
    try clear hfz30_2
    try clear hfz30_3
    try clear hfz30_4
    try clear hfz30_5
    try clear hfz30_6
    try clear hfz30_7
    try clear hfz30_8
    try clear hfz30_9
    try clear hfz32_0
    try clear hfz32_1
    try clear hfz32_2
    try clear hfz32_3
    try clear hfz34_0
    try clear hfz34_1
    try clear hfz34_2
    try clear hfz34_3
    try clear hfz34_4
    try clear hfz34_5
    try clear hfz34_6
    try clear hfz34_7
    try clear hfz34_8
    try clear hfz34_9
    try clear hfz36_0
    try clear hfz36_1
    try clear hfz36_2
    try clear hfz36_3
    try clear hfz6_0
    try clear hfz6_1
    try clear hfz6_2
    try clear hfz6_3
    try clear hfz6_4
    try clear hfz6_5
    try clear hfz6_6
    try clear hfz6_7
    try clear hfz6_8
    try clear hfz6_9
    obtain ⟨kq, x50_3, rfl, HA, HJ3, HO_250003, BK242, BK249, HB⟩ := hcut
    cases kq with
    | zero => exact absurd HA.out (by simp [bivouaclaw08_RaySees.j0])
    | succ kj3 =>
      have H := HA.out
      clear HA
      simp only [bivouaclaw08_RaySees.j0] at H
      by_cases c38 : x50_3 = true
      · subst c38
        have H1 : (if t250 = true then (some false) else (if t251 = 1 then ((bivouaclaw08_awake.f kj3).bind fun t253 => (some t253)) else (some false))) = some r := by rw [if_pos rfl] at H; exact H
        clear H
        have H := H1
        clear H1
        by_cases c39 : t250 = true
        · subst c39
          have H1 : (some false) = some r := by rw [if_pos rfl] at H; exact H
          clear H
          have H := H1
          clear H1
          obtain rfl := Option.some.inj H
          go_wp2
          go_ret
          exact ⟨by first | rfl | (simp [errW_none, errW_some] <;> rfl) | (simp [*, errW_none, errW_some] <;> rfl) | (rw [Int.tdiv_eq_ediv_of_nonneg (by assumption)]; rfl), by repeat (first | (with_reducible first | exact HB.out | apply below_alloc | apply pw_below_drewN | apply below_drew1 | refine below_set ?_ GE242.out | refine below_set ?_ GE249.out) | exact HB.out)⟩
        · replace c39 := Bool.eq_false_iff.mpr c39
          subst c39
          have H1 : (if t251 = 1 then ((bivouaclaw08_awake.f kj3).bind fun t253 => (some t253)) else (some false)) = some r := by rw [if_neg (show ¬ (false = true) by decide)] at H; exact H
          clear H
          have H := H1
          clear H1
          by_cases c40 : t251 = 1
          · rw [if_pos c40] at H
            have c40b0 : (t251 == 1) = true := beq_iff_eq.mpr c40
            have c40b1 : (t251 != 1) = false := bne_eq_false_iff_eq.mpr c40
            clear c40
            replace H := Option.bind_eq_some_iff.mp H
            obtain ⟨t253, A410, H⟩ := H
            replace H : (some t253) = some r := H
            have A41 := Aside0.mk A410
            clear A410
            obtain rfl := Option.some.inj H
            go_wp2_with (first | (go_at_call 11; (with_reducible refine (bivouaclaw08_awake.calls kj3  t253 _ A41.out).mono ?_); rintro e w42 ⟨rfl, hb⟩; have n0_ := Aside0.mk (Kd.V_below (by (with_reducible repeat (first | apply Kd.V_alloc | apply Kd.V_drewN | apply Kd.V_drew)); exact HO_250003.out) hb); have n1_ := Aside0.mk (blk_below (g := gb242) (o := .cells #[.int .i64 a0_0, .int .i64 a0_1, .int .i64 a0_2, .slice A0_3 l0_3.length c0_3, .int .i64 a0_4, .int .i64 a0_5, .int .i64 a0_6, .int .i64 a0_7, .int .i64 a0_8, .int .i64 a0_9] 26 (0, 0)) (by (with_reducible repeat (first | refine blk_drewN ?_ _ | refine blk_drew ?_ | refine blk_alloc ?_ _)); exact BK242.out) hb); have n2_ := Aside0.mk (blk_below (g := gb249) (o := .cells #[.int .i64 t243, .int .i64 t244, .int .i64 t245, .slice Ao11 t246.length co11] 24 (0, 0)) (by (with_reducible repeat (first | refine blk_drewN ?_ _ | refine blk_drew ?_ | refine blk_alloc ?_ _)); exact BK249.out) hb); have n3_ := Aside0.mk (below_step (by repeat (first | (with_reducible first | exact HB.out | apply below_alloc | apply pw_below_drewN | apply below_drew1 | refine below_set ?_ GE242.out | refine below_set ?_ GE249.out) | exact HB.out)) hb); clear HO_250003; clear BK242; clear BK249; clear HB; have HO_250003 := n0_; have BK242 := n1_; have BK249 := n2_; have HB := n3_; clear n0_ n1_ n2_ n3_; (try clear hb); (try clear hb2); (try clear hk); (try clear hi)))
            go_ret
            exact ⟨by first | rfl | (simp [errW_none, errW_some] <;> rfl) | (simp [*, errW_none, errW_some] <;> rfl) | (rw [Int.tdiv_eq_ediv_of_nonneg (by assumption)]; rfl), by repeat (first | (with_reducible first | exact HB.out | apply below_alloc | apply pw_below_drewN | apply below_drew1 | refine below_set ?_ GE242.out | refine below_set ?_ GE249.out) | exact HB.out)⟩
          · rw [if_neg c40] at H
            have c40b0 : (t251 == 1) = false := beq_eq_false_iff_ne.mpr c40
            have c40b1 : (t251 != 1) = true := bne_iff_ne.mpr c40
            obtain rfl := Option.some.inj H
            go_wp2
            go_ret
            exact ⟨by first | rfl | (simp [errW_none, errW_some] <;> rfl) | (simp [*, errW_none, errW_some] <;> rfl) | (rw [Int.tdiv_eq_ediv_of_nonneg (by assumption)]; rfl), by repeat (first | (with_reducible first | exact HB.out | apply below_alloc | apply pw_below_drewN | apply below_drew1 | refine below_set ?_ GE242.out | refine below_set ?_ GE249.out) | exact HB.out)⟩
      · replace c38 := Bool.eq_false_iff.mpr c38
        subst c38
        have H1 : ((bivouacref08_Is.f t243 t244 t245 t246 a0_4 a0_5).bind fun t254 => (if t254 = true then ((bivouacref08_Is.f t243 t244 t245 t246 a0_6 a0_7).bind fun t255 => (bivouaclaw08_RaySees.j1 kj3 t250 t251 (!t255) a0_0 a0_1 a0_2 l0_3 a0_4 a0_5 a0_6 a0_7 a0_8 a0_9 t243 t244 t245 t246)) else (bivouaclaw08_RaySees.j1 kj3 t250 t251 true a0_0 a0_1 a0_2 l0_3 a0_4 a0_5 a0_6 a0_7 a0_8 a0_9 t243 t244 t245 t246))) = some r := by rw [if_neg (show ¬ (false = true) by decide)] at H; exact H
        clear H
        have H := H1
        clear H1
        have HC43 := Aside0.mk H
        clear H
        go_upto_region 5 with (fail)
        go_cut [75] (fun v75 wc => ∃ (kq : Nat) (x75_42 : Bool), v75 = .bool x75_42 ∧ Aside0 (bivouaclaw08_RaySees.j1 kq t250 t251 x75_42 a0_0 a0_1 a0_2 l0_3 a0_4 a0_5 a0_6 a0_7 a0_8 a0_9 t243 t244 t245 t246 = some r) ∧ Aside0 (kq ≤ kj3) ∧ Aside0 (Kd.V (Kd.int .u8) 5 wc w.heap.size (fun k_ => k_ ≠ gb242 ∧ k_ ≠ gb249) (.slice Ao11 t246.length co11) t246) ∧ Aside0 (wc.heap[gb242]? = some (.cells #[.int .i64 a0_0, .int .i64 a0_1, .int .i64 a0_2, (.slice A0_3 l0_3.length c0_3), .int .i64 a0_4, .int .i64 a0_5, .int .i64 a0_6, .int .i64 a0_7, .int .i64 a0_8, .int .i64 a0_9] 26 (0, 0))) ∧ Aside0 (wc.heap[gb249]? = some (.cells #[.int .i64 t243, .int .i64 t244, .int .i64 t245, (.slice Ao11 t246.length co11)] 24 (0, 0))) ∧ Aside0 (Below w.heap.size w wc))
        case first =>
          have H := HC43.out
          clear HC43
          replace H := Option.bind_eq_some_iff.mp H
          obtain ⟨t254, A440, H⟩ := H
          replace H : (if t254 = true then ((bivouacref08_Is.f t243 t244 t245 t246 a0_6 a0_7).bind fun t255 => (bivouaclaw08_RaySees.j1 kj3 t250 t251 (!t255) a0_0 a0_1 a0_2 l0_3 a0_4 a0_5 a0_6 a0_7 a0_8 a0_9 t243 t244 t245 t246)) else (bivouaclaw08_RaySees.j1 kj3 t250 t251 true a0_0 a0_1 a0_2 l0_3 a0_4 a0_5 a0_6 a0_7 a0_8 a0_9 t243 t244 t245 t246)) = some r := H
          have A44 := Aside0.mk A440
          clear A440
          by_cases c45 : t254 = true
          · subst c45
            have H1 : ((bivouacref08_Is.f t243 t244 t245 t246 a0_6 a0_7).bind fun t255 => (bivouaclaw08_RaySees.j1 kj3 t250 t251 (!t255) a0_0 a0_1 a0_2 l0_3 a0_4 a0_5 a0_6 a0_7 a0_8 a0_9 t243 t244 t245 t246)) = some r := by rw [if_pos rfl] at H; exact H
            clear H
            have H := H1
            clear H1
            replace H := Option.bind_eq_some_iff.mp H
            obtain ⟨t255, A460, H⟩ := H
            replace H : (bivouaclaw08_RaySees.j1 kj3 t250 t251 (!t255) a0_0 a0_1 a0_2 l0_3 a0_4 a0_5 a0_6 a0_7 a0_8 a0_9 t243 t244 t245 t246) = some r := H
            have A46 := Aside0.mk A460
            clear A460
            have H' := Aside0.mk H
            clear H
            have hnb47 := NB249_242.out
            have hnc47 := NB242_249.out
            have hcz48_0 : wc.cell? ⟨gb249, 0, none⟩ = some (.int .i64 t243) := (blk_cell BK249.out 0).trans rfl
            have hcz48_1 : wc.cell? ⟨gb249, 1, none⟩ = some (.int .i64 t244) := (blk_cell BK249.out 1).trans rfl
            have hcz48_2 : wc.cell? ⟨gb249, 2, none⟩ = some (.int .i64 t245) := (blk_cell BK249.out 2).trans rfl
            have hcz48_3 : wc.cell? ⟨gb249, 3, none⟩ = some (.slice Ao11 t246.length co11) := (blk_cell BK249.out 3).trans rfl
            have hfz48_0 := blk_frozen BK249.out 0
            have hfz48_1 := blk_frozen BK249.out 1
            have hfz48_2 := blk_frozen BK249.out 2
            have hfz48_3 := blk_frozen BK249.out 3
            have hcz49_0 : wc.cell? ⟨gb242, 0, none⟩ = some (.int .i64 a0_0) := (blk_cell BK242.out 0).trans rfl
            have hcz49_1 : wc.cell? ⟨gb242, 1, none⟩ = some (.int .i64 a0_1) := (blk_cell BK242.out 1).trans rfl
            have hcz49_2 : wc.cell? ⟨gb242, 2, none⟩ = some (.int .i64 a0_2) := (blk_cell BK242.out 2).trans rfl
            have hcz49_3 : wc.cell? ⟨gb242, 3, none⟩ = some (.slice A0_3 l0_3.length c0_3) := (blk_cell BK242.out 3).trans rfl
            have hcz49_4 : wc.cell? ⟨gb242, 4, none⟩ = some (.int .i64 a0_4) := (blk_cell BK242.out 4).trans rfl
            have hcz49_5 : wc.cell? ⟨gb242, 5, none⟩ = some (.int .i64 a0_5) := (blk_cell BK242.out 5).trans rfl
            have hcz49_6 : wc.cell? ⟨gb242, 6, none⟩ = some (.int .i64 a0_6) := (blk_cell BK242.out 6).trans rfl
            have hcz49_7 : wc.cell? ⟨gb242, 7, none⟩ = some (.int .i64 a0_7) := (blk_cell BK242.out 7).trans rfl
            have hcz49_8 : wc.cell? ⟨gb242, 8, none⟩ = some (.int .i64 a0_8) := (blk_cell BK242.out 8).trans rfl
            have hcz49_9 : wc.cell? ⟨gb242, 9, none⟩ = some (.int .i64 a0_9) := (blk_cell BK242.out 9).trans rfl
            have hfz49_0 := blk_frozen BK242.out 0
            have hfz49_1 := blk_frozen BK242.out 1
            have hfz49_2 := blk_frozen BK242.out 2
            have hfz49_3 := blk_frozen BK242.out 3
            have hfz49_4 := blk_frozen BK242.out 4
            have hfz49_5 := blk_frozen BK242.out 5
            have hfz49_6 := blk_frozen BK242.out 6
            have hfz49_7 := blk_frozen BK242.out 7
            have hfz49_8 := blk_frozen BK242.out 8
            have hfz49_9 := blk_frozen BK242.out 9
            go_wp2_with (first | ((with_reducible refine gate_callee (f := 18) rfl ?_); refine goesL_ (some 65) rfl rfl Try.func18 (by kernel_rfl) rfl #[.agg #[.int .i64 t243, .int .i64 t244, .int .i64 t245, .slice Ao11 t246.length co11], .int .i64 a0_4, .int .i64 a0_5] rfl (by (try simp only [List.map_toArray, List.map_cons, List.map_nil]); first | done | rfl | (simp only [List.length_drop, List.length_take]; rfl)) ?_; (with_reducible refine (bivouacref08_Is.calls t243 t244 t245 _ _ t246 a0_4 a0_5 true _ ?side1 ?side2 A44.out).mono ?_); (case side1 => repeat (first | exact (Kd.V_reads' HO_250003.out).2.2 | (with_reducible refine Kd.C_alloc ?_ _) | (with_reducible refine Kd.C_drewN ?_ _) | (with_reducible refine Kd.C_drew ?_))); (case side2 => exact (Kd.V_reads' HO_250003.out).2.1); rintro e w50 ⟨rfl, hb⟩; refine ⟨_, rfl, ?_⟩; have n0_ := Aside0.mk (Kd.V_below (by (with_reducible repeat (first | apply Kd.V_alloc | apply Kd.V_drewN | apply Kd.V_drew)); exact HO_250003.out) hb); have n1_ := Aside0.mk (blk_below (g := gb242) (o := .cells #[.int .i64 a0_0, .int .i64 a0_1, .int .i64 a0_2, .slice A0_3 l0_3.length c0_3, .int .i64 a0_4, .int .i64 a0_5, .int .i64 a0_6, .int .i64 a0_7, .int .i64 a0_8, .int .i64 a0_9] 26 (0, 0)) (by (with_reducible repeat (first | refine blk_drewN ?_ _ | refine blk_drew ?_ | refine blk_alloc ?_ _)); exact BK242.out) hb); have n2_ := Aside0.mk (blk_below (g := gb249) (o := .cells #[.int .i64 t243, .int .i64 t244, .int .i64 t245, .slice Ao11 t246.length co11] 24 (0, 0)) (by (with_reducible repeat (first | refine blk_drewN ?_ _ | refine blk_drew ?_ | refine blk_alloc ?_ _)); exact BK249.out) hb); have n3_ := Aside0.mk (below_step (by repeat (first | (with_reducible first | exact HB.out | apply below_alloc | apply pw_below_drewN | apply below_drew1 | refine below_set ?_ GE242.out | refine below_set ?_ GE249.out) | exact HB.out)) hb); clear HO_250003; clear BK242; clear BK249; clear HB; have HO_250003 := n0_; have BK242 := n1_; have BK249 := n2_; have HB := n3_; clear n0_ n1_ n2_ n3_; (try clear hb); (try clear hb2); (try clear hk); (try clear hi); have hcz51_0 : w50.cell? ⟨gb249, 0, none⟩ = some (.int .i64 t243) := (blk_cell BK249.out 0).trans rfl; have hcz51_1 : w50.cell? ⟨gb249, 1, none⟩ = some (.int .i64 t244) := (blk_cell BK249.out 1).trans rfl; have hcz51_2 : w50.cell? ⟨gb249, 2, none⟩ = some (.int .i64 t245) := (blk_cell BK249.out 2).trans rfl; have hcz51_3 : w50.cell? ⟨gb249, 3, none⟩ = some (.slice Ao11 t246.length co11) := (blk_cell BK249.out 3).trans rfl; have hfz51_0 := blk_frozen BK249.out 0; have hfz51_1 := blk_frozen BK249.out 1; have hfz51_2 := blk_frozen BK249.out 2; have hfz51_3 := blk_frozen BK249.out 3; have hcz52_0 : w50.cell? ⟨gb242, 0, none⟩ = some (.int .i64 a0_0) := (blk_cell BK242.out 0).trans rfl; have hcz52_1 : w50.cell? ⟨gb242, 1, none⟩ = some (.int .i64 a0_1) := (blk_cell BK242.out 1).trans rfl; have hcz52_2 : w50.cell? ⟨gb242, 2, none⟩ = some (.int .i64 a0_2) := (blk_cell BK242.out 2).trans rfl; have hcz52_3 : w50.cell? ⟨gb242, 3, none⟩ = some (.slice A0_3 l0_3.length c0_3) := (blk_cell BK242.out 3).trans rfl; have hcz52_4 : w50.cell? ⟨gb242, 4, none⟩ = some (.int .i64 a0_4) := (blk_cell BK242.out 4).trans rfl; have hcz52_5 : w50.cell? ⟨gb242, 5, none⟩ = some (.int .i64 a0_5) := (blk_cell BK242.out 5).trans rfl; have hcz52_6 : w50.cell? ⟨gb242, 6, none⟩ = some (.int .i64 a0_6) := (blk_cell BK242.out 6).trans rfl; have hcz52_7 : w50.cell? ⟨gb242, 7, none⟩ = some (.int .i64 a0_7) := (blk_cell BK242.out 7).trans rfl; have hcz52_8 : w50.cell? ⟨gb242, 8, none⟩ = some (.int .i64 a0_8) := (blk_cell BK242.out 8).trans rfl; have hcz52_9 : w50.cell? ⟨gb242, 9, none⟩ = some (.int .i64 a0_9) := (blk_cell BK242.out 9).trans rfl; have hfz52_0 := blk_frozen BK242.out 0; have hfz52_1 := blk_frozen BK242.out 1; have hfz52_2 := blk_frozen BK242.out 2; have hfz52_3 := blk_frozen BK242.out 3; have hfz52_4 := blk_frozen BK242.out 4; have hfz52_5 := blk_frozen BK242.out 5; have hfz52_6 := blk_frozen BK242.out 6; have hfz52_7 := blk_frozen BK242.out 7; have hfz52_8 := blk_frozen BK242.out 8; have hfz52_9 := blk_frozen BK242.out 9) | (go_at_call 18; (with_reducible refine (bivouacref08_Is.calls t243 t244 t245 _ _ t246 a0_6 a0_7 t255 _ ?side1 ?side2 A46.out).mono ?_); (case side1 => repeat (first | exact (Kd.V_reads' HO_250003.out).2.2 | (with_reducible refine Kd.C_alloc ?_ _) | (with_reducible refine Kd.C_drewN ?_ _) | (with_reducible refine Kd.C_drew ?_))); (case side2 => exact (Kd.V_reads' HO_250003.out).2.1); rintro e w53 ⟨rfl, hb⟩; have n0_ := Aside0.mk (Kd.V_below (by (with_reducible repeat (first | apply Kd.V_alloc | apply Kd.V_drewN | apply Kd.V_drew)); exact HO_250003.out) hb); have n1_ := Aside0.mk (blk_below (g := gb242) (o := .cells #[.int .i64 a0_0, .int .i64 a0_1, .int .i64 a0_2, .slice A0_3 l0_3.length c0_3, .int .i64 a0_4, .int .i64 a0_5, .int .i64 a0_6, .int .i64 a0_7, .int .i64 a0_8, .int .i64 a0_9] 26 (0, 0)) (by (with_reducible repeat (first | refine blk_drewN ?_ _ | refine blk_drew ?_ | refine blk_alloc ?_ _)); exact BK242.out) hb); have n2_ := Aside0.mk (blk_below (g := gb249) (o := .cells #[.int .i64 t243, .int .i64 t244, .int .i64 t245, .slice Ao11 t246.length co11] 24 (0, 0)) (by (with_reducible repeat (first | refine blk_drewN ?_ _ | refine blk_drew ?_ | refine blk_alloc ?_ _)); exact BK249.out) hb); have n3_ := Aside0.mk (below_step (by repeat (first | (with_reducible first | exact HB.out | apply below_alloc | apply pw_below_drewN | apply below_drew1 | refine below_set ?_ GE242.out | refine below_set ?_ GE249.out) | exact HB.out)) hb); clear HO_250003; clear BK242; clear BK249; clear HB; have HO_250003 := n0_; have BK242 := n1_; have BK249 := n2_; have HB := n3_; clear n0_ n1_ n2_ n3_; (try clear hb); (try clear hb2); (try clear hk); (try clear hi)))
            go_meet
            case rel => exact ⟨_, (!t255), (by first | rfl | (simp; done) | (simp [*]; done)), H', ⟨by have := HJ3.out; first | omega | exact Nat.le_refl _⟩, ⟨by (with_reducible repeat (first | apply Kd.V_alloc | apply Kd.V_drewN | apply Kd.V_drew)); exact HO_250003.out⟩, ⟨by (with_reducible repeat (first | refine blk_drewN ?_ _ | refine blk_drew ?_ | refine blk_alloc ?_ _)); exact BK242.out⟩, ⟨by (with_reducible repeat (first | refine blk_drewN ?_ _ | refine blk_drew ?_ | refine blk_alloc ?_ _)); exact BK249.out⟩, ⟨by repeat (first | (with_reducible first | exact HB.out | apply below_alloc | apply pw_below_drewN | apply below_drew1 | refine below_set ?_ GE242.out | refine below_set ?_ GE249.out) | exact HB.out)⟩⟩
          · replace c45 := Bool.eq_false_iff.mpr c45
            subst c45
            have H1 : (bivouaclaw08_RaySees.j1 kj3 t250 t251 true a0_0 a0_1 a0_2 l0_3 a0_4 a0_5 a0_6 a0_7 a0_8 a0_9 t243 t244 t245 t246) = some r := by rw [if_neg (show ¬ (false = true) by decide)] at H; exact H
            clear H
            have H := H1
            clear H1
            have H' := Aside0.mk H
            clear H
            have hnb54 := NB249_242.out
            have hnc54 := NB242_249.out
            have hcz55_0 : wc.cell? ⟨gb249, 0, none⟩ = some (.int .i64 t243) := (blk_cell BK249.out 0).trans rfl
            have hcz55_1 : wc.cell? ⟨gb249, 1, none⟩ = some (.int .i64 t244) := (blk_cell BK249.out 1).trans rfl
            have hcz55_2 : wc.cell? ⟨gb249, 2, none⟩ = some (.int .i64 t245) := (blk_cell BK249.out 2).trans rfl
            have hcz55_3 : wc.cell? ⟨gb249, 3, none⟩ = some (.slice Ao11 t246.length co11) := (blk_cell BK249.out 3).trans rfl
            have hfz55_0 := blk_frozen BK249.out 0
            have hfz55_1 := blk_frozen BK249.out 1
            have hfz55_2 := blk_frozen BK249.out 2
            have hfz55_3 := blk_frozen BK249.out 3
            have hcz56_0 : wc.cell? ⟨gb242, 0, none⟩ = some (.int .i64 a0_0) := (blk_cell BK242.out 0).trans rfl
            have hcz56_1 : wc.cell? ⟨gb242, 1, none⟩ = some (.int .i64 a0_1) := (blk_cell BK242.out 1).trans rfl
            have hcz56_2 : wc.cell? ⟨gb242, 2, none⟩ = some (.int .i64 a0_2) := (blk_cell BK242.out 2).trans rfl
            have hcz56_3 : wc.cell? ⟨gb242, 3, none⟩ = some (.slice A0_3 l0_3.length c0_3) := (blk_cell BK242.out 3).trans rfl
            have hcz56_4 : wc.cell? ⟨gb242, 4, none⟩ = some (.int .i64 a0_4) := (blk_cell BK242.out 4).trans rfl
            have hcz56_5 : wc.cell? ⟨gb242, 5, none⟩ = some (.int .i64 a0_5) := (blk_cell BK242.out 5).trans rfl
            have hcz56_6 : wc.cell? ⟨gb242, 6, none⟩ = some (.int .i64 a0_6) := (blk_cell BK242.out 6).trans rfl
            have hcz56_7 : wc.cell? ⟨gb242, 7, none⟩ = some (.int .i64 a0_7) := (blk_cell BK242.out 7).trans rfl
            have hcz56_8 : wc.cell? ⟨gb242, 8, none⟩ = some (.int .i64 a0_8) := (blk_cell BK242.out 8).trans rfl
            have hcz56_9 : wc.cell? ⟨gb242, 9, none⟩ = some (.int .i64 a0_9) := (blk_cell BK242.out 9).trans rfl
            have hfz56_0 := blk_frozen BK242.out 0
            have hfz56_1 := blk_frozen BK242.out 1
            have hfz56_2 := blk_frozen BK242.out 2
            have hfz56_3 := blk_frozen BK242.out 3
            have hfz56_4 := blk_frozen BK242.out 4
            have hfz56_5 := blk_frozen BK242.out 5
            have hfz56_6 := blk_frozen BK242.out 6
            have hfz56_7 := blk_frozen BK242.out 7
            have hfz56_8 := blk_frozen BK242.out 8
            have hfz56_9 := blk_frozen BK242.out 9
            go_wp2_with (first | ((with_reducible refine gate_callee (f := 18) rfl ?_); refine goesL_ (some 65) rfl rfl Try.func18 (by kernel_rfl) rfl #[.agg #[.int .i64 t243, .int .i64 t244, .int .i64 t245, .slice Ao11 t246.length co11], .int .i64 a0_4, .int .i64 a0_5] rfl (by (try simp only [List.map_toArray, List.map_cons, List.map_nil]); first | done | rfl | (simp only [List.length_drop, List.length_take]; rfl)) ?_; (with_reducible refine (bivouacref08_Is.calls t243 t244 t245 _ _ t246 a0_4 a0_5 false _ ?side1 ?side2 A44.out).mono ?_); (case side1 => repeat (first | exact (Kd.V_reads' HO_250003.out).2.2 | (with_reducible refine Kd.C_alloc ?_ _) | (with_reducible refine Kd.C_drewN ?_ _) | (with_reducible refine Kd.C_drew ?_))); (case side2 => exact (Kd.V_reads' HO_250003.out).2.1); rintro e w57 ⟨rfl, hb⟩; refine ⟨_, rfl, ?_⟩; have n0_ := Aside0.mk (Kd.V_below (by (with_reducible repeat (first | apply Kd.V_alloc | apply Kd.V_drewN | apply Kd.V_drew)); exact HO_250003.out) hb); have n1_ := Aside0.mk (blk_below (g := gb242) (o := .cells #[.int .i64 a0_0, .int .i64 a0_1, .int .i64 a0_2, .slice A0_3 l0_3.length c0_3, .int .i64 a0_4, .int .i64 a0_5, .int .i64 a0_6, .int .i64 a0_7, .int .i64 a0_8, .int .i64 a0_9] 26 (0, 0)) (by (with_reducible repeat (first | refine blk_drewN ?_ _ | refine blk_drew ?_ | refine blk_alloc ?_ _)); exact BK242.out) hb); have n2_ := Aside0.mk (blk_below (g := gb249) (o := .cells #[.int .i64 t243, .int .i64 t244, .int .i64 t245, .slice Ao11 t246.length co11] 24 (0, 0)) (by (with_reducible repeat (first | refine blk_drewN ?_ _ | refine blk_drew ?_ | refine blk_alloc ?_ _)); exact BK249.out) hb); have n3_ := Aside0.mk (below_step (by repeat (first | (with_reducible first | exact HB.out | apply below_alloc | apply pw_below_drewN | apply below_drew1 | refine below_set ?_ GE242.out | refine below_set ?_ GE249.out) | exact HB.out)) hb); clear HO_250003; clear BK242; clear BK249; clear HB; have HO_250003 := n0_; have BK242 := n1_; have BK249 := n2_; have HB := n3_; clear n0_ n1_ n2_ n3_; (try clear hb); (try clear hb2); (try clear hk); (try clear hi)))
            go_meet
            case rel => exact ⟨_, (true), (by first | rfl | (simp; done) | (simp [*]; done)), H', ⟨by have := HJ3.out; first | omega | exact Nat.le_refl _⟩, ⟨by (with_reducible repeat (first | apply Kd.V_alloc | apply Kd.V_drewN | apply Kd.V_drew)); exact HO_250003.out⟩, ⟨by (with_reducible repeat (first | refine blk_drewN ?_ _ | refine blk_drew ?_ | refine blk_alloc ?_ _)); exact BK242.out⟩, ⟨by (with_reducible repeat (first | refine blk_drewN ?_ _ | refine blk_drew ?_ | refine blk_alloc ?_ _)); exact BK249.out⟩, ⟨by repeat (first | (with_reducible first | exact HB.out | apply below_alloc | apply pw_below_drewN | apply below_drew1 | refine below_set ?_ GE242.out | refine below_set ?_ GE249.out) | exact HB.out)⟩⟩
        case rest =>
          clear HC43
          try clear c1
          try clear c2
          try clear p2
          try clear c3
          try clear c4
          try clear c5
          try clear c6
          try clear c9
          try clear c14
          try clear c15
          try clear c15b0
          try clear c15b1
          try clear c16
          try clear c16b0
          try clear c17
          try clear c18
          try clear c20
          try clear c21
          try clear c21b0
          try clear c22
          try clear c26
          try clear c26b0
          try clear c27
          try clear c31
          try clear c35
          try clear c38
          try clear c39
          try clear c40
          try clear c40b0
          try clear c40b1
          try clear c45
          try clear c47
          try clear c54
          try clear hcz10_0
          try clear hcz10_1
          try clear hcz10_2
          try clear hcz10_3
          try clear hcz12_0
          try clear hcz12_1
          try clear hcz12_2
          try clear hcz12_3
          try clear hcz12_4
          try clear hcz12_5
          try clear hcz12_6
          try clear hcz12_7
          try clear hcz12_8
          try clear hcz12_9
          try clear hcz18_0
          try clear hcz18_1
          try clear hcz18_2
          try clear hcz18_3
          try clear hcz20_0
          try clear hcz20_1
          try clear hcz20_2
          try clear hcz20_3
          try clear hcz20_4
          try clear hcz20_5
          try clear hcz20_6
          try clear hcz20_7
          try clear hcz20_8
          try clear hcz20_9
          try clear hcz23_0
          try clear hcz23_1
          try clear hcz23_2
          try clear hcz23_3
          try clear hcz25_0
          try clear hcz25_1
          try clear hcz25_2
          try clear hcz25_3
          try clear hcz25_4
          try clear hcz25_5
          try clear hcz25_6
          try clear hcz25_7
          try clear hcz25_8
          try clear hcz25_9
          try clear hcz28_0
          try clear hcz28_1
          try clear hcz28_2
          try clear hcz28_3
          try clear hcz30_0
          try clear hcz30_1
          try clear hcz30_2
          try clear hcz30_3
          try clear hcz30_4
          try clear hcz30_5
          try clear hcz30_6
          try clear hcz30_7
          try clear hcz30_8
          try clear hcz30_9
          try clear hcz32_0
          try clear hcz32_1
          try clear hcz32_2
          try clear hcz32_3
          try clear hcz34_0
          try clear hcz34_1
          try clear hcz34_2
          try clear hcz34_3
          try clear hcz34_4
          try clear hcz34_5
          try clear hcz34_6
          try clear hcz34_7
          try clear hcz34_8
          try clear hcz34_9
          try clear hcz36_0
          try clear hcz36_1
          try clear hcz36_2
          try clear hcz36_3
          try clear hcz48_0
          try clear hcz48_1
          try clear hcz48_2
          try clear hcz48_3
          try clear hcz49_0
          try clear hcz49_1
          try clear hcz49_2
          try clear hcz49_3
          try clear hcz49_4
          try clear hcz49_5
          try clear hcz49_6
          try clear hcz49_7
          try clear hcz49_8
          try clear hcz49_9
          try clear hcz51_0
          try clear hcz51_1
          try clear hcz51_2
          try clear hcz51_3
          try clear hcz52_0
          try clear hcz52_1
          try clear hcz52_2
          try clear hcz52_3
          try clear hcz52_4
          try clear hcz52_5
          try clear hcz52_6
          try clear hcz52_7
          try clear hcz52_8
          try clear hcz52_9
          try clear hcz55_0
          try clear hcz55_1
          try clear hcz55_2
          try clear hcz55_3
          try clear hcz56_0
          try clear hcz56_1
          try clear hcz56_2
          try clear hcz56_3
          try clear hcz56_4
          try clear hcz56_5
          try clear hcz56_6
          try clear hcz56_7
          try clear hcz56_8
          try clear hcz56_9
          try clear hcz6_0
          try clear hcz6_1
          try clear hcz6_2
          try clear hcz6_3
          try clear hcz6_4
          try clear hcz6_5
          try clear hcz6_6
          try clear hcz6_7
          try clear hcz6_8
          try clear hcz6_9
          try clear hfz10_0
          try clear hfz10_1
          try clear hfz10_2
          try clear hfz10_3
          try clear hfz12_0
          try clear hfz12_1
          try clear hfz12_2
          try clear hfz12_3
          try clear hfz12_4
          try clear hfz12_5
          try clear hfz12_6
          try clear hfz12_7
          try clear hfz12_8
          try clear hfz12_9
          try clear hfz18_0
          try clear hfz18_1
          try clear hfz18_2
          try clear hfz18_3
          try clear hfz20_0
          try clear hfz20_1
          try clear hfz20_2
          try clear hfz20_3
          try clear hfz20_4
          try clear hfz20_5
          try clear hfz20_6
          try clear hfz20_7
          try clear hfz20_8
          try clear hfz20_9
          try clear hfz23_0
          try clear hfz23_1
          try clear hfz23_2
          try clear hfz23_3
          try clear hfz25_0
          try clear hfz25_1
          try clear hfz25_2
          try clear hfz25_3
          try clear hfz25_4
          try clear hfz25_5
          try clear hfz25_6
          try clear hfz25_7
          try clear hfz25_8
          try clear hfz25_9
          try clear hfz28_0
          try clear hfz28_1
          try clear hfz28_2
          try clear hfz28_3
          try clear hfz30_0
          try clear hfz30_1
          try clear hfz30_2
          try clear hfz30_3
          try clear hfz30_4
          try clear hfz30_5
          try clear hfz30_6
          try clear hfz30_7
          try clear hfz30_8
          try clear hfz30_9
          try clear hfz32_0
          try clear hfz32_1
          try clear hfz32_2
          try clear hfz32_3
          try clear hfz34_0
          try clear hfz34_1
          try clear hfz34_2
          try clear hfz34_3
          try clear hfz34_4
          try clear hfz34_5
          try clear hfz34_6
          try clear hfz34_7
          try clear hfz34_8
          try clear hfz34_9
          try clear hfz36_0
          try clear hfz36_1
          try clear hfz36_2
          try clear hfz36_3
          try clear hfz48_0
          try clear hfz48_1
          try clear hfz48_2
          try clear hfz48_3
          try clear hfz49_0
          try clear hfz49_1
          try clear hfz49_2
          try clear hfz49_3
          try clear hfz49_4
          try clear hfz49_5
          try clear hfz49_6
          try clear hfz49_7
          try clear hfz49_8
          try clear hfz49_9
          try clear hfz51_0
          try clear hfz51_1
          try clear hfz51_2
          try clear hfz51_3
          try clear hfz52_0
          try clear hfz52_1
          try clear hfz52_2
          try clear hfz52_3
          try clear hfz52_4
          try clear hfz52_5
          try clear hfz52_6
          try clear hfz52_7
          try clear hfz52_8
          try clear hfz52_9
          try clear hfz55_0
          try clear hfz55_1
          try clear hfz55_2
          try clear hfz55_3
          try clear hfz56_0
          try clear hfz56_1
          try clear hfz56_2
          try clear hfz56_3
          try clear hfz56_4
          try clear hfz56_5
          try clear hfz56_6
          try clear hfz56_7
          try clear hfz56_8
          try clear hfz56_9
          try clear hfz6_0
          try clear hfz6_1
          try clear hfz6_2
          try clear hfz6_3
          try clear hfz6_4
          try clear hfz6_5
          try clear hfz6_6
          try clear hfz6_7
          try clear hfz6_8
          try clear hfz6_9
          try clear p2
          obtain ⟨kq, x75_42, rfl, HA, HJ42, HO_250003, BK242, BK249, HB⟩ := hcut
          cases kq with
          | zero => exact absurd HA.out (by simp [bivouaclaw08_RaySees.j1])
          | succ kj42 =>
            have H := HA.out
            clear HA
            simp only [bivouaclaw08_RaySees.j1] at H
            by_cases c58 : x75_42 = true
            · subst c58
              have H1 : (if t250 = true then (some false) else (if t251 = 4 then ((bivouaclaw08_awake.f kj42).bind fun t256 => (some t256)) else (some false))) = some r := by rw [if_pos rfl] at H; exact H
              clear H
              have H := H1
              clear H1
              by_cases c59 : t250 = true
              · subst c59
                have H1 : (some false) = some r := by rw [if_pos rfl] at H; exact H
                clear H
                have H := H1
                clear H1
                obtain rfl := Option.some.inj H
                go_wp2
                go_ret
                exact ⟨by first | rfl | (simp [errW_none, errW_some] <;> rfl) | (simp [*, errW_none, errW_some] <;> rfl) | (rw [Int.tdiv_eq_ediv_of_nonneg (by assumption)]; rfl), by repeat (first | (with_reducible first | exact HB.out | apply below_alloc | apply pw_below_drewN | apply below_drew1 | refine below_set ?_ GE242.out | refine below_set ?_ GE249.out) | exact HB.out)⟩
              · replace c59 := Bool.eq_false_iff.mpr c59
                subst c59
                have H1 : (if t251 = 4 then ((bivouaclaw08_awake.f kj42).bind fun t256 => (some t256)) else (some false)) = some r := by rw [if_neg (show ¬ (false = true) by decide)] at H; exact H
                clear H
                have H := H1
                clear H1
                by_cases c60 : t251 = 4
                · rw [if_pos c60] at H
                  have c60b0 : (t251 == 4) = true := beq_iff_eq.mpr c60
                  have c60b1 : (t251 != 4) = false := bne_eq_false_iff_eq.mpr c60
                  clear c60
                  replace H := Option.bind_eq_some_iff.mp H
                  obtain ⟨t256, A610, H⟩ := H
                  replace H : (some t256) = some r := H
                  have A61 := Aside0.mk A610
                  clear A610
                  obtain rfl := Option.some.inj H
                  go_wp2_with (first | (go_at_call 11; (with_reducible refine (bivouaclaw08_awake.calls kj42  t256 _ A61.out).mono ?_); rintro e w62 ⟨rfl, hb⟩; have n0_ := Aside0.mk (Kd.V_below (by (with_reducible repeat (first | apply Kd.V_alloc | apply Kd.V_drewN | apply Kd.V_drew)); exact HO_250003.out) hb); have n1_ := Aside0.mk (blk_below (g := gb242) (o := .cells #[.int .i64 a0_0, .int .i64 a0_1, .int .i64 a0_2, .slice A0_3 l0_3.length c0_3, .int .i64 a0_4, .int .i64 a0_5, .int .i64 a0_6, .int .i64 a0_7, .int .i64 a0_8, .int .i64 a0_9] 26 (0, 0)) (by (with_reducible repeat (first | refine blk_drewN ?_ _ | refine blk_drew ?_ | refine blk_alloc ?_ _)); exact BK242.out) hb); have n2_ := Aside0.mk (blk_below (g := gb249) (o := .cells #[.int .i64 t243, .int .i64 t244, .int .i64 t245, .slice Ao11 t246.length co11] 24 (0, 0)) (by (with_reducible repeat (first | refine blk_drewN ?_ _ | refine blk_drew ?_ | refine blk_alloc ?_ _)); exact BK249.out) hb); have n3_ := Aside0.mk (below_step (by repeat (first | (with_reducible first | exact HB.out | apply below_alloc | apply pw_below_drewN | apply below_drew1 | refine below_set ?_ GE242.out | refine below_set ?_ GE249.out) | exact HB.out)) hb); clear HO_250003; clear BK242; clear BK249; clear HB; have HO_250003 := n0_; have BK242 := n1_; have BK249 := n2_; have HB := n3_; clear n0_ n1_ n2_ n3_; (try clear hb); (try clear hb2); (try clear hk); (try clear hi)))
                  go_ret
                  exact ⟨by first | rfl | (simp [errW_none, errW_some] <;> rfl) | (simp [*, errW_none, errW_some] <;> rfl) | (rw [Int.tdiv_eq_ediv_of_nonneg (by assumption)]; rfl), by repeat (first | (with_reducible first | exact HB.out | apply below_alloc | apply pw_below_drewN | apply below_drew1 | refine below_set ?_ GE242.out | refine below_set ?_ GE249.out) | exact HB.out)⟩
                · rw [if_neg c60] at H
                  have c60b0 : (t251 == 4) = false := beq_eq_false_iff_ne.mpr c60
                  have c60b1 : (t251 != 4) = true := bne_iff_ne.mpr c60
                  obtain rfl := Option.some.inj H
                  go_wp2
                  go_ret
                  exact ⟨by first | rfl | (simp [errW_none, errW_some] <;> rfl) | (simp [*, errW_none, errW_some] <;> rfl) | (rw [Int.tdiv_eq_ediv_of_nonneg (by assumption)]; rfl), by repeat (first | (with_reducible first | exact HB.out | apply below_alloc | apply pw_below_drewN | apply below_drew1 | refine below_set ?_ GE242.out | refine below_set ?_ GE249.out) | exact HB.out)⟩
            · replace c58 := Bool.eq_false_iff.mpr c58
              subst c58
              have H1 : ((bivouacref08_Sees.f kj42 t243 t244 t245 t246 a0_4 a0_5 a0_6 a0_7 a0_8 a0_9).bind fun t257 => (if (t250 == t257) = true then (if t251 = 0 then ((bivouaclaw08_awake.f kj42).bind fun t258 => (some t258)) else (some false)) else (some false))) = some r := by rw [if_neg (show ¬ (false = true) by decide)] at H; exact H
              clear H
              have H := H1
              clear H1
              replace H := Option.bind_eq_some_iff.mp H
              obtain ⟨t257, A630, H⟩ := H
              replace H : (if (t250 == t257) = true then (if t251 = 0 then ((bivouaclaw08_awake.f kj42).bind fun t258 => (some t258)) else (some false)) else (some false)) = some r := H
              have A63 := Aside0.mk A630
              clear A630
              by_cases c64 : (t250 == t257) = true
              · rw [if_pos c64] at H
                have c64b0 : (t250 == t257) = true := c64
                (try (have c64b1 : decide (t250 = t257) = true := by simpa using c64))
                (try (have c64b2 : (t250 == t257) = true := by simpa using c64))
                clear c64
                by_cases c65 : t251 = 0
                · rw [if_pos c65] at H
                  have c65b0 : (t251 == 0) = true := beq_iff_eq.mpr c65
                  have c65b1 : (t251 != 0) = false := bne_eq_false_iff_eq.mpr c65
                  clear c65
                  replace H := Option.bind_eq_some_iff.mp H
                  obtain ⟨t258, A660, H⟩ := H
                  replace H : (some t258) = some r := H
                  have A66 := Aside0.mk A660
                  clear A660
                  obtain rfl := Option.some.inj H
                  have hnb67 := NB249_242.out
                  have hnc67 := NB242_249.out
                  have hcz68_0 : wc.cell? ⟨gb249, 0, none⟩ = some (.int .i64 t243) := (blk_cell BK249.out 0).trans rfl
                  have hcz68_1 : wc.cell? ⟨gb249, 1, none⟩ = some (.int .i64 t244) := (blk_cell BK249.out 1).trans rfl
                  have hcz68_2 : wc.cell? ⟨gb249, 2, none⟩ = some (.int .i64 t245) := (blk_cell BK249.out 2).trans rfl
                  have hcz68_3 : wc.cell? ⟨gb249, 3, none⟩ = some (.slice Ao11 t246.length co11) := (blk_cell BK249.out 3).trans rfl
                  have hfz68_0 := blk_frozen BK249.out 0
                  have hfz68_1 := blk_frozen BK249.out 1
                  have hfz68_2 := blk_frozen BK249.out 2
                  have hfz68_3 := blk_frozen BK249.out 3
                  have hcz69_0 : wc.cell? ⟨gb242, 0, none⟩ = some (.int .i64 a0_0) := (blk_cell BK242.out 0).trans rfl
                  have hcz69_1 : wc.cell? ⟨gb242, 1, none⟩ = some (.int .i64 a0_1) := (blk_cell BK242.out 1).trans rfl
                  have hcz69_2 : wc.cell? ⟨gb242, 2, none⟩ = some (.int .i64 a0_2) := (blk_cell BK242.out 2).trans rfl
                  have hcz69_3 : wc.cell? ⟨gb242, 3, none⟩ = some (.slice A0_3 l0_3.length c0_3) := (blk_cell BK242.out 3).trans rfl
                  have hcz69_4 : wc.cell? ⟨gb242, 4, none⟩ = some (.int .i64 a0_4) := (blk_cell BK242.out 4).trans rfl
                  have hcz69_5 : wc.cell? ⟨gb242, 5, none⟩ = some (.int .i64 a0_5) := (blk_cell BK242.out 5).trans rfl
                  have hcz69_6 : wc.cell? ⟨gb242, 6, none⟩ = some (.int .i64 a0_6) := (blk_cell BK242.out 6).trans rfl
                  have hcz69_7 : wc.cell? ⟨gb242, 7, none⟩ = some (.int .i64 a0_7) := (blk_cell BK242.out 7).trans rfl
                  have hcz69_8 : wc.cell? ⟨gb242, 8, none⟩ = some (.int .i64 a0_8) := (blk_cell BK242.out 8).trans rfl
                  have hcz69_9 : wc.cell? ⟨gb242, 9, none⟩ = some (.int .i64 a0_9) := (blk_cell BK242.out 9).trans rfl
                  have hfz69_0 := blk_frozen BK242.out 0
                  have hfz69_1 := blk_frozen BK242.out 1
                  have hfz69_2 := blk_frozen BK242.out 2
                  have hfz69_3 := blk_frozen BK242.out 3
                  have hfz69_4 := blk_frozen BK242.out 4
                  have hfz69_5 := blk_frozen BK242.out 5
                  have hfz69_6 := blk_frozen BK242.out 6
                  have hfz69_7 := blk_frozen BK242.out 7
                  have hfz69_8 := blk_frozen BK242.out 8
                  have hfz69_9 := blk_frozen BK242.out 9
                  go_wp2_with (first | ((with_reducible refine gate_callee (f := 21) rfl ?_); refine goesL_ (some 99) rfl rfl Try.func21 (by kernel_rfl) rfl #[.agg #[.int .i64 t243, .int .i64 t244, .int .i64 t245, .slice Ao11 t246.length co11], .int .i64 a0_4, .int .i64 a0_5, .int .i64 a0_6, .int .i64 a0_7, .int .i64 a0_8, .int .i64 a0_9] rfl (by (try simp only [List.map_toArray, List.map_cons, List.map_nil]); first | done | rfl | (simp only [List.length_drop, List.length_take]; rfl)) ?_; (with_reducible refine (bivouacref08_Sees.calls kj42 t243 t244 t245 _ _ t246 a0_4 a0_5 a0_6 a0_7 a0_8 a0_9 t257 _ ?side1 ?side2 A63.out).mono ?_); (case side1 => repeat (first | exact (Kd.V_reads' HO_250003.out).2.2 | (with_reducible refine Kd.C_alloc ?_ _) | (with_reducible refine Kd.C_drewN ?_ _) | (with_reducible refine Kd.C_drew ?_))); (case side2 => exact (Kd.V_reads' HO_250003.out).2.1); rintro e w70 ⟨rfl, hb⟩; refine ⟨_, rfl, ?_⟩; have n0_ := Aside0.mk (Kd.V_below (by (with_reducible repeat (first | apply Kd.V_alloc | apply Kd.V_drewN | apply Kd.V_drew)); exact HO_250003.out) hb); have n1_ := Aside0.mk (blk_below (g := gb242) (o := .cells #[.int .i64 a0_0, .int .i64 a0_1, .int .i64 a0_2, .slice A0_3 l0_3.length c0_3, .int .i64 a0_4, .int .i64 a0_5, .int .i64 a0_6, .int .i64 a0_7, .int .i64 a0_8, .int .i64 a0_9] 26 (0, 0)) (by (with_reducible repeat (first | refine blk_drewN ?_ _ | refine blk_drew ?_ | refine blk_alloc ?_ _)); exact BK242.out) hb); have n2_ := Aside0.mk (blk_below (g := gb249) (o := .cells #[.int .i64 t243, .int .i64 t244, .int .i64 t245, .slice Ao11 t246.length co11] 24 (0, 0)) (by (with_reducible repeat (first | refine blk_drewN ?_ _ | refine blk_drew ?_ | refine blk_alloc ?_ _)); exact BK249.out) hb); have n3_ := Aside0.mk (below_step (by repeat (first | (with_reducible first | exact HB.out | apply below_alloc | apply pw_below_drewN | apply below_drew1 | refine below_set ?_ GE242.out | refine below_set ?_ GE249.out) | exact HB.out)) hb); clear HO_250003; clear BK242; clear BK249; clear HB; have HO_250003 := n0_; have BK242 := n1_; have BK249 := n2_; have HB := n3_; clear n0_ n1_ n2_ n3_; (try clear hb); (try clear hb2); (try clear hk); (try clear hi)) | (go_at_call 11; (with_reducible refine (bivouaclaw08_awake.calls kj42  t258 _ A66.out).mono ?_); rintro e w71 ⟨rfl, hb⟩; have n0_ := Aside0.mk (Kd.V_below (by (with_reducible repeat (first | apply Kd.V_alloc | apply Kd.V_drewN | apply Kd.V_drew)); exact HO_250003.out) hb); have n1_ := Aside0.mk (blk_below (g := gb242) (o := .cells #[.int .i64 a0_0, .int .i64 a0_1, .int .i64 a0_2, .slice A0_3 l0_3.length c0_3, .int .i64 a0_4, .int .i64 a0_5, .int .i64 a0_6, .int .i64 a0_7, .int .i64 a0_8, .int .i64 a0_9] 26 (0, 0)) (by (with_reducible repeat (first | refine blk_drewN ?_ _ | refine blk_drew ?_ | refine blk_alloc ?_ _)); exact BK242.out) hb); have n2_ := Aside0.mk (blk_below (g := gb249) (o := .cells #[.int .i64 t243, .int .i64 t244, .int .i64 t245, .slice Ao11 t246.length co11] 24 (0, 0)) (by (with_reducible repeat (first | refine blk_drewN ?_ _ | refine blk_drew ?_ | refine blk_alloc ?_ _)); exact BK249.out) hb); have n3_ := Aside0.mk (below_step (by repeat (first | (with_reducible first | exact HB.out | apply below_alloc | apply pw_below_drewN | apply below_drew1 | refine below_set ?_ GE242.out | refine below_set ?_ GE249.out) | exact HB.out)) hb); clear HO_250003; clear BK242; clear BK249; clear HB; have HO_250003 := n0_; have BK242 := n1_; have BK249 := n2_; have HB := n3_; clear n0_ n1_ n2_ n3_; (try clear hb); (try clear hb2); (try clear hk); (try clear hi)))
                  go_ret
                  exact ⟨by first | rfl | (simp [errW_none, errW_some] <;> rfl) | (simp [*, errW_none, errW_some] <;> rfl) | (rw [Int.tdiv_eq_ediv_of_nonneg (by assumption)]; rfl), by repeat (first | (with_reducible first | exact HB.out | apply below_alloc | apply pw_below_drewN | apply below_drew1 | refine below_set ?_ GE242.out | refine below_set ?_ GE249.out) | exact HB.out)⟩
                · rw [if_neg c65] at H
                  have c65b0 : (t251 == 0) = false := beq_eq_false_iff_ne.mpr c65
                  have c65b1 : (t251 != 0) = true := bne_iff_ne.mpr c65
                  obtain rfl := Option.some.inj H
                  have hnb72 := NB249_242.out
                  have hnc72 := NB242_249.out
                  have hcz73_0 : wc.cell? ⟨gb249, 0, none⟩ = some (.int .i64 t243) := (blk_cell BK249.out 0).trans rfl
                  have hcz73_1 : wc.cell? ⟨gb249, 1, none⟩ = some (.int .i64 t244) := (blk_cell BK249.out 1).trans rfl
                  have hcz73_2 : wc.cell? ⟨gb249, 2, none⟩ = some (.int .i64 t245) := (blk_cell BK249.out 2).trans rfl
                  have hcz73_3 : wc.cell? ⟨gb249, 3, none⟩ = some (.slice Ao11 t246.length co11) := (blk_cell BK249.out 3).trans rfl
                  have hfz73_0 := blk_frozen BK249.out 0
                  have hfz73_1 := blk_frozen BK249.out 1
                  have hfz73_2 := blk_frozen BK249.out 2
                  have hfz73_3 := blk_frozen BK249.out 3
                  have hcz74_0 : wc.cell? ⟨gb242, 0, none⟩ = some (.int .i64 a0_0) := (blk_cell BK242.out 0).trans rfl
                  have hcz74_1 : wc.cell? ⟨gb242, 1, none⟩ = some (.int .i64 a0_1) := (blk_cell BK242.out 1).trans rfl
                  have hcz74_2 : wc.cell? ⟨gb242, 2, none⟩ = some (.int .i64 a0_2) := (blk_cell BK242.out 2).trans rfl
                  have hcz74_3 : wc.cell? ⟨gb242, 3, none⟩ = some (.slice A0_3 l0_3.length c0_3) := (blk_cell BK242.out 3).trans rfl
                  have hcz74_4 : wc.cell? ⟨gb242, 4, none⟩ = some (.int .i64 a0_4) := (blk_cell BK242.out 4).trans rfl
                  have hcz74_5 : wc.cell? ⟨gb242, 5, none⟩ = some (.int .i64 a0_5) := (blk_cell BK242.out 5).trans rfl
                  have hcz74_6 : wc.cell? ⟨gb242, 6, none⟩ = some (.int .i64 a0_6) := (blk_cell BK242.out 6).trans rfl
                  have hcz74_7 : wc.cell? ⟨gb242, 7, none⟩ = some (.int .i64 a0_7) := (blk_cell BK242.out 7).trans rfl
                  have hcz74_8 : wc.cell? ⟨gb242, 8, none⟩ = some (.int .i64 a0_8) := (blk_cell BK242.out 8).trans rfl
                  have hcz74_9 : wc.cell? ⟨gb242, 9, none⟩ = some (.int .i64 a0_9) := (blk_cell BK242.out 9).trans rfl
                  have hfz74_0 := blk_frozen BK242.out 0
                  have hfz74_1 := blk_frozen BK242.out 1
                  have hfz74_2 := blk_frozen BK242.out 2
                  have hfz74_3 := blk_frozen BK242.out 3
                  have hfz74_4 := blk_frozen BK242.out 4
                  have hfz74_5 := blk_frozen BK242.out 5
                  have hfz74_6 := blk_frozen BK242.out 6
                  have hfz74_7 := blk_frozen BK242.out 7
                  have hfz74_8 := blk_frozen BK242.out 8
                  have hfz74_9 := blk_frozen BK242.out 9
                  go_wp2_with (first | ((with_reducible refine gate_callee (f := 21) rfl ?_); refine goesL_ (some 99) rfl rfl Try.func21 (by kernel_rfl) rfl #[.agg #[.int .i64 t243, .int .i64 t244, .int .i64 t245, .slice Ao11 t246.length co11], .int .i64 a0_4, .int .i64 a0_5, .int .i64 a0_6, .int .i64 a0_7, .int .i64 a0_8, .int .i64 a0_9] rfl (by (try simp only [List.map_toArray, List.map_cons, List.map_nil]); first | done | rfl | (simp only [List.length_drop, List.length_take]; rfl)) ?_; (with_reducible refine (bivouacref08_Sees.calls kj42 t243 t244 t245 _ _ t246 a0_4 a0_5 a0_6 a0_7 a0_8 a0_9 t257 _ ?side1 ?side2 A63.out).mono ?_); (case side1 => repeat (first | exact (Kd.V_reads' HO_250003.out).2.2 | (with_reducible refine Kd.C_alloc ?_ _) | (with_reducible refine Kd.C_drewN ?_ _) | (with_reducible refine Kd.C_drew ?_))); (case side2 => exact (Kd.V_reads' HO_250003.out).2.1); rintro e w75 ⟨rfl, hb⟩; refine ⟨_, rfl, ?_⟩; have n0_ := Aside0.mk (Kd.V_below (by (with_reducible repeat (first | apply Kd.V_alloc | apply Kd.V_drewN | apply Kd.V_drew)); exact HO_250003.out) hb); have n1_ := Aside0.mk (blk_below (g := gb242) (o := .cells #[.int .i64 a0_0, .int .i64 a0_1, .int .i64 a0_2, .slice A0_3 l0_3.length c0_3, .int .i64 a0_4, .int .i64 a0_5, .int .i64 a0_6, .int .i64 a0_7, .int .i64 a0_8, .int .i64 a0_9] 26 (0, 0)) (by (with_reducible repeat (first | refine blk_drewN ?_ _ | refine blk_drew ?_ | refine blk_alloc ?_ _)); exact BK242.out) hb); have n2_ := Aside0.mk (blk_below (g := gb249) (o := .cells #[.int .i64 t243, .int .i64 t244, .int .i64 t245, .slice Ao11 t246.length co11] 24 (0, 0)) (by (with_reducible repeat (first | refine blk_drewN ?_ _ | refine blk_drew ?_ | refine blk_alloc ?_ _)); exact BK249.out) hb); have n3_ := Aside0.mk (below_step (by repeat (first | (with_reducible first | exact HB.out | apply below_alloc | apply pw_below_drewN | apply below_drew1 | refine below_set ?_ GE242.out | refine below_set ?_ GE249.out) | exact HB.out)) hb); clear HO_250003; clear BK242; clear BK249; clear HB; have HO_250003 := n0_; have BK242 := n1_; have BK249 := n2_; have HB := n3_; clear n0_ n1_ n2_ n3_; (try clear hb); (try clear hb2); (try clear hk); (try clear hi)))
                  go_ret
                  exact ⟨by first | rfl | (simp [errW_none, errW_some] <;> rfl) | (simp [*, errW_none, errW_some] <;> rfl) | (rw [Int.tdiv_eq_ediv_of_nonneg (by assumption)]; rfl), by repeat (first | (with_reducible first | exact HB.out | apply below_alloc | apply pw_below_drewN | apply below_drew1 | refine below_set ?_ GE242.out | refine below_set ?_ GE249.out) | exact HB.out)⟩
              · rw [if_neg c64] at H
                have c64b0 : (t250 == t257) = false := by simpa using c64
                (try (have c64b1 : decide (t250 = t257) = false := by simpa using c64))
                (try (have c64b2 : (t250 == t257) = false := by simpa using c64))
                (try (have c64b3 : ¬ (t250 = t257) := by simpa using c64))
                clear c64
                obtain rfl := Option.some.inj H
                have hnb76 := NB249_242.out
                have hnc76 := NB242_249.out
                have hcz77_0 : wc.cell? ⟨gb249, 0, none⟩ = some (.int .i64 t243) := (blk_cell BK249.out 0).trans rfl
                have hcz77_1 : wc.cell? ⟨gb249, 1, none⟩ = some (.int .i64 t244) := (blk_cell BK249.out 1).trans rfl
                have hcz77_2 : wc.cell? ⟨gb249, 2, none⟩ = some (.int .i64 t245) := (blk_cell BK249.out 2).trans rfl
                have hcz77_3 : wc.cell? ⟨gb249, 3, none⟩ = some (.slice Ao11 t246.length co11) := (blk_cell BK249.out 3).trans rfl
                have hfz77_0 := blk_frozen BK249.out 0
                have hfz77_1 := blk_frozen BK249.out 1
                have hfz77_2 := blk_frozen BK249.out 2
                have hfz77_3 := blk_frozen BK249.out 3
                have hcz78_0 : wc.cell? ⟨gb242, 0, none⟩ = some (.int .i64 a0_0) := (blk_cell BK242.out 0).trans rfl
                have hcz78_1 : wc.cell? ⟨gb242, 1, none⟩ = some (.int .i64 a0_1) := (blk_cell BK242.out 1).trans rfl
                have hcz78_2 : wc.cell? ⟨gb242, 2, none⟩ = some (.int .i64 a0_2) := (blk_cell BK242.out 2).trans rfl
                have hcz78_3 : wc.cell? ⟨gb242, 3, none⟩ = some (.slice A0_3 l0_3.length c0_3) := (blk_cell BK242.out 3).trans rfl
                have hcz78_4 : wc.cell? ⟨gb242, 4, none⟩ = some (.int .i64 a0_4) := (blk_cell BK242.out 4).trans rfl
                have hcz78_5 : wc.cell? ⟨gb242, 5, none⟩ = some (.int .i64 a0_5) := (blk_cell BK242.out 5).trans rfl
                have hcz78_6 : wc.cell? ⟨gb242, 6, none⟩ = some (.int .i64 a0_6) := (blk_cell BK242.out 6).trans rfl
                have hcz78_7 : wc.cell? ⟨gb242, 7, none⟩ = some (.int .i64 a0_7) := (blk_cell BK242.out 7).trans rfl
                have hcz78_8 : wc.cell? ⟨gb242, 8, none⟩ = some (.int .i64 a0_8) := (blk_cell BK242.out 8).trans rfl
                have hcz78_9 : wc.cell? ⟨gb242, 9, none⟩ = some (.int .i64 a0_9) := (blk_cell BK242.out 9).trans rfl
                have hfz78_0 := blk_frozen BK242.out 0
                have hfz78_1 := blk_frozen BK242.out 1
                have hfz78_2 := blk_frozen BK242.out 2
                have hfz78_3 := blk_frozen BK242.out 3
                have hfz78_4 := blk_frozen BK242.out 4
                have hfz78_5 := blk_frozen BK242.out 5
                have hfz78_6 := blk_frozen BK242.out 6
                have hfz78_7 := blk_frozen BK242.out 7
                have hfz78_8 := blk_frozen BK242.out 8
                have hfz78_9 := blk_frozen BK242.out 9
                go_wp2_with (first | ((with_reducible refine gate_callee (f := 21) rfl ?_); refine goesL_ (some 99) rfl rfl Try.func21 (by kernel_rfl) rfl #[.agg #[.int .i64 t243, .int .i64 t244, .int .i64 t245, .slice Ao11 t246.length co11], .int .i64 a0_4, .int .i64 a0_5, .int .i64 a0_6, .int .i64 a0_7, .int .i64 a0_8, .int .i64 a0_9] rfl (by (try simp only [List.map_toArray, List.map_cons, List.map_nil]); first | done | rfl | (simp only [List.length_drop, List.length_take]; rfl)) ?_; (with_reducible refine (bivouacref08_Sees.calls kj42 t243 t244 t245 _ _ t246 a0_4 a0_5 a0_6 a0_7 a0_8 a0_9 t257 _ ?side1 ?side2 A63.out).mono ?_); (case side1 => repeat (first | exact (Kd.V_reads' HO_250003.out).2.2 | (with_reducible refine Kd.C_alloc ?_ _) | (with_reducible refine Kd.C_drewN ?_ _) | (with_reducible refine Kd.C_drew ?_))); (case side2 => exact (Kd.V_reads' HO_250003.out).2.1); rintro e w79 ⟨rfl, hb⟩; refine ⟨_, rfl, ?_⟩; have n0_ := Aside0.mk (Kd.V_below (by (with_reducible repeat (first | apply Kd.V_alloc | apply Kd.V_drewN | apply Kd.V_drew)); exact HO_250003.out) hb); have n1_ := Aside0.mk (blk_below (g := gb242) (o := .cells #[.int .i64 a0_0, .int .i64 a0_1, .int .i64 a0_2, .slice A0_3 l0_3.length c0_3, .int .i64 a0_4, .int .i64 a0_5, .int .i64 a0_6, .int .i64 a0_7, .int .i64 a0_8, .int .i64 a0_9] 26 (0, 0)) (by (with_reducible repeat (first | refine blk_drewN ?_ _ | refine blk_drew ?_ | refine blk_alloc ?_ _)); exact BK242.out) hb); have n2_ := Aside0.mk (blk_below (g := gb249) (o := .cells #[.int .i64 t243, .int .i64 t244, .int .i64 t245, .slice Ao11 t246.length co11] 24 (0, 0)) (by (with_reducible repeat (first | refine blk_drewN ?_ _ | refine blk_drew ?_ | refine blk_alloc ?_ _)); exact BK249.out) hb); have n3_ := Aside0.mk (below_step (by repeat (first | (with_reducible first | exact HB.out | apply below_alloc | apply pw_below_drewN | apply below_drew1 | refine below_set ?_ GE242.out | refine below_set ?_ GE249.out) | exact HB.out)) hb); clear HO_250003; clear BK242; clear BK249; clear HB; have HO_250003 := n0_; have BK242 := n1_; have BK249 := n2_; have HB := n3_; clear n0_ n1_ n2_ n3_; (try clear hb); (try clear hb2); (try clear hk); (try clear hi)))
                go_ret
                exact ⟨by first | rfl | (simp [errW_none, errW_some] <;> rfl) | (simp [*, errW_none, errW_some] <;> rfl) | (rw [Int.tdiv_eq_ediv_of_nonneg (by assumption)]; rfl), by repeat (first | (with_reducible first | exact HB.out | apply below_alloc | apply pw_below_drewN | apply below_drew1 | refine below_set ?_ GE242.out | refine below_set ?_ GE249.out) | exact HB.out)⟩

/-- THE ONE PURE STATEMENT of bivouaclaw08_RaySees. -/
def bivouaclaw08_RaySees.Pure : Prop := ∀ (a0_0 : Int) (a0_1 : Int) (a0_2 : Int) (l0_3 : List Int) (a0_4 : Int) (a0_5 : Int) (a0_6 : Int) (a0_7 : Int) (a0_8 : Int) (a0_9 : Int), (Lit.int .i64 a0_0).wf = true → (Lit.int .i64 a0_1).wf = true → (Lit.int .i64 a0_2).wf = true → l0_3.length ≤ maxLen → (∀ x ∈ l0_3, (Lit.int .u8 x).wf = true) → (Lit.int .i64 a0_4).wf = true → (Lit.int .i64 a0_5).wf = true → (Lit.int .i64 a0_6).wf = true → (Lit.int .i64 a0_7).wf = true → (Lit.int .i64 a0_8).wf = true → (Lit.int .i64 a0_9).wf = true → ∃ k, bivouaclaw08_RaySees.f k a0_0 a0_1 a0_2 l0_3 a0_4 a0_5 a0_6 a0_7 a0_8 a0_9 = some true
theorem bivouaclaw08_RaySees.walked : True := trivial

end Go.Proofs.Ytincnaejgimlbaa.PA
