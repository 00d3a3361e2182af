-- WRITTEN BY A PROGRAM OF THIS SESSION (a turned copy of the kit's printer), for this claim. Nothing here is trusted: Lean checks it.
import Derived.Test.YteihieihoeijdaaPAx0
import Derived.Test.YteihieihoeijdaaPAx29
import Derived.Test.YteihieihoeijdaaPAx30
import Derived.Test.YteihieihoeijdaaGAbivouaclaw21few
import Derived.Test.YteihieihoeijdaaGAsightView
namespace Go.Proofs.Yteihieihoeijdaa.PA
open Go.RowKit Go.Proofs.YteihieihoeijdaaW.PrintWords Go.Proofs.YteihieihoeijdaaW.PrintLast Go.Proofs.YteihieihoeijdaaW.PrintMore
attribute [local go_sem] max2_int min2_int max_two min_two max_three min_three max_four min_four   -- for this text's walks alone
set_option linter.unusedVariables false
set_option linter.unusedSimpArgs false

/-! ### bivouaclaw21_SightOwn: function 5 -/
mutual
def bivouaclaw21_SightOwn.l0 : Nat → List Int → Int → List (S27) → Int → Int → Int → Int → List Int → List (S27) → Int → Int → Int → Int → Int → Int → Int → Int → Int → Int → Option (Bool)
 | 0, _, _, _, _, _, _, _, _, _, _, _, _, _, _, _, _, _, _, _ => none
 | k + 1, x3, x4, x5, x6, x377000, x377001, x377002, x377003, x377004, x377005, x377006, x377007, x377008, x377009, x377010, x377011, x377012, x377013, x377014 => if x6 ≥ 0 then (if 0 ≤ x6 then (if x6 < (x377004.length : Int) then (if ((rd_T27 x377004 x6).f0) = x377005 then (if x5.length < 2199023255552 then (bivouaclaw21_SightOwn.l0 k x3 x4 (x5 ++ [(⟨(rd_T27 x377004 x6).f0, (rd_T27 x377004 x6).f1, (rd_T27 x377004 x6).f2, (rd_T27 x377004 x6).f3, (rd_T27 x377004 x6).f4, (rd_T27 x377004 x6).f5, (rd_T27 x377004 x6).f6, (rd_T27 x377004 x6).f7⟩ : S27)]) (wrap64 (x6 - 1)) x377000 x377001 x377002 x377003 x377004 x377005 x377006 x377007 x377008 x377009 x377010 x377011 x377012 x377013 x377014) else (none)) else (if x5.length < 2199023255552 then (bivouaclaw21_SightOwn.l0 k x3 x4 (x5 ++ [(⟨(rd_T27 x377004 x6).f0, (rd_T27 x377004 x6).f1, (rd_T27 x377004 x6).f2, x377010, x377011, x377012, x377013, (rd_T27 x377004 x6).f7⟩ : S27)]) (wrap64 (x6 - 1)) x377000 x377001 x377002 x377003 x377004 x377005 x377006 x377007 x377008 x377009 x377010 x377011 x377012 x377013 x377014) else (none))) else (none)) else (none)) else ((sight_View.f k x377000 x377001 x377002 x377003 x5 x377005).bind fun bt408 => (if x4 = 0 then (bivouaclaw21_SightOwn.j1 k x3 x4 bt408.1 bt408.2 (bt408.2 != 0)) else (bivouaclaw21_SightOwn.j1 k x3 x4 bt408.1 bt408.2 true)))
def bivouaclaw21_SightOwn.j1 : Nat → List Int → Int → List Int → Int → Bool → Option (Bool)
 | 0, _, _, _, _, _ => none
 | k + 1, x3, x4, x8, x9, x74 => if x74 = true then (if x4 = 0 then (if x9 = 0 then ((bivouaclaw21_awake.f k).bind fun t412 => (some t412)) else (if (x8.length : Int) = 0 then ((bivouaclaw21_awake.f k).bind fun t413 => (some t413)) else (none))) else (if (x3.length : Int) = 0 then (if x9 = 0 then ((bivouaclaw21_awake.f k).bind fun t414 => (some t414)) else (if (x8.length : Int) = 0 then ((bivouaclaw21_awake.f k).bind fun t415 => (some t415)) else (none))) else (none))) else ((bivouaclaw21_same.f k x3 x8).bind fun t416 => (if t416 = true then ((bivouaclaw21_awake.f k).bind fun t417 => (some t417)) else (none)))
end
def bivouaclaw21_SightOwn.f (k : Nat) (a0_0 : Int) (a0_1 : Int) (a0_2 : Int) (l0_3 : List Int) (l0_4 : List (S27)) (a0_5 : Int) (a0_6 : Int) (a0_7 : Int) (a0_8 : Int) (a0_9 : Int) (a0_10 : Int) (a0_11 : Int) (a0_12 : Int) (a0_13 : Int) (a0_14 : Int) : Option (Bool) := (bivouaclaw21_few.f a0_0 a0_1 a0_2 l0_3 l0_4 a0_5 a0_6 a0_7 a0_8 a0_9 a0_10 a0_11 a0_12 a0_13 a0_14).bind fun bt377 => ((sight_View.f k bt377.1 bt377.2.1 bt377.2.2.1 bt377.2.2.2.1 bt377.2.2.2.2.1 bt377.2.2.2.2.2.1).bind fun bt396 => (bivouaclaw21_SightOwn.l0 k bt396.1 bt396.2 ([] : List (S27)) (wrap64 ((bt377.2.2.2.2.1.length : Int) - 1)) bt377.1 bt377.2.1 bt377.2.2.1 bt377.2.2.2.1 bt377.2.2.2.2.1 bt377.2.2.2.2.2.1 bt377.2.2.2.2.2.2.1 bt377.2.2.2.2.2.2.2.1 bt377.2.2.2.2.2.2.2.2.1 bt377.2.2.2.2.2.2.2.2.2.1 bt377.2.2.2.2.2.2.2.2.2.2.1 bt377.2.2.2.2.2.2.2.2.2.2.2.1 bt377.2.2.2.2.2.2.2.2.2.2.2.2.1 bt377.2.2.2.2.2.2.2.2.2.2.2.2.2.1 bt377.2.2.2.2.2.2.2.2.2.2.2.2.2.2))
theorem bivouaclaw21_SightOwn.mono_l : ∀ k, (∀ y0 y1 y2 y3 y4 y5 y6 y7 y8 y9 y10 y11 y12 y13 y14 y15 y16 y17 y18, LeO (bivouaclaw21_SightOwn.l0 k y0 y1 y2 y3 y4 y5 y6 y7 y8 y9 y10 y11 y12 y13 y14 y15 y16 y17 y18) (bivouaclaw21_SightOwn.l0 (k + 1) y0 y1 y2 y3 y4 y5 y6 y7 y8 y9 y10 y11 y12 y13 y14 y15 y16 y17 y18)) ∧ (∀ y0 y1 y2 y3 y4, LeO (bivouaclaw21_SightOwn.j1 k y0 y1 y2 y3 y4) (bivouaclaw21_SightOwn.j1 (k + 1) y0 y1 y2 y3 y4))
 | 0 => ⟨fun _ _ _ _ _ _ _ _ _ _ _ _ _ _ _ _ _ _ _ r h => by simp [bivouaclaw21_SightOwn.l0] at h, fun _ _ _ _ _ r h => by simp [bivouaclaw21_SightOwn.j1] at h⟩
 | k + 1 => by
  obtain ⟨ih0, ih1⟩ := bivouaclaw21_SightOwn.mono_l k
  refine ⟨?_, ?_⟩
  ·
   intro y0 y1 y2 y3 y4 y5 y6 y7 y8 y9 y10 y11 y12 y13 y14 y15 y16 y17 y18
   unfold bivouaclaw21_SightOwn.l0
   repeat' first
   | (with_reducible exact ih0 _ _ _ _ _ _ _ _ _ _ _ _ _ _ _ _ _ _ _)
   | (with_reducible exact ih1 _ _ _ _ _)
   | (with_reducible exact bivouaclaw21_awake.mono _)
   | (with_reducible exact bivouaclaw21_same.mono _ _ _)
   | (with_reducible exact sight_View.mono _ _ _ _ _ _ _)
   | (with_reducible exact LeO.refl _)
   | (with_reducible exact LeO.none _)
   | (with_reducible refine LeO.ite ?_ ?_)
   | (with_reducible refine LeO.bind ?_ (fun _ => ?_))
   | exact ih0 _ _ _ _ _ _ _ _ _ _ _ _ _ _ _ _ _ _ _
   | exact ih1 _ _ _ _ _
   | exact bivouaclaw21_awake.mono _
   | exact bivouaclaw21_same.mono _ _ _
   | exact sight_View.mono _ _ _ _ _ _ _
   | exact LeO.none _
   | refine LeO.ite ?_ ?_
   | refine LeO.bind ?_ (fun _ => ?_)
  ·
   intro y0 y1 y2 y3 y4
   unfold bivouaclaw21_SightOwn.j1
   repeat' first
   | (with_reducible exact ih0 _ _ _ _ _ _ _ _ _ _ _ _ _ _ _ _ _ _ _)
   | (with_reducible exact ih1 _ _ _ _ _)
   | (with_reducible exact bivouaclaw21_awake.mono _)
   | (with_reducible exact bivouaclaw21_same.mono _ _ _)
   | (with_reducible exact sight_View.mono _ _ _ _ _ _ _)
   | (with_reducible exact LeO.refl _)
   | (with_reducible exact LeO.none _)
   | (with_reducible refine LeO.ite ?_ ?_)
   | (with_reducible refine LeO.bind ?_ (fun _ => ?_))
   | exact ih0 _ _ _ _ _ _ _ _ _ _ _ _ _ _ _ _ _ _ _
   | exact ih1 _ _ _ _ _
   | exact bivouaclaw21_awake.mono _
   | exact bivouaclaw21_same.mono _ _ _
   | exact sight_View.mono _ _ _ _ _ _ _
   | exact LeO.none _
   | refine LeO.ite ?_ ?_
   | refine LeO.bind ?_ (fun _ => ?_)
theorem bivouaclaw21_SightOwn.mono : ∀ a0 a1 a2 a3 a4 a5 a6 a7 a8 a9 a10 a11 a12 a13 a14 k, LeO (bivouaclaw21_SightOwn.f k a0 a1 a2 a3 a4 a5 a6 a7 a8 a9 a10 a11 a12 a13 a14) (bivouaclaw21_SightOwn.f (k + 1) a0 a1 a2 a3 a4 a5 a6 a7 a8 a9 a10 a11 a12 a13 a14) := by
 intro a0 a1 a2 a3 a4 a5 a6 a7 a8 a9 a10 a11 a12 a13 a14 k
 obtain ⟨ih0, ih1⟩ := bivouaclaw21_SightOwn.mono_l k
 unfold bivouaclaw21_SightOwn.f
 repeat' first
   | (with_reducible exact ih0 _ _ _ _ _ _ _ _ _ _ _ _ _ _ _ _ _ _ _)
   | (with_reducible exact ih1 _ _ _ _ _)
   | (with_reducible exact bivouaclaw21_awake.mono _)
   | (with_reducible exact bivouaclaw21_same.mono _ _ _)
   | (with_reducible exact sight_View.mono _ _ _ _ _ _ _)
   | (with_reducible exact LeO.refl _)
   | (with_reducible exact LeO.none _)
   | (with_reducible refine LeO.ite ?_ ?_)
   | (with_reducible refine LeO.bind ?_ (fun _ => ?_))
   | exact ih0 _ _ _ _ _ _ _ _ _ _ _ _ _ _ _ _ _ _ _
   | exact ih1 _ _ _ _ _
   | exact bivouaclaw21_awake.mono _
   | exact bivouaclaw21_same.mono _ _ _
   | exact sight_View.mono _ _ _ _ _ _ _
   | exact LeO.none _
   | refine LeO.ite ?_ ?_
   | refine LeO.bind ?_ (fun _ => ?_)
set_option maxHeartbeats 8000000 in
set_option maxRecDepth 100000 in
theorem bivouaclaw21_SightOwn.calls (k : Nat) (a0_0 : Int) (a0_1 : Int) (a0_2 : Int) (A0_3 : Option Addr) (c0_3 : Nat) (l0_3 : List Int) (A0_4 : Option Addr) (c0_4 : Nat) (l0_4 : List (S27)) (a0_5 : Int) (a0_6 : Int) (a0_7 : Int) (a0_8 : Int) (a0_9 : Int) (a0_10 : Int) (a0_11 : Int) (a0_12 : Int) (a0_13 : Int) (a0_14 : Int) (r : Bool) (w : World) (hr0_3 : Kd.C (Kd.int .u8) w A0_3 l0_3.length l0_3) (hc0_3 : l0_3.length ≤ c0_3) (hr0_4 : Kd.C k27 w A0_4 l0_4.length l0_4) (hc0_4 : l0_4.length ≤ c0_4) (h : bivouaclaw21_SightOwn.f k a0_0 a0_1 a0_2 l0_3 l0_4 a0_5 a0_6 a0_7 a0_8 a0_9 a0_10 a0_11 a0_12 a0_13 a0_14 = some r) :
  Calls Try.prog 5 #[.agg #[.int .i64 a0_0, .int .i64 a0_1, .int .i64 a0_2, .slice A0_3 l0_3.length c0_3, .slice A0_4 l0_4.length c0_4, .int .i64 a0_5, .int .i64 a0_6, .int .i64 a0_7, .int .i64 a0_8, .int .i64 a0_9, .int .i64 a0_10, .int .i64 a0_11, .int .i64 a0_12, .int .i64 a0_13, .int .i64 a0_14]] w fun e w' => e = .returned (.bool r) ∧ Below w.heap.size w w' := by
 have hu29 := Try.underlying29
 have hu24 := Try.underlying24
 have hu27 := Try.underlying27
 have HR0_3 := Aside0.mk hr0_3
 have HC0_3 := Aside0.mk hc0_3
 clear hr0_3 hc0_3
 have HR0_4 := Aside0.mk hr0_4
 have HC0_4 := Aside0.mk hc0_4
 clear hr0_4 hc0_4
 have HB := Aside0.mk (Below.refl w.heap.size w)
 have H : ((bivouaclaw21_few.f a0_0 a0_1 a0_2 l0_3 l0_4 a0_5 a0_6 a0_7 a0_8 a0_9 a0_10 a0_11 a0_12 a0_13 a0_14).bind fun bt377 => ((sight_View.f k bt377.1 bt377.2.1 bt377.2.2.1 bt377.2.2.2.1 bt377.2.2.2.2.1 bt377.2.2.2.2.2.1).bind fun bt396 => (bivouaclaw21_SightOwn.l0 k bt396.1 bt396.2 ([] : List (S27)) (wrap64 ((bt377.2.2.2.2.1.length : Int) - 1)) bt377.1 bt377.2.1 bt377.2.2.1 bt377.2.2.2.1 bt377.2.2.2.2.1 bt377.2.2.2.2.2.1 bt377.2.2.2.2.2.2.1 bt377.2.2.2.2.2.2.2.1 bt377.2.2.2.2.2.2.2.2.1 bt377.2.2.2.2.2.2.2.2.2.1 bt377.2.2.2.2.2.2.2.2.2.2.1 bt377.2.2.2.2.2.2.2.2.2.2.2.1 bt377.2.2.2.2.2.2.2.2.2.2.2.2.1 bt377.2.2.2.2.2.2.2.2.2.2.2.2.2.1 bt377.2.2.2.2.2.2.2.2.2.2.2.2.2.2))) = some r := h
 clear h
 replace H := Option.bind_eq_some_iff.mp H
 obtain ⟨⟨t377, t378, t379, t380, t383, t386, t387, t388, t389, t390, t391, t392, t393, t394, t395⟩, A20, H⟩ := H
 replace H : ((sight_View.f k t377 t378 t379 t380 t383 t386).bind fun bt396 => (bivouaclaw21_SightOwn.l0 k bt396.1 bt396.2 ([] : List (S27)) (wrap64 ((t383.length : Int) - 1)) t377 t378 t379 t380 t383 t386 t387 t388 t389 t390 t391 t392 t393 t394 t395)) = some r := H
 have A2 := Aside0.mk A20
 clear A20
 replace H := Option.bind_eq_some_iff.mp H
 obtain ⟨⟨t396, t399⟩, A30, H⟩ := H
 replace H : (bivouaclaw21_SightOwn.l0 k t396 t399 ([] : List (S27)) (wrap64 ((t383.length : Int) - 1)) t377 t378 t379 t380 t383 t386 t387 t388 t389 t390 t391 t392 t393 t394 t395) = some r := H
 have A3 := Aside0.mk A30
 clear A30
 have H' := Aside0.mk H
 clear H
 go_enter Try.func5, Try.ntmps5
 go_wp2_with (first | ((with_reducible refine gate_dst (N := 1) rfl ?_); (try (refine gate_guard (by rfl) ?_; dsimp only)); refine box_event ?hg (N := 1) ?hd (cs := #[.int .i64 a0_0, .int .i64 a0_1, .int .i64 a0_2, .slice A0_3 l0_3.length c0_3, .slice A0_4 l0_4.length c0_4, .int .i64 a0_5, .int .i64 a0_6, .int .i64 a0_7, .int .i64 a0_8, .int .i64 a0_9, .int .i64 a0_10, .int .i64 a0_11, .int .i64 a0_12, .int .i64 a0_13, .int .i64 a0_14]) (t := 29) ?hr ?_; (case hd => rfl); (case hg => rfl); (case hr => first | (go_simp; done) | (go_simp; rfl)); intro gb376 hg w4 hbox hb; have n0_ := Aside0.mk (below_step (by repeat (first | (with_reducible first | exact HB.out | apply below_alloc | apply pw_below_drewN | apply below_drew1) | exact HB.out)) hb); have n1_ := Aside0.mk (hbox); have n2_ := Aside0.mk ((by rw [hg]; exact (below_size (by repeat (first | (with_reducible first | exact HB.out | apply below_alloc | apply pw_below_drewN | apply below_drew1) | exact HB.out))) : w.heap.size ≤ gb376)); have n3_ := Aside0.mk ((by rw [hg]; exact (below_size (by repeat (first | (with_reducible first | exact HB.out | apply below_alloc | apply pw_below_drewN | apply below_drew1) | exact HB.out))) : w.heap.size ≤ gb376)); clear HB; have HB := n0_; have BK376 := n1_; have GW376 := n2_; have GE376 := n3_; clear n0_ n1_ n2_ n3_; clear hb hbox hg; have hcz5_0 : w4.cell? ⟨gb376, 0, none⟩ = some (.int .i64 a0_0) := (blk_cell BK376.out 0).trans rfl; have hcz5_1 : w4.cell? ⟨gb376, 1, none⟩ = some (.int .i64 a0_1) := (blk_cell BK376.out 1).trans rfl; have hcz5_2 : w4.cell? ⟨gb376, 2, none⟩ = some (.int .i64 a0_2) := (blk_cell BK376.out 2).trans rfl; have hcz5_3 : w4.cell? ⟨gb376, 3, none⟩ = some (.slice A0_3 l0_3.length c0_3) := (blk_cell BK376.out 3).trans rfl; have hcz5_4 : w4.cell? ⟨gb376, 4, none⟩ = some (.slice A0_4 l0_4.length c0_4) := (blk_cell BK376.out 4).trans rfl; have hcz5_5 : w4.cell? ⟨gb376, 5, none⟩ = some (.int .i64 a0_5) := (blk_cell BK376.out 5).trans rfl; have hcz5_6 : w4.cell? ⟨gb376, 6, none⟩ = some (.int .i64 a0_6) := (blk_cell BK376.out 6).trans rfl; have hcz5_7 : w4.cell? ⟨gb376, 7, none⟩ = some (.int .i64 a0_7) := (blk_cell BK376.out 7).trans rfl; have hcz5_8 : w4.cell? ⟨gb376, 8, none⟩ = some (.int .i64 a0_8) := (blk_cell BK376.out 8).trans rfl; have hcz5_9 : w4.cell? ⟨gb376, 9, none⟩ = some (.int .i64 a0_9) := (blk_cell BK376.out 9).trans rfl; have hcz5_10 : w4.cell? ⟨gb376, 10, none⟩ = some (.int .i64 a0_10) := (blk_cell BK376.out 10).trans rfl; have hcz5_11 : w4.cell? ⟨gb376, 11, none⟩ = some (.int .i64 a0_11) := (blk_cell BK376.out 11).trans rfl; have hcz5_12 : w4.cell? ⟨gb376, 12, none⟩ = some (.int .i64 a0_12) := (blk_cell BK376.out 12).trans rfl; have hcz5_13 : w4.cell? ⟨gb376, 13, none⟩ = some (.int .i64 a0_13) := (blk_cell BK376.out 13).trans rfl; have hcz5_14 : w4.cell? ⟨gb376, 14, none⟩ = some (.int .i64 a0_14) := (blk_cell BK376.out 14).trans rfl; have hfz5_0 := blk_frozen BK376.out 0; have hfz5_1 := blk_frozen BK376.out 1; have hfz5_2 := blk_frozen BK376.out 2; have hfz5_3 := blk_frozen BK376.out 3; have hfz5_4 := blk_frozen BK376.out 4; have hfz5_5 := blk_frozen BK376.out 5; have hfz5_6 := blk_frozen BK376.out 6; have hfz5_7 := blk_frozen BK376.out 7; have hfz5_8 := blk_frozen BK376.out 8; have hfz5_9 := blk_frozen BK376.out 9; have hfz5_10 := blk_frozen BK376.out 10; have hfz5_11 := blk_frozen BK376.out 11; have hfz5_12 := blk_frozen BK376.out 12; have hfz5_13 := blk_frozen BK376.out 13; have hfz5_14 := blk_frozen BK376.out 14) | ((with_reducible refine gate_callee (f := 8) rfl ?_); refine goesL_ (some 11) rfl rfl Try.func8 (by kernel_rfl) rfl #[.agg #[.int .i64 a0_0, .int .i64 a0_1, .int .i64 a0_2, .slice A0_3 l0_3.length c0_3, .slice A0_4 l0_4.length c0_4, .int .i64 a0_5, .int .i64 a0_6, .int .i64 a0_7, .int .i64 a0_8, .int .i64 a0_9, .int .i64 a0_10, .int .i64 a0_11, .int .i64 a0_12, .int .i64 a0_13, .int .i64 a0_14]] rfl (by (try simp only [List.map_toArray, List.map_cons, List.map_nil]); first | done | rfl | (simp only [List.length_drop, List.length_take]; rfl)) ?_; (with_reducible refine (bivouaclaw21_few.calls a0_0 a0_1 a0_2 (fun k_ => k_ < w.heap.size) _ _ l0_3 (fun k_ => k_ < w.heap.size) _ _ l0_4 a0_5 a0_6 a0_7 a0_8 a0_9 a0_10 a0_11 a0_12 a0_13 a0_14 t377 t378 t379 t380 t383 t386 t387 t388 t389 t390 t391 t392 t393 t394 t395 _ ?side1 ?side2 A2.out).mono ?_); (case side1 => exact Kd.V_mk HC0_3.out (Kd.F_below (Kd.C_F (Kd.heap_int .u8) HR0_3.out) (by repeat (first | (with_reducible first | exact HB.out | apply below_alloc | apply pw_below_drewN | apply below_drew1 | refine below_set ?_ GE376.out) | exact HB.out)))); (case side2 => exact Kd.V_mk HC0_4.out (Kd.F_below (Kd.C_F k27_heap HR0_4.out) (by repeat (first | (with_reducible first | exact HB.out | apply below_alloc | apply pw_below_drewN | apply below_drew1 | refine below_set ?_ GE376.out) | exact HB.out)))); rintro e w6 ⟨v381, v384, rfl, ho0, ho1, hb⟩; refine ⟨_, rfl, ?_⟩; have n0_ := Aside0.mk (Kd.V_lower (Kd.V_mono (ok' := fun k_ => k_ ≠ gb376) ho0 (fun k_ hk_ => Or.elim hk_ (fun hs_ => Or.elim hs_ (fun hs_ => fun e_ => Nat.not_le.2 hs_ (by rw [e_]; exact GW376.out)) (fun hs_ => fun e_ => Nat.not_le.2 hs_ (by rw [e_]; exact GW376.out))) (fun hn_ => (Kd.freshB (g := gb376) (o := .cells #[.int .i64 a0_0, .int .i64 a0_1, .int .i64 a0_2, .slice A0_3 l0_3.length c0_3, .slice A0_4 l0_4.length c0_4, .int .i64 a0_5, .int .i64 a0_6, .int .i64 a0_7, .int .i64 a0_8, .int .i64 a0_9, .int .i64 a0_10, .int .i64 a0_11, .int .i64 a0_12, .int .i64 a0_13, .int .i64 a0_14] 29 (0, 0)) (by (with_reducible repeat (first | refine blk_drewN ?_ _ | refine blk_drew ?_ | refine blk_alloc ?_ _)); exact BK376.out) k_ hn_)))) (below_size (by repeat (first | (with_reducible first | exact HB.out | apply below_alloc | apply pw_below_drewN | apply below_drew1 | refine below_set ?_ GE376.out) | exact HB.out)))); have n1_ := Aside0.mk (Kd.V_lower (Kd.V_mono (ok' := fun k_ => k_ ≠ gb376) ho1 (fun k_ hk_ => Or.elim hk_ (fun hs_ => Or.elim hs_ (fun hs_ => fun e_ => Nat.not_le.2 hs_ (by rw [e_]; exact GW376.out)) (fun hs_ => fun e_ => Nat.not_le.2 hs_ (by rw [e_]; exact GW376.out))) (fun hn_ => (Kd.freshB (g := gb376) (o := .cells #[.int .i64 a0_0, .int .i64 a0_1, .int .i64 a0_2, .slice A0_3 l0_3.length c0_3, .slice A0_4 l0_4.length c0_4, .int .i64 a0_5, .int .i64 a0_6, .int .i64 a0_7, .int .i64 a0_8, .int .i64 a0_9, .int .i64 a0_10, .int .i64 a0_11, .int .i64 a0_12, .int .i64 a0_13, .int .i64 a0_14] 29 (0, 0)) (by (with_reducible repeat (first | refine blk_drewN ?_ _ | refine blk_drew ?_ | refine blk_alloc ?_ _)); exact BK376.out) k_ hn_)))) (below_size (by repeat (first | (with_reducible first | exact HB.out | apply below_alloc | apply pw_below_drewN | apply below_drew1 | refine below_set ?_ GE376.out) | exact HB.out)))); have n2_ := Aside0.mk (blk_below (g := gb376) (o := .cells #[.int .i64 a0_0, .int .i64 a0_1, .int .i64 a0_2, .slice A0_3 l0_3.length c0_3, .slice A0_4 l0_4.length c0_4, .int .i64 a0_5, .int .i64 a0_6, .int .i64 a0_7, .int .i64 a0_8, .int .i64 a0_9, .int .i64 a0_10, .int .i64 a0_11, .int .i64 a0_12, .int .i64 a0_13, .int .i64 a0_14] 29 (0, 0)) (by (with_reducible repeat (first | refine blk_drewN ?_ _ | refine blk_drew ?_ | refine blk_alloc ?_ _)); exact BK376.out) hb); have n3_ := Aside0.mk (below_step (by repeat (first | (with_reducible first | exact HB.out | apply below_alloc | apply pw_below_drewN | apply below_drew1 | refine below_set ?_ GE376.out) | exact HB.out)) hb); clear BK376; clear HB; have HO382 := n0_; have HO385 := n1_; have BK376 := n2_; have HB := n3_; clear n0_ n1_ n2_ n3_; (try clear hb); (try clear hb2); (try clear hk); (try clear hi); (try clear ho0); (try clear ho1); have hcz7_0 : w6.cell? ⟨gb376, 0, none⟩ = some (.int .i64 a0_0) := (blk_cell BK376.out 0).trans rfl; have hcz7_1 : w6.cell? ⟨gb376, 1, none⟩ = some (.int .i64 a0_1) := (blk_cell BK376.out 1).trans rfl; have hcz7_2 : w6.cell? ⟨gb376, 2, none⟩ = some (.int .i64 a0_2) := (blk_cell BK376.out 2).trans rfl; have hcz7_3 : w6.cell? ⟨gb376, 3, none⟩ = some (.slice A0_3 l0_3.length c0_3) := (blk_cell BK376.out 3).trans rfl; have hcz7_4 : w6.cell? ⟨gb376, 4, none⟩ = some (.slice A0_4 l0_4.length c0_4) := (blk_cell BK376.out 4).trans rfl; have hcz7_5 : w6.cell? ⟨gb376, 5, none⟩ = some (.int .i64 a0_5) := (blk_cell BK376.out 5).trans rfl; have hcz7_6 : w6.cell? ⟨gb376, 6, none⟩ = some (.int .i64 a0_6) := (blk_cell BK376.out 6).trans rfl; have hcz7_7 : w6.cell? ⟨gb376, 7, none⟩ = some (.int .i64 a0_7) := (blk_cell BK376.out 7).trans rfl; have hcz7_8 : w6.cell? ⟨gb376, 8, none⟩ = some (.int .i64 a0_8) := (blk_cell BK376.out 8).trans rfl; have hcz7_9 : w6.cell? ⟨gb376, 9, none⟩ = some (.int .i64 a0_9) := (blk_cell BK376.out 9).trans rfl; have hcz7_10 : w6.cell? ⟨gb376, 10, none⟩ = some (.int .i64 a0_10) := (blk_cell BK376.out 10).trans rfl; have hcz7_11 : w6.cell? ⟨gb376, 11, none⟩ = some (.int .i64 a0_11) := (blk_cell BK376.out 11).trans rfl; have hcz7_12 : w6.cell? ⟨gb376, 12, none⟩ = some (.int .i64 a0_12) := (blk_cell BK376.out 12).trans rfl; have hcz7_13 : w6.cell? ⟨gb376, 13, none⟩ = some (.int .i64 a0_13) := (blk_cell BK376.out 13).trans rfl; have hcz7_14 : w6.cell? ⟨gb376, 14, none⟩ = some (.int .i64 a0_14) := (blk_cell BK376.out 14).trans rfl; have hfz7_0 := blk_frozen BK376.out 0; have hfz7_1 := blk_frozen BK376.out 1; have hfz7_2 := blk_frozen BK376.out 2; have hfz7_3 := blk_frozen BK376.out 3; have hfz7_4 := blk_frozen BK376.out 4; have hfz7_5 := blk_frozen BK376.out 5; have hfz7_6 := blk_frozen BK376.out 6; have hfz7_7 := blk_frozen BK376.out 7; have hfz7_8 := blk_frozen BK376.out 8; have hfz7_9 := blk_frozen BK376.out 9; have hfz7_10 := blk_frozen BK376.out 10; have hfz7_11 := blk_frozen BK376.out 11; have hfz7_12 := blk_frozen BK376.out 12; have hfz7_13 := blk_frozen BK376.out 13; have hfz7_14 := blk_frozen BK376.out 14; obtain ⟨Ao8, co8, eo8⟩ := Kd.V_slice HO382.out; subst eo8; obtain ⟨Ao9, co9, eo9⟩ := Kd.V_slice HO385.out; subst eo9) | ((with_reducible refine gate_callee (f := 9) rfl ?_); refine goesL_ (some 19) rfl rfl Try.func9 (by kernel_rfl) rfl #[.agg #[.int .i64 t377, .int .i64 t378, .int .i64 t379, .slice Ao8 t380.length co8], .slice Ao9 t383.length co9, .int .i64 t386] rfl (by (try simp only [List.map_toArray, List.map_cons, List.map_nil]); first | done | rfl | (simp only [List.length_drop, List.length_take]; rfl)) ?_; (with_reducible refine (sight_View.calls k t377 t378 t379 _ _ t380 _ _ t383 t386 t396 t399 _ ?side1 ?side2 ?side3 ?side4 A3.out).mono ?_); (case side1 => refine (Kd.V_reads' (e := 5) (base := w.heap.size) (ok := fun k_ => k_ ≠ gb376) (n := t380.length) (c := co8) ?_).2.2; exact (by (with_reducible repeat (first | apply Kd.V_alloc | apply Kd.V_drewN | apply Kd.V_drew)); exact (Kd.V_mono (Kd.V_far (p := ⟨gb376, 14, none⟩) (Kd.V_far (p := ⟨gb376, 13, none⟩) (Kd.V_far (p := ⟨gb376, 12, none⟩) (Kd.V_far (p := ⟨gb376, 11, none⟩) (Kd.V_far (p := ⟨gb376, 10, none⟩) (Kd.V_far (p := ⟨gb376, 9, none⟩) (Kd.V_far (p := ⟨gb376, 8, none⟩) (Kd.V_far (p := ⟨gb376, 7, none⟩) (Kd.V_far (p := ⟨gb376, 6, none⟩) (Kd.V_far (p := ⟨gb376, 5, none⟩) (Kd.V_far (p := ⟨gb376, 4, none⟩) (Kd.V_far (p := ⟨gb376, 3, none⟩) (Kd.V_far (p := ⟨gb376, 2, none⟩) (Kd.V_far (p := ⟨gb376, 1, none⟩) (Kd.V_far (p := ⟨gb376, 0, none⟩) (Kd.V_mono HO382.out (fun k_ hk => (⟨hk, hk⟩ : _ ∧ k_ ≠ gb376))) (fun _ hk => hk.2) (.int .i64 t377)) (fun _ hk => hk.2) (.int .i64 t378)) (fun _ hk => hk.2) (.int .i64 t379)) (fun _ hk => hk.2) (.slice Ao8 t380.length co8)) (fun _ hk => hk.2) (.slice Ao9 t383.length co9)) (fun _ hk => hk.2) (.int .i64 t386)) (fun _ hk => hk.2) (.int .i64 t387)) (fun _ hk => hk.2) (.int .i64 t388)) (fun _ hk => hk.2) (.int .i64 t389)) (fun _ hk => hk.2) (.int .i64 t390)) (fun _ hk => hk.2) (.int .i64 t391)) (fun _ hk => hk.2) (.int .i64 t392)) (fun _ hk => hk.2) (.int .i64 t393)) (fun _ hk => hk.2) (.int .i64 t394)) (fun _ hk => hk.2) (.int .i64 t395)) (fun _ h_ => h_.1)))); (case side2 => exact (Kd.V_reads' HO382.out).2.1); (case side3 => refine (Kd.V_reads' (e := 27) (base := w.heap.size) (ok := fun k_ => k_ ≠ gb376) (n := t383.length) (c := co9) ?_).2.2; exact (by (with_reducible repeat (first | apply Kd.V_alloc | apply Kd.V_drewN | apply Kd.V_drew)); exact (Kd.V_mono (Kd.V_far (p := ⟨gb376, 14, none⟩) (Kd.V_far (p := ⟨gb376, 13, none⟩) (Kd.V_far (p := ⟨gb376, 12, none⟩) (Kd.V_far (p := ⟨gb376, 11, none⟩) (Kd.V_far (p := ⟨gb376, 10, none⟩) (Kd.V_far (p := ⟨gb376, 9, none⟩) (Kd.V_far (p := ⟨gb376, 8, none⟩) (Kd.V_far (p := ⟨gb376, 7, none⟩) (Kd.V_far (p := ⟨gb376, 6, none⟩) (Kd.V_far (p := ⟨gb376, 5, none⟩) (Kd.V_far (p := ⟨gb376, 4, none⟩) (Kd.V_far (p := ⟨gb376, 3, none⟩) (Kd.V_far (p := ⟨gb376, 2, none⟩) (Kd.V_far (p := ⟨gb376, 1, none⟩) (Kd.V_far (p := ⟨gb376, 0, none⟩) (Kd.V_mono HO385.out (fun k_ hk => (⟨hk, hk⟩ : _ ∧ k_ ≠ gb376))) (fun _ hk => hk.2) (.int .i64 t377)) (fun _ hk => hk.2) (.int .i64 t378)) (fun _ hk => hk.2) (.int .i64 t379)) (fun _ hk => hk.2) (.slice Ao8 t380.length co8)) (fun _ hk => hk.2) (.slice Ao9 t383.length co9)) (fun _ hk => hk.2) (.int .i64 t386)) (fun _ hk => hk.2) (.int .i64 t387)) (fun _ hk => hk.2) (.int .i64 t388)) (fun _ hk => hk.2) (.int .i64 t389)) (fun _ hk => hk.2) (.int .i64 t390)) (fun _ hk => hk.2) (.int .i64 t391)) (fun _ hk => hk.2) (.int .i64 t392)) (fun _ hk => hk.2) (.int .i64 t393)) (fun _ hk => hk.2) (.int .i64 t394)) (fun _ hk => hk.2) (.int .i64 t395)) (fun _ h_ => h_.1)))); (case side4 => exact (Kd.V_reads' HO385.out).2.1); rintro e w10 ⟨v397, rfl, ho0, hb⟩; refine ⟨_, rfl, ?_⟩; have n0_ := Aside0.mk (Kd.V_elder' (by (with_reducible repeat (first | apply Kd.V_alloc | apply Kd.V_drewN | apply Kd.V_drew)); exact (Kd.V_mono (Kd.V_far (p := ⟨gb376, 14, none⟩) (Kd.V_far (p := ⟨gb376, 13, none⟩) (Kd.V_far (p := ⟨gb376, 12, none⟩) (Kd.V_far (p := ⟨gb376, 11, none⟩) (Kd.V_far (p := ⟨gb376, 10, none⟩) (Kd.V_far (p := ⟨gb376, 9, none⟩) (Kd.V_far (p := ⟨gb376, 8, none⟩) (Kd.V_far (p := ⟨gb376, 7, none⟩) (Kd.V_far (p := ⟨gb376, 6, none⟩) (Kd.V_far (p := ⟨gb376, 5, none⟩) (Kd.V_far (p := ⟨gb376, 4, none⟩) (Kd.V_far (p := ⟨gb376, 3, none⟩) (Kd.V_far (p := ⟨gb376, 2, none⟩) (Kd.V_far (p := ⟨gb376, 1, none⟩) (Kd.V_far (p := ⟨gb376, 0, none⟩) (Kd.V_mono HO382.out (fun k_ hk => (⟨hk, hk⟩ : _ ∧ k_ ≠ gb376))) (fun _ hk => hk.2) (.int .i64 t377)) (fun _ hk => hk.2) (.int .i64 t378)) (fun _ hk => hk.2) (.int .i64 t379)) (fun _ hk => hk.2) (.slice Ao8 t380.length co8)) (fun _ hk => hk.2) (.slice Ao9 t383.length co9)) (fun _ hk => hk.2) (.int .i64 t386)) (fun _ hk => hk.2) (.int .i64 t387)) (fun _ hk => hk.2) (.int .i64 t388)) (fun _ hk => hk.2) (.int .i64 t389)) (fun _ hk => hk.2) (.int .i64 t390)) (fun _ hk => hk.2) (.int .i64 t391)) (fun _ hk => hk.2) (.int .i64 t392)) (fun _ hk => hk.2) (.int .i64 t393)) (fun _ hk => hk.2) (.int .i64 t394)) (fun _ hk => hk.2) (.int .i64 t395)) (fun _ h_ => h_.1))) (Kd.R_base ho0) hb); have n1_ := Aside0.mk (Kd.V_elder' (by (with_reducible repeat (first | apply Kd.V_alloc | apply Kd.V_drewN | apply Kd.V_drew)); exact (Kd.V_mono (Kd.V_far (p := ⟨gb376, 14, none⟩) (Kd.V_far (p := ⟨gb376, 13, none⟩) (Kd.V_far (p := ⟨gb376, 12, none⟩) (Kd.V_far (p := ⟨gb376, 11, none⟩) (Kd.V_far (p := ⟨gb376, 10, none⟩) (Kd.V_far (p := ⟨gb376, 9, none⟩) (Kd.V_far (p := ⟨gb376, 8, none⟩) (Kd.V_far (p := ⟨gb376, 7, none⟩) (Kd.V_far (p := ⟨gb376, 6, none⟩) (Kd.V_far (p := ⟨gb376, 5, none⟩) (Kd.V_far (p := ⟨gb376, 4, none⟩) (Kd.V_far (p := ⟨gb376, 3, none⟩) (Kd.V_far (p := ⟨gb376, 2, none⟩) (Kd.V_far (p := ⟨gb376, 1, none⟩) (Kd.V_far (p := ⟨gb376, 0, none⟩) (Kd.V_mono HO385.out (fun k_ hk => (⟨hk, hk⟩ : _ ∧ k_ ≠ gb376))) (fun _ hk => hk.2) (.int .i64 t377)) (fun _ hk => hk.2) (.int .i64 t378)) (fun _ hk => hk.2) (.int .i64 t379)) (fun _ hk => hk.2) (.slice Ao8 t380.length co8)) (fun _ hk => hk.2) (.slice Ao9 t383.length co9)) (fun _ hk => hk.2) (.int .i64 t386)) (fun _ hk => hk.2) (.int .i64 t387)) (fun _ hk => hk.2) (.int .i64 t388)) (fun _ hk => hk.2) (.int .i64 t389)) (fun _ hk => hk.2) (.int .i64 t390)) (fun _ hk => hk.2) (.int .i64 t391)) (fun _ hk => hk.2) (.int .i64 t392)) (fun _ hk => hk.2) (.int .i64 t393)) (fun _ hk => hk.2) (.int .i64 t394)) (fun _ hk => hk.2) (.int .i64 t395)) (fun _ h_ => h_.1))) (Kd.R_base ho0) hb); have n2_ := Aside0.mk (Kd.R_lower ho0 (below_size (by repeat (first | (with_reducible first | exact HB.out | apply below_alloc | apply pw_below_drewN | apply below_drew1 | refine below_set ?_ GE376.out) | exact HB.out)))); have n3_ := Aside0.mk (blk_below (g := gb376) (o := .cells #[.int .i64 t377, .int .i64 t378, .int .i64 t379, .slice Ao8 t380.length co8, .slice Ao9 t383.length co9, .int .i64 t386, .int .i64 t387, .int .i64 t388, .int .i64 t389, .int .i64 t390, .int .i64 t391, .int .i64 t392, .int .i64 t393, .int .i64 t394, .int .i64 t395] 29 (0, 0)) (by (with_reducible repeat (first | refine blk_drewN ?_ _ | refine blk_drew ?_ | refine blk_alloc ?_ _)); refine blk_put (cs := #[.int .i64 t377, .int .i64 t378, .int .i64 t379, .slice Ao8 t380.length co8, .slice Ao9 t383.length co9, .int .i64 t386, .int .i64 t387, .int .i64 t388, .int .i64 t389, .int .i64 t390, .int .i64 t391, .int .i64 t392, .int .i64 t393, .int .i64 t394, .int .i64 a0_14]) ?_ 14 _ rfl; (with_reducible repeat (first | refine blk_drewN ?_ _ | refine blk_drew ?_ | refine blk_alloc ?_ _)); refine blk_put (cs := #[.int .i64 t377, .int .i64 t378, .int .i64 t379, .slice Ao8 t380.length co8, .slice Ao9 t383.length co9, .int .i64 t386, .int .i64 t387, .int .i64 t388, .int .i64 t389, .int .i64 t390, .int .i64 t391, .int .i64 t392, .int .i64 t393, .int .i64 a0_13, .int .i64 a0_14]) ?_ 13 _ rfl; (with_reducible repeat (first | refine blk_drewN ?_ _ | refine blk_drew ?_ | refine blk_alloc ?_ _)); refine blk_put (cs := #[.int .i64 t377, .int .i64 t378, .int .i64 t379, .slice Ao8 t380.length co8, .slice Ao9 t383.length co9, .int .i64 t386, .int .i64 t387, .int .i64 t388, .int .i64 t389, .int .i64 t390, .int .i64 t391, .int .i64 t392, .int .i64 a0_12, .int .i64 a0_13, .int .i64 a0_14]) ?_ 12 _ rfl; (with_reducible repeat (first | refine blk_drewN ?_ _ | refine blk_drew ?_ | refine blk_alloc ?_ _)); refine blk_put (cs := #[.int .i64 t377, .int .i64 t378, .int .i64 t379, .slice Ao8 t380.length co8, .slice Ao9 t383.length co9, .int .i64 t386, .int .i64 t387, .int .i64 t388, .int .i64 t389, .int .i64 t390, .int .i64 t391, .int .i64 a0_11, .int .i64 a0_12, .int .i64 a0_13, .int .i64 a0_14]) ?_ 11 _ rfl; (with_reducible repeat (first | refine blk_drewN ?_ _ | refine blk_drew ?_ | refine blk_alloc ?_ _)); refine blk_put (cs := #[.int .i64 t377, .int .i64 t378, .int .i64 t379, .slice Ao8 t380.length co8, .slice Ao9 t383.length co9, .int .i64 t386, .int .i64 t387, .int .i64 t388, .int .i64 t389, .int .i64 t390, .int .i64 a0_10, .int .i64 a0_11, .int .i64 a0_12, .int .i64 a0_13, .int .i64 a0_14]) ?_ 10 _ rfl; (with_reducible repeat (first | refine blk_drewN ?_ _ | refine blk_drew ?_ | refine blk_alloc ?_ _)); refine blk_put (cs := #[.int .i64 t377, .int .i64 t378, .int .i64 t379, .slice Ao8 t380.length co8, .slice Ao9 t383.length co9, .int .i64 t386, .int .i64 t387, .int .i64 t388, .int .i64 t389, .int .i64 a0_9, .int .i64 a0_10, .int .i64 a0_11, .int .i64 a0_12, .int .i64 a0_13, .int .i64 a0_14]) ?_ 9 _ rfl; (with_reducible repeat (first | refine blk_drewN ?_ _ | refine blk_drew ?_ | refine blk_alloc ?_ _)); refine blk_put (cs := #[.int .i64 t377, .int .i64 t378, .int .i64 t379, .slice Ao8 t380.length co8, .slice Ao9 t383.length co9, .int .i64 t386, .int .i64 t387, .int .i64 t388, .int .i64 a0_8, .int .i64 a0_9, .int .i64 a0_10, .int .i64 a0_11, .int .i64 a0_12, .int .i64 a0_13, .int .i64 a0_14]) ?_ 8 _ rfl; (with_reducible repeat (first | refine blk_drewN ?_ _ | refine blk_drew ?_ | refine blk_alloc ?_ _)); refine blk_put (cs := #[.int .i64 t377, .int .i64 t378, .int .i64 t379, .slice Ao8 t380.length co8, .slice Ao9 t383.length co9, .int .i64 t386, .int .i64 t387, .int .i64 a0_7, .int .i64 a0_8, .int .i64 a0_9, .int .i64 a0_10, .int .i64 a0_11, .int .i64 a0_12, .int .i64 a0_13, .int .i64 a0_14]) ?_ 7 _ rfl; (with_reducible repeat (first | refine blk_drewN ?_ _ | refine blk_drew ?_ | refine blk_alloc ?_ _)); refine blk_put (cs := #[.int .i64 t377, .int .i64 t378, .int .i64 t379, .slice Ao8 t380.length co8, .slice Ao9 t383.length co9, .int .i64 t386, .int .i64 a0_6, .int .i64 a0_7, .int .i64 a0_8, .int .i64 a0_9, .int .i64 a0_10, .int .i64 a0_11, .int .i64 a0_12, .int .i64 a0_13, .int .i64 a0_14]) ?_ 6 _ rfl; (with_reducible repeat (first | refine blk_drewN ?_ _ | refine blk_drew ?_ | refine blk_alloc ?_ _)); refine blk_put (cs := #[.int .i64 t377, .int .i64 t378, .int .i64 t379, .slice Ao8 t380.length co8, .slice Ao9 t383.length co9, .int .i64 a0_5, .int .i64 a0_6, .int .i64 a0_7, .int .i64 a0_8, .int .i64 a0_9, .int .i64 a0_10, .int .i64 a0_11, .int .i64 a0_12, .int .i64 a0_13, .int .i64 a0_14]) ?_ 5 _ rfl; (with_reducible repeat (first | refine blk_drewN ?_ _ | refine blk_drew ?_ | refine blk_alloc ?_ _)); refine blk_put (cs := #[.int .i64 t377, .int .i64 t378, .int .i64 t379, .slice Ao8 t380.length co8, .slice A0_4 l0_4.length c0_4, .int .i64 a0_5, .int .i64 a0_6, .int .i64 a0_7, .int .i64 a0_8, .int .i64 a0_9, .int .i64 a0_10, .int .i64 a0_11, .int .i64 a0_12, .int .i64 a0_13, .int .i64 a0_14]) ?_ 4 _ rfl; (with_reducible repeat (first | refine blk_drewN ?_ _ | refine blk_drew ?_ | refine blk_alloc ?_ _)); refine blk_put (cs := #[.int .i64 t377, .int .i64 t378, .int .i64 t379, .slice A0_3 l0_3.length c0_3, .slice A0_4 l0_4.length c0_4, .int .i64 a0_5, .int .i64 a0_6, .int .i64 a0_7, .int .i64 a0_8, .int .i64 a0_9, .int .i64 a0_10, .int .i64 a0_11, .int .i64 a0_12, .int .i64 a0_13, .int .i64 a0_14]) ?_ 3 _ rfl; (with_reducible repeat (first | refine blk_drewN ?_ _ | refine blk_drew ?_ | refine blk_alloc ?_ _)); refine blk_put (cs := #[.int .i64 t377, .int .i64 t378, .int .i64 a0_2, .slice A0_3 l0_3.length c0_3, .slice A0_4 l0_4.length c0_4, .int .i64 a0_5, .int .i64 a0_6, .int .i64 a0_7, .int .i64 a0_8, .int .i64 a0_9, .int .i64 a0_10, .int .i64 a0_11, .int .i64 a0_12, .int .i64 a0_13, .int .i64 a0_14]) ?_ 2 _ rfl; (with_reducible repeat (first | refine blk_drewN ?_ _ | refine blk_drew ?_ | refine blk_alloc ?_ _)); refine blk_put (cs := #[.int .i64 t377, .int .i64 a0_1, .int .i64 a0_2, .slice A0_3 l0_3.length c0_3, .slice A0_4 l0_4.length c0_4, .int .i64 a0_5, .int .i64 a0_6, .int .i64 a0_7, .int .i64 a0_8, .int .i64 a0_9, .int .i64 a0_10, .int .i64 a0_11, .int .i64 a0_12, .int .i64 a0_13, .int .i64 a0_14]) ?_ 1 _ rfl; (with_reducible repeat (first | refine blk_drewN ?_ _ | refine blk_drew ?_ | refine blk_alloc ?_ _)); refine blk_put (cs := #[.int .i64 a0_0, .int .i64 a0_1, .int .i64 a0_2, .slice A0_3 l0_3.length c0_3, .slice A0_4 l0_4.length c0_4, .int .i64 a0_5, .int .i64 a0_6, .int .i64 a0_7, .int .i64 a0_8, .int .i64 a0_9, .int .i64 a0_10, .int .i64 a0_11, .int .i64 a0_12, .int .i64 a0_13, .int .i64 a0_14]) ?_ 0 _ rfl; (with_reducible repeat (first | refine blk_drewN ?_ _ | refine blk_drew ?_ | refine blk_alloc ?_ _)); exact BK376.out) hb); have n4_ := Aside0.mk (below_step (by repeat (first | (with_reducible first | exact HB.out | apply below_alloc | apply pw_below_drewN | apply below_drew1 | refine below_set ?_ GE376.out) | exact HB.out)) hb); clear HO382; clear HO385; clear BK376; clear HB; have HO382 := n0_; have HO385 := n1_; have HO398 := n2_; have BK376 := n3_; have HB := n4_; clear n0_ n1_ n2_ n3_ n4_; (try clear hb); (try clear hb2); (try clear hk); (try clear hi); (try clear ho0); have hcz11_0 : w10.cell? ⟨gb376, 0, none⟩ = some (.int .i64 t377) := (blk_cell BK376.out 0).trans rfl; have hcz11_1 : w10.cell? ⟨gb376, 1, none⟩ = some (.int .i64 t378) := (blk_cell BK376.out 1).trans rfl; have hcz11_2 : w10.cell? ⟨gb376, 2, none⟩ = some (.int .i64 t379) := (blk_cell BK376.out 2).trans rfl; have hcz11_3 : w10.cell? ⟨gb376, 3, none⟩ = some (.slice Ao8 t380.length co8) := (blk_cell BK376.out 3).trans rfl; have hcz11_4 : w10.cell? ⟨gb376, 4, none⟩ = some (.slice Ao9 t383.length co9) := (blk_cell BK376.out 4).trans rfl; have hcz11_5 : w10.cell? ⟨gb376, 5, none⟩ = some (.int .i64 t386) := (blk_cell BK376.out 5).trans rfl; have hcz11_6 : w10.cell? ⟨gb376, 6, none⟩ = some (.int .i64 t387) := (blk_cell BK376.out 6).trans rfl; have hcz11_7 : w10.cell? ⟨gb376, 7, none⟩ = some (.int .i64 t388) := (blk_cell BK376.out 7).trans rfl; have hcz11_8 : w10.cell? ⟨gb376, 8, none⟩ = some (.int .i64 t389) := (blk_cell BK376.out 8).trans rfl; have hcz11_9 : w10.cell? ⟨gb376, 9, none⟩ = some (.int .i64 t390) := (blk_cell BK376.out 9).trans rfl; have hcz11_10 : w10.cell? ⟨gb376, 10, none⟩ = some (.int .i64 t391) := (blk_cell BK376.out 10).trans rfl; have hcz11_11 : w10.cell? ⟨gb376, 11, none⟩ = some (.int .i64 t392) := (blk_cell BK376.out 11).trans rfl; have hcz11_12 : w10.cell? ⟨gb376, 12, none⟩ = some (.int .i64 t393) := (blk_cell BK376.out 12).trans rfl; have hcz11_13 : w10.cell? ⟨gb376, 13, none⟩ = some (.int .i64 t394) := (blk_cell BK376.out 13).trans rfl; have hcz11_14 : w10.cell? ⟨gb376, 14, none⟩ = some (.int .i64 t395) := (blk_cell BK376.out 14).trans rfl; have hfz11_0 := blk_frozen BK376.out 0; have hfz11_1 := blk_frozen BK376.out 1; have hfz11_2 := blk_frozen BK376.out 2; have hfz11_3 := blk_frozen BK376.out 3; have hfz11_4 := blk_frozen BK376.out 4; have hfz11_5 := blk_frozen BK376.out 5; have hfz11_6 := blk_frozen BK376.out 6; have hfz11_7 := blk_frozen BK376.out 7; have hfz11_8 := blk_frozen BK376.out 8; have hfz11_9 := blk_frozen BK376.out 9; have hfz11_10 := blk_frozen BK376.out 10; have hfz11_11 := blk_frozen BK376.out 11; have hfz11_12 := blk_frozen BK376.out 12; have hfz11_13 := blk_frozen BK376.out 13; have hfz11_14 := blk_frozen BK376.out 14))
 go_loopg [5, 6] k (fun kq v5 v6 w' => ∃ (x5_1 : List (S27)) (x6_1 : Int), v6 = .int .i64 x6_1 ∧ Aside0 (bivouaclaw21_SightOwn.l0 kq t396 t399 x5_1 x6_1 t377 t378 t379 t380 t383 t386 t387 t388 t389 t390 t391 t392 t393 t394 t395 = some r) ∧ Aside0 (kq ≤ k) ∧ Aside0 (Kd.R (Kd.int .i64) 3 w' w.heap.size (fun _ => True) v397 t396) ∧ Aside0 (Kd.R k27 27 w' w.heap.size (fun _ => True) v5 x5_1) ∧ Aside0 (Kd.V (Kd.int .u8) 5 w' w.heap.size (fun k_ => some k_ ≠ (v397 : Value).ownBlock ∧ some k_ ≠ (v5 : Value).ownBlock ∧ k_ ≠ gb376) (.slice Ao8 t380.length co8) t380) ∧ Aside0 (Kd.V k27 27 w' w.heap.size (fun k_ => some k_ ≠ (v397 : Value).ownBlock ∧ some k_ ≠ (v5 : Value).ownBlock ∧ k_ ≠ gb376) (.slice Ao9 t383.length co9) t383) ∧ Aside0 (w'.heap[gb376]? = some (.cells #[.int .i64 t377, .int .i64 t378, .int .i64 t379, (.slice Ao8 t380.length co8), (.slice Ao9 t383.length co9), .int .i64 t386, .int .i64 t387, .int .i64 t388, .int .i64 t389, .int .i64 t390, .int .i64 t391, .int .i64 t392, .int .i64 t393, .int .i64 t394, .int .i64 t395] 29 (0, 0))) ∧ Aside0 (Below w.heap.size w w'))
 case atStart => exact ⟨(([] : List (S27))), (wrap64 ((t383.length : Int) - 1)), (by first | rfl | (simp; done) | (simp [*]; done)), H', ⟨Nat.le_refl _⟩, ⟨by (with_reducible repeat (first | apply Kd.R_alloc | apply Kd.R_drewN | apply Kd.R_drew)); exact HO398.out⟩, ⟨by first | exact Kd.R_nil _ _ _ _ _ | exact Kd.N_nil _ _ _ _ _ | exact Kd.V_nil _ _ _ _ _ | exact Kd.Q_nil _ _ _ _ _ | exact Kd.S_nil _ _ _ _ _⟩, ⟨by (with_reducible repeat (first | apply Kd.V_alloc | apply Kd.V_drewN | apply Kd.V_drew)); exact Kd.V_mono HO382.out (fun _ hk => ⟨hk.2, ⟨(by simp [Value.ownBlock]), hk.1⟩⟩)⟩, ⟨by (with_reducible repeat (first | apply Kd.V_alloc | apply Kd.V_drewN | apply Kd.V_drew)); exact Kd.V_mono HO385.out (fun _ hk => ⟨hk.2, ⟨(by simp [Value.ownBlock]), hk.1⟩⟩)⟩, ⟨by (with_reducible repeat (first | refine blk_drewN ?_ _ | refine blk_drew ?_ | refine blk_alloc ?_ _)); exact BK376.out⟩, ⟨by repeat (first | (with_reducible first | exact HB.out | apply below_alloc | apply pw_below_drewN | apply below_drew1 | refine below_set ?_ GE376.out) | exact HB.out)⟩⟩
 case round =>
  clear H'
  try clear p2
  try clear c5
  try clear p6
  try clear c8
  try clear c9
  try clear hcz11_0
  try clear hcz11_1
  try clear hcz11_10
  try clear hcz11_11
  try clear hcz11_12
  try clear hcz11_13
  try clear hcz11_14
  try clear hcz11_2
  try clear hcz11_3
  try clear hcz11_4
  try clear hcz11_5
  try clear hcz11_6
  try clear hcz11_7
  try clear hcz11_8
  try clear hcz11_9
  try clear hcz5_0
  try clear hcz5_1
  try clear hcz5_10
  try clear hcz5_11
  try clear hcz5_12
  try clear hcz5_13
  try clear hcz5_14
  try clear hcz5_2
  try clear hcz5_3
  try clear hcz5_4
  try clear hcz5_5
  try clear hcz5_6
  try clear hcz5_7
  try clear hcz5_8
  try clear hcz5_9
  try clear hcz7_0
  try clear hcz7_1
  try clear hcz7_10
  try clear hcz7_11
  try clear hcz7_12
  try clear hcz7_13
  try clear hcz7_14
  try clear hcz7_2
  try clear hcz7_3
  try clear hcz7_4
  try clear hcz7_5
  try clear hcz7_6
  try clear hcz7_7
  try clear hcz7_8
  try clear hcz7_9
  try clear hfz11_0
  try clear hfz11_1
  try clear hfz11_10
  try clear hfz11_11
  try clear hfz11_12
  try clear hfz11_13
  try clear hfz11_14
  try clear hfz11_2
  try clear hfz11_3
  try clear hfz11_4
  try clear hfz11_5
  try clear hfz11_6
  try clear hfz11_7
  try clear hfz11_8
  try clear hfz11_9
  try clear hfz5_0
  try clear hfz5_1
  try clear hfz5_10
  try clear hfz5_11
  try clear hfz5_12
  try clear hfz5_13
  try clear hfz5_14
  try clear hfz5_2
  try clear hfz5_3
  try clear hfz5_4
  try clear hfz5_5
  try clear hfz5_6
  try clear hfz5_7
  try clear hfz5_8
  try clear hfz5_9
  try clear hfz7_0
  try clear hfz7_1
  try clear hfz7_10
  try clear hfz7_11
  try clear hfz7_12
  try clear hfz7_13
  try clear hfz7_14
  try clear hfz7_2
  try clear hfz7_3
  try clear hfz7_4
  try clear hfz7_5
  try clear hfz7_6
  try clear hfz7_7
  try clear hfz7_8
  try clear hfz7_9
  obtain ⟨x5_1, x6_1, rfl, HA, HK1, HO_3, HO_5, HO_377003, HO_377004, BK376, HB⟩ := hrel
  cases gk with
  | zero => exact absurd HA.out (by simp [bivouaclaw21_SightOwn.l0])
  | succ k1 =>
   have H := HA.out
   clear HA
   simp only [bivouaclaw21_SightOwn.l0] at H
   by_cases c12 : x6_1 ≥ 0
   ·
    rw [if_pos c12] at H
    have c12b0 : decide (0 ≤ x6_1) = true := decide_eq_true c12
    clear c12
    by_cases c13 : 0 ≤ x6_1
    ·
     rw [if_pos c13] at H
     have c13b0 : decide (0 ≤ x6_1) = true := decide_eq_true c13
     clear c13
     by_cases c14 : x6_1 < (t383.length : Int)
     ·
      rw [if_pos c14] at H
      have c14b0 : decide (x6_1 < (t383.length : Int)) = true := decide_eq_true c14
      clear c14
      by_cases c15 : ((rd_T27 t383 x6_1).f0) = t386
      ·
       rw [if_pos c15] at H
       have c15b0 : (((rd_T27 t383 x6_1).f0) == t386) = true := beq_iff_eq.mpr c15
       have c15b1 : (((rd_T27 t383 x6_1).f0) != t386) = false := bne_eq_false_iff_eq.mpr c15
       clear c15
       by_cases c16 : x5_1.length < 2199023255552
       ·
        rw [if_pos c16] at H
        have LMc16 := Aside0.mk c16
        clear c16
        obtain ⟨y402, hy402⟩ : ∃ y_ : List (S27), y_ = (x5_1 ++ [(⟨(rd_T27 t383 x6_1).f0, (rd_T27 t383 x6_1).f1, (rd_T27 t383 x6_1).f2, (rd_T27 t383 x6_1).f3, (rd_T27 t383 x6_1).f4, (rd_T27 t383 x6_1).f5, (rd_T27 t383 x6_1).f6, (rd_T27 t383 x6_1).f7⟩ : S27)]) := ⟨_, rfl⟩
        replace H : (bivouaclaw21_SightOwn.l0 k1 t396 t399 y402 (wrap64 (x6_1 - 1)) t377 t378 t379 t380 t383 t386 t387 t388 t389 t390 t391 t392 t393 t394 t395) = some r := by first | (rw [hy402]; with_reducible exact H) | (have H2_ := (Option.bind_some _ _).symm.trans H; rw [hy402]; with_reducible exact H2_) | (have H2_ := (Option.bind_some _ _).symm.trans H; with_reducible exact H2_) | with_reducible exact H | (rw [hy402]; exact H) | exact H
        have Ny402 := Aside0.mk hy402
        clear hy402
        have H' := Aside0.mk H
        clear H
        have hcz17_0 : wr.cell? ⟨gb376, 0, none⟩ = some (.int .i64 t377) := (blk_cell BK376.out 0).trans rfl
        have hcz17_1 : wr.cell? ⟨gb376, 1, none⟩ = some (.int .i64 t378) := (blk_cell BK376.out 1).trans rfl
        have hcz17_2 : wr.cell? ⟨gb376, 2, none⟩ = some (.int .i64 t379) := (blk_cell BK376.out 2).trans rfl
        have hcz17_3 : wr.cell? ⟨gb376, 3, none⟩ = some (.slice Ao8 t380.length co8) := (blk_cell BK376.out 3).trans rfl
        have hcz17_4 : wr.cell? ⟨gb376, 4, none⟩ = some (.slice Ao9 t383.length co9) := (blk_cell BK376.out 4).trans rfl
        have hcz17_5 : wr.cell? ⟨gb376, 5, none⟩ = some (.int .i64 t386) := (blk_cell BK376.out 5).trans rfl
        have hcz17_6 : wr.cell? ⟨gb376, 6, none⟩ = some (.int .i64 t387) := (blk_cell BK376.out 6).trans rfl
        have hcz17_7 : wr.cell? ⟨gb376, 7, none⟩ = some (.int .i64 t388) := (blk_cell BK376.out 7).trans rfl
        have hcz17_8 : wr.cell? ⟨gb376, 8, none⟩ = some (.int .i64 t389) := (blk_cell BK376.out 8).trans rfl
        have hcz17_9 : wr.cell? ⟨gb376, 9, none⟩ = some (.int .i64 t390) := (blk_cell BK376.out 9).trans rfl
        have hcz17_10 : wr.cell? ⟨gb376, 10, none⟩ = some (.int .i64 t391) := (blk_cell BK376.out 10).trans rfl
        have hcz17_11 : wr.cell? ⟨gb376, 11, none⟩ = some (.int .i64 t392) := (blk_cell BK376.out 11).trans rfl
        have hcz17_12 : wr.cell? ⟨gb376, 12, none⟩ = some (.int .i64 t393) := (blk_cell BK376.out 12).trans rfl
        have hcz17_13 : wr.cell? ⟨gb376, 13, none⟩ = some (.int .i64 t394) := (blk_cell BK376.out 13).trans rfl
        have hcz17_14 : wr.cell? ⟨gb376, 14, none⟩ = some (.int .i64 t395) := (blk_cell BK376.out 14).trans rfl
        have hfz17_0 := blk_frozen BK376.out 0
        have hfz17_1 := blk_frozen BK376.out 1
        have hfz17_2 := blk_frozen BK376.out 2
        have hfz17_3 := blk_frozen BK376.out 3
        have hfz17_4 := blk_frozen BK376.out 4
        have hfz17_5 := blk_frozen BK376.out 5
        have hfz17_6 := blk_frozen BK376.out 6
        have hfz17_7 := blk_frozen BK376.out 7
        have hfz17_8 := blk_frozen BK376.out 8
        have hfz17_9 := blk_frozen BK376.out 9
        have hfz17_10 := blk_frozen BK376.out 10
        have hfz17_11 := blk_frozen BK376.out 11
        have hfz17_12 := blk_frozen BK376.out 12
        have hfz17_13 := blk_frozen BK376.out 13
        have hfz17_14 := blk_frozen BK376.out 14
        have p400 : 0 ≤ (x6_1 : Int) := of_decide_eq_true (by first | (with_reducible assumption) | assumption)
        have q400 : x6_1 < (t383.length : Int) := of_decide_eq_true (by first | (with_reducible assumption) | assumption)
        obtain ⟨ad400, e400, hx400_0, hx400_1, hx400_2, hx400_3, hx400_4, hx400_5, hx400_6, hx400_7⟩ := at_T27 (Kd.V_reads' HO_377004.out).2.2 x6_1 p400 q400
        cases e400
        replace p400 := eq_true p400
        replace q400 := eq_true q400
        go_wp2_with (first | ((with_reducible refine gate_store (t := 27) (p := 7) rfl ?_); (refine store_event (t := 27) (p := 7) (v := ?vo_s401) (w1 := ((((((((w18.setCell ⟨gb401, 0, none⟩ (.int .i64 ((rd_T27 t383 x6_1).f0))).setCell ⟨gb401, 1, none⟩ (.int .i64 ((rd_T27 t383 x6_1).f1))).setCell ⟨gb401, 2, none⟩ (.int .i64 ((rd_T27 t383 x6_1).f2))).setCell ⟨gb401, 3, none⟩ (.int .i64 ((rd_T27 t383 x6_1).f3))).setCell ⟨gb401, 4, none⟩ (.int .i64 ((rd_T27 t383 x6_1).f4))).setCell ⟨gb401, 5, none⟩ (.int .i64 ((rd_T27 t383 x6_1).f5))).setCell ⟨gb401, 6, none⟩ (.int .i64 ((rd_T27 t383 x6_1).f6))).setCell ⟨gb401, 7, none⟩ (.int .i64 ((rd_T27 t383 x6_1).f7)))) ?hg ?ho ?hn ?hr ?_; (case ho => rfl); (case hg => rfl); (case hn => rfl); (case hr => first | (go_simp; done) | (go_simp; rfl)); intro w18s hw; have hsS0 := Aside0.mk (Kd.R_mono (Kd.R_far (p := ⟨gb401, 7, none⟩) (Kd.R_far (p := ⟨gb401, 6, none⟩) (Kd.R_far (p := ⟨gb401, 5, none⟩) (Kd.R_far (p := ⟨gb401, 4, none⟩) (Kd.R_far (p := ⟨gb401, 3, none⟩) (Kd.R_far (p := ⟨gb401, 2, none⟩) (Kd.R_far (p := ⟨gb401, 1, none⟩) (Kd.R_far (p := ⟨gb401, 0, none⟩) (Kd.R_types HO_3.out BK401.out (by decide)) (fun _ hk => hk.2) (.int .i64 ((rd_T27 t383 x6_1).f0))) (fun _ hk => hk.2) (.int .i64 ((rd_T27 t383 x6_1).f1))) (fun _ hk => hk.2) (.int .i64 ((rd_T27 t383 x6_1).f2))) (fun _ hk => hk.2) (.int .i64 ((rd_T27 t383 x6_1).f3))) (fun _ hk => hk.2) (.int .i64 ((rd_T27 t383 x6_1).f4))) (fun _ hk => hk.2) (.int .i64 ((rd_T27 t383 x6_1).f5))) (fun _ hk => hk.2) (.int .i64 ((rd_T27 t383 x6_1).f6))) (fun _ hk => hk.2) (.int .i64 ((rd_T27 t383 x6_1).f7))) (fun _ hk => hk.1)); rw [← hw] at hsS0; have hsS1 := Aside0.mk (Kd.V_mono (Kd.V_far (p := ⟨gb401, 7, none⟩) (Kd.V_far (p := ⟨gb401, 6, none⟩) (Kd.V_far (p := ⟨gb401, 5, none⟩) (Kd.V_far (p := ⟨gb401, 4, none⟩) (Kd.V_far (p := ⟨gb401, 3, none⟩) (Kd.V_far (p := ⟨gb401, 2, none⟩) (Kd.V_far (p := ⟨gb401, 1, none⟩) (Kd.V_far (p := ⟨gb401, 0, none⟩) (Kd.V_mono HO_377003.out (fun k_ hk => (⟨hk, hk.2⟩ : _ ∧ k_ ≠ gb401))) (fun _ hk => hk.2) (.int .i64 ((rd_T27 t383 x6_1).f0))) (fun _ hk => hk.2) (.int .i64 ((rd_T27 t383 x6_1).f1))) (fun _ hk => hk.2) (.int .i64 ((rd_T27 t383 x6_1).f2))) (fun _ hk => hk.2) (.int .i64 ((rd_T27 t383 x6_1).f3))) (fun _ hk => hk.2) (.int .i64 ((rd_T27 t383 x6_1).f4))) (fun _ hk => hk.2) (.int .i64 ((rd_T27 t383 x6_1).f5))) (fun _ hk => hk.2) (.int .i64 ((rd_T27 t383 x6_1).f6))) (fun _ hk => hk.2) (.int .i64 ((rd_T27 t383 x6_1).f7))) (fun _ hk => hk.1)); rw [← hw] at hsS1; have hsS2 := Aside0.mk (Kd.V_mono (Kd.V_far (p := ⟨gb401, 7, none⟩) (Kd.V_far (p := ⟨gb401, 6, none⟩) (Kd.V_far (p := ⟨gb401, 5, none⟩) (Kd.V_far (p := ⟨gb401, 4, none⟩) (Kd.V_far (p := ⟨gb401, 3, none⟩) (Kd.V_far (p := ⟨gb401, 2, none⟩) (Kd.V_far (p := ⟨gb401, 1, none⟩) (Kd.V_far (p := ⟨gb401, 0, none⟩) (Kd.V_mono HO_377004.out (fun k_ hk => (⟨hk, hk.2⟩ : _ ∧ k_ ≠ gb401))) (fun _ hk => hk.2) (.int .i64 ((rd_T27 t383 x6_1).f0))) (fun _ hk => hk.2) (.int .i64 ((rd_T27 t383 x6_1).f1))) (fun _ hk => hk.2) (.int .i64 ((rd_T27 t383 x6_1).f2))) (fun _ hk => hk.2) (.int .i64 ((rd_T27 t383 x6_1).f3))) (fun _ hk => hk.2) (.int .i64 ((rd_T27 t383 x6_1).f4))) (fun _ hk => hk.2) (.int .i64 ((rd_T27 t383 x6_1).f5))) (fun _ hk => hk.2) (.int .i64 ((rd_T27 t383 x6_1).f6))) (fun _ hk => hk.2) (.int .i64 ((rd_T27 t383 x6_1).f7))) (fun _ hk => hk.1)); rw [← hw] at hsS2; have hsS3 := Aside0.mk (Kd.R_mono (Kd.R_far (p := ⟨gb401, 7, none⟩) (Kd.R_far (p := ⟨gb401, 6, none⟩) (Kd.R_far (p := ⟨gb401, 5, none⟩) (Kd.R_far (p := ⟨gb401, 4, none⟩) (Kd.R_far (p := ⟨gb401, 3, none⟩) (Kd.R_far (p := ⟨gb401, 2, none⟩) (Kd.R_far (p := ⟨gb401, 1, none⟩) (Kd.R_far (p := ⟨gb401, 0, none⟩) (Kd.R_mono HO_5.out (fun k_ hk => (⟨hk, hk.2⟩ : _ ∧ k_ ≠ gb401))) (fun _ hk => hk.2) (.int .i64 ((rd_T27 t383 x6_1).f0))) (fun _ hk => hk.2) (.int .i64 ((rd_T27 t383 x6_1).f1))) (fun _ hk => hk.2) (.int .i64 ((rd_T27 t383 x6_1).f2))) (fun _ hk => hk.2) (.int .i64 ((rd_T27 t383 x6_1).f3))) (fun _ hk => hk.2) (.int .i64 ((rd_T27 t383 x6_1).f4))) (fun _ hk => hk.2) (.int .i64 ((rd_T27 t383 x6_1).f5))) (fun _ hk => hk.2) (.int .i64 ((rd_T27 t383 x6_1).f6))) (fun _ hk => hk.2) (.int .i64 ((rd_T27 t383 x6_1).f7))) (fun _ hk => hk.1)); rw [← hw] at hsS3; have hb : Below w.heap.size w w18s := (by rw [hw]; exact (below_set (below_set (below_set (below_set (below_set (below_set (below_set (below_set HB.out GE401.out) GE401.out) GE401.out) GE401.out) GE401.out) GE401.out) GE401.out) GE401.out)); have hsB := Aside0.mk (show w18s.heap[gb376]? = some (.cells #[.int .i64 t377, .int .i64 t378, .int .i64 t379, .slice Ao8 t380.length co8, .slice (some ad400) t383.length co9, .int .i64 t386, .int .i64 t387, .int .i64 t388, .int .i64 t389, .int .i64 t390, .int .i64 t391, .int .i64 t392, .int .i64 t393, .int .i64 t394, .int .i64 t395] 29 (0, 0)) by rw [hw]; exact (blk_far (blk_far (blk_far (blk_far (blk_far (blk_far (blk_far (blk_far BK376.out NB376_401.out _) NB376_401.out _) NB376_401.out _) NB376_401.out _) NB376_401.out _) NB376_401.out _) NB376_401.out _) NB376_401.out _)); have hsO := Aside0.mk (show w18s.heap[gb401]? = some (.cells #[.int .i64 ((rd_T27 t383 x6_1).f0), .int .i64 ((rd_T27 t383 x6_1).f1), .int .i64 ((rd_T27 t383 x6_1).f2), .int .i64 ((rd_T27 t383 x6_1).f3), .int .i64 ((rd_T27 t383 x6_1).f4), .int .i64 ((rd_T27 t383 x6_1).f5), .int .i64 ((rd_T27 t383 x6_1).f6), .int .i64 ((rd_T27 t383 x6_1).f7)] 27 (0, 0)) by rw [hw]; exact (blk_all8 BK401.out)); clear HO_3; clear HO_377003; clear HO_377004; clear HO_5; clear HB BK376 BK401; have HO_3 := hsS0; have HO_377003 := hsS1; have HO_377004 := hsS2; have HO_5 := hsS3; have HB := Aside0.mk hb; have BK376 := hsB; have BK401 := hsO; clear hb hsB hsO hw hsS0 hsS1 hsS2 hsS3; clear hcz20_0; have hcz20_0 : w18s.cell? ⟨gb401, 0, none⟩ = some (.int .i64 ((rd_T27 t383 x6_1).f0)) := (blk_cell BK401.out 0).trans rfl; clear hcz20_1; have hcz20_1 : w18s.cell? ⟨gb401, 1, none⟩ = some (.int .i64 ((rd_T27 t383 x6_1).f1)) := (blk_cell BK401.out 1).trans rfl; clear hcz20_2; have hcz20_2 : w18s.cell? ⟨gb401, 2, none⟩ = some (.int .i64 ((rd_T27 t383 x6_1).f2)) := (blk_cell BK401.out 2).trans rfl; clear hcz20_3; have hcz20_3 : w18s.cell? ⟨gb401, 3, none⟩ = some (.int .i64 ((rd_T27 t383 x6_1).f3)) := (blk_cell BK401.out 3).trans rfl; clear hcz20_4; have hcz20_4 : w18s.cell? ⟨gb401, 4, none⟩ = some (.int .i64 ((rd_T27 t383 x6_1).f4)) := (blk_cell BK401.out 4).trans rfl; clear hcz20_5; have hcz20_5 : w18s.cell? ⟨gb401, 5, none⟩ = some (.int .i64 ((rd_T27 t383 x6_1).f5)) := (blk_cell BK401.out 5).trans rfl; clear hcz20_6; have hcz20_6 : w18s.cell? ⟨gb401, 6, none⟩ = some (.int .i64 ((rd_T27 t383 x6_1).f6)) := (blk_cell BK401.out 6).trans rfl; clear hcz20_7; have hcz20_7 : w18s.cell? ⟨gb401, 7, none⟩ = some (.int .i64 ((rd_T27 t383 x6_1).f7)) := (blk_cell BK401.out 7).trans rfl; clear hcz21_0; have hcz21_0 : w18s.cell? ⟨gb376, 0, none⟩ = some (.int .i64 t377) := (blk_cell BK376.out 0).trans rfl; clear hcz21_1; have hcz21_1 : w18s.cell? ⟨gb376, 1, none⟩ = some (.int .i64 t378) := (blk_cell BK376.out 1).trans rfl; clear hcz21_2; have hcz21_2 : w18s.cell? ⟨gb376, 2, none⟩ = some (.int .i64 t379) := (blk_cell BK376.out 2).trans rfl; clear hcz21_3; have hcz21_3 : w18s.cell? ⟨gb376, 3, none⟩ = some (.slice Ao8 t380.length co8) := (blk_cell BK376.out 3).trans rfl; clear hcz21_4; have hcz21_4 : w18s.cell? ⟨gb376, 4, none⟩ = some (.slice (some ad400) t383.length co9) := (blk_cell BK376.out 4).trans rfl; clear hcz21_5; have hcz21_5 : w18s.cell? ⟨gb376, 5, none⟩ = some (.int .i64 t386) := (blk_cell BK376.out 5).trans rfl; clear hcz21_6; have hcz21_6 : w18s.cell? ⟨gb376, 6, none⟩ = some (.int .i64 t387) := (blk_cell BK376.out 6).trans rfl; clear hcz21_7; have hcz21_7 : w18s.cell? ⟨gb376, 7, none⟩ = some (.int .i64 t388) := (blk_cell BK376.out 7).trans rfl; clear hcz21_8; have hcz21_8 : w18s.cell? ⟨gb376, 8, none⟩ = some (.int .i64 t389) := (blk_cell BK376.out 8).trans rfl; clear hcz21_9; have hcz21_9 : w18s.cell? ⟨gb376, 9, none⟩ = some (.int .i64 t390) := (blk_cell BK376.out 9).trans rfl; clear hcz21_10; have hcz21_10 : w18s.cell? ⟨gb376, 10, none⟩ = some (.int .i64 t391) := (blk_cell BK376.out 10).trans rfl; clear hcz21_11; have hcz21_11 : w18s.cell? ⟨gb376, 11, none⟩ = some (.int .i64 t392) := (blk_cell BK376.out 11).trans rfl; clear hcz21_12; have hcz21_12 : w18s.cell? ⟨gb376, 12, none⟩ = some (.int .i64 t393) := (blk_cell BK376.out 12).trans rfl; clear hcz21_13; have hcz21_13 : w18s.cell? ⟨gb376, 13, none⟩ = some (.int .i64 t394) := (blk_cell BK376.out 13).trans rfl; clear hcz21_14; have hcz21_14 : w18s.cell? ⟨gb376, 14, none⟩ = some (.int .i64 t395) := (blk_cell BK376.out 14).trans rfl; clear hfz20_0; have hfz20_0 := blk_frozen BK401.out 0; clear hfz20_1; have hfz20_1 := blk_frozen BK401.out 1; clear hfz20_2; have hfz20_2 := blk_frozen BK401.out 2; clear hfz20_3; have hfz20_3 := blk_frozen BK401.out 3; clear hfz20_4; have hfz20_4 := blk_frozen BK401.out 4; clear hfz20_5; have hfz20_5 := blk_frozen BK401.out 5; clear hfz20_6; have hfz20_6 := blk_frozen BK401.out 6; clear hfz20_7; have hfz20_7 := blk_frozen BK401.out 7; clear hfz21_0; have hfz21_0 := blk_frozen BK376.out 0; clear hfz21_1; have hfz21_1 := blk_frozen BK376.out 1; clear hfz21_2; have hfz21_2 := blk_frozen BK376.out 2; clear hfz21_3; have hfz21_3 := blk_frozen BK376.out 3; clear hfz21_4; have hfz21_4 := blk_frozen BK376.out 4; clear hfz21_5; have hfz21_5 := blk_frozen BK376.out 5; clear hfz21_6; have hfz21_6 := blk_frozen BK376.out 6; clear hfz21_7; have hfz21_7 := blk_frozen BK376.out 7; clear hfz21_8; have hfz21_8 := blk_frozen BK376.out 8; clear hfz21_9; have hfz21_9 := blk_frozen BK376.out 9; clear hfz21_10; have hfz21_10 := blk_frozen BK376.out 10; clear hfz21_11; have hfz21_11 := blk_frozen BK376.out 11; clear hfz21_12; have hfz21_12 := blk_frozen BK376.out 12; clear hfz21_13; have hfz21_13 := blk_frozen BK376.out 13; clear hfz21_14; have hfz21_14 := blk_frozen BK376.out 14)) | ((with_reducible refine gate_dst (N := 7) rfl ?_); (try (refine gate_guard (by rfl) ?_; dsimp only)); refine box_event ?hg (N := 7) ?hd (cs := #[.int .i64 0, .int .i64 0, .int .i64 0, .int .i64 0, .int .i64 0, .int .i64 0, .int .i64 0, .int .i64 0]) (t := 27) ?hr ?_; (case hd => rfl); (case hg => rfl); (case hr => first | (go_simp; done) | (go_simp; rfl)); intro gb401 hg w18 hbox hb; have n0_ := Aside0.mk (Kd.R_below (by (with_reducible repeat (first | apply Kd.R_alloc | apply Kd.R_drewN | apply Kd.R_drew)); exact HO_3.out) hb); have n1_ := Aside0.mk (Kd.R_below (Kd.R_elderB (by (with_reducible repeat (first | apply Kd.R_alloc | apply Kd.R_drewN | apply Kd.R_drew)); exact HO_5.out) gb401 (Nat.le_of_eq hg.symm)) hb); have n2_ := Aside0.mk (Kd.V_below (Kd.V_elderB (by (with_reducible repeat (first | apply Kd.V_alloc | apply Kd.V_drewN | apply Kd.V_drew)); exact HO_377003.out) gb401 (Nat.le_of_eq hg.symm)) hb); have n3_ := Aside0.mk (Kd.V_below (Kd.V_elderB (by (with_reducible repeat (first | apply Kd.V_alloc | apply Kd.V_drewN | apply Kd.V_drew)); exact HO_377004.out) gb401 (Nat.le_of_eq hg.symm)) hb); have n4_ := Aside0.mk (blk_below (g := gb376) (o := .cells #[.int .i64 t377, .int .i64 t378, .int .i64 t379, .slice Ao8 t380.length co8, .slice (some ad400) t383.length co9, .int .i64 t386, .int .i64 t387, .int .i64 t388, .int .i64 t389, .int .i64 t390, .int .i64 t391, .int .i64 t392, .int .i64 t393, .int .i64 t394, .int .i64 t395] 29 (0, 0)) (by (with_reducible repeat (first | refine blk_drewN ?_ _ | refine blk_drew ?_ | refine blk_alloc ?_ _)); exact BK376.out) hb); have n5_ := Aside0.mk (below_step (by repeat (first | (with_reducible first | exact HB.out | apply below_alloc | apply pw_below_drewN | apply below_drew1 | refine below_set ?_ GE376.out) | exact HB.out)) hb); have n6_ := Aside0.mk (hbox); have n7_ := Aside0.mk ((by rw [hg]; exact (below_size (by repeat (first | (with_reducible first | exact HB.out | apply below_alloc | apply pw_below_drewN | apply below_drew1 | refine below_set ?_ GE376.out) | exact HB.out))) : w.heap.size ≤ gb401)); have n8_ := Aside0.mk ((by rw [hg]; exact (below_size (by repeat (first | (with_reducible first | exact HB.out | apply below_alloc | apply pw_below_drewN | apply below_drew1 | refine below_set ?_ GE376.out) | exact HB.out))) : w.heap.size ≤ gb401)); have n9_ := Aside0.mk ((by rw [hg]; exact Nat.ne_of_lt (blk_lt (g := gb376) (o := .cells #[.int .i64 t377, .int .i64 t378, .int .i64 t379, .slice Ao8 t380.length co8, .slice (some ad400) t383.length co9, .int .i64 t386, .int .i64 t387, .int .i64 t388, .int .i64 t389, .int .i64 t390, .int .i64 t391, .int .i64 t392, .int .i64 t393, .int .i64 t394, .int .i64 t395] 29 (0, 0)) (by (with_reducible repeat (first | refine blk_drewN ?_ _ | refine blk_drew ?_ | refine blk_alloc ?_ _)); exact BK376.out)) : gb376 ≠ gb401)); have n10_ := Aside0.mk ((by rw [hg]; exact Nat.ne_of_gt (blk_lt (g := gb376) (o := .cells #[.int .i64 t377, .int .i64 t378, .int .i64 t379, .slice Ao8 t380.length co8, .slice (some ad400) t383.length co9, .int .i64 t386, .int .i64 t387, .int .i64 t388, .int .i64 t389, .int .i64 t390, .int .i64 t391, .int .i64 t392, .int .i64 t393, .int .i64 t394, .int .i64 t395] 29 (0, 0)) (by (with_reducible repeat (first | refine blk_drewN ?_ _ | refine blk_drew ?_ | refine blk_alloc ?_ _)); exact BK376.out)) : gb401 ≠ gb376)); clear HO_3; clear HO_5; clear HO_377003; clear HO_377004; clear BK376; clear HB; have HO_3 := n0_; have HO_5 := n1_; have HO_377003 := n2_; have HO_377004 := n3_; have BK376 := n4_; have HB := n5_; have BK401 := n6_; have GW401 := n7_; have GE401 := n8_; have NB376_401 := n9_; have NB401_376 := n10_; clear n0_ n1_ n2_ n3_ n4_ n5_ n6_ n7_ n8_ n9_ n10_; clear hb hbox hg; have hnb19 := NB401_376.out; have hnc19 := NB376_401.out; have hcz20_0 : w18.cell? ⟨gb401, 0, none⟩ = some (.int .i64 0) := (blk_cell BK401.out 0).trans rfl; have hcz20_1 : w18.cell? ⟨gb401, 1, none⟩ = some (.int .i64 0) := (blk_cell BK401.out 1).trans rfl; have hcz20_2 : w18.cell? ⟨gb401, 2, none⟩ = some (.int .i64 0) := (blk_cell BK401.out 2).trans rfl; have hcz20_3 : w18.cell? ⟨gb401, 3, none⟩ = some (.int .i64 0) := (blk_cell BK401.out 3).trans rfl; have hcz20_4 : w18.cell? ⟨gb401, 4, none⟩ = some (.int .i64 0) := (blk_cell BK401.out 4).trans rfl; have hcz20_5 : w18.cell? ⟨gb401, 5, none⟩ = some (.int .i64 0) := (blk_cell BK401.out 5).trans rfl; have hcz20_6 : w18.cell? ⟨gb401, 6, none⟩ = some (.int .i64 0) := (blk_cell BK401.out 6).trans rfl; have hcz20_7 : w18.cell? ⟨gb401, 7, none⟩ = some (.int .i64 0) := (blk_cell BK401.out 7).trans rfl; have hfz20_0 := blk_frozen BK401.out 0; have hfz20_1 := blk_frozen BK401.out 1; have hfz20_2 := blk_frozen BK401.out 2; have hfz20_3 := blk_frozen BK401.out 3; have hfz20_4 := blk_frozen BK401.out 4; have hfz20_5 := blk_frozen BK401.out 5; have hfz20_6 := blk_frozen BK401.out 6; have hfz20_7 := blk_frozen BK401.out 7; have hcz21_0 : w18.cell? ⟨gb376, 0, none⟩ = some (.int .i64 t377) := (blk_cell BK376.out 0).trans rfl; have hcz21_1 : w18.cell? ⟨gb376, 1, none⟩ = some (.int .i64 t378) := (blk_cell BK376.out 1).trans rfl; have hcz21_2 : w18.cell? ⟨gb376, 2, none⟩ = some (.int .i64 t379) := (blk_cell BK376.out 2).trans rfl; have hcz21_3 : w18.cell? ⟨gb376, 3, none⟩ = some (.slice Ao8 t380.length co8) := (blk_cell BK376.out 3).trans rfl; have hcz21_4 : w18.cell? ⟨gb376, 4, none⟩ = some (.slice (some ad400) t383.length co9) := (blk_cell BK376.out 4).trans rfl; have hcz21_5 : w18.cell? ⟨gb376, 5, none⟩ = some (.int .i64 t386) := (blk_cell BK376.out 5).trans rfl; have hcz21_6 : w18.cell? ⟨gb376, 6, none⟩ = some (.int .i64 t387) := (blk_cell BK376.out 6).trans rfl; have hcz21_7 : w18.cell? ⟨gb376, 7, none⟩ = some (.int .i64 t388) := (blk_cell BK376.out 7).trans rfl; have hcz21_8 : w18.cell? ⟨gb376, 8, none⟩ = some (.int .i64 t389) := (blk_cell BK376.out 8).trans rfl; have hcz21_9 : w18.cell? ⟨gb376, 9, none⟩ = some (.int .i64 t390) := (blk_cell BK376.out 9).trans rfl; have hcz21_10 : w18.cell? ⟨gb376, 10, none⟩ = some (.int .i64 t391) := (blk_cell BK376.out 10).trans rfl; have hcz21_11 : w18.cell? ⟨gb376, 11, none⟩ = some (.int .i64 t392) := (blk_cell BK376.out 11).trans rfl; have hcz21_12 : w18.cell? ⟨gb376, 12, none⟩ = some (.int .i64 t393) := (blk_cell BK376.out 12).trans rfl; have hcz21_13 : w18.cell? ⟨gb376, 13, none⟩ = some (.int .i64 t394) := (blk_cell BK376.out 13).trans rfl; have hcz21_14 : w18.cell? ⟨gb376, 14, none⟩ = some (.int .i64 t395) := (blk_cell BK376.out 14).trans rfl; have hfz21_0 := blk_frozen BK376.out 0; have hfz21_1 := blk_frozen BK376.out 1; have hfz21_2 := blk_frozen BK376.out 2; have hfz21_3 := blk_frozen BK376.out 3; have hfz21_4 := blk_frozen BK376.out 4; have hfz21_5 := blk_frozen BK376.out 5; have hfz21_6 := blk_frozen BK376.out 6; have hfz21_7 := blk_frozen BK376.out 7; have hfz21_8 := blk_frozen BK376.out 8; have hfz21_9 := blk_frozen BK376.out 9; have hfz21_10 := blk_frozen BK376.out 10; have hfz21_11 := blk_frozen BK376.out 11; have hfz21_12 := blk_frozen BK376.out 12; have hfz21_13 := blk_frozen BK376.out 13; have hfz21_14 := blk_frozen BK376.out 14) | ((with_reducible refine gate_builtin (b := .append) (xs := #[.tmp 56, .tmp 58]) rfl ?_); (try (refine gate_guard (by rfl) ?_; dsimp only)); at_builtin; refine Kd.R_append k27 (w0 := w) w.heap.size rfl (.tmp 56) (.tmp 58) 25 27 (.agg #[(.int .i64 0), (.int .i64 0), (.int .i64 0), (.int .i64 0), (.int .i64 0), (.int .i64 0), (.int .i64 0), (.int .i64 0)]) 64 rfl Try.underlying25 info27 rfl (by decide) (by omega) u5 x5_1 (⟨(rd_T27 t383 x6_1).f0, (rd_T27 t383 x6_1).f1, (rd_T27 t383 x6_1).f2, (rd_T27 t383 x6_1).f3, (rd_T27 t383 x6_1).f4, (rd_T27 t383 x6_1).f5, (rd_T27 t383 x6_1).f6, (rd_T27 t383 x6_1).f7⟩ : S27) [.int .i64 ((rd_T27 t383 x6_1).f0), .int .i64 ((rd_T27 t383 x6_1).f1), .int .i64 ((rd_T27 t383 x6_1).f2), .int .i64 ((rd_T27 t383 x6_1).f3), .int .i64 ((rd_T27 t383 x6_1).f4), .int .i64 ((rd_T27 t383 x6_1).f5), .int .i64 ((rd_T27 t383 x6_1).f6), .int .i64 ((rd_T27 t383 x6_1).f7)] (fun k_ => k_ ≠ gb401) (fun _ => False) rfl (by first | (go_simp; done) | (go_simp; rfl)) ?aP (fun _ hk => hk.elim) ?aF ?aO ?aB ?aS ?aL ?_; (case aP => exact k27_mkM _ _ _ (⟨(rd_T27 t383 x6_1).f0, (rd_T27 t383 x6_1).f1, (rd_T27 t383 x6_1).f2, (rd_T27 t383 x6_1).f3, (rd_T27 t383 x6_1).f4, (rd_T27 t383 x6_1).f5, (rd_T27 t383 x6_1).f6, (rd_T27 t383 x6_1).f7⟩ : S27)); (case aB => exact (by repeat (first | (with_reducible first | exact HB.out | apply below_alloc | apply pw_below_drewN | apply below_drew1 | refine below_set ?_ GE376.out | refine below_set ?_ GE401.out) | exact HB.out))); (case aF => exact (fun k_ hk => Kd.freshB (g := gb401) (o := .cells #[.int .i64 ((rd_T27 t383 x6_1).f0), .int .i64 ((rd_T27 t383 x6_1).f1), .int .i64 ((rd_T27 t383 x6_1).f2), .int .i64 ((rd_T27 t383 x6_1).f3), .int .i64 ((rd_T27 t383 x6_1).f4), .int .i64 ((rd_T27 t383 x6_1).f5), .int .i64 ((rd_T27 t383 x6_1).f6), .int .i64 ((rd_T27 t383 x6_1).f7)] 27 (0, 0)) (by (with_reducible repeat (first | refine blk_drewN ?_ _ | refine blk_drew ?_ | refine blk_alloc ?_ _)); exact BK401.out) k_ hk)); (case aO => exact (by (with_reducible repeat (first | apply Kd.R_alloc | apply Kd.R_drewN | apply Kd.R_drew)); exact Kd.R_mono (Kd.R_mono HO_5.out (fun k_ hk => (⟨hk, hk.2⟩ : _ ∧ k_ ≠ gb401))) (fun _ hk => hk.1.2))); (case aS => exact (below_size (by repeat (first | (with_reducible first | exact HB.out | apply below_alloc | apply pw_below_drewN | apply below_drew1 | refine below_set ?_ GE376.out | refine below_set ?_ GE401.out) | exact HB.out)))); (case aL => have := LMc16.out; omega); intro v403 w22 ho hb hg hat; rw [← Ny402.out] at ho; have n0_ := Aside0.mk (Kd.R_over' (by (with_reducible repeat (first | apply Kd.R_alloc | apply Kd.R_drewN | apply Kd.R_drew)); exact (Kd.R_mono (Kd.R_types HO_3.out BK401.out (by decide)) (fun _ h_ => h_.1))) (Kd.R_typed (by (with_reducible repeat (first | apply Kd.R_alloc | apply Kd.R_drewN | apply Kd.R_drew)); exact (Kd.R_mono (Kd.R_mono HO_5.out (fun k_ hk => (⟨hk, hk.2⟩ : _ ∧ k_ ≠ gb401))) (fun _ h_ => h_.1)))) (by decide) hg); have n1_ := Aside0.mk (Kd.V_afterv (ok := (fun k_ => some k_ ≠ (v397 : Value).ownBlock ∧ k_ ≠ gb376 ∧ k_ ≠ gb401)) (by (with_reducible repeat (first | apply Kd.V_alloc | apply Kd.V_drewN | apply Kd.V_drew)); exact Kd.V_mono (Kd.V_mono HO_377003.out (fun k_ hk => (⟨hk, hk.2⟩ : _ ∧ k_ ≠ gb401))) (fun _ hk => ⟨⟨hk.1.1.1, ⟨hk.1.1.2.2, hk.1.2⟩⟩, hk.1.1.2.1⟩)) hg hat); have n2_ := Aside0.mk (Kd.V_afterv (ok := (fun k_ => some k_ ≠ (v397 : Value).ownBlock ∧ k_ ≠ gb376 ∧ k_ ≠ gb401)) (by (with_reducible repeat (first | apply Kd.V_alloc | apply Kd.V_drewN | apply Kd.V_drew)); exact Kd.V_mono (Kd.V_mono HO_377004.out (fun k_ hk => (⟨hk, hk.2⟩ : _ ∧ k_ ≠ gb401))) (fun _ hk => ⟨⟨hk.1.1.1, ⟨hk.1.1.2.2, hk.1.2⟩⟩, hk.1.1.2.1⟩)) hg hat); have n3_ := Aside0.mk (blk_grown (g := gb376) (o := .cells #[.int .i64 t377, .int .i64 t378, .int .i64 t379, .slice Ao8 t380.length co8, .slice (some ad400) t383.length co9, .int .i64 t386, .int .i64 t387, .int .i64 t388, .int .i64 t389, .int .i64 t390, .int .i64 t391, .int .i64 t392, .int .i64 t393, .int .i64 t394, .int .i64 t395] 29 (0, 0)) (by (with_reducible repeat (first | refine blk_drewN ?_ _ | refine blk_drew ?_ | refine blk_alloc ?_ _)); exact BK376.out) hg (Kd.R_ne HO_5.out BK376.out (by decide))); have n4_ := Aside0.mk (blk_grown (g := gb401) (o := .cells #[.int .i64 ((rd_T27 t383 x6_1).f0), .int .i64 ((rd_T27 t383 x6_1).f1), .int .i64 ((rd_T27 t383 x6_1).f2), .int .i64 ((rd_T27 t383 x6_1).f3), .int .i64 ((rd_T27 t383 x6_1).f4), .int .i64 ((rd_T27 t383 x6_1).f5), .int .i64 ((rd_T27 t383 x6_1).f6), .int .i64 ((rd_T27 t383 x6_1).f7)] 27 (0, 0)) (by (with_reducible repeat (first | refine blk_drewN ?_ _ | refine blk_drew ?_ | refine blk_alloc ?_ _)); exact BK401.out) hg (Kd.R_away HO_5.out (fun _ hk => hk.2))); have n5_ := Aside0.mk (hb); have n6_ := Aside0.mk (ho); clear HO_3; clear HO_377003; clear HO_377004; clear BK376; clear BK401; clear HB; clear HO_5; have HO_3 := n0_; have HO_377003 := n1_; have HO_377004 := n2_; have BK376 := n3_; have BK401 := n4_; have HB := n5_; have HO404 := n6_; clear n0_ n1_ n2_ n3_ n4_ n5_ n6_; clear ho hb hg hat))
        go_roundg k1
        case measure => have := HK1.out; omega
        case rel => exact ⟨(y402), (wrap64 (x6_1 - 1)), (by first | rfl | (simp; done) | (simp [*]; done)), H', ⟨by have := HK1.out; omega⟩, ⟨by (with_reducible repeat (first | apply Kd.R_alloc | apply Kd.R_drewN | apply Kd.R_drew)); exact HO_3.out⟩, ⟨by (with_reducible repeat (first | apply Kd.R_alloc | apply Kd.R_drewN | apply Kd.R_drew)); exact Kd.R_mono HO404.out (fun _ hk => trivial)⟩, ⟨by (with_reducible repeat (first | apply Kd.V_alloc | apply Kd.V_drewN | apply Kd.V_drew)); exact Kd.V_mono HO_377003.out (fun _ hk => ⟨hk.1.1, ⟨hk.2, hk.1.2.1⟩⟩)⟩, ⟨by (with_reducible repeat (first | apply Kd.V_alloc | apply Kd.V_drewN | apply Kd.V_drew)); exact Kd.V_mono HO_377004.out (fun _ hk => ⟨hk.1.1, ⟨hk.2, hk.1.2.1⟩⟩)⟩, ⟨by (with_reducible repeat (first | refine blk_drewN ?_ _ | refine blk_drew ?_ | refine blk_alloc ?_ _)); exact BK376.out⟩, ⟨by repeat (first | (with_reducible first | exact HB.out | apply below_alloc | apply pw_below_drewN | apply below_drew1 | refine below_set ?_ GE376.out | refine below_set ?_ GE401.out) | exact HB.out)⟩⟩
       ·
        rw [if_neg c16] at H
        exact absurd H (by simp)
      ·
       rw [if_neg c15] at H
       have c15b0 : (((rd_T27 t383 x6_1).f0) == t386) = false := beq_eq_false_iff_ne.mpr c15
       have c15b1 : (((rd_T27 t383 x6_1).f0) != t386) = true := bne_iff_ne.mpr c15
       by_cases c23 : x5_1.length < 2199023255552
       ·
        rw [if_pos c23] at H
        have LMc23 := Aside0.mk c23
        clear c23
        obtain ⟨y405, hy405⟩ : ∃ y_ : List (S27), y_ = (x5_1 ++ [(⟨(rd_T27 t383 x6_1).f0, (rd_T27 t383 x6_1).f1, (rd_T27 t383 x6_1).f2, t391, t392, t393, t394, (rd_T27 t383 x6_1).f7⟩ : S27)]) := ⟨_, rfl⟩
        replace H : (bivouaclaw21_SightOwn.l0 k1 t396 t399 y405 (wrap64 (x6_1 - 1)) t377 t378 t379 t380 t383 t386 t387 t388 t389 t390 t391 t392 t393 t394 t395) = some r := by first | (rw [hy405]; with_reducible exact H) | (have H2_ := (Option.bind_some _ _).symm.trans H; rw [hy405]; with_reducible exact H2_) | (have H2_ := (Option.bind_some _ _).symm.trans H; with_reducible exact H2_) | with_reducible exact H | (rw [hy405]; exact H) | exact H
        have Ny405 := Aside0.mk hy405
        clear hy405
        have H' := Aside0.mk H
        clear H
        have hcz24_0 : wr.cell? ⟨gb376, 0, none⟩ = some (.int .i64 t377) := (blk_cell BK376.out 0).trans rfl
        have hcz24_1 : wr.cell? ⟨gb376, 1, none⟩ = some (.int .i64 t378) := (blk_cell BK376.out 1).trans rfl
        have hcz24_2 : wr.cell? ⟨gb376, 2, none⟩ = some (.int .i64 t379) := (blk_cell BK376.out 2).trans rfl
        have hcz24_3 : wr.cell? ⟨gb376, 3, none⟩ = some (.slice Ao8 t380.length co8) := (blk_cell BK376.out 3).trans rfl
        have hcz24_4 : wr.cell? ⟨gb376, 4, none⟩ = some (.slice Ao9 t383.length co9) := (blk_cell BK376.out 4).trans rfl
        have hcz24_5 : wr.cell? ⟨gb376, 5, none⟩ = some (.int .i64 t386) := (blk_cell BK376.out 5).trans rfl
        have hcz24_6 : wr.cell? ⟨gb376, 6, none⟩ = some (.int .i64 t387) := (blk_cell BK376.out 6).trans rfl
        have hcz24_7 : wr.cell? ⟨gb376, 7, none⟩ = some (.int .i64 t388) := (blk_cell BK376.out 7).trans rfl
        have hcz24_8 : wr.cell? ⟨gb376, 8, none⟩ = some (.int .i64 t389) := (blk_cell BK376.out 8).trans rfl
        have hcz24_9 : wr.cell? ⟨gb376, 9, none⟩ = some (.int .i64 t390) := (blk_cell BK376.out 9).trans rfl
        have hcz24_10 : wr.cell? ⟨gb376, 10, none⟩ = some (.int .i64 t391) := (blk_cell BK376.out 10).trans rfl
        have hcz24_11 : wr.cell? ⟨gb376, 11, none⟩ = some (.int .i64 t392) := (blk_cell BK376.out 11).trans rfl
        have hcz24_12 : wr.cell? ⟨gb376, 12, none⟩ = some (.int .i64 t393) := (blk_cell BK376.out 12).trans rfl
        have hcz24_13 : wr.cell? ⟨gb376, 13, none⟩ = some (.int .i64 t394) := (blk_cell BK376.out 13).trans rfl
        have hcz24_14 : wr.cell? ⟨gb376, 14, none⟩ = some (.int .i64 t395) := (blk_cell BK376.out 14).trans rfl
        have hfz24_0 := blk_frozen BK376.out 0
        have hfz24_1 := blk_frozen BK376.out 1
        have hfz24_2 := blk_frozen BK376.out 2
        have hfz24_3 := blk_frozen BK376.out 3
        have hfz24_4 := blk_frozen BK376.out 4
        have hfz24_5 := blk_frozen BK376.out 5
        have hfz24_6 := blk_frozen BK376.out 6
        have hfz24_7 := blk_frozen BK376.out 7
        have hfz24_8 := blk_frozen BK376.out 8
        have hfz24_9 := blk_frozen BK376.out 9
        have hfz24_10 := blk_frozen BK376.out 10
        have hfz24_11 := blk_frozen BK376.out 11
        have hfz24_12 := blk_frozen BK376.out 12
        have hfz24_13 := blk_frozen BK376.out 13
        have hfz24_14 := blk_frozen BK376.out 14
        have p400 : 0 ≤ (x6_1 : Int) := of_decide_eq_true (by first | (with_reducible assumption) | assumption)
        have q400 : x6_1 < (t383.length : Int) := of_decide_eq_true (by first | (with_reducible assumption) | assumption)
        obtain ⟨ad400, e400, hx400_0, hx400_1, hx400_2, hx400_3, hx400_4, hx400_5, hx400_6, hx400_7⟩ := at_T27 (Kd.V_reads' HO_377004.out).2.2 x6_1 p400 q400
        cases e400
        replace p400 := eq_true p400
        replace q400 := eq_true q400
        go_wp2_with (first | ((with_reducible refine gate_store (t := 27) (p := 7) rfl ?_); (refine store_event (t := 27) (p := 7) (v := ?vo_s401) (w1 := ((((((((w25.setCell ⟨gb401, 0, none⟩ (.int .i64 ((rd_T27 t383 x6_1).f0))).setCell ⟨gb401, 1, none⟩ (.int .i64 ((rd_T27 t383 x6_1).f1))).setCell ⟨gb401, 2, none⟩ (.int .i64 ((rd_T27 t383 x6_1).f2))).setCell ⟨gb401, 3, none⟩ (.int .i64 ((rd_T27 t383 x6_1).f3))).setCell ⟨gb401, 4, none⟩ (.int .i64 ((rd_T27 t383 x6_1).f4))).setCell ⟨gb401, 5, none⟩ (.int .i64 ((rd_T27 t383 x6_1).f5))).setCell ⟨gb401, 6, none⟩ (.int .i64 ((rd_T27 t383 x6_1).f6))).setCell ⟨gb401, 7, none⟩ (.int .i64 ((rd_T27 t383 x6_1).f7)))) ?hg ?ho ?hn ?hr ?_; (case ho => rfl); (case hg => rfl); (case hn => rfl); (case hr => first | (go_simp; done) | (go_simp; rfl)); intro w25s hw; have hsS0 := Aside0.mk (Kd.R_mono (Kd.R_far (p := ⟨gb401, 7, none⟩) (Kd.R_far (p := ⟨gb401, 6, none⟩) (Kd.R_far (p := ⟨gb401, 5, none⟩) (Kd.R_far (p := ⟨gb401, 4, none⟩) (Kd.R_far (p := ⟨gb401, 3, none⟩) (Kd.R_far (p := ⟨gb401, 2, none⟩) (Kd.R_far (p := ⟨gb401, 1, none⟩) (Kd.R_far (p := ⟨gb401, 0, none⟩) (Kd.R_types HO_3.out BK401.out (by decide)) (fun _ hk => hk.2) (.int .i64 ((rd_T27 t383 x6_1).f0))) (fun _ hk => hk.2) (.int .i64 ((rd_T27 t383 x6_1).f1))) (fun _ hk => hk.2) (.int .i64 ((rd_T27 t383 x6_1).f2))) (fun _ hk => hk.2) (.int .i64 ((rd_T27 t383 x6_1).f3))) (fun _ hk => hk.2) (.int .i64 ((rd_T27 t383 x6_1).f4))) (fun _ hk => hk.2) (.int .i64 ((rd_T27 t383 x6_1).f5))) (fun _ hk => hk.2) (.int .i64 ((rd_T27 t383 x6_1).f6))) (fun _ hk => hk.2) (.int .i64 ((rd_T27 t383 x6_1).f7))) (fun _ hk => hk.1)); rw [← hw] at hsS0; have hsS1 := Aside0.mk (Kd.V_mono (Kd.V_far (p := ⟨gb401, 7, none⟩) (Kd.V_far (p := ⟨gb401, 6, none⟩) (Kd.V_far (p := ⟨gb401, 5, none⟩) (Kd.V_far (p := ⟨gb401, 4, none⟩) (Kd.V_far (p := ⟨gb401, 3, none⟩) (Kd.V_far (p := ⟨gb401, 2, none⟩) (Kd.V_far (p := ⟨gb401, 1, none⟩) (Kd.V_far (p := ⟨gb401, 0, none⟩) (Kd.V_mono HO_377003.out (fun k_ hk => (⟨hk, hk.2⟩ : _ ∧ k_ ≠ gb401))) (fun _ hk => hk.2) (.int .i64 ((rd_T27 t383 x6_1).f0))) (fun _ hk => hk.2) (.int .i64 ((rd_T27 t383 x6_1).f1))) (fun _ hk => hk.2) (.int .i64 ((rd_T27 t383 x6_1).f2))) (fun _ hk => hk.2) (.int .i64 ((rd_T27 t383 x6_1).f3))) (fun _ hk => hk.2) (.int .i64 ((rd_T27 t383 x6_1).f4))) (fun _ hk => hk.2) (.int .i64 ((rd_T27 t383 x6_1).f5))) (fun _ hk => hk.2) (.int .i64 ((rd_T27 t383 x6_1).f6))) (fun _ hk => hk.2) (.int .i64 ((rd_T27 t383 x6_1).f7))) (fun _ hk => hk.1)); rw [← hw] at hsS1; have hsS2 := Aside0.mk (Kd.V_mono (Kd.V_far (p := ⟨gb401, 7, none⟩) (Kd.V_far (p := ⟨gb401, 6, none⟩) (Kd.V_far (p := ⟨gb401, 5, none⟩) (Kd.V_far (p := ⟨gb401, 4, none⟩) (Kd.V_far (p := ⟨gb401, 3, none⟩) (Kd.V_far (p := ⟨gb401, 2, none⟩) (Kd.V_far (p := ⟨gb401, 1, none⟩) (Kd.V_far (p := ⟨gb401, 0, none⟩) (Kd.V_mono HO_377004.out (fun k_ hk => (⟨hk, hk.2⟩ : _ ∧ k_ ≠ gb401))) (fun _ hk => hk.2) (.int .i64 ((rd_T27 t383 x6_1).f0))) (fun _ hk => hk.2) (.int .i64 ((rd_T27 t383 x6_1).f1))) (fun _ hk => hk.2) (.int .i64 ((rd_T27 t383 x6_1).f2))) (fun _ hk => hk.2) (.int .i64 ((rd_T27 t383 x6_1).f3))) (fun _ hk => hk.2) (.int .i64 ((rd_T27 t383 x6_1).f4))) (fun _ hk => hk.2) (.int .i64 ((rd_T27 t383 x6_1).f5))) (fun _ hk => hk.2) (.int .i64 ((rd_T27 t383 x6_1).f6))) (fun _ hk => hk.2) (.int .i64 ((rd_T27 t383 x6_1).f7))) (fun _ hk => hk.1)); rw [← hw] at hsS2; have hsS3 := Aside0.mk (Kd.R_mono (Kd.R_far (p := ⟨gb401, 7, none⟩) (Kd.R_far (p := ⟨gb401, 6, none⟩) (Kd.R_far (p := ⟨gb401, 5, none⟩) (Kd.R_far (p := ⟨gb401, 4, none⟩) (Kd.R_far (p := ⟨gb401, 3, none⟩) (Kd.R_far (p := ⟨gb401, 2, none⟩) (Kd.R_far (p := ⟨gb401, 1, none⟩) (Kd.R_far (p := ⟨gb401, 0, none⟩) (Kd.R_mono HO_5.out (fun k_ hk => (⟨hk, hk.2⟩ : _ ∧ k_ ≠ gb401))) (fun _ hk => hk.2) (.int .i64 ((rd_T27 t383 x6_1).f0))) (fun _ hk => hk.2) (.int .i64 ((rd_T27 t383 x6_1).f1))) (fun _ hk => hk.2) (.int .i64 ((rd_T27 t383 x6_1).f2))) (fun _ hk => hk.2) (.int .i64 ((rd_T27 t383 x6_1).f3))) (fun _ hk => hk.2) (.int .i64 ((rd_T27 t383 x6_1).f4))) (fun _ hk => hk.2) (.int .i64 ((rd_T27 t383 x6_1).f5))) (fun _ hk => hk.2) (.int .i64 ((rd_T27 t383 x6_1).f6))) (fun _ hk => hk.2) (.int .i64 ((rd_T27 t383 x6_1).f7))) (fun _ hk => hk.1)); rw [← hw] at hsS3; have hb : Below w.heap.size w w25s := (by rw [hw]; exact (below_set (below_set (below_set (below_set (below_set (below_set (below_set (below_set HB.out GE401.out) GE401.out) GE401.out) GE401.out) GE401.out) GE401.out) GE401.out) GE401.out)); have hsB := Aside0.mk (show w25s.heap[gb376]? = some (.cells #[.int .i64 t377, .int .i64 t378, .int .i64 t379, .slice Ao8 t380.length co8, .slice (some ad400) t383.length co9, .int .i64 t386, .int .i64 t387, .int .i64 t388, .int .i64 t389, .int .i64 t390, .int .i64 t391, .int .i64 t392, .int .i64 t393, .int .i64 t394, .int .i64 t395] 29 (0, 0)) by rw [hw]; exact (blk_far (blk_far (blk_far (blk_far (blk_far (blk_far (blk_far (blk_far BK376.out NB376_401.out _) NB376_401.out _) NB376_401.out _) NB376_401.out _) NB376_401.out _) NB376_401.out _) NB376_401.out _) NB376_401.out _)); have hsO := Aside0.mk (show w25s.heap[gb401]? = some (.cells #[.int .i64 ((rd_T27 t383 x6_1).f0), .int .i64 ((rd_T27 t383 x6_1).f1), .int .i64 ((rd_T27 t383 x6_1).f2), .int .i64 ((rd_T27 t383 x6_1).f3), .int .i64 ((rd_T27 t383 x6_1).f4), .int .i64 ((rd_T27 t383 x6_1).f5), .int .i64 ((rd_T27 t383 x6_1).f6), .int .i64 ((rd_T27 t383 x6_1).f7)] 27 (0, 0)) by rw [hw]; exact (blk_all8 BK401.out)); clear HO_3; clear HO_377003; clear HO_377004; clear HO_5; clear HB BK376 BK401; have HO_3 := hsS0; have HO_377003 := hsS1; have HO_377004 := hsS2; have HO_5 := hsS3; have HB := Aside0.mk hb; have BK376 := hsB; have BK401 := hsO; clear hb hsB hsO hw hsS0 hsS1 hsS2 hsS3; clear hcz27_0; have hcz27_0 : w25s.cell? ⟨gb401, 0, none⟩ = some (.int .i64 ((rd_T27 t383 x6_1).f0)) := (blk_cell BK401.out 0).trans rfl; clear hcz27_1; have hcz27_1 : w25s.cell? ⟨gb401, 1, none⟩ = some (.int .i64 ((rd_T27 t383 x6_1).f1)) := (blk_cell BK401.out 1).trans rfl; clear hcz27_2; have hcz27_2 : w25s.cell? ⟨gb401, 2, none⟩ = some (.int .i64 ((rd_T27 t383 x6_1).f2)) := (blk_cell BK401.out 2).trans rfl; clear hcz27_3; have hcz27_3 : w25s.cell? ⟨gb401, 3, none⟩ = some (.int .i64 ((rd_T27 t383 x6_1).f3)) := (blk_cell BK401.out 3).trans rfl; clear hcz27_4; have hcz27_4 : w25s.cell? ⟨gb401, 4, none⟩ = some (.int .i64 ((rd_T27 t383 x6_1).f4)) := (blk_cell BK401.out 4).trans rfl; clear hcz27_5; have hcz27_5 : w25s.cell? ⟨gb401, 5, none⟩ = some (.int .i64 ((rd_T27 t383 x6_1).f5)) := (blk_cell BK401.out 5).trans rfl; clear hcz27_6; have hcz27_6 : w25s.cell? ⟨gb401, 6, none⟩ = some (.int .i64 ((rd_T27 t383 x6_1).f6)) := (blk_cell BK401.out 6).trans rfl; clear hcz27_7; have hcz27_7 : w25s.cell? ⟨gb401, 7, none⟩ = some (.int .i64 ((rd_T27 t383 x6_1).f7)) := (blk_cell BK401.out 7).trans rfl; clear hcz28_0; have hcz28_0 : w25s.cell? ⟨gb376, 0, none⟩ = some (.int .i64 t377) := (blk_cell BK376.out 0).trans rfl; clear hcz28_1; have hcz28_1 : w25s.cell? ⟨gb376, 1, none⟩ = some (.int .i64 t378) := (blk_cell BK376.out 1).trans rfl; clear hcz28_2; have hcz28_2 : w25s.cell? ⟨gb376, 2, none⟩ = some (.int .i64 t379) := (blk_cell BK376.out 2).trans rfl; clear hcz28_3; have hcz28_3 : w25s.cell? ⟨gb376, 3, none⟩ = some (.slice Ao8 t380.length co8) := (blk_cell BK376.out 3).trans rfl; clear hcz28_4; have hcz28_4 : w25s.cell? ⟨gb376, 4, none⟩ = some (.slice (some ad400) t383.length co9) := (blk_cell BK376.out 4).trans rfl; clear hcz28_5; have hcz28_5 : w25s.cell? ⟨gb376, 5, none⟩ = some (.int .i64 t386) := (blk_cell BK376.out 5).trans rfl; clear hcz28_6; have hcz28_6 : w25s.cell? ⟨gb376, 6, none⟩ = some (.int .i64 t387) := (blk_cell BK376.out 6).trans rfl; clear hcz28_7; have hcz28_7 : w25s.cell? ⟨gb376, 7, none⟩ = some (.int .i64 t388) := (blk_cell BK376.out 7).trans rfl; clear hcz28_8; have hcz28_8 : w25s.cell? ⟨gb376, 8, none⟩ = some (.int .i64 t389) := (blk_cell BK376.out 8).trans rfl; clear hcz28_9; have hcz28_9 : w25s.cell? ⟨gb376, 9, none⟩ = some (.int .i64 t390) := (blk_cell BK376.out 9).trans rfl; clear hcz28_10; have hcz28_10 : w25s.cell? ⟨gb376, 10, none⟩ = some (.int .i64 t391) := (blk_cell BK376.out 10).trans rfl; clear hcz28_11; have hcz28_11 : w25s.cell? ⟨gb376, 11, none⟩ = some (.int .i64 t392) := (blk_cell BK376.out 11).trans rfl; clear hcz28_12; have hcz28_12 : w25s.cell? ⟨gb376, 12, none⟩ = some (.int .i64 t393) := (blk_cell BK376.out 12).trans rfl; clear hcz28_13; have hcz28_13 : w25s.cell? ⟨gb376, 13, none⟩ = some (.int .i64 t394) := (blk_cell BK376.out 13).trans rfl; clear hcz28_14; have hcz28_14 : w25s.cell? ⟨gb376, 14, none⟩ = some (.int .i64 t395) := (blk_cell BK376.out 14).trans rfl; clear hfz27_0; have hfz27_0 := blk_frozen BK401.out 0; clear hfz27_1; have hfz27_1 := blk_frozen BK401.out 1; clear hfz27_2; have hfz27_2 := blk_frozen BK401.out 2; clear hfz27_3; have hfz27_3 := blk_frozen BK401.out 3; clear hfz27_4; have hfz27_4 := blk_frozen BK401.out 4; clear hfz27_5; have hfz27_5 := blk_frozen BK401.out 5; clear hfz27_6; have hfz27_6 := blk_frozen BK401.out 6; clear hfz27_7; have hfz27_7 := blk_frozen BK401.out 7; clear hfz28_0; have hfz28_0 := blk_frozen BK376.out 0; clear hfz28_1; have hfz28_1 := blk_frozen BK376.out 1; clear hfz28_2; have hfz28_2 := blk_frozen BK376.out 2; clear hfz28_3; have hfz28_3 := blk_frozen BK376.out 3; clear hfz28_4; have hfz28_4 := blk_frozen BK376.out 4; clear hfz28_5; have hfz28_5 := blk_frozen BK376.out 5; clear hfz28_6; have hfz28_6 := blk_frozen BK376.out 6; clear hfz28_7; have hfz28_7 := blk_frozen BK376.out 7; clear hfz28_8; have hfz28_8 := blk_frozen BK376.out 8; clear hfz28_9; have hfz28_9 := blk_frozen BK376.out 9; clear hfz28_10; have hfz28_10 := blk_frozen BK376.out 10; clear hfz28_11; have hfz28_11 := blk_frozen BK376.out 11; clear hfz28_12; have hfz28_12 := blk_frozen BK376.out 12; clear hfz28_13; have hfz28_13 := blk_frozen BK376.out 13; clear hfz28_14; have hfz28_14 := blk_frozen BK376.out 14)) | ((with_reducible refine gate_dst (N := 7) rfl ?_); (try (refine gate_guard (by rfl) ?_; dsimp only)); refine box_event ?hg (N := 7) ?hd (cs := #[.int .i64 0, .int .i64 0, .int .i64 0, .int .i64 0, .int .i64 0, .int .i64 0, .int .i64 0, .int .i64 0]) (t := 27) ?hr ?_; (case hd => rfl); (case hg => rfl); (case hr => first | (go_simp; done) | (go_simp; rfl)); intro gb401 hg w25 hbox hb; have n0_ := Aside0.mk (Kd.R_below (by (with_reducible repeat (first | apply Kd.R_alloc | apply Kd.R_drewN | apply Kd.R_drew)); exact HO_3.out) hb); have n1_ := Aside0.mk (Kd.R_below (Kd.R_elderB (by (with_reducible repeat (first | apply Kd.R_alloc | apply Kd.R_drewN | apply Kd.R_drew)); exact HO_5.out) gb401 (Nat.le_of_eq hg.symm)) hb); have n2_ := Aside0.mk (Kd.V_below (Kd.V_elderB (by (with_reducible repeat (first | apply Kd.V_alloc | apply Kd.V_drewN | apply Kd.V_drew)); exact HO_377003.out) gb401 (Nat.le_of_eq hg.symm)) hb); have n3_ := Aside0.mk (Kd.V_below (Kd.V_elderB (by (with_reducible repeat (first | apply Kd.V_alloc | apply Kd.V_drewN | apply Kd.V_drew)); exact HO_377004.out) gb401 (Nat.le_of_eq hg.symm)) hb); have n4_ := Aside0.mk (blk_below (g := gb376) (o := .cells #[.int .i64 t377, .int .i64 t378, .int .i64 t379, .slice Ao8 t380.length co8, .slice (some ad400) t383.length co9, .int .i64 t386, .int .i64 t387, .int .i64 t388, .int .i64 t389, .int .i64 t390, .int .i64 t391, .int .i64 t392, .int .i64 t393, .int .i64 t394, .int .i64 t395] 29 (0, 0)) (by (with_reducible repeat (first | refine blk_drewN ?_ _ | refine blk_drew ?_ | refine blk_alloc ?_ _)); exact BK376.out) hb); have n5_ := Aside0.mk (below_step (by repeat (first | (with_reducible first | exact HB.out | apply below_alloc | apply pw_below_drewN | apply below_drew1 | refine below_set ?_ GE376.out) | exact HB.out)) hb); have n6_ := Aside0.mk (hbox); have n7_ := Aside0.mk ((by rw [hg]; exact (below_size (by repeat (first | (with_reducible first | exact HB.out | apply below_alloc | apply pw_below_drewN | apply below_drew1 | refine below_set ?_ GE376.out) | exact HB.out))) : w.heap.size ≤ gb401)); have n8_ := Aside0.mk ((by rw [hg]; exact (below_size (by repeat (first | (with_reducible first | exact HB.out | apply below_alloc | apply pw_below_drewN | apply below_drew1 | refine below_set ?_ GE376.out) | exact HB.out))) : w.heap.size ≤ gb401)); have n9_ := Aside0.mk ((by rw [hg]; exact Nat.ne_of_lt (blk_lt (g := gb376) (o := .cells #[.int .i64 t377, .int .i64 t378, .int .i64 t379, .slice Ao8 t380.length co8, .slice (some ad400) t383.length co9, .int .i64 t386, .int .i64 t387, .int .i64 t388, .int .i64 t389, .int .i64 t390, .int .i64 t391, .int .i64 t392, .int .i64 t393, .int .i64 t394, .int .i64 t395] 29 (0, 0)) (by (with_reducible repeat (first | refine blk_drewN ?_ _ | refine blk_drew ?_ | refine blk_alloc ?_ _)); exact BK376.out)) : gb376 ≠ gb401)); have n10_ := Aside0.mk ((by rw [hg]; exact Nat.ne_of_gt (blk_lt (g := gb376) (o := .cells #[.int .i64 t377, .int .i64 t378, .int .i64 t379, .slice Ao8 t380.length co8, .slice (some ad400) t383.length co9, .int .i64 t386, .int .i64 t387, .int .i64 t388, .int .i64 t389, .int .i64 t390, .int .i64 t391, .int .i64 t392, .int .i64 t393, .int .i64 t394, .int .i64 t395] 29 (0, 0)) (by (with_reducible repeat (first | refine blk_drewN ?_ _ | refine blk_drew ?_ | refine blk_alloc ?_ _)); exact BK376.out)) : gb401 ≠ gb376)); clear HO_3; clear HO_5; clear HO_377003; clear HO_377004; clear BK376; clear HB; have HO_3 := n0_; have HO_5 := n1_; have HO_377003 := n2_; have HO_377004 := n3_; have BK376 := n4_; have HB := n5_; have BK401 := n6_; have GW401 := n7_; have GE401 := n8_; have NB376_401 := n9_; have NB401_376 := n10_; clear n0_ n1_ n2_ n3_ n4_ n5_ n6_ n7_ n8_ n9_ n10_; clear hb hbox hg; have hnb26 := NB401_376.out; have hnc26 := NB376_401.out; have hcz27_0 : w25.cell? ⟨gb401, 0, none⟩ = some (.int .i64 0) := (blk_cell BK401.out 0).trans rfl; have hcz27_1 : w25.cell? ⟨gb401, 1, none⟩ = some (.int .i64 0) := (blk_cell BK401.out 1).trans rfl; have hcz27_2 : w25.cell? ⟨gb401, 2, none⟩ = some (.int .i64 0) := (blk_cell BK401.out 2).trans rfl; have hcz27_3 : w25.cell? ⟨gb401, 3, none⟩ = some (.int .i64 0) := (blk_cell BK401.out 3).trans rfl; have hcz27_4 : w25.cell? ⟨gb401, 4, none⟩ = some (.int .i64 0) := (blk_cell BK401.out 4).trans rfl; have hcz27_5 : w25.cell? ⟨gb401, 5, none⟩ = some (.int .i64 0) := (blk_cell BK401.out 5).trans rfl; have hcz27_6 : w25.cell? ⟨gb401, 6, none⟩ = some (.int .i64 0) := (blk_cell BK401.out 6).trans rfl; have hcz27_7 : w25.cell? ⟨gb401, 7, none⟩ = some (.int .i64 0) := (blk_cell BK401.out 7).trans rfl; have hfz27_0 := blk_frozen BK401.out 0; have hfz27_1 := blk_frozen BK401.out 1; have hfz27_2 := blk_frozen BK401.out 2; have hfz27_3 := blk_frozen BK401.out 3; have hfz27_4 := blk_frozen BK401.out 4; have hfz27_5 := blk_frozen BK401.out 5; have hfz27_6 := blk_frozen BK401.out 6; have hfz27_7 := blk_frozen BK401.out 7; have hcz28_0 : w25.cell? ⟨gb376, 0, none⟩ = some (.int .i64 t377) := (blk_cell BK376.out 0).trans rfl; have hcz28_1 : w25.cell? ⟨gb376, 1, none⟩ = some (.int .i64 t378) := (blk_cell BK376.out 1).trans rfl; have hcz28_2 : w25.cell? ⟨gb376, 2, none⟩ = some (.int .i64 t379) := (blk_cell BK376.out 2).trans rfl; have hcz28_3 : w25.cell? ⟨gb376, 3, none⟩ = some (.slice Ao8 t380.length co8) := (blk_cell BK376.out 3).trans rfl; have hcz28_4 : w25.cell? ⟨gb376, 4, none⟩ = some (.slice (some ad400) t383.length co9) := (blk_cell BK376.out 4).trans rfl; have hcz28_5 : w25.cell? ⟨gb376, 5, none⟩ = some (.int .i64 t386) := (blk_cell BK376.out 5).trans rfl; have hcz28_6 : w25.cell? ⟨gb376, 6, none⟩ = some (.int .i64 t387) := (blk_cell BK376.out 6).trans rfl; have hcz28_7 : w25.cell? ⟨gb376, 7, none⟩ = some (.int .i64 t388) := (blk_cell BK376.out 7).trans rfl; have hcz28_8 : w25.cell? ⟨gb376, 8, none⟩ = some (.int .i64 t389) := (blk_cell BK376.out 8).trans rfl; have hcz28_9 : w25.cell? ⟨gb376, 9, none⟩ = some (.int .i64 t390) := (blk_cell BK376.out 9).trans rfl; have hcz28_10 : w25.cell? ⟨gb376, 10, none⟩ = some (.int .i64 t391) := (blk_cell BK376.out 10).trans rfl; have hcz28_11 : w25.cell? ⟨gb376, 11, none⟩ = some (.int .i64 t392) := (blk_cell BK376.out 11).trans rfl; have hcz28_12 : w25.cell? ⟨gb376, 12, none⟩ = some (.int .i64 t393) := (blk_cell BK376.out 12).trans rfl; have hcz28_13 : w25.cell? ⟨gb376, 13, none⟩ = some (.int .i64 t394) := (blk_cell BK376.out 13).trans rfl; have hcz28_14 : w25.cell? ⟨gb376, 14, none⟩ = some (.int .i64 t395) := (blk_cell BK376.out 14).trans rfl; have hfz28_0 := blk_frozen BK376.out 0; have hfz28_1 := blk_frozen BK376.out 1; have hfz28_2 := blk_frozen BK376.out 2; have hfz28_3 := blk_frozen BK376.out 3; have hfz28_4 := blk_frozen BK376.out 4; have hfz28_5 := blk_frozen BK376.out 5; have hfz28_6 := blk_frozen BK376.out 6; have hfz28_7 := blk_frozen BK376.out 7; have hfz28_8 := blk_frozen BK376.out 8; have hfz28_9 := blk_frozen BK376.out 9; have hfz28_10 := blk_frozen BK376.out 10; have hfz28_11 := blk_frozen BK376.out 11; have hfz28_12 := blk_frozen BK376.out 12; have hfz28_13 := blk_frozen BK376.out 13; have hfz28_14 := blk_frozen BK376.out 14) | ((with_reducible refine gate_builtin (b := .append) (xs := #[.tmp 56, .tmp 58]) rfl ?_); (try (refine gate_guard (by rfl) ?_; dsimp only)); at_builtin; refine Kd.R_append k27 (w0 := w) w.heap.size rfl (.tmp 56) (.tmp 58) 25 27 (.agg #[(.int .i64 0), (.int .i64 0), (.int .i64 0), (.int .i64 0), (.int .i64 0), (.int .i64 0), (.int .i64 0), (.int .i64 0)]) 64 rfl Try.underlying25 info27 rfl (by decide) (by omega) u5 x5_1 (⟨(rd_T27 t383 x6_1).f0, (rd_T27 t383 x6_1).f1, (rd_T27 t383 x6_1).f2, t391, t392, t393, t394, (rd_T27 t383 x6_1).f7⟩ : S27) [.int .i64 ((rd_T27 t383 x6_1).f0), .int .i64 ((rd_T27 t383 x6_1).f1), .int .i64 ((rd_T27 t383 x6_1).f2), .int .i64 t391, .int .i64 t392, .int .i64 t393, .int .i64 t394, .int .i64 ((rd_T27 t383 x6_1).f7)] (fun k_ => k_ ≠ gb401) (fun _ => False) rfl (by first | (go_simp; done) | (go_simp; rfl)) ?aP (fun _ hk => hk.elim) ?aF ?aO ?aB ?aS ?aL ?_; (case aP => exact k27_mkM _ _ _ (⟨(rd_T27 t383 x6_1).f0, (rd_T27 t383 x6_1).f1, (rd_T27 t383 x6_1).f2, t391, t392, t393, t394, (rd_T27 t383 x6_1).f7⟩ : S27)); (case aB => exact (by repeat (first | (with_reducible first | exact HB.out | apply below_alloc | apply pw_below_drewN | apply below_drew1 | refine below_set ?_ GE376.out | refine below_set ?_ GE401.out) | exact HB.out))); (case aF => exact (fun k_ hk => Kd.freshB (g := gb401) (o := .cells #[.int .i64 ((rd_T27 t383 x6_1).f0), .int .i64 ((rd_T27 t383 x6_1).f1), .int .i64 ((rd_T27 t383 x6_1).f2), .int .i64 t391, .int .i64 t392, .int .i64 t393, .int .i64 t394, .int .i64 ((rd_T27 t383 x6_1).f7)] 27 (0, 0)) (by (with_reducible repeat (first | refine blk_drewN ?_ _ | refine blk_drew ?_ | refine blk_alloc ?_ _)); refine blk_put (cs := #[.int .i64 ((rd_T27 t383 x6_1).f0), .int .i64 ((rd_T27 t383 x6_1).f1), .int .i64 ((rd_T27 t383 x6_1).f2), .int .i64 ((rd_T27 t383 x6_1).f3), .int .i64 t392, .int .i64 t393, .int .i64 t394, .int .i64 ((rd_T27 t383 x6_1).f7)]) ?_ 3 _ rfl; (with_reducible repeat (first | refine blk_drewN ?_ _ | refine blk_drew ?_ | refine blk_alloc ?_ _)); refine blk_put (cs := #[.int .i64 ((rd_T27 t383 x6_1).f0), .int .i64 ((rd_T27 t383 x6_1).f1), .int .i64 ((rd_T27 t383 x6_1).f2), .int .i64 ((rd_T27 t383 x6_1).f3), .int .i64 t392, .int .i64 t393, .int .i64 ((rd_T27 t383 x6_1).f6), .int .i64 ((rd_T27 t383 x6_1).f7)]) ?_ 6 _ rfl; (with_reducible repeat (first | refine blk_drewN ?_ _ | refine blk_drew ?_ | refine blk_alloc ?_ _)); refine blk_put (cs := #[.int .i64 ((rd_T27 t383 x6_1).f0), .int .i64 ((rd_T27 t383 x6_1).f1), .int .i64 ((rd_T27 t383 x6_1).f2), .int .i64 ((rd_T27 t383 x6_1).f3), .int .i64 t392, .int .i64 ((rd_T27 t383 x6_1).f5), .int .i64 ((rd_T27 t383 x6_1).f6), .int .i64 ((rd_T27 t383 x6_1).f7)]) ?_ 5 _ rfl; (with_reducible repeat (first | refine blk_drewN ?_ _ | refine blk_drew ?_ | refine blk_alloc ?_ _)); refine blk_put (cs := #[.int .i64 ((rd_T27 t383 x6_1).f0), .int .i64 ((rd_T27 t383 x6_1).f1), .int .i64 ((rd_T27 t383 x6_1).f2), .int .i64 ((rd_T27 t383 x6_1).f3), .int .i64 ((rd_T27 t383 x6_1).f4), .int .i64 ((rd_T27 t383 x6_1).f5), .int .i64 ((rd_T27 t383 x6_1).f6), .int .i64 ((rd_T27 t383 x6_1).f7)]) ?_ 4 _ rfl; (with_reducible repeat (first | refine blk_drewN ?_ _ | refine blk_drew ?_ | refine blk_alloc ?_ _)); exact BK401.out) k_ hk)); (case aO => exact (by (with_reducible repeat (first | apply Kd.R_alloc | apply Kd.R_drewN | apply Kd.R_drew)); exact Kd.R_mono (Kd.R_far (p := ⟨gb401, 3, none⟩) (Kd.R_far (p := ⟨gb401, 6, none⟩) (Kd.R_far (p := ⟨gb401, 5, none⟩) (Kd.R_far (p := ⟨gb401, 4, none⟩) (Kd.R_mono HO_5.out (fun k_ hk => (⟨hk, hk.2⟩ : _ ∧ k_ ≠ gb401))) (fun _ hk => hk.2) (.int .i64 t392)) (fun _ hk => hk.2) (.int .i64 t393)) (fun _ hk => hk.2) (.int .i64 t394)) (fun _ hk => hk.2) (.int .i64 t391)) (fun _ hk => hk.1.2))); (case aS => exact (below_size (by repeat (first | (with_reducible first | exact HB.out | apply below_alloc | apply pw_below_drewN | apply below_drew1 | refine below_set ?_ GE376.out | refine below_set ?_ GE401.out) | exact HB.out)))); (case aL => have := LMc23.out; omega); intro v406 w29 ho hb hg hat; rw [← Ny405.out] at ho; have n0_ := Aside0.mk (Kd.R_over' (by (with_reducible repeat (first | apply Kd.R_alloc | apply Kd.R_drewN | apply Kd.R_drew)); exact (Kd.R_mono (Kd.R_far (p := ⟨gb401, 3, none⟩) (Kd.R_far (p := ⟨gb401, 6, none⟩) (Kd.R_far (p := ⟨gb401, 5, none⟩) (Kd.R_far (p := ⟨gb401, 4, none⟩) (Kd.R_types HO_3.out BK401.out (by decide)) (fun _ hk => hk.2) (.int .i64 t392)) (fun _ hk => hk.2) (.int .i64 t393)) (fun _ hk => hk.2) (.int .i64 t394)) (fun _ hk => hk.2) (.int .i64 t391)) (fun _ h_ => h_.1))) (Kd.R_typed (by (with_reducible repeat (first | apply Kd.R_alloc | apply Kd.R_drewN | apply Kd.R_drew)); exact (Kd.R_mono (Kd.R_far (p := ⟨gb401, 3, none⟩) (Kd.R_far (p := ⟨gb401, 6, none⟩) (Kd.R_far (p := ⟨gb401, 5, none⟩) (Kd.R_far (p := ⟨gb401, 4, none⟩) (Kd.R_mono HO_5.out (fun k_ hk => (⟨hk, hk.2⟩ : _ ∧ k_ ≠ gb401))) (fun _ hk => hk.2) (.int .i64 t392)) (fun _ hk => hk.2) (.int .i64 t393)) (fun _ hk => hk.2) (.int .i64 t394)) (fun _ hk => hk.2) (.int .i64 t391)) (fun _ h_ => h_.1)))) (by decide) hg); have n1_ := Aside0.mk (Kd.V_afterv (ok := (fun k_ => some k_ ≠ (v397 : Value).ownBlock ∧ k_ ≠ gb376 ∧ k_ ≠ gb401)) (by (with_reducible repeat (first | apply Kd.V_alloc | apply Kd.V_drewN | apply Kd.V_drew)); exact Kd.V_mono (Kd.V_far (p := ⟨gb401, 3, none⟩) (Kd.V_far (p := ⟨gb401, 6, none⟩) (Kd.V_far (p := ⟨gb401, 5, none⟩) (Kd.V_far (p := ⟨gb401, 4, none⟩) (Kd.V_mono HO_377003.out (fun k_ hk => (⟨hk, hk.2⟩ : _ ∧ k_ ≠ gb401))) (fun _ hk => hk.2) (.int .i64 t392)) (fun _ hk => hk.2) (.int .i64 t393)) (fun _ hk => hk.2) (.int .i64 t394)) (fun _ hk => hk.2) (.int .i64 t391)) (fun _ hk => ⟨⟨hk.1.1.1, ⟨hk.1.1.2.2, hk.1.2⟩⟩, hk.1.1.2.1⟩)) hg hat); have n2_ := Aside0.mk (Kd.V_afterv (ok := (fun k_ => some k_ ≠ (v397 : Value).ownBlock ∧ k_ ≠ gb376 ∧ k_ ≠ gb401)) (by (with_reducible repeat (first | apply Kd.V_alloc | apply Kd.V_drewN | apply Kd.V_drew)); exact Kd.V_mono (Kd.V_far (p := ⟨gb401, 3, none⟩) (Kd.V_far (p := ⟨gb401, 6, none⟩) (Kd.V_far (p := ⟨gb401, 5, none⟩) (Kd.V_far (p := ⟨gb401, 4, none⟩) (Kd.V_mono HO_377004.out (fun k_ hk => (⟨hk, hk.2⟩ : _ ∧ k_ ≠ gb401))) (fun _ hk => hk.2) (.int .i64 t392)) (fun _ hk => hk.2) (.int .i64 t393)) (fun _ hk => hk.2) (.int .i64 t394)) (fun _ hk => hk.2) (.int .i64 t391)) (fun _ hk => ⟨⟨hk.1.1.1, ⟨hk.1.1.2.2, hk.1.2⟩⟩, hk.1.1.2.1⟩)) hg hat); have n3_ := Aside0.mk (blk_grown (g := gb376) (o := .cells #[.int .i64 t377, .int .i64 t378, .int .i64 t379, .slice Ao8 t380.length co8, .slice (some ad400) t383.length co9, .int .i64 t386, .int .i64 t387, .int .i64 t388, .int .i64 t389, .int .i64 t390, .int .i64 t391, .int .i64 t392, .int .i64 t393, .int .i64 t394, .int .i64 t395] 29 (0, 0)) (by (with_reducible repeat (first | refine blk_drewN ?_ _ | refine blk_drew ?_ | refine blk_alloc ?_ _)); refine blk_far ?_ NB376_401.out _; (with_reducible repeat (first | refine blk_drewN ?_ _ | refine blk_drew ?_ | refine blk_alloc ?_ _)); refine blk_far ?_ NB376_401.out _; (with_reducible repeat (first | refine blk_drewN ?_ _ | refine blk_drew ?_ | refine blk_alloc ?_ _)); refine blk_far ?_ NB376_401.out _; (with_reducible repeat (first | refine blk_drewN ?_ _ | refine blk_drew ?_ | refine blk_alloc ?_ _)); refine blk_far ?_ NB376_401.out _; (with_reducible repeat (first | refine blk_drewN ?_ _ | refine blk_drew ?_ | refine blk_alloc ?_ _)); exact BK376.out) hg (Kd.R_ne HO_5.out BK376.out (by decide))); have n4_ := Aside0.mk (blk_grown (g := gb401) (o := .cells #[.int .i64 ((rd_T27 t383 x6_1).f0), .int .i64 ((rd_T27 t383 x6_1).f1), .int .i64 ((rd_T27 t383 x6_1).f2), .int .i64 t391, .int .i64 t392, .int .i64 t393, .int .i64 t394, .int .i64 ((rd_T27 t383 x6_1).f7)] 27 (0, 0)) (by (with_reducible repeat (first | refine blk_drewN ?_ _ | refine blk_drew ?_ | refine blk_alloc ?_ _)); refine blk_put (cs := #[.int .i64 ((rd_T27 t383 x6_1).f0), .int .i64 ((rd_T27 t383 x6_1).f1), .int .i64 ((rd_T27 t383 x6_1).f2), .int .i64 ((rd_T27 t383 x6_1).f3), .int .i64 t392, .int .i64 t393, .int .i64 t394, .int .i64 ((rd_T27 t383 x6_1).f7)]) ?_ 3 _ rfl; (with_reducible repeat (first | refine blk_drewN ?_ _ | refine blk_drew ?_ | refine blk_alloc ?_ _)); refine blk_put (cs := #[.int .i64 ((rd_T27 t383 x6_1).f0), .int .i64 ((rd_T27 t383 x6_1).f1), .int .i64 ((rd_T27 t383 x6_1).f2), .int .i64 ((rd_T27 t383 x6_1).f3), .int .i64 t392, .int .i64 t393, .int .i64 ((rd_T27 t383 x6_1).f6), .int .i64 ((rd_T27 t383 x6_1).f7)]) ?_ 6 _ rfl; (with_reducible repeat (first | refine blk_drewN ?_ _ | refine blk_drew ?_ | refine blk_alloc ?_ _)); refine blk_put (cs := #[.int .i64 ((rd_T27 t383 x6_1).f0), .int .i64 ((rd_T27 t383 x6_1).f1), .int .i64 ((rd_T27 t383 x6_1).f2), .int .i64 ((rd_T27 t383 x6_1).f3), .int .i64 t392, .int .i64 ((rd_T27 t383 x6_1).f5), .int .i64 ((rd_T27 t383 x6_1).f6), .int .i64 ((rd_T27 t383 x6_1).f7)]) ?_ 5 _ rfl; (with_reducible repeat (first | refine blk_drewN ?_ _ | refine blk_drew ?_ | refine blk_alloc ?_ _)); refine blk_put (cs := #[.int .i64 ((rd_T27 t383 x6_1).f0), .int .i64 ((rd_T27 t383 x6_1).f1), .int .i64 ((rd_T27 t383 x6_1).f2), .int .i64 ((rd_T27 t383 x6_1).f3), .int .i64 ((rd_T27 t383 x6_1).f4), .int .i64 ((rd_T27 t383 x6_1).f5), .int .i64 ((rd_T27 t383 x6_1).f6), .int .i64 ((rd_T27 t383 x6_1).f7)]) ?_ 4 _ rfl; (with_reducible repeat (first | refine blk_drewN ?_ _ | refine blk_drew ?_ | refine blk_alloc ?_ _)); exact BK401.out) hg (Kd.R_away HO_5.out (fun _ hk => hk.2))); have n5_ := Aside0.mk (hb); have n6_ := Aside0.mk (ho); clear HO_3; clear HO_377003; clear HO_377004; clear BK376; clear BK401; clear HB; clear HO_5; have HO_3 := n0_; have HO_377003 := n1_; have HO_377004 := n2_; have BK376 := n3_; have BK401 := n4_; have HB := n5_; have HO407 := n6_; clear n0_ n1_ n2_ n3_ n4_ n5_ n6_; clear ho hb hg hat))
        go_roundg k1
        case measure => have := HK1.out; omega
        case rel => exact ⟨(y405), (wrap64 (x6_1 - 1)), (by first | rfl | (simp; done) | (simp [*]; done)), H', ⟨by have := HK1.out; omega⟩, ⟨by (with_reducible repeat (first | apply Kd.R_alloc | apply Kd.R_drewN | apply Kd.R_drew)); exact HO_3.out⟩, ⟨by (with_reducible repeat (first | apply Kd.R_alloc | apply Kd.R_drewN | apply Kd.R_drew)); exact Kd.R_mono HO407.out (fun _ hk => trivial)⟩, ⟨by (with_reducible repeat (first | apply Kd.V_alloc | apply Kd.V_drewN | apply Kd.V_drew)); exact Kd.V_mono HO_377003.out (fun _ hk => ⟨hk.1.1, ⟨hk.2, hk.1.2.1⟩⟩)⟩, ⟨by (with_reducible repeat (first | apply Kd.V_alloc | apply Kd.V_drewN | apply Kd.V_drew)); exact Kd.V_mono HO_377004.out (fun _ hk => ⟨hk.1.1, ⟨hk.2, hk.1.2.1⟩⟩)⟩, ⟨by (with_reducible repeat (first | refine blk_drewN ?_ _ | refine blk_drew ?_ | refine blk_alloc ?_ _)); exact BK376.out⟩, ⟨by repeat (first | (with_reducible first | exact HB.out | apply below_alloc | apply pw_below_drewN | apply below_drew1 | refine below_set ?_ GE376.out | refine below_set ?_ GE401.out) | exact HB.out)⟩⟩
       ·
        rw [if_neg c23] at H
        exact absurd H (by simp)
     ·
      rw [if_neg c14] at H
      exact absurd H (by simp)
    ·
     rw [if_neg c13] at H
     exact absurd H (by simp)
   ·
    rw [if_neg c12] at H
    have c12b0 : decide (0 ≤ x6_1) = false := decide_eq_false c12
    clear c12
    replace H := Option.bind_eq_some_iff.mp H
    obtain ⟨⟨t408, t411⟩, A300, H⟩ := H
    replace H : (if t399 = 0 then (bivouaclaw21_SightOwn.j1 k1 t396 t399 t408 t411 (t411 != 0)) else (bivouaclaw21_SightOwn.j1 k1 t396 t399 t408 t411 true)) = some r := H
    have A30 := Aside0.mk A300
    clear A300
    have HC31 := Aside0.mk H
    clear H
    have hcz32_0 : wr.cell? ⟨gb376, 0, none⟩ = some (.int .i64 t377) := (blk_cell BK376.out 0).trans rfl
    have hcz32_1 : wr.cell? ⟨gb376, 1, none⟩ = some (.int .i64 t378) := (blk_cell BK376.out 1).trans rfl
    have hcz32_2 : wr.cell? ⟨gb376, 2, none⟩ = some (.int .i64 t379) := (blk_cell BK376.out 2).trans rfl
    have hcz32_3 : wr.cell? ⟨gb376, 3, none⟩ = some (.slice Ao8 t380.length co8) := (blk_cell BK376.out 3).trans rfl
    have hcz32_4 : wr.cell? ⟨gb376, 4, none⟩ = some (.slice Ao9 t383.length co9) := (blk_cell BK376.out 4).trans rfl
    have hcz32_5 : wr.cell? ⟨gb376, 5, none⟩ = some (.int .i64 t386) := (blk_cell BK376.out 5).trans rfl
    have hcz32_6 : wr.cell? ⟨gb376, 6, none⟩ = some (.int .i64 t387) := (blk_cell BK376.out 6).trans rfl
    have hcz32_7 : wr.cell? ⟨gb376, 7, none⟩ = some (.int .i64 t388) := (blk_cell BK376.out 7).trans rfl
    have hcz32_8 : wr.cell? ⟨gb376, 8, none⟩ = some (.int .i64 t389) := (blk_cell BK376.out 8).trans rfl
    have hcz32_9 : wr.cell? ⟨gb376, 9, none⟩ = some (.int .i64 t390) := (blk_cell BK376.out 9).trans rfl
    have hcz32_10 : wr.cell? ⟨gb376, 10, none⟩ = some (.int .i64 t391) := (blk_cell BK376.out 10).trans rfl
    have hcz32_11 : wr.cell? ⟨gb376, 11, none⟩ = some (.int .i64 t392) := (blk_cell BK376.out 11).trans rfl
    have hcz32_12 : wr.cell? ⟨gb376, 12, none⟩ = some (.int .i64 t393) := (blk_cell BK376.out 12).trans rfl
    have hcz32_13 : wr.cell? ⟨gb376, 13, none⟩ = some (.int .i64 t394) := (blk_cell BK376.out 13).trans rfl
    have hcz32_14 : wr.cell? ⟨gb376, 14, none⟩ = some (.int .i64 t395) := (blk_cell BK376.out 14).trans rfl
    have hfz32_0 := blk_frozen BK376.out 0
    have hfz32_1 := blk_frozen BK376.out 1
    have hfz32_2 := blk_frozen BK376.out 2
    have hfz32_3 := blk_frozen BK376.out 3
    have hfz32_4 := blk_frozen BK376.out 4
    have hfz32_5 := blk_frozen BK376.out 5
    have hfz32_6 := blk_frozen BK376.out 6
    have hfz32_7 := blk_frozen BK376.out 7
    have hfz32_8 := blk_frozen BK376.out 8
    have hfz32_9 := blk_frozen BK376.out 9
    have hfz32_10 := blk_frozen BK376.out 10
    have hfz32_11 := blk_frozen BK376.out 11
    have hfz32_12 := blk_frozen BK376.out 12
    have hfz32_13 := blk_frozen BK376.out 13
    have hfz32_14 := blk_frozen BK376.out 14
    obtain ⟨Ao33, co33, eo33⟩ := Kd.R_slice HO_5.out
    subst eo33
    go_upto_region 15 with (first | ((with_reducible refine gate_callee (f := 9) rfl ?_); refine goesL_ (some 66) rfl rfl Try.func9 (by kernel_rfl) rfl #[.agg #[.int .i64 t377, .int .i64 t378, .int .i64 t379, .slice Ao8 t380.length co8], .slice Ao33 x5_1.length co33, .int .i64 t386] rfl (by (try simp only [List.map_toArray, List.map_cons, List.map_nil]); first | done | rfl | (simp only [List.length_drop, List.length_take]; rfl)) ?_; (with_reducible refine (sight_View.calls k1 t377 t378 t379 _ _ t380 _ _ x5_1 t386 t408 t411 _ ?side1 ?side2 ?side3 ?side4 A30.out).mono ?_); (case side1 => repeat (first | exact (Kd.V_reads' HO_377003.out).2.2 | (with_reducible refine Kd.C_alloc ?_ _) | (with_reducible refine Kd.C_drewN ?_ _) | (with_reducible refine Kd.C_drew ?_))); (case side2 => exact (Kd.V_reads' HO_377003.out).2.1); (case side3 => repeat (first | exact (Kd.R_reads' HO_5.out).2.2 | (with_reducible refine Kd.C_alloc ?_ _) | (with_reducible refine Kd.C_drewN ?_ _) | (with_reducible refine Kd.C_drew ?_))); (case side4 => exact (Kd.R_reads' HO_5.out).2.1); rintro e w34 ⟨v409, rfl, ho0, hb⟩; refine ⟨_, rfl, ?_⟩; have n0_ := Aside0.mk (Kd.R_elder' (by (with_reducible repeat (first | apply Kd.R_alloc | apply Kd.R_drewN | apply Kd.R_drew)); exact HO_3.out) (Kd.R_base ho0) hb); have n1_ := Aside0.mk (Kd.R_below (by (with_reducible repeat (first | apply Kd.R_alloc | apply Kd.R_drewN | apply Kd.R_drew)); exact HO_5.out) hb); have n2_ := Aside0.mk (Kd.V_elder' (by (with_reducible repeat (first | apply Kd.V_alloc | apply Kd.V_drewN | apply Kd.V_drew)); exact HO_377003.out) (Kd.R_base ho0) hb); have n3_ := Aside0.mk (Kd.V_elder' (by (with_reducible repeat (first | apply Kd.V_alloc | apply Kd.V_drewN | apply Kd.V_drew)); exact HO_377004.out) (Kd.R_base ho0) hb); have n4_ := Aside0.mk (Kd.R_lower (Kd.R_new' ho0 (Kd.R_lt (by (with_reducible repeat (first | apply Kd.R_alloc | apply Kd.R_drewN | apply Kd.R_drew)); exact HO_3.out))) (below_size (by repeat (first | (with_reducible first | exact HB.out | apply below_alloc | apply pw_below_drewN | apply below_drew1 | refine below_set ?_ GE376.out) | exact HB.out)))); have n5_ := Aside0.mk (blk_below (g := gb376) (o := .cells #[.int .i64 t377, .int .i64 t378, .int .i64 t379, .slice Ao8 t380.length co8, .slice Ao9 t383.length co9, .int .i64 t386, .int .i64 t387, .int .i64 t388, .int .i64 t389, .int .i64 t390, .int .i64 t391, .int .i64 t392, .int .i64 t393, .int .i64 t394, .int .i64 t395] 29 (0, 0)) (by (with_reducible repeat (first | refine blk_drewN ?_ _ | refine blk_drew ?_ | refine blk_alloc ?_ _)); exact BK376.out) hb); have n6_ := Aside0.mk (below_step (by repeat (first | (with_reducible first | exact HB.out | apply below_alloc | apply pw_below_drewN | apply below_drew1 | refine below_set ?_ GE376.out) | exact HB.out)) hb); clear HO_3; clear HO_5; clear HO_377003; clear HO_377004; clear BK376; clear HB; have HO_3 := n0_; have HO_5 := n1_; have HO_377003 := n2_; have HO_377004 := n3_; have HO410 := n4_; have BK376 := n5_; have HB := n6_; clear n0_ n1_ n2_ n3_ n4_ n5_ n6_; (try clear hb); (try clear hb2); (try clear hk); (try clear hi); (try clear ho0)))
    (try simp only [Act.put, List.setIfInBounds_toArray, List.set_cons_zero, List.set_cons_succ])
    go_cut [74] (fun v74 wc => ∃ (kq : Nat) (x74_30 : Bool), v74 = .bool x74_30 ∧ Aside0 (bivouaclaw21_SightOwn.j1 kq t396 t399 t408 t411 x74_30 = some r) ∧ Aside0 (kq ≤ k1) ∧ Aside0 (Kd.R (Kd.int .i64) 3 wc w.heap.size (fun k_ => some k_ ≠ (v409 : Value).ownBlock) v397 t396) ∧ Aside0 (Kd.R (Kd.int .i64) 3 wc w.heap.size (fun k_ => some k_ ≠ (v397 : Value).ownBlock) v409 t408) ∧ Aside0 (Kd.V (Kd.int .u8) 5 wc w.heap.size (fun k_ => some k_ ≠ (v397 : Value).ownBlock ∧ some k_ ≠ (v409 : Value).ownBlock ∧ k_ ≠ gb376) (.slice Ao8 t380.length co8) t380) ∧ Aside0 (Kd.V k27 27 wc w.heap.size (fun k_ => some k_ ≠ (v397 : Value).ownBlock ∧ some k_ ≠ (v409 : Value).ownBlock ∧ k_ ≠ gb376) (.slice Ao9 t383.length co9) t383) ∧ Aside0 (wc.heap[gb376]? = some (.cells #[.int .i64 t377, .int .i64 t378, .int .i64 t379, (.slice Ao8 t380.length co8), (.slice Ao9 t383.length co9), .int .i64 t386, .int .i64 t387, .int .i64 t388, .int .i64 t389, .int .i64 t390, .int .i64 t391, .int .i64 t392, .int .i64 t393, .int .i64 t394, .int .i64 t395] 29 (0, 0))) ∧ Aside0 (Below w.heap.size w wc))
    case first =>
     have H := HC31.out
     clear HC31
     by_cases c35 : t399 = 0
     ·
      rw [if_pos c35] at H
      have c35b0 : (t399 == 0) = true := beq_iff_eq.mpr c35
      have c35b1 : (t399 != 0) = false := bne_eq_false_iff_eq.mpr c35
      clear c35
      (first | rw [c35b0] | (simp only [i64_w, i32_w]; rw [c35b0]) | skip)
      have H' := Aside0.mk H
      clear H
      go_wp2
      go_meet
      case rel => exact ⟨_, ((t411 != 0)), (by first | rfl | (simp; done) | (simp [*]; done)), H', ⟨by have := HK1.out; first | omega | exact Nat.le_refl _⟩, ⟨by (with_reducible repeat (first | apply Kd.R_alloc | apply Kd.R_drewN | apply Kd.R_drew)); exact Kd.R_mono HO_3.out (fun _ hk => hk.2)⟩, ⟨by (with_reducible repeat (first | apply Kd.R_alloc | apply Kd.R_drewN | apply Kd.R_drew)); exact Kd.R_mono HO410.out (fun _ hk => hk.2)⟩, ⟨by (with_reducible repeat (first | apply Kd.V_alloc | apply Kd.V_drewN | apply Kd.V_drew)); exact Kd.V_mono HO_377003.out (fun _ hk => ⟨hk.1.1, ⟨hk.2, hk.1.2.2⟩⟩)⟩, ⟨by (with_reducible repeat (first | apply Kd.V_alloc | apply Kd.V_drewN | apply Kd.V_drew)); exact Kd.V_mono HO_377004.out (fun _ hk => ⟨hk.1.1, ⟨hk.2, hk.1.2.2⟩⟩)⟩, ⟨by (with_reducible repeat (first | refine blk_drewN ?_ _ | refine blk_drew ?_ | refine blk_alloc ?_ _)); exact BK376.out⟩, ⟨by repeat (first | (with_reducible first | exact HB.out | apply below_alloc | apply pw_below_drewN | apply below_drew1 | refine below_set ?_ GE376.out) | exact HB.out)⟩⟩
     ·
      rw [if_neg c35] at H
      have c35b0 : (t399 == 0) = false := beq_eq_false_iff_ne.mpr c35
      have c35b1 : (t399 != 0) = true := bne_iff_ne.mpr c35
      (first | rw [c35b0] | (simp only [i64_w, i32_w]; rw [c35b0]) | skip)
      have H' := Aside0.mk H
      clear H
      go_wp2
      go_meet
      case rel => exact ⟨_, (true), (by first | rfl | (simp; done) | (simp [*]; done)), H', ⟨by have := HK1.out; first | omega | exact Nat.le_refl _⟩, ⟨by (with_reducible repeat (first | apply Kd.R_alloc | apply Kd.R_drewN | apply Kd.R_drew)); exact Kd.R_mono HO_3.out (fun _ hk => hk.2)⟩, ⟨by (with_reducible repeat (first | apply Kd.R_alloc | apply Kd.R_drewN | apply Kd.R_drew)); exact Kd.R_mono HO410.out (fun _ hk => hk.2)⟩, ⟨by (with_reducible repeat (first | apply Kd.V_alloc | apply Kd.V_drewN | apply Kd.V_drew)); exact Kd.V_mono HO_377003.out (fun _ hk => ⟨hk.1.1, ⟨hk.2, hk.1.2.2⟩⟩)⟩, ⟨by (with_reducible repeat (first | apply Kd.V_alloc | apply Kd.V_drewN | apply Kd.V_drew)); exact Kd.V_mono HO_377004.out (fun _ hk => ⟨hk.1.1, ⟨hk.2, hk.1.2.2⟩⟩)⟩, ⟨by (with_reducible repeat (first | refine blk_drewN ?_ _ | refine blk_drew ?_ | refine blk_alloc ?_ _)); exact BK376.out⟩, ⟨by repeat (first | (with_reducible first | exact HB.out | apply below_alloc | apply pw_below_drewN | apply below_drew1 | refine below_set ?_ GE376.out) | exact HB.out)⟩⟩
    case rest =>
     clear HC31
     try clear c1
     try clear c2
     try clear p2
     try clear c3
     try clear p4
     try clear q4
     try clear hx4
     try clear c5
     try clear p6
     try clear c8
     try clear c9
     try clear c12
     try clear c12b0
     try clear c13
     try clear c13b0
     try clear c14
     try clear c14b0
     try clear c15
     try clear c15b0
     try clear c15b1
     try clear c16
     try clear c19
     try clear c23
     try clear c26
     try clear c35
     try clear c35b0
     try clear c35b1
     try clear hcz11_0
     try clear hcz11_1
     try clear hcz11_10
     try clear hcz11_11
     try clear hcz11_12
     try clear hcz11_13
     try clear hcz11_14
     try clear hcz11_2
     try clear hcz11_3
     try clear hcz11_4
     try clear hcz11_5
     try clear hcz11_6
     try clear hcz11_7
     try clear hcz11_8
     try clear hcz11_9
     try clear hcz17_0
     try clear hcz17_1
     try clear hcz17_10
     try clear hcz17_11
     try clear hcz17_12
     try clear hcz17_13
     try clear hcz17_14
     try clear hcz17_2
     try clear hcz17_3
     try clear hcz17_4
     try clear hcz17_5
     try clear hcz17_6
     try clear hcz17_7
     try clear hcz17_8
     try clear hcz17_9
     try clear hcz20_0
     try clear hcz20_1
     try clear hcz20_2
     try clear hcz20_3
     try clear hcz20_4
     try clear hcz20_5
     try clear hcz20_6
     try clear hcz20_7
     try clear hcz21_0
     try clear hcz21_1
     try clear hcz21_10
     try clear hcz21_11
     try clear hcz21_12
     try clear hcz21_13
     try clear hcz21_14
     try clear hcz21_2
     try clear hcz21_3
     try clear hcz21_4
     try clear hcz21_5
     try clear hcz21_6
     try clear hcz21_7
     try clear hcz21_8
     try clear hcz21_9
     try clear hcz24_0
     try clear hcz24_1
     try clear hcz24_10
     try clear hcz24_11
     try clear hcz24_12
     try clear hcz24_13
     try clear hcz24_14
     try clear hcz24_2
     try clear hcz24_3
     try clear hcz24_4
     try clear hcz24_5
     try clear hcz24_6
     try clear hcz24_7
     try clear hcz24_8
     try clear hcz24_9
     try clear hcz27_0
     try clear hcz27_1
     try clear hcz27_2
     try clear hcz27_3
     try clear hcz27_4
     try clear hcz27_5
     try clear hcz27_6
     try clear hcz27_7
     try clear hcz28_0
     try clear hcz28_1
     try clear hcz28_10
     try clear hcz28_11
     try clear hcz28_12
     try clear hcz28_13
     try clear hcz28_14
     try clear hcz28_2
     try clear hcz28_3
     try clear hcz28_4
     try clear hcz28_5
     try clear hcz28_6
     try clear hcz28_7
     try clear hcz28_8
     try clear hcz28_9
     try clear hcz32_0
     try clear hcz32_1
     try clear hcz32_10
     try clear hcz32_11
     try clear hcz32_12
     try clear hcz32_13
     try clear hcz32_14
     try clear hcz32_2
     try clear hcz32_3
     try clear hcz32_4
     try clear hcz32_5
     try clear hcz32_6
     try clear hcz32_7
     try clear hcz32_8
     try clear hcz32_9
     try clear hcz5_0
     try clear hcz5_1
     try clear hcz5_10
     try clear hcz5_11
     try clear hcz5_12
     try clear hcz5_13
     try clear hcz5_14
     try clear hcz5_2
     try clear hcz5_3
     try clear hcz5_4
     try clear hcz5_5
     try clear hcz5_6
     try clear hcz5_7
     try clear hcz5_8
     try clear hcz5_9
     try clear hcz7_0
     try clear hcz7_1
     try clear hcz7_10
     try clear hcz7_11
     try clear hcz7_12
     try clear hcz7_13
     try clear hcz7_14
     try clear hcz7_2
     try clear hcz7_3
     try clear hcz7_4
     try clear hcz7_5
     try clear hcz7_6
     try clear hcz7_7
     try clear hcz7_8
     try clear hcz7_9
     try clear hfz11_0
     try clear hfz11_1
     try clear hfz11_10
     try clear hfz11_11
     try clear hfz11_12
     try clear hfz11_13
     try clear hfz11_14
     try clear hfz11_2
     try clear hfz11_3
     try clear hfz11_4
     try clear hfz11_5
     try clear hfz11_6
     try clear hfz11_7
     try clear hfz11_8
     try clear hfz11_9
     try clear hfz17_0
     try clear hfz17_1
     try clear hfz17_10
     try clear hfz17_11
     try clear hfz17_12
     try clear hfz17_13
     try clear hfz17_14
     try clear hfz17_2
     try clear hfz17_3
     try clear hfz17_4
     try clear hfz17_5
     try clear hfz17_6
     try clear hfz17_7
     try clear hfz17_8
     try clear hfz17_9
     try clear hfz20_0
     try clear hfz20_1
     try clear hfz20_2
     try clear hfz20_3
     try clear hfz20_4
     try clear hfz20_5
     try clear hfz20_6
     try clear hfz20_7
     try clear hfz21_0
     try clear hfz21_1
     try clear hfz21_10
     try clear hfz21_11
     try clear hfz21_12
     try clear hfz21_13
     try clear hfz21_14
     try clear hfz21_2
     try clear hfz21_3
     try clear hfz21_4
     try clear hfz21_5
     try clear hfz21_6
     try clear hfz21_7
     try clear hfz21_8
     try clear hfz21_9
     try clear hfz24_0
     try clear hfz24_1
     try clear hfz24_10
     try clear hfz24_11
     try clear hfz24_12
     try clear hfz24_13
     try clear hfz24_14
     try clear hfz24_2
     try clear hfz24_3
     try clear hfz24_4
     try clear hfz24_5
     try clear hfz24_6
     try clear hfz24_7
     try clear hfz24_8
     try clear hfz24_9
     try clear hfz27_0
     try clear hfz27_1
     try clear hfz27_2
     try clear hfz27_3
     try clear hfz27_4
     try clear hfz27_5
     try clear hfz27_6
     try clear hfz27_7
     try clear hfz28_0
     try clear hfz28_1
     try clear hfz28_10
     try clear hfz28_11
     try clear hfz28_12
     try clear hfz28_13
     try clear hfz28_14
     try clear hfz28_2
     try clear hfz28_3
     try clear hfz28_4
     try clear hfz28_5
     try clear hfz28_6
     try clear hfz28_7
     try clear hfz28_8
     try clear hfz28_9
     try clear hfz32_0
     try clear hfz32_1
     try clear hfz32_10
     try clear hfz32_11
     try clear hfz32_12
     try clear hfz32_13
     try clear hfz32_14
     try clear hfz32_2
     try clear hfz32_3
     try clear hfz32_4
     try clear hfz32_5
     try clear hfz32_6
     try clear hfz32_7
     try clear hfz32_8
     try clear hfz32_9
     try clear hfz5_0
     try clear hfz5_1
     try clear hfz5_10
     try clear hfz5_11
     try clear hfz5_12
     try clear hfz5_13
     try clear hfz5_14
     try clear hfz5_2
     try clear hfz5_3
     try clear hfz5_4
     try clear hfz5_5
     try clear hfz5_6
     try clear hfz5_7
     try clear hfz5_8
     try clear hfz5_9
     try clear hfz7_0
     try clear hfz7_1
     try clear hfz7_10
     try clear hfz7_11
     try clear hfz7_12
     try clear hfz7_13
     try clear hfz7_14
     try clear hfz7_2
     try clear hfz7_3
     try clear hfz7_4
     try clear hfz7_5
     try clear hfz7_6
     try clear hfz7_7
     try clear hfz7_8
     try clear hfz7_9
     try clear hx400_0
     try clear hx400_1
     try clear hx400_2
     try clear hx400_3
     try clear hx400_4
     try clear hx400_5
     try clear hx400_6
     try clear hx400_7
     try clear p2
     try clear p400
     try clear p6
     try clear q400
     obtain ⟨kq, x74_30, rfl, HA, HJ30, HO_3, HO_8, HO_377003, HO_377004, BK376, HB⟩ := hcut
     cases kq with
     | zero => exact absurd HA.out (by simp [bivouaclaw21_SightOwn.j1])
     | succ kj30 =>
      have H := HA.out
      clear HA
      simp only [bivouaclaw21_SightOwn.j1] at H
      by_cases c36 : x74_30 = true
      ·
       subst c36
       have H1 : (if t399 = 0 then (if t411 = 0 then ((bivouaclaw21_awake.f kj30).bind fun t412 => (some t412)) else (if (t408.length : Int) = 0 then ((bivouaclaw21_awake.f kj30).bind fun t413 => (some t413)) else (none))) else (if (t396.length : Int) = 0 then (if t411 = 0 then ((bivouaclaw21_awake.f kj30).bind fun t414 => (some t414)) else (if (t408.length : Int) = 0 then ((bivouaclaw21_awake.f kj30).bind fun t415 => (some t415)) else (none))) else (none))) = some r := by rw [if_pos rfl] at H; exact H
       clear H
       have H := H1
       clear H1
       by_cases c37 : t399 = 0
       ·
        rw [if_pos c37] at H
        have c37b0 : (t399 == 0) = true := beq_iff_eq.mpr c37
        have c37b1 : (t399 != 0) = false := bne_eq_false_iff_eq.mpr c37
        clear c37
        by_cases c38 : t411 = 0
        ·
         rw [if_pos c38] at H
         have c38b0 : (t411 == 0) = true := beq_iff_eq.mpr c38
         have c38b1 : (t411 != 0) = false := bne_eq_false_iff_eq.mpr c38
         clear c38
         replace H := Option.bind_eq_some_iff.mp H
         obtain ⟨t412, A390, H⟩ := H
         replace H : (some t412) = some r := H
         have A39 := Aside0.mk A390
         clear A390
         obtain rfl := Option.some.inj H
         go_wp2_with (first | (go_at_call 13; (with_reducible refine (bivouaclaw21_awake.calls kj30  t412 _ A39.out).mono ?_); rintro e w40 ⟨rfl, hb⟩; have n0_ := Aside0.mk (Kd.R_below (by (with_reducible repeat (first | apply Kd.R_alloc | apply Kd.R_drewN | apply Kd.R_drew)); exact HO_3.out) hb); have n1_ := Aside0.mk (Kd.R_below (by (with_reducible repeat (first | apply Kd.R_alloc | apply Kd.R_drewN | apply Kd.R_drew)); exact HO_8.out) hb); have n2_ := Aside0.mk (Kd.V_below (by (with_reducible repeat (first | apply Kd.V_alloc | apply Kd.V_drewN | apply Kd.V_drew)); exact HO_377003.out) hb); have n3_ := Aside0.mk (Kd.V_below (by (with_reducible repeat (first | apply Kd.V_alloc | apply Kd.V_drewN | apply Kd.V_drew)); exact HO_377004.out) hb); have n4_ := Aside0.mk (blk_below (g := gb376) (o := .cells #[.int .i64 t377, .int .i64 t378, .int .i64 t379, .slice Ao8 t380.length co8, .slice Ao9 t383.length co9, .int .i64 t386, .int .i64 t387, .int .i64 t388, .int .i64 t389, .int .i64 t390, .int .i64 t391, .int .i64 t392, .int .i64 t393, .int .i64 t394, .int .i64 t395] 29 (0, 0)) (by (with_reducible repeat (first | refine blk_drewN ?_ _ | refine blk_drew ?_ | refine blk_alloc ?_ _)); exact BK376.out) hb); have n5_ := Aside0.mk (below_step (by repeat (first | (with_reducible first | exact HB.out | apply below_alloc | apply pw_below_drewN | apply below_drew1 | refine below_set ?_ GE376.out) | exact HB.out)) hb); clear HO_3; clear HO_8; clear HO_377003; clear HO_377004; clear BK376; clear HB; have HO_3 := n0_; have HO_8 := n1_; have HO_377003 := n2_; have HO_377004 := n3_; have BK376 := n4_; have HB := n5_; clear n0_ n1_ n2_ n3_ n4_ n5_; (try clear hb); (try clear hb2); (try clear hk); (try clear hi)))
         go_ret
         exact ⟨by first | rfl | (simp [errW_none, errW_some] <;> rfl) | (simp [*, errW_none, errW_some] <;> rfl) | (rw [Int.tdiv_eq_ediv_of_nonneg (by assumption)]; rfl), by repeat (first | (with_reducible first | exact HB.out | apply below_alloc | apply pw_below_drewN | apply below_drew1 | refine below_set ?_ GE376.out) | exact HB.out)⟩
        ·
         rw [if_neg c38] at H
         have c38b0 : (t411 == 0) = false := beq_eq_false_iff_ne.mpr c38
         have c38b1 : (t411 != 0) = true := bne_iff_ne.mpr c38
         by_cases c41 : (t408.length : Int) = 0
         ·
          rw [if_pos c41] at H
          have c41b0 : ((t408.length : Int) == 0) = true := beq_iff_eq.mpr c41
          have c41b1 : ((t408.length : Int) != 0) = false := bne_eq_false_iff_eq.mpr c41
          clear c41
          replace H := Option.bind_eq_some_iff.mp H
          obtain ⟨t413, A420, H⟩ := H
          replace H : (some t413) = some r := H
          have A42 := Aside0.mk A420
          clear A420
          obtain rfl := Option.some.inj H
          obtain ⟨Ao43, co43, eo43⟩ := Kd.R_slice HO_8.out
          subst eo43
          go_wp2_with (first | (go_at_call 13; (with_reducible refine (bivouaclaw21_awake.calls kj30  t413 _ A42.out).mono ?_); rintro e w44 ⟨rfl, hb⟩; have n0_ := Aside0.mk (Kd.R_below (by (with_reducible repeat (first | apply Kd.R_alloc | apply Kd.R_drewN | apply Kd.R_drew)); exact HO_3.out) hb); have n1_ := Aside0.mk (Kd.R_below (by (with_reducible repeat (first | apply Kd.R_alloc | apply Kd.R_drewN | apply Kd.R_drew)); exact HO_8.out) hb); have n2_ := Aside0.mk (Kd.V_below (by (with_reducible repeat (first | apply Kd.V_alloc | apply Kd.V_drewN | apply Kd.V_drew)); exact HO_377003.out) hb); have n3_ := Aside0.mk (Kd.V_below (by (with_reducible repeat (first | apply Kd.V_alloc | apply Kd.V_drewN | apply Kd.V_drew)); exact HO_377004.out) hb); have n4_ := Aside0.mk (blk_below (g := gb376) (o := .cells #[.int .i64 t377, .int .i64 t378, .int .i64 t379, .slice Ao8 t380.length co8, .slice Ao9 t383.length co9, .int .i64 t386, .int .i64 t387, .int .i64 t388, .int .i64 t389, .int .i64 t390, .int .i64 t391, .int .i64 t392, .int .i64 t393, .int .i64 t394, .int .i64 t395] 29 (0, 0)) (by (with_reducible repeat (first | refine blk_drewN ?_ _ | refine blk_drew ?_ | refine blk_alloc ?_ _)); exact BK376.out) hb); have n5_ := Aside0.mk (below_step (by repeat (first | (with_reducible first | exact HB.out | apply below_alloc | apply pw_below_drewN | apply below_drew1 | refine below_set ?_ GE376.out) | exact HB.out)) hb); clear HO_3; clear HO_8; clear HO_377003; clear HO_377004; clear BK376; clear HB; have HO_3 := n0_; have HO_8 := n1_; have HO_377003 := n2_; have HO_377004 := n3_; have BK376 := n4_; have HB := n5_; clear n0_ n1_ n2_ n3_ n4_ n5_; (try clear hb); (try clear hb2); (try clear hk); (try clear hi)))
          go_ret
          exact ⟨by first | rfl | (simp [errW_none, errW_some] <;> rfl) | (simp [*, errW_none, errW_some] <;> rfl) | (rw [Int.tdiv_eq_ediv_of_nonneg (by assumption)]; rfl), by repeat (first | (with_reducible first | exact HB.out | apply below_alloc | apply pw_below_drewN | apply below_drew1 | refine below_set ?_ GE376.out) | exact HB.out)⟩
         ·
          rw [if_neg c41] at H
          exact absurd H (by simp)
       ·
        rw [if_neg c37] at H
        have c37b0 : (t399 == 0) = false := beq_eq_false_iff_ne.mpr c37
        have c37b1 : (t399 != 0) = true := bne_iff_ne.mpr c37
        by_cases c45 : (t396.length : Int) = 0
        ·
         rw [if_pos c45] at H
         have c45b0 : ((t396.length : Int) == 0) = true := beq_iff_eq.mpr c45
         have c45b1 : ((t396.length : Int) != 0) = false := bne_eq_false_iff_eq.mpr c45
         clear c45
         by_cases c46 : t411 = 0
         ·
          rw [if_pos c46] at H
          have c46b0 : (t411 == 0) = true := beq_iff_eq.mpr c46
          have c46b1 : (t411 != 0) = false := bne_eq_false_iff_eq.mpr c46
          clear c46
          replace H := Option.bind_eq_some_iff.mp H
          obtain ⟨t414, A470, H⟩ := H
          replace H : (some t414) = some r := H
          have A47 := Aside0.mk A470
          clear A470
          obtain rfl := Option.some.inj H
          obtain ⟨Ao48, co48, eo48⟩ := Kd.R_slice HO_3.out
          subst eo48
          go_wp2_with (first | (go_at_call 13; (with_reducible refine (bivouaclaw21_awake.calls kj30  t414 _ A47.out).mono ?_); rintro e w49 ⟨rfl, hb⟩; have n0_ := Aside0.mk (Kd.R_below (by (with_reducible repeat (first | apply Kd.R_alloc | apply Kd.R_drewN | apply Kd.R_drew)); exact HO_3.out) hb); have n1_ := Aside0.mk (Kd.R_below (by (with_reducible repeat (first | apply Kd.R_alloc | apply Kd.R_drewN | apply Kd.R_drew)); exact HO_8.out) hb); have n2_ := Aside0.mk (Kd.V_below (by (with_reducible repeat (first | apply Kd.V_alloc | apply Kd.V_drewN | apply Kd.V_drew)); exact HO_377003.out) hb); have n3_ := Aside0.mk (Kd.V_below (by (with_reducible repeat (first | apply Kd.V_alloc | apply Kd.V_drewN | apply Kd.V_drew)); exact HO_377004.out) hb); have n4_ := Aside0.mk (blk_below (g := gb376) (o := .cells #[.int .i64 t377, .int .i64 t378, .int .i64 t379, .slice Ao8 t380.length co8, .slice Ao9 t383.length co9, .int .i64 t386, .int .i64 t387, .int .i64 t388, .int .i64 t389, .int .i64 t390, .int .i64 t391, .int .i64 t392, .int .i64 t393, .int .i64 t394, .int .i64 t395] 29 (0, 0)) (by (with_reducible repeat (first | refine blk_drewN ?_ _ | refine blk_drew ?_ | refine blk_alloc ?_ _)); exact BK376.out) hb); have n5_ := Aside0.mk (below_step (by repeat (first | (with_reducible first | exact HB.out | apply below_alloc | apply pw_below_drewN | apply below_drew1 | refine below_set ?_ GE376.out) | exact HB.out)) hb); clear HO_3; clear HO_8; clear HO_377003; clear HO_377004; clear BK376; clear HB; have HO_3 := n0_; have HO_8 := n1_; have HO_377003 := n2_; have HO_377004 := n3_; have BK376 := n4_; have HB := n5_; clear n0_ n1_ n2_ n3_ n4_ n5_; (try clear hb); (try clear hb2); (try clear hk); (try clear hi)))
          go_ret
          exact ⟨by first | rfl | (simp [errW_none, errW_some] <;> rfl) | (simp [*, errW_none, errW_some] <;> rfl) | (rw [Int.tdiv_eq_ediv_of_nonneg (by assumption)]; rfl), by repeat (first | (with_reducible first | exact HB.out | apply below_alloc | apply pw_below_drewN | apply below_drew1 | refine below_set ?_ GE376.out) | exact HB.out)⟩
         ·
          rw [if_neg c46] at H
          have c46b0 : (t411 == 0) = false := beq_eq_false_iff_ne.mpr c46
          have c46b1 : (t411 != 0) = true := bne_iff_ne.mpr c46
          by_cases c50 : (t408.length : Int) = 0
          ·
           rw [if_pos c50] at H
           have c50b0 : ((t408.length : Int) == 0) = true := beq_iff_eq.mpr c50
           have c50b1 : ((t408.length : Int) != 0) = false := bne_eq_false_iff_eq.mpr c50
           clear c50
           replace H := Option.bind_eq_some_iff.mp H
           obtain ⟨t415, A510, H⟩ := H
           replace H : (some t415) = some r := H
           have A51 := Aside0.mk A510
           clear A510
           obtain rfl := Option.some.inj H
           obtain ⟨Ao52, co52, eo52⟩ := Kd.R_slice HO_3.out
           subst eo52
           obtain ⟨Ao53, co53, eo53⟩ := Kd.R_slice HO_8.out
           subst eo53
           go_wp2_with (first | (go_at_call 13; (with_reducible refine (bivouaclaw21_awake.calls kj30  t415 _ A51.out).mono ?_); rintro e w54 ⟨rfl, hb⟩; have n0_ := Aside0.mk (Kd.R_below (by (with_reducible repeat (first | apply Kd.R_alloc | apply Kd.R_drewN | apply Kd.R_drew)); exact HO_3.out) hb); have n1_ := Aside0.mk (Kd.R_below (by (with_reducible repeat (first | apply Kd.R_alloc | apply Kd.R_drewN | apply Kd.R_drew)); exact HO_8.out) hb); have n2_ := Aside0.mk (Kd.V_below (by (with_reducible repeat (first | apply Kd.V_alloc | apply Kd.V_drewN | apply Kd.V_drew)); exact HO_377003.out) hb); have n3_ := Aside0.mk (Kd.V_below (by (with_reducible repeat (first | apply Kd.V_alloc | apply Kd.V_drewN | apply Kd.V_drew)); exact HO_377004.out) hb); have n4_ := Aside0.mk (blk_below (g := gb376) (o := .cells #[.int .i64 t377, .int .i64 t378, .int .i64 t379, .slice Ao8 t380.length co8, .slice Ao9 t383.length co9, .int .i64 t386, .int .i64 t387, .int .i64 t388, .int .i64 t389, .int .i64 t390, .int .i64 t391, .int .i64 t392, .int .i64 t393, .int .i64 t394, .int .i64 t395] 29 (0, 0)) (by (with_reducible repeat (first | refine blk_drewN ?_ _ | refine blk_drew ?_ | refine blk_alloc ?_ _)); exact BK376.out) hb); have n5_ := Aside0.mk (below_step (by repeat (first | (with_reducible first | exact HB.out | apply below_alloc | apply pw_below_drewN | apply below_drew1 | refine below_set ?_ GE376.out) | exact HB.out)) hb); clear HO_3; clear HO_8; clear HO_377003; clear HO_377004; clear BK376; clear HB; have HO_3 := n0_; have HO_8 := n1_; have HO_377003 := n2_; have HO_377004 := n3_; have BK376 := n4_; have HB := n5_; clear n0_ n1_ n2_ n3_ n4_ n5_; (try clear hb); (try clear hb2); (try clear hk); (try clear hi)))
           go_ret
           exact ⟨by first | rfl | (simp [errW_none, errW_some] <;> rfl) | (simp [*, errW_none, errW_some] <;> rfl) | (rw [Int.tdiv_eq_ediv_of_nonneg (by assumption)]; rfl), by repeat (first | (with_reducible first | exact HB.out | apply below_alloc | apply pw_below_drewN | apply below_drew1 | refine below_set ?_ GE376.out) | exact HB.out)⟩
          ·
           rw [if_neg c50] at H
           exact absurd H (by simp)
        ·
         rw [if_neg c45] at H
         exact absurd H (by simp)
      ·
       replace c36 := Bool.eq_false_iff.mpr c36
       subst c36
       have H1 : ((bivouaclaw21_same.f kj30 t396 t408).bind fun t416 => (if t416 = true then ((bivouaclaw21_awake.f kj30).bind fun t417 => (some t417)) else (none))) = some r := by rw [if_neg (show ¬ (false = true) by decide)] at H; exact H
       clear H
       have H := H1
       clear H1
       replace H := Option.bind_eq_some_iff.mp H
       obtain ⟨t416, A550, H⟩ := H
       replace H : (if t416 = true then ((bivouaclaw21_awake.f kj30).bind fun t417 => (some t417)) else (none)) = some r := H
       have A55 := Aside0.mk A550
       clear A550
       by_cases c56 : t416 = true
       ·
        subst c56
        have H1 : ((bivouaclaw21_awake.f kj30).bind fun t417 => (some t417)) = some r := by rw [if_pos rfl] at H; exact H
        clear H
        have H := H1
        clear H1
        replace H := Option.bind_eq_some_iff.mp H
        obtain ⟨t417, A570, H⟩ := H
        replace H : (some t417) = some r := H
        have A57 := Aside0.mk A570
        clear A570
        obtain rfl := Option.some.inj H
        obtain ⟨Ao58, co58, eo58⟩ := Kd.R_slice HO_3.out
        subst eo58
        obtain ⟨Ao59, co59, eo59⟩ := Kd.R_slice HO_8.out
        subst eo59
        go_wp2_with (first | ((with_reducible refine gate_callee (f := 15) rfl ?_); refine goesL_ (some 96) rfl rfl Try.func15 (by kernel_rfl) rfl #[.slice Ao58 t396.length co58, .slice Ao59 t408.length co59] rfl (by (try simp only [List.map_toArray, List.map_cons, List.map_nil]); first | done | rfl | (simp only [List.length_drop, List.length_take]; rfl)) ?_; (with_reducible refine (bivouaclaw21_same.calls kj30 _ _ t396 _ _ t408 true _ ?side1 ?side2 ?side3 ?side4 A55.out).mono ?_); (case side1 => repeat (first | exact (Kd.R_reads' HO_3.out).2.2 | (with_reducible refine Kd.C_alloc ?_ _) | (with_reducible refine Kd.C_drewN ?_ _) | (with_reducible refine Kd.C_drew ?_))); (case side2 => exact (Kd.R_reads' HO_3.out).2.1); (case side3 => repeat (first | exact (Kd.R_reads' HO_8.out).2.2 | (with_reducible refine Kd.C_alloc ?_ _) | (with_reducible refine Kd.C_drewN ?_ _) | (with_reducible refine Kd.C_drew ?_))); (case side4 => exact (Kd.R_reads' HO_8.out).2.1); rintro e w' ⟨rfl, ⟨nd, rfl⟩⟩; refine ⟨_, rfl, ?_⟩) | (go_at_call 13; (with_reducible refine (bivouaclaw21_awake.calls kj30  t417 _ A57.out).mono ?_); rintro e w60 ⟨rfl, hb⟩; have n0_ := Aside0.mk (Kd.R_below (by (with_reducible repeat (first | apply Kd.R_alloc | apply Kd.R_drewN | apply Kd.R_drew)); exact HO_3.out) hb); have n1_ := Aside0.mk (Kd.R_below (by (with_reducible repeat (first | apply Kd.R_alloc | apply Kd.R_drewN | apply Kd.R_drew)); exact HO_8.out) hb); have n2_ := Aside0.mk (Kd.V_below (by (with_reducible repeat (first | apply Kd.V_alloc | apply Kd.V_drewN | apply Kd.V_drew)); exact HO_377003.out) hb); have n3_ := Aside0.mk (Kd.V_below (by (with_reducible repeat (first | apply Kd.V_alloc | apply Kd.V_drewN | apply Kd.V_drew)); exact HO_377004.out) hb); have n4_ := Aside0.mk (blk_below (g := gb376) (o := .cells #[.int .i64 t377, .int .i64 t378, .int .i64 t379, .slice Ao8 t380.length co8, .slice Ao9 t383.length co9, .int .i64 t386, .int .i64 t387, .int .i64 t388, .int .i64 t389, .int .i64 t390, .int .i64 t391, .int .i64 t392, .int .i64 t393, .int .i64 t394, .int .i64 t395] 29 (0, 0)) (by (with_reducible repeat (first | refine blk_drewN ?_ _ | refine blk_drew ?_ | refine blk_alloc ?_ _)); exact BK376.out) hb); have n5_ := Aside0.mk (below_step (by repeat (first | (with_reducible first | exact HB.out | apply below_alloc | apply pw_below_drewN | apply below_drew1 | refine below_set ?_ GE376.out) | exact HB.out)) hb); clear HO_3; clear HO_8; clear HO_377003; clear HO_377004; clear BK376; clear HB; have HO_3 := n0_; have HO_8 := n1_; have HO_377003 := n2_; have HO_377004 := n3_; have BK376 := n4_; have HB := n5_; clear n0_ n1_ n2_ n3_ n4_ n5_; (try clear hb); (try clear hb2); (try clear hk); (try clear hi)))
        go_ret
        exact ⟨by first | rfl | (simp [errW_none, errW_some] <;> rfl) | (simp [*, errW_none, errW_some] <;> rfl) | (rw [Int.tdiv_eq_ediv_of_nonneg (by assumption)]; rfl), by repeat (first | (with_reducible first | exact HB.out | apply below_alloc | apply pw_below_drewN | apply below_drew1 | refine below_set ?_ GE376.out) | exact HB.out)⟩
       ·
        replace c56 := Bool.eq_false_iff.mpr c56
        subst c56
        have H1 : (none) = some r := by rw [if_neg (show ¬ (false = true) by decide)] at H; exact H
        clear H
        have H := H1
        clear H1
        exact absurd H (by simp)

/-- THE ONE PURE STATEMENT of bivouaclaw21_SightOwn. -/
def bivouaclaw21_SightOwn.Pure : Prop := ∀ (a0_0 : Int) (a0_1 : Int) (a0_2 : Int) (l0_3 : List Int) (l0_4 : List (S27)) (a0_5 : Int) (a0_6 : Int) (a0_7 : Int) (a0_8 : Int) (a0_9 : Int) (a0_10 : Int) (a0_11 : Int) (a0_12 : Int) (a0_13 : Int) (a0_14 : Int), (Lit.int .i64 a0_0).wf = true → (Lit.int .i64 a0_1).wf = true → (Lit.int .i64 a0_2).wf = true → l0_3.length ≤ maxLen → (∀ x ∈ l0_3, (Lit.int .u8 x).wf = true) → l0_4.length ≤ maxLen → (∀ x ∈ l0_4, (Lit.int .i64 x.f0).wf = true ∧ (Lit.int .i64 x.f1).wf = true ∧ (Lit.int .i64 x.f2).wf = true ∧ (Lit.int .i64 x.f3).wf = true ∧ (Lit.int .i64 x.f4).wf = true ∧ (Lit.int .i64 x.f5).wf = true ∧ (Lit.int .i64 x.f6).wf = true ∧ (Lit.int .i64 x.f7).wf = true) → (Lit.int .i64 a0_5).wf = true → (Lit.int .i64 a0_6).wf = true → (Lit.int .i64 a0_7).wf = true → (Lit.int .i64 a0_8).wf = true → (Lit.int .i64 a0_9).wf = true → (Lit.int .i64 a0_10).wf = true → (Lit.int .i64 a0_11).wf = true → (Lit.int .i64 a0_12).wf = true → (Lit.int .i64 a0_13).wf = true → (Lit.int .i64 a0_14).wf = true → ∃ k, bivouaclaw21_SightOwn.f k a0_0 a0_1 a0_2 l0_3 l0_4 a0_5 a0_6 a0_7 a0_8 a0_9 a0_10 a0_11 a0_12 a0_13 a0_14 = some true
theorem bivouaclaw21_SightOwn.walked : True := trivial

end Go.Proofs.Yteihieihoeijdaa.PA
