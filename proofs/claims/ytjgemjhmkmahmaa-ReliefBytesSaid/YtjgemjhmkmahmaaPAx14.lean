-- WRITTEN BY A PROGRAM OF THIS SESSION (a turned copy of the kit's printer), for this claim. Nothing here is trusted: Lean checks it.
import Derived.Test.YtjgemjhmkmahmaaPAx0
import Derived.Test.YtjgemjhmkmahmaaPAx7
import Derived.Test.YtjgemjhmkmahmaaPAx13
import Derived.Test.YtjgemjhmkmahmaaGAreliefDepth
import Derived.Test.YtjgemjhmkmahmaaGAreliefSlope
namespace Go.Proofs.Ytjgemjhmkmahmaa.PA
open Go.RowKit Go.Proofs.YtjgemjhmkmahmaaW.PrintWords Go.Proofs.YtjgemjhmkmahmaaW.PrintLast Go.Proofs.YtjgemjhmkmahmaaW.PrintMore
attribute [local go_sem] max2_int min2_int max_two min_two max_three min_three max_four min_four   -- for this text's walks alone
set_option linter.unusedVariables false
set_option linter.unusedSimpArgs false

/-! ### bivouaclaw06_awake: function 14 -/
def bivouaclaw06_awake.f (k : Nat)  : Option (Bool) := (bivouaclaw06_one.f).bind fun bt153 => ((relief_Height.f k bt153.1 bt153.2.1 bt153.2.2.1 bt153.2.2.2 32768 32768).bind fun bt160 => ((relief_Height.f k bt153.1 bt153.2.1 bt153.2.2.1 bt153.2.2.2 65536 0).bind fun bt162 => ((relief_Slope.f k bt153.1 bt153.2.1 bt153.2.2.1 bt153.2.2.2 0 0).bind fun bt164 => ((relief_Depth.f k bt153.1 bt153.2.1 bt153.2.2.1 bt153.2.2.2 0 0).bind fun bt166 => (if bt160.1 = 983040 then (if bt160.2 = 0 then (if bt162.2 = 4 then (if bt164.1 = 30 then (if bt164.2 = 0 then (if bt166.1 = 5 then (if bt166.2 = 0 then ((relief_Encode.f k bt153.1 bt153.2.1 bt153.2.2.1 bt153.2.2.2).bind fun t168 => (some ((strOfNums t168).toList == ([1, 1, 5, 0, 10, 20, 30] : List UInt8)))) else (none)) else (none)) else (none)) else (none)) else (none)) else (none)) else (none))))))
theorem bivouaclaw06_awake.mono : ∀ k, LeO (bivouaclaw06_awake.f k ) (bivouaclaw06_awake.f (k + 1) ) := by
 intro  k
 unfold bivouaclaw06_awake.f
 repeat' first
   | (with_reducible exact relief_Depth.mono _ _ _ _ _ _ _)
   | (with_reducible exact relief_Encode.mono _ _ _ _ _)
   | (with_reducible exact relief_Height.mono _ _ _ _ _ _ _)
   | (with_reducible exact relief_Slope.mono _ _ _ _ _ _ _)
   | (with_reducible exact LeO.refl _)
   | (with_reducible exact LeO.none _)
   | (with_reducible refine LeO.ite ?_ ?_)
   | (with_reducible refine LeO.bind ?_ (fun _ => ?_))
   | exact relief_Depth.mono _ _ _ _ _ _ _
   | exact relief_Encode.mono _ _ _ _ _
   | exact relief_Height.mono _ _ _ _ _ _ _
   | exact relief_Slope.mono _ _ _ _ _ _ _
   | exact LeO.none _
   | refine LeO.ite ?_ ?_
   | refine LeO.bind ?_ (fun _ => ?_)
set_option maxHeartbeats 8000000 in
set_option maxRecDepth 100000 in
theorem bivouaclaw06_awake.calls (k : Nat)  (r : Bool) (w : World) (h : bivouaclaw06_awake.f k  = some r) :
  Calls Try.prog 14 #[] w fun e w' => e = .returned (.bool r) ∧ Below w.heap.size w w' := by
 have hu24 := Try.underlying24
 have HB := Aside0.mk (Below.refl w.heap.size w)
 have H : ((bivouaclaw06_one.f).bind fun bt153 => ((relief_Height.f k bt153.1 bt153.2.1 bt153.2.2.1 bt153.2.2.2 32768 32768).bind fun bt160 => ((relief_Height.f k bt153.1 bt153.2.1 bt153.2.2.1 bt153.2.2.2 65536 0).bind fun bt162 => ((relief_Slope.f k bt153.1 bt153.2.1 bt153.2.2.1 bt153.2.2.2 0 0).bind fun bt164 => ((relief_Depth.f k bt153.1 bt153.2.1 bt153.2.2.1 bt153.2.2.2 0 0).bind fun bt166 => (if bt160.1 = 983040 then (if bt160.2 = 0 then (if bt162.2 = 4 then (if bt164.1 = 30 then (if bt164.2 = 0 then (if bt166.1 = 5 then (if bt166.2 = 0 then ((relief_Encode.f k bt153.1 bt153.2.1 bt153.2.2.1 bt153.2.2.2).bind fun t168 => (some ((strOfNums t168).toList == ([1, 1, 5, 0, 10, 20, 30] : List UInt8)))) else (none)) else (none)) else (none)) else (none)) else (none)) else (none)) else (none))))))) = some r := h
 clear h
 replace H := Option.bind_eq_some_iff.mp H
 obtain ⟨⟨t153, t154, t155, t156⟩, A10, H⟩ := H
 replace H : ((relief_Height.f k t153 t154 t155 t156 32768 32768).bind fun bt160 => ((relief_Height.f k t153 t154 t155 t156 65536 0).bind fun bt162 => ((relief_Slope.f k t153 t154 t155 t156 0 0).bind fun bt164 => ((relief_Depth.f k t153 t154 t155 t156 0 0).bind fun bt166 => (if bt160.1 = 983040 then (if bt160.2 = 0 then (if bt162.2 = 4 then (if bt164.1 = 30 then (if bt164.2 = 0 then (if bt166.1 = 5 then (if bt166.2 = 0 then ((relief_Encode.f k t153 t154 t155 t156).bind fun t168 => (some ((strOfNums t168).toList == ([1, 1, 5, 0, 10, 20, 30] : List UInt8)))) else (none)) else (none)) else (none)) else (none)) else (none)) else (none)) else (none)))))) = some r := H
 have A1 := Aside0.mk A10
 clear A10
 replace H := Option.bind_eq_some_iff.mp H
 obtain ⟨⟨t160, t161⟩, A20, H⟩ := H
 replace H : ((relief_Height.f k t153 t154 t155 t156 65536 0).bind fun bt162 => ((relief_Slope.f k t153 t154 t155 t156 0 0).bind fun bt164 => ((relief_Depth.f k t153 t154 t155 t156 0 0).bind fun bt166 => (if t160 = 983040 then (if t161 = 0 then (if bt162.2 = 4 then (if bt164.1 = 30 then (if bt164.2 = 0 then (if bt166.1 = 5 then (if bt166.2 = 0 then ((relief_Encode.f k t153 t154 t155 t156).bind fun t168 => (some ((strOfNums t168).toList == ([1, 1, 5, 0, 10, 20, 30] : List UInt8)))) else (none)) else (none)) else (none)) else (none)) else (none)) else (none)) else (none))))) = some r := H
 have A2 := Aside0.mk A20
 clear A20
 replace H := Option.bind_eq_some_iff.mp H
 obtain ⟨⟨t162, t163⟩, A30, H⟩ := H
 replace H : ((relief_Slope.f k t153 t154 t155 t156 0 0).bind fun bt164 => ((relief_Depth.f k t153 t154 t155 t156 0 0).bind fun bt166 => (if t160 = 983040 then (if t161 = 0 then (if t163 = 4 then (if bt164.1 = 30 then (if bt164.2 = 0 then (if bt166.1 = 5 then (if bt166.2 = 0 then ((relief_Encode.f k t153 t154 t155 t156).bind fun t168 => (some ((strOfNums t168).toList == ([1, 1, 5, 0, 10, 20, 30] : List UInt8)))) else (none)) else (none)) else (none)) else (none)) else (none)) else (none)) else (none)))) = some r := H
 have A3 := Aside0.mk A30
 clear A30
 replace H := Option.bind_eq_some_iff.mp H
 obtain ⟨⟨t164, t165⟩, A40, H⟩ := H
 replace H : ((relief_Depth.f k t153 t154 t155 t156 0 0).bind fun bt166 => (if t160 = 983040 then (if t161 = 0 then (if t163 = 4 then (if t164 = 30 then (if t165 = 0 then (if bt166.1 = 5 then (if bt166.2 = 0 then ((relief_Encode.f k t153 t154 t155 t156).bind fun t168 => (some ((strOfNums t168).toList == ([1, 1, 5, 0, 10, 20, 30] : List UInt8)))) else (none)) else (none)) else (none)) else (none)) else (none)) else (none)) else (none))) = some r := H
 have A4 := Aside0.mk A40
 clear A40
 replace H := Option.bind_eq_some_iff.mp H
 obtain ⟨⟨t166, t167⟩, A50, H⟩ := H
 replace H : (if t160 = 983040 then (if t161 = 0 then (if t163 = 4 then (if t164 = 30 then (if t165 = 0 then (if t166 = 5 then (if t167 = 0 then ((relief_Encode.f k t153 t154 t155 t156).bind fun t168 => (some ((strOfNums t168).toList == ([1, 1, 5, 0, 10, 20, 30] : List UInt8)))) else (none)) else (none)) else (none)) else (none)) else (none)) else (none)) else (none)) = some r := H
 have A5 := Aside0.mk A50
 clear A50
 by_cases c6 : t160 = 983040
 ·
  rw [if_pos c6] at H
  have c6b0 : (t160 == 983040) = true := beq_iff_eq.mpr c6
  have c6b1 : (t160 != 983040) = false := bne_eq_false_iff_eq.mpr c6
  clear c6
  by_cases c7 : t161 = 0
  ·
   rw [if_pos c7] at H
   have c7b0 : (t161 == 0) = true := beq_iff_eq.mpr c7
   have c7b1 : (t161 != 0) = false := bne_eq_false_iff_eq.mpr c7
   clear c7
   by_cases c8 : t163 = 4
   ·
    rw [if_pos c8] at H
    have c8b0 : (t163 == 4) = true := beq_iff_eq.mpr c8
    have c8b1 : (t163 != 4) = false := bne_eq_false_iff_eq.mpr c8
    clear c8
    by_cases c9 : t164 = 30
    ·
     rw [if_pos c9] at H
     have c9b0 : (t164 == 30) = true := beq_iff_eq.mpr c9
     have c9b1 : (t164 != 30) = false := bne_eq_false_iff_eq.mpr c9
     clear c9
     by_cases c10 : t165 = 0
     ·
      rw [if_pos c10] at H
      have c10b0 : (t165 == 0) = true := beq_iff_eq.mpr c10
      have c10b1 : (t165 != 0) = false := bne_eq_false_iff_eq.mpr c10
      clear c10
      by_cases c11 : t166 = 5
      ·
       rw [if_pos c11] at H
       have c11b0 : (t166 == 5) = true := beq_iff_eq.mpr c11
       have c11b1 : (t166 != 5) = false := bne_eq_false_iff_eq.mpr c11
       clear c11
       by_cases c12 : t167 = 0
       ·
        rw [if_pos c12] at H
        have c12b0 : (t167 == 0) = true := beq_iff_eq.mpr c12
        have c12b1 : (t167 != 0) = false := bne_eq_false_iff_eq.mpr c12
        clear c12
        replace H := Option.bind_eq_some_iff.mp H
        obtain ⟨t168, A130, H⟩ := H
        replace H : (some ((strOfNums t168).toList == ([1, 1, 5, 0, 10, 20, 30] : List UInt8))) = some r := H
        have A13 := Aside0.mk A130
        clear A130
        obtain rfl := Option.some.inj H
        go_enter Try.func14, Try.ntmps14
        go_wp2_with (first | ((with_reducible refine gate_callee (f := 26) rfl ?_); refine goesL_ (some 10) rfl rfl Try.func26 (by kernel_rfl) rfl #[] rfl (by (try simp only [List.map_toArray, List.map_cons, List.map_nil]); first | done | rfl | (simp only [List.length_drop, List.length_take]; rfl)) ?_; (with_reducible refine (bivouaclaw06_one.calls  t153 t154 t155 t156 _ A1.out).mono ?_); rintro e w14 ⟨v157, rfl, ho0, hb⟩; refine ⟨_, rfl, ?_⟩; have n0_ := Aside0.mk (Kd.R_lower ho0 (below_size (by repeat (first | (with_reducible first | exact HB.out | apply below_alloc | apply pw_below_drewN | apply below_drew1) | exact HB.out)))); have n1_ := Aside0.mk (below_step (by repeat (first | (with_reducible first | exact HB.out | apply below_alloc | apply pw_below_drewN | apply below_drew1) | exact HB.out)) hb); clear HB; have HO158 := n0_; have HB := n1_; clear n0_ n1_; (try clear hb); (try clear hb2); (try clear hk); (try clear hi); (try clear ho0)) | ((with_reducible refine gate_dst (N := 1) rfl ?_); refine box_event ?hg (N := 1) ?hd (cs := #[.int .i64 0, .int .i64 0, .int .i64 0, .slice none 0 0]) (t := 24) ?hr ?_; (case hd => rfl); (case hg => rfl); (case hr => first | (go_simp; done) | (go_simp; rfl)); intro gb159 hg w15 hbox hb; have n0_ := Aside0.mk (Kd.R_below (by (with_reducible repeat (first | apply Kd.R_alloc | apply Kd.R_drewN | apply Kd.R_drew)); exact HO158.out) hb); have n1_ := Aside0.mk (below_step (by repeat (first | (with_reducible first | exact HB.out | apply below_alloc | apply pw_below_drewN | apply below_drew1) | exact HB.out)) hb); have n2_ := Aside0.mk (hbox); have n3_ := Aside0.mk ((by rw [hg]; exact (below_size (by repeat (first | (with_reducible first | exact HB.out | apply below_alloc | apply pw_below_drewN | apply below_drew1) | exact HB.out))) : w.heap.size ≤ gb159)); have n4_ := Aside0.mk ((by rw [hg]; exact (below_size (by repeat (first | (with_reducible first | exact HB.out | apply below_alloc | apply pw_below_drewN | apply below_drew1) | exact HB.out))) : w.heap.size ≤ gb159)); clear HO158; clear HB; have HO158 := n0_; have HB := n1_; have BK159 := n2_; have GW159 := n3_; have GE159 := n4_; clear n0_ n1_ n2_ n3_ n4_; clear hb hbox hg; have hcz16_0 : w15.cell? ⟨gb159, 0, none⟩ = some (.int .i64 0) := (blk_cell BK159.out 0).trans rfl; have hcz16_1 : w15.cell? ⟨gb159, 1, none⟩ = some (.int .i64 0) := (blk_cell BK159.out 1).trans rfl; have hcz16_2 : w15.cell? ⟨gb159, 2, none⟩ = some (.int .i64 0) := (blk_cell BK159.out 2).trans rfl; have hcz16_3 : w15.cell? ⟨gb159, 3, none⟩ = some (.slice none 0 0) := (blk_cell BK159.out 3).trans rfl; have hfz16_0 := blk_frozen BK159.out 0; have hfz16_1 := blk_frozen BK159.out 1; have hfz16_2 := blk_frozen BK159.out 2; have hfz16_3 := blk_frozen BK159.out 3; obtain ⟨Ao17, co17, eo17⟩ := Kd.R_slice HO158.out; subst eo17) | ((with_reducible refine gate_callee (f := 15) rfl ?_); refine goesL_ (some 13) rfl rfl Try.func15 (by kernel_rfl) rfl #[.agg #[.int .i64 t153, .int .i64 t154, .int .i64 t155, .slice Ao17 t156.length co17], .int .i64 32768, .int .i64 32768] rfl (by (try simp only [List.map_toArray, List.map_cons, List.map_nil]); first | done | rfl | (simp only [List.length_drop, List.length_take]; rfl)) ?_; (with_reducible refine (relief_Height.calls k t153 t154 t155 _ _ t156 32768 32768 t160 t161 _ ?side1 ?side2 A2.out).mono ?_); (case side1 => refine (Kd.R_reads' (e := 5) (base := w.heap.size) (ok := fun k_ => True) (n := t156.length) (c := co17) ?_).2.2; exact (by (with_reducible repeat (first | apply Kd.R_alloc | apply Kd.R_drewN | apply Kd.R_drew)); exact (Kd.R_mono (Kd.R_far (p := ⟨gb159, 3, none⟩) (Kd.R_far (p := ⟨gb159, 2, none⟩) (Kd.R_far (p := ⟨gb159, 1, none⟩) (Kd.R_far (p := ⟨gb159, 0, none⟩) (Kd.R_types HO158.out BK159.out (by decide)) (fun _ hk => hk.2) (.int .i64 t153)) (fun _ hk => hk.2) (.int .i64 t154)) (fun _ hk => hk.2) (.int .i64 t155)) (fun _ hk => hk.2) (.slice Ao17 t156.length co17)) (fun _ h_ => h_.1)))); (case side2 => exact (Kd.R_reads' HO158.out).2.1); rintro e w18 ⟨rfl, hb⟩; refine ⟨_, rfl, ?_⟩; have n0_ := Aside0.mk (Kd.R_below (by (with_reducible repeat (first | apply Kd.R_alloc | apply Kd.R_drewN | apply Kd.R_drew)); exact (Kd.R_mono (Kd.R_far (p := ⟨gb159, 3, none⟩) (Kd.R_far (p := ⟨gb159, 2, none⟩) (Kd.R_far (p := ⟨gb159, 1, none⟩) (Kd.R_far (p := ⟨gb159, 0, none⟩) (Kd.R_types HO158.out BK159.out (by decide)) (fun _ hk => hk.2) (.int .i64 t153)) (fun _ hk => hk.2) (.int .i64 t154)) (fun _ hk => hk.2) (.int .i64 t155)) (fun _ hk => hk.2) (.slice Ao17 t156.length co17)) (fun _ h_ => h_.1))) hb); have n1_ := Aside0.mk (blk_below (g := gb159) (o := .cells #[.int .i64 t153, .int .i64 t154, .int .i64 t155, .slice Ao17 t156.length co17] 24 (0, 0)) (by (with_reducible repeat (first | refine blk_drewN ?_ _ | refine blk_drew ?_ | refine blk_alloc ?_ _)); refine blk_put (cs := #[.int .i64 t153, .int .i64 t154, .int .i64 t155, .slice none 0 0]) ?_ 3 _ rfl; (with_reducible repeat (first | refine blk_drewN ?_ _ | refine blk_drew ?_ | refine blk_alloc ?_ _)); refine blk_put (cs := #[.int .i64 t153, .int .i64 t154, .int .i64 0, .slice none 0 0]) ?_ 2 _ rfl; (with_reducible repeat (first | refine blk_drewN ?_ _ | refine blk_drew ?_ | refine blk_alloc ?_ _)); refine blk_put (cs := #[.int .i64 t153, .int .i64 0, .int .i64 0, .slice none 0 0]) ?_ 1 _ rfl; (with_reducible repeat (first | refine blk_drewN ?_ _ | refine blk_drew ?_ | refine blk_alloc ?_ _)); refine blk_put (cs := #[.int .i64 0, .int .i64 0, .int .i64 0, .slice none 0 0]) ?_ 0 _ rfl; (with_reducible repeat (first | refine blk_drewN ?_ _ | refine blk_drew ?_ | refine blk_alloc ?_ _)); exact BK159.out) hb); have n2_ := Aside0.mk (below_step (by repeat (first | (with_reducible first | exact HB.out | apply below_alloc | apply pw_below_drewN | apply below_drew1 | refine below_set ?_ GE159.out) | exact HB.out)) hb); clear HO158; clear BK159; clear HB; have HO158 := n0_; have BK159 := n1_; have HB := n2_; clear n0_ n1_ n2_; (try clear hb); (try clear hb2); (try clear hk); (try clear hi); have hcz19_0 : w18.cell? ⟨gb159, 0, none⟩ = some (.int .i64 t153) := (blk_cell BK159.out 0).trans rfl; have hcz19_1 : w18.cell? ⟨gb159, 1, none⟩ = some (.int .i64 t154) := (blk_cell BK159.out 1).trans rfl; have hcz19_2 : w18.cell? ⟨gb159, 2, none⟩ = some (.int .i64 t155) := (blk_cell BK159.out 2).trans rfl; have hcz19_3 : w18.cell? ⟨gb159, 3, none⟩ = some (.slice Ao17 t156.length co17) := (blk_cell BK159.out 3).trans rfl; have hfz19_0 := blk_frozen BK159.out 0; have hfz19_1 := blk_frozen BK159.out 1; have hfz19_2 := blk_frozen BK159.out 2; have hfz19_3 := blk_frozen BK159.out 3) | ((with_reducible refine gate_callee (f := 15) rfl ?_); refine goesL_ (some 18) rfl rfl Try.func15 (by kernel_rfl) rfl #[.agg #[.int .i64 t153, .int .i64 t154, .int .i64 t155, .slice Ao17 t156.length co17], .int .i64 65536, .int .i64 0] rfl (by (try simp only [List.map_toArray, List.map_cons, List.map_nil]); first | done | rfl | (simp only [List.length_drop, List.length_take]; rfl)) ?_; (with_reducible refine (relief_Height.calls k t153 t154 t155 _ _ t156 65536 0 t162 t163 _ ?side1 ?side2 A3.out).mono ?_); (case side1 => repeat (first | exact (Kd.R_reads' HO158.out).2.2 | (with_reducible refine Kd.C_alloc ?_ _) | (with_reducible refine Kd.C_drewN ?_ _) | (with_reducible refine Kd.C_drew ?_))); (case side2 => exact (Kd.R_reads' HO158.out).2.1); rintro e w20 ⟨rfl, hb⟩; refine ⟨_, rfl, ?_⟩; have n0_ := Aside0.mk (Kd.R_below (by (with_reducible repeat (first | apply Kd.R_alloc | apply Kd.R_drewN | apply Kd.R_drew)); exact HO158.out) hb); have n1_ := Aside0.mk (blk_below (g := gb159) (o := .cells #[.int .i64 t153, .int .i64 t154, .int .i64 t155, .slice Ao17 t156.length co17] 24 (0, 0)) (by (with_reducible repeat (first | refine blk_drewN ?_ _ | refine blk_drew ?_ | refine blk_alloc ?_ _)); exact BK159.out) hb); have n2_ := Aside0.mk (below_step (by repeat (first | (with_reducible first | exact HB.out | apply below_alloc | apply pw_below_drewN | apply below_drew1 | refine below_set ?_ GE159.out) | exact HB.out)) hb); clear HO158; clear BK159; clear HB; have HO158 := n0_; have BK159 := n1_; have HB := n2_; clear n0_ n1_ n2_; (try clear hb); (try clear hb2); (try clear hk); (try clear hi); have hcz21_0 : w20.cell? ⟨gb159, 0, none⟩ = some (.int .i64 t153) := (blk_cell BK159.out 0).trans rfl; have hcz21_1 : w20.cell? ⟨gb159, 1, none⟩ = some (.int .i64 t154) := (blk_cell BK159.out 1).trans rfl; have hcz21_2 : w20.cell? ⟨gb159, 2, none⟩ = some (.int .i64 t155) := (blk_cell BK159.out 2).trans rfl; have hcz21_3 : w20.cell? ⟨gb159, 3, none⟩ = some (.slice Ao17 t156.length co17) := (blk_cell BK159.out 3).trans rfl; have hfz21_0 := blk_frozen BK159.out 0; have hfz21_1 := blk_frozen BK159.out 1; have hfz21_2 := blk_frozen BK159.out 2; have hfz21_3 := blk_frozen BK159.out 3) | ((with_reducible refine gate_callee (f := 17) rfl ?_); refine goesL_ (some 23) rfl rfl Try.func17 (by kernel_rfl) rfl #[.agg #[.int .i64 t153, .int .i64 t154, .int .i64 t155, .slice Ao17 t156.length co17], .int .i64 0, .int .i64 0] rfl (by (try simp only [List.map_toArray, List.map_cons, List.map_nil]); first | done | rfl | (simp only [List.length_drop, List.length_take]; rfl)) ?_; (with_reducible refine (relief_Slope.calls k t153 t154 t155 _ _ t156 0 0 t164 t165 _ ?side1 ?side2 A4.out).mono ?_); (case side1 => repeat (first | exact (Kd.R_reads' HO158.out).2.2 | (with_reducible refine Kd.C_alloc ?_ _) | (with_reducible refine Kd.C_drewN ?_ _) | (with_reducible refine Kd.C_drew ?_))); (case side2 => exact (Kd.R_reads' HO158.out).2.1); rintro e w22 ⟨rfl, hb⟩; refine ⟨_, rfl, ?_⟩; have n0_ := Aside0.mk (Kd.R_below (by (with_reducible repeat (first | apply Kd.R_alloc | apply Kd.R_drewN | apply Kd.R_drew)); exact HO158.out) hb); have n1_ := Aside0.mk (blk_below (g := gb159) (o := .cells #[.int .i64 t153, .int .i64 t154, .int .i64 t155, .slice Ao17 t156.length co17] 24 (0, 0)) (by (with_reducible repeat (first | refine blk_drewN ?_ _ | refine blk_drew ?_ | refine blk_alloc ?_ _)); exact BK159.out) hb); have n2_ := Aside0.mk (below_step (by repeat (first | (with_reducible first | exact HB.out | apply below_alloc | apply pw_below_drewN | apply below_drew1 | refine below_set ?_ GE159.out) | exact HB.out)) hb); clear HO158; clear BK159; clear HB; have HO158 := n0_; have BK159 := n1_; have HB := n2_; clear n0_ n1_ n2_; (try clear hb); (try clear hb2); (try clear hk); (try clear hi); have hcz23_0 : w22.cell? ⟨gb159, 0, none⟩ = some (.int .i64 t153) := (blk_cell BK159.out 0).trans rfl; have hcz23_1 : w22.cell? ⟨gb159, 1, none⟩ = some (.int .i64 t154) := (blk_cell BK159.out 1).trans rfl; have hcz23_2 : w22.cell? ⟨gb159, 2, none⟩ = some (.int .i64 t155) := (blk_cell BK159.out 2).trans rfl; have hcz23_3 : w22.cell? ⟨gb159, 3, none⟩ = some (.slice Ao17 t156.length co17) := (blk_cell BK159.out 3).trans rfl; have hfz23_0 := blk_frozen BK159.out 0; have hfz23_1 := blk_frozen BK159.out 1; have hfz23_2 := blk_frozen BK159.out 2; have hfz23_3 := blk_frozen BK159.out 3) | ((with_reducible refine gate_callee (f := 18) rfl ?_); refine goesL_ (some 28) rfl rfl Try.func18 (by kernel_rfl) rfl #[.agg #[.int .i64 t153, .int .i64 t154, .int .i64 t155, .slice Ao17 t156.length co17], .int .i64 0, .int .i64 0] rfl (by (try simp only [List.map_toArray, List.map_cons, List.map_nil]); first | done | rfl | (simp only [List.length_drop, List.length_take]; rfl)) ?_; (with_reducible refine (relief_Depth.calls k t153 t154 t155 _ _ t156 0 0 t166 t167 _ ?side1 ?side2 A5.out).mono ?_); (case side1 => repeat (first | exact (Kd.R_reads' HO158.out).2.2 | (with_reducible refine Kd.C_alloc ?_ _) | (with_reducible refine Kd.C_drewN ?_ _) | (with_reducible refine Kd.C_drew ?_))); (case side2 => exact (Kd.R_reads' HO158.out).2.1); rintro e w24 ⟨rfl, hb⟩; refine ⟨_, rfl, ?_⟩; have n0_ := Aside0.mk (Kd.R_below (by (with_reducible repeat (first | apply Kd.R_alloc | apply Kd.R_drewN | apply Kd.R_drew)); exact HO158.out) hb); have n1_ := Aside0.mk (blk_below (g := gb159) (o := .cells #[.int .i64 t153, .int .i64 t154, .int .i64 t155, .slice Ao17 t156.length co17] 24 (0, 0)) (by (with_reducible repeat (first | refine blk_drewN ?_ _ | refine blk_drew ?_ | refine blk_alloc ?_ _)); exact BK159.out) hb); have n2_ := Aside0.mk (below_step (by repeat (first | (with_reducible first | exact HB.out | apply below_alloc | apply pw_below_drewN | apply below_drew1 | refine below_set ?_ GE159.out) | exact HB.out)) hb); clear HO158; clear BK159; clear HB; have HO158 := n0_; have BK159 := n1_; have HB := n2_; clear n0_ n1_ n2_; (try clear hb); (try clear hb2); (try clear hk); (try clear hi); have hcz25_0 : w24.cell? ⟨gb159, 0, none⟩ = some (.int .i64 t153) := (blk_cell BK159.out 0).trans rfl; have hcz25_1 : w24.cell? ⟨gb159, 1, none⟩ = some (.int .i64 t154) := (blk_cell BK159.out 1).trans rfl; have hcz25_2 : w24.cell? ⟨gb159, 2, none⟩ = some (.int .i64 t155) := (blk_cell BK159.out 2).trans rfl; have hcz25_3 : w24.cell? ⟨gb159, 3, none⟩ = some (.slice Ao17 t156.length co17) := (blk_cell BK159.out 3).trans rfl; have hfz25_0 := blk_frozen BK159.out 0; have hfz25_1 := blk_frozen BK159.out 1; have hfz25_2 := blk_frozen BK159.out 2; have hfz25_3 := blk_frozen BK159.out 3) | (go_at_call 23; (with_reducible refine (relief_Encode.calls k t153 t154 t155 _ _ t156 t168 _ ?side1 ?side2 A13.out).mono ?_); (case side1 => repeat (first | exact (Kd.R_reads' HO158.out).2.2 | (with_reducible refine Kd.C_alloc ?_ _) | (with_reducible refine Kd.C_drewN ?_ _) | (with_reducible refine Kd.C_drew ?_))); (case side2 => exact (Kd.R_reads' HO158.out).2.1); rintro e w26 ⟨v169, rfl, ho0, hb⟩; have n0_ := Aside0.mk (Kd.R_elder' (by (with_reducible repeat (first | apply Kd.R_alloc | apply Kd.R_drewN | apply Kd.R_drew)); exact HO158.out) (Kd.R_base ho0) hb); have n1_ := Aside0.mk (Kd.R_lower (Kd.R_new' ho0 (Kd.R_lt (by (with_reducible repeat (first | apply Kd.R_alloc | apply Kd.R_drewN | apply Kd.R_drew)); exact HO158.out))) (below_size (by repeat (first | (with_reducible first | exact HB.out | apply below_alloc | apply pw_below_drewN | apply below_drew1 | refine below_set ?_ GE159.out) | exact HB.out)))); have n2_ := Aside0.mk (blk_below (g := gb159) (o := .cells #[.int .i64 t153, .int .i64 t154, .int .i64 t155, .slice Ao17 t156.length co17] 24 (0, 0)) (by (with_reducible repeat (first | refine blk_drewN ?_ _ | refine blk_drew ?_ | refine blk_alloc ?_ _)); exact BK159.out) hb); have n3_ := Aside0.mk (below_step (by repeat (first | (with_reducible first | exact HB.out | apply below_alloc | apply pw_below_drewN | apply below_drew1 | refine below_set ?_ GE159.out) | exact HB.out)) hb); clear HO158; clear BK159; clear HB; have HO158 := n0_; have HO170 := n1_; have BK159 := n2_; have HB := n3_; clear n0_ n1_ n2_ n3_; (try clear hb); (try clear hb2); (try clear hk); (try clear hi); (try clear ho0); have hcv27 := own_string (P := Try.prog) Try.underlying22 Try.underlying5 Try.underlying9 (Kd.own_of_R HO170.out)))
        go_ret
        exact ⟨by first | rfl | (simp [errW_none, errW_some] <;> rfl) | (simp [*, errW_none, errW_some] <;> rfl) | (rw [Int.tdiv_eq_ediv_of_nonneg (by assumption)]; rfl), by repeat (first | (with_reducible first | exact HB.out | apply below_alloc | apply pw_below_drewN | apply below_drew1 | refine below_set ?_ GE159.out) | exact HB.out)⟩
       ·
        rw [if_neg c12] at H
        exact absurd H (by simp)
      ·
       rw [if_neg c11] at H
       exact absurd H (by simp)
     ·
      rw [if_neg c10] at H
      exact absurd H (by simp)
    ·
     rw [if_neg c9] at H
     exact absurd H (by simp)
   ·
    rw [if_neg c8] at H
    exact absurd H (by simp)
  ·
   rw [if_neg c7] at H
   exact absurd H (by simp)
 ·
  rw [if_neg c6] at H
  exact absurd H (by simp)

end Go.Proofs.Ytjgemjhmkmahmaa.PA
