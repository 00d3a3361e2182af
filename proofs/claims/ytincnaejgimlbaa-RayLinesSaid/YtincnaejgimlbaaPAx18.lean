-- WRITTEN BY A PROGRAM OF THIS SESSION (a turned copy of the kit's printer), for this claim. Nothing here is trusted: Lean checks it.
import Derived.Test.YtincnaejgimlbaaPAx0
import Derived.Test.YtincnaejgimlbaaPAx1
import Derived.Test.YtincnaejgimlbaaPAx4
import Derived.Test.YtincnaejgimlbaaPAx5
import Derived.Test.YtincnaejgimlbaaPAx15
import Derived.Test.YtincnaejgimlbaaPAx16
import Derived.Test.YtincnaejgimlbaaPAx17
namespace Go.Proofs.Ytincnaejgimlbaa.PA
open Go.RowKit Go.Proofs.YtincnaejgimlbaaW.PrintWords Go.Proofs.YtincnaejgimlbaaW.PrintLast Go.Proofs.YtincnaejgimlbaaW.PrintMore
attribute [local go_sem] max2_int min2_int max_two min_two max_three min_three max_four min_four   -- for this text's walks alone
set_option linter.unusedVariables false
set_option linter.unusedSimpArgs false

attribute [local go_sem high] eqA36
/-! ### bivouaclaw08_RayLines: function 3 -/
mutual
def bivouaclaw08_RayLines.j0 : Nat → List (S36) → Int → Bool → Int → Int → Int → List Int → Int → Int → Int → Int → Int → Int → Option (Bool)
  | 0, _, _, _, _, _, _, _, _, _, _, _, _, _ => none
  | k + 1, x3, x4, x42, x171000, x171001, x171002, x171003, x171004, x171005, x171006, x171007, x171008, x171009 => if x42 = true then (if (x3.length : Int) = 0 then (if x4 = 4 then ((bivouaclaw08_awake.f k).bind fun t179 => (some t179)) else (some false)) else (some false)) else ((bivouacref08_Long.f x171004 x171005 x171006 x171007).bind fun t180 => (if (x3.length : Int) = (wrap64 (t180 + 1)) then (bivouaclaw08_RayLines.j1 k x3 t180 (x4 != 0) x171000 x171001 x171002 x171003 x171004 x171005 x171006 x171007 x171008 x171009) else (bivouaclaw08_RayLines.j1 k x3 t180 true x171000 x171001 x171002 x171003 x171004 x171005 x171006 x171007 x171008 x171009)))
def bivouaclaw08_RayLines.j1 : Nat → List (S36) → Int → Bool → Int → Int → Int → List Int → Int → Int → Int → Int → Int → Int → Option (Bool)
  | 0, _, _, _, _, _, _, _, _, _, _, _, _, _ => none
  | k + 1, x3, x5, x70, x171000, x171001, x171002, x171003, x171004, x171005, x171006, x171007, x171008, x171009 => if x70 = true then (some false) else (bivouaclaw08_RayLines.l0 k x3 x5 0 x171000 x171001 x171002 x171003 x171004 x171005 x171006 x171007 x171008 x171009)
def bivouaclaw08_RayLines.l0 : Nat → List (S36) → Int → Int → Int → Int → Int → List Int → Int → Int → Int → Int → Int → Int → Option (Bool)
  | 0, _, _, _, _, _, _, _, _, _, _, _, _, _ => none
  | k + 1, x3, x5, x6, x171000, x171001, x171002, x171003, x171004, x171005, x171006, x171007, x171008, x171009 => if x6 ≤ x5 then ((bivouacref08_Cell.f x171004 x171005 x171006 x171007 x6).bind fun bt181 => (if 0 ≤ x6 then (if x6 < (x3.length : Int) then (if (!(((rd_T36 x3 x6).f0) == bt181.1) || (!(((rd_T36 x3 x6).f1) == bt181.2))) = true then (some false) else (bivouaclaw08_RayLines.l0 k x3 x5 (wrap64 (x6 + 1)) x171000 x171001 x171002 x171003 x171004 x171005 x171006 x171007 x171008 x171009)) else (none)) else (none))) else ((bivouaclaw08_awake.f k).bind fun t184 => (some t184))
end
def bivouaclaw08_RayLines.f (k : Nat) (a0_0 : Int) (a0_1 : Int) (a0_2 : Int) (l0_3 : List Int) (a0_4 : Int) (a0_5 : Int) (a0_6 : Int) (a0_7 : Int) (a0_8 : Int) (a0_9 : Int) : Option (Bool) := (ray_Line.f k a0_4 a0_5 a0_6 a0_7).bind fun bt171 => ((bivouaclaw08_in.f a0_4).bind fun t175 => (if t175 = true then ((bivouaclaw08_in.f a0_5).bind fun t176 => (if t176 = true then ((bivouaclaw08_in.f a0_6).bind fun t177 => (if t177 = true then ((bivouaclaw08_in.f a0_7).bind fun t178 => (bivouaclaw08_RayLines.j0 k bt171.1 bt171.2 (!t178) a0_0 a0_1 a0_2 l0_3 a0_4 a0_5 a0_6 a0_7 a0_8 a0_9)) else (bivouaclaw08_RayLines.j0 k bt171.1 bt171.2 true a0_0 a0_1 a0_2 l0_3 a0_4 a0_5 a0_6 a0_7 a0_8 a0_9))) else (bivouaclaw08_RayLines.j0 k bt171.1 bt171.2 true a0_0 a0_1 a0_2 l0_3 a0_4 a0_5 a0_6 a0_7 a0_8 a0_9))) else (bivouaclaw08_RayLines.j0 k bt171.1 bt171.2 true a0_0 a0_1 a0_2 l0_3 a0_4 a0_5 a0_6 a0_7 a0_8 a0_9)))
theorem bivouaclaw08_RayLines.mono_l : ∀ k, (∀ y0 y1 y2 y3 y4 y5 y6 y7 y8 y9 y10 y11 y12, LeO (bivouaclaw08_RayLines.j0 k y0 y1 y2 y3 y4 y5 y6 y7 y8 y9 y10 y11 y12) (bivouaclaw08_RayLines.j0 (k + 1) y0 y1 y2 y3 y4 y5 y6 y7 y8 y9 y10 y11 y12)) ∧ (∀ y0 y1 y2 y3 y4 y5 y6 y7 y8 y9 y10 y11 y12, LeO (bivouaclaw08_RayLines.j1 k y0 y1 y2 y3 y4 y5 y6 y7 y8 y9 y10 y11 y12) (bivouaclaw08_RayLines.j1 (k + 1) y0 y1 y2 y3 y4 y5 y6 y7 y8 y9 y10 y11 y12)) ∧ (∀ y0 y1 y2 y3 y4 y5 y6 y7 y8 y9 y10 y11 y12, LeO (bivouaclaw08_RayLines.l0 k y0 y1 y2 y3 y4 y5 y6 y7 y8 y9 y10 y11 y12) (bivouaclaw08_RayLines.l0 (k + 1) y0 y1 y2 y3 y4 y5 y6 y7 y8 y9 y10 y11 y12))
  | 0 => ⟨fun _ _ _ _ _ _ _ _ _ _ _ _ _ r h => by simp [bivouaclaw08_RayLines.j0] at h, fun _ _ _ _ _ _ _ _ _ _ _ _ _ r h => by simp [bivouaclaw08_RayLines.j1] at h, fun _ _ _ _ _ _ _ _ _ _ _ _ _ r h => by simp [bivouaclaw08_RayLines.l0] at h⟩
  | k + 1 => by
    obtain ⟨ih0, ih1, ih2⟩ := bivouaclaw08_RayLines.mono_l k
    refine ⟨?_, ?_, ?_⟩
    · intro y0 y1 y2 y3 y4 y5 y6 y7 y8 y9 y10 y11 y12
      unfold bivouaclaw08_RayLines.j0
      repeat' first
      | (with_reducible exact ih0 _ _ _ _ _ _ _ _ _ _ _ _ _)
      | (with_reducible exact ih1 _ _ _ _ _ _ _ _ _ _ _ _ _)
      | (with_reducible exact ih2 _ _ _ _ _ _ _ _ _ _ _ _ _)
      | (with_reducible exact bivouaclaw08_awake.mono _)
      | (with_reducible exact ray_Line.mono _ _ _ _ _)
      | (with_reducible exact LeO.refl _)
      | (with_reducible exact LeO.none _)
      | (with_reducible refine LeO.ite ?_ ?_)
      | (with_reducible refine LeO.bind ?_ (fun _ => ?_))
      | exact ih0 _ _ _ _ _ _ _ _ _ _ _ _ _
      | exact ih1 _ _ _ _ _ _ _ _ _ _ _ _ _
      | exact ih2 _ _ _ _ _ _ _ _ _ _ _ _ _
      | exact bivouaclaw08_awake.mono _
      | exact ray_Line.mono _ _ _ _ _
      | exact LeO.none _
      | refine LeO.ite ?_ ?_
      | refine LeO.bind ?_ (fun _ => ?_)
    · intro y0 y1 y2 y3 y4 y5 y6 y7 y8 y9 y10 y11 y12
      unfold bivouaclaw08_RayLines.j1
      repeat' first
      | (with_reducible exact ih0 _ _ _ _ _ _ _ _ _ _ _ _ _)
      | (with_reducible exact ih1 _ _ _ _ _ _ _ _ _ _ _ _ _)
      | (with_reducible exact ih2 _ _ _ _ _ _ _ _ _ _ _ _ _)
      | (with_reducible exact bivouaclaw08_awake.mono _)
      | (with_reducible exact ray_Line.mono _ _ _ _ _)
      | (with_reducible exact LeO.refl _)
      | (with_reducible exact LeO.none _)
      | (with_reducible refine LeO.ite ?_ ?_)
      | (with_reducible refine LeO.bind ?_ (fun _ => ?_))
      | exact ih0 _ _ _ _ _ _ _ _ _ _ _ _ _
      | exact ih1 _ _ _ _ _ _ _ _ _ _ _ _ _
      | exact ih2 _ _ _ _ _ _ _ _ _ _ _ _ _
      | exact bivouaclaw08_awake.mono _
      | exact ray_Line.mono _ _ _ _ _
      | exact LeO.none _
      | refine LeO.ite ?_ ?_
      | refine LeO.bind ?_ (fun _ => ?_)
    · intro y0 y1 y2 y3 y4 y5 y6 y7 y8 y9 y10 y11 y12
      unfold bivouaclaw08_RayLines.l0
      repeat' first
      | (with_reducible exact ih0 _ _ _ _ _ _ _ _ _ _ _ _ _)
      | (with_reducible exact ih1 _ _ _ _ _ _ _ _ _ _ _ _ _)
      | (with_reducible exact ih2 _ _ _ _ _ _ _ _ _ _ _ _ _)
      | (with_reducible exact bivouaclaw08_awake.mono _)
      | (with_reducible exact ray_Line.mono _ _ _ _ _)
      | (with_reducible exact LeO.refl _)
      | (with_reducible exact LeO.none _)
      | (with_reducible refine LeO.ite ?_ ?_)
      | (with_reducible refine LeO.bind ?_ (fun _ => ?_))
      | exact ih0 _ _ _ _ _ _ _ _ _ _ _ _ _
      | exact ih1 _ _ _ _ _ _ _ _ _ _ _ _ _
      | exact ih2 _ _ _ _ _ _ _ _ _ _ _ _ _
      | exact bivouaclaw08_awake.mono _
      | exact ray_Line.mono _ _ _ _ _
      | exact LeO.none _
      | refine LeO.ite ?_ ?_
      | refine LeO.bind ?_ (fun _ => ?_)
theorem bivouaclaw08_RayLines.mono : ∀ a0 a1 a2 a3 a4 a5 a6 a7 a8 a9 k, LeO (bivouaclaw08_RayLines.f k a0 a1 a2 a3 a4 a5 a6 a7 a8 a9) (bivouaclaw08_RayLines.f (k + 1) a0 a1 a2 a3 a4 a5 a6 a7 a8 a9) := by
  intro a0 a1 a2 a3 a4 a5 a6 a7 a8 a9 k
  obtain ⟨ih0, ih1, ih2⟩ := bivouaclaw08_RayLines.mono_l k
  unfold bivouaclaw08_RayLines.f
  repeat' first
      | (with_reducible exact ih0 _ _ _ _ _ _ _ _ _ _ _ _ _)
      | (with_reducible exact ih1 _ _ _ _ _ _ _ _ _ _ _ _ _)
      | (with_reducible exact ih2 _ _ _ _ _ _ _ _ _ _ _ _ _)
      | (with_reducible exact bivouaclaw08_awake.mono _)
      | (with_reducible exact ray_Line.mono _ _ _ _ _)
      | (with_reducible exact LeO.refl _)
      | (with_reducible exact LeO.none _)
      | (with_reducible refine LeO.ite ?_ ?_)
      | (with_reducible refine LeO.bind ?_ (fun _ => ?_))
      | exact ih0 _ _ _ _ _ _ _ _ _ _ _ _ _
      | exact ih1 _ _ _ _ _ _ _ _ _ _ _ _ _
      | exact ih2 _ _ _ _ _ _ _ _ _ _ _ _ _
      | exact bivouaclaw08_awake.mono _
      | exact ray_Line.mono _ _ _ _ _
      | exact LeO.none _
      | refine LeO.ite ?_ ?_
      | refine LeO.bind ?_ (fun _ => ?_)
set_option maxHeartbeats 8000000 in
set_option maxRecDepth 100000 in
theorem bivouaclaw08_RayLines.calls (k : Nat) (a0_0 : Int) (a0_1 : Int) (a0_2 : Int) (A0_3 : Option Addr) (c0_3 : Nat) (l0_3 : List Int) (a0_4 : Int) (a0_5 : Int) (a0_6 : Int) (a0_7 : Int) (a0_8 : Int) (a0_9 : Int) (r : Bool) (w : World) (hr0_3 : Kd.C (Kd.int .u8) w A0_3 l0_3.length l0_3) (hc0_3 : l0_3.length ≤ c0_3) (h : bivouaclaw08_RayLines.f k a0_0 a0_1 a0_2 l0_3 a0_4 a0_5 a0_6 a0_7 a0_8 a0_9 = some r) :
    Calls Try.prog 3 #[.agg #[.int .i64 a0_0, .int .i64 a0_1, .int .i64 a0_2, .slice A0_3 l0_3.length c0_3, .int .i64 a0_4, .int .i64 a0_5, .int .i64 a0_6, .int .i64 a0_7, .int .i64 a0_8, .int .i64 a0_9]] w fun e w' => e = .returned (.bool r) ∧ Below w.heap.size w w' := by
  have hu26 := Try.underlying26
  have hu36 := Try.underlying36
  have HR0_3 := Aside0.mk hr0_3
  have HC0_3 := Aside0.mk hc0_3
  clear hr0_3 hc0_3
  have HB := Aside0.mk (Below.refl w.heap.size w)
  have H : ((ray_Line.f k a0_4 a0_5 a0_6 a0_7).bind fun bt171 => ((bivouaclaw08_in.f a0_4).bind fun t175 => (if t175 = true then ((bivouaclaw08_in.f a0_5).bind fun t176 => (if t176 = true then ((bivouaclaw08_in.f a0_6).bind fun t177 => (if t177 = true then ((bivouaclaw08_in.f a0_7).bind fun t178 => (bivouaclaw08_RayLines.j0 k bt171.1 bt171.2 (!t178) a0_0 a0_1 a0_2 l0_3 a0_4 a0_5 a0_6 a0_7 a0_8 a0_9)) else (bivouaclaw08_RayLines.j0 k bt171.1 bt171.2 true a0_0 a0_1 a0_2 l0_3 a0_4 a0_5 a0_6 a0_7 a0_8 a0_9))) else (bivouaclaw08_RayLines.j0 k bt171.1 bt171.2 true a0_0 a0_1 a0_2 l0_3 a0_4 a0_5 a0_6 a0_7 a0_8 a0_9))) else (bivouaclaw08_RayLines.j0 k bt171.1 bt171.2 true a0_0 a0_1 a0_2 l0_3 a0_4 a0_5 a0_6 a0_7 a0_8 a0_9)))) = some r := h
  clear h
  replace H := Option.bind_eq_some_iff.mp H
  obtain ⟨⟨t171, t172⟩, A20, H⟩ := H
  replace H : ((bivouaclaw08_in.f a0_4).bind fun t175 => (if t175 = true then ((bivouaclaw08_in.f a0_5).bind fun t176 => (if t176 = true then ((bivouaclaw08_in.f a0_6).bind fun t177 => (if t177 = true then ((bivouaclaw08_in.f a0_7).bind fun t178 => (bivouaclaw08_RayLines.j0 k t171 t172 (!t178) a0_0 a0_1 a0_2 l0_3 a0_4 a0_5 a0_6 a0_7 a0_8 a0_9)) else (bivouaclaw08_RayLines.j0 k t171 t172 true a0_0 a0_1 a0_2 l0_3 a0_4 a0_5 a0_6 a0_7 a0_8 a0_9))) else (bivouaclaw08_RayLines.j0 k t171 t172 true a0_0 a0_1 a0_2 l0_3 a0_4 a0_5 a0_6 a0_7 a0_8 a0_9))) else (bivouaclaw08_RayLines.j0 k t171 t172 true a0_0 a0_1 a0_2 l0_3 a0_4 a0_5 a0_6 a0_7 a0_8 a0_9))) = some r := H
  have A2 := Aside0.mk A20
  clear A20
  have HC3 := Aside0.mk H
  clear H
  go_enter Try.func3, Try.ntmps3
  go_upto_region 2 with (first | ((with_reducible refine gate_dst (N := 1) rfl ?_); refine box_event ?hg (N := 1) ?hd (cs := #[.int .i64 a0_0, .int .i64 a0_1, .int .i64 a0_2, .slice A0_3 l0_3.length c0_3, .int .i64 a0_4, .int .i64 a0_5, .int .i64 a0_6, .int .i64 a0_7, .int .i64 a0_8, .int .i64 a0_9]) (t := 26) ?hr ?_; (case hd => rfl); (case hg => rfl); (case hr => first | (go_simp; done) | (go_simp; rfl)); intro gb170 hg w4 hbox hb; have n0_ := Aside0.mk (below_step (by repeat (first | (with_reducible first | exact HB.out | apply below_alloc | apply pw_below_drewN | apply below_drew1) | exact HB.out)) hb); have n1_ := Aside0.mk (hbox); have n2_ := Aside0.mk ((by rw [hg]; exact (below_size (by repeat (first | (with_reducible first | exact HB.out | apply below_alloc | apply pw_below_drewN | apply below_drew1) | exact HB.out))) : w.heap.size ≤ gb170)); have n3_ := Aside0.mk ((by rw [hg]; exact (below_size (by repeat (first | (with_reducible first | exact HB.out | apply below_alloc | apply pw_below_drewN | apply below_drew1) | exact HB.out))) : w.heap.size ≤ gb170)); clear HB; have HB := n0_; have BK170 := n1_; have GW170 := n2_; have GE170 := n3_; clear n0_ n1_ n2_ n3_; clear hb hbox hg; have hcz5_0 : w4.cell? ⟨gb170, 0, none⟩ = some (.int .i64 a0_0) := (blk_cell BK170.out 0).trans rfl; have hcz5_1 : w4.cell? ⟨gb170, 1, none⟩ = some (.int .i64 a0_1) := (blk_cell BK170.out 1).trans rfl; have hcz5_2 : w4.cell? ⟨gb170, 2, none⟩ = some (.int .i64 a0_2) := (blk_cell BK170.out 2).trans rfl; have hcz5_3 : w4.cell? ⟨gb170, 3, none⟩ = some (.slice A0_3 l0_3.length c0_3) := (blk_cell BK170.out 3).trans rfl; have hcz5_4 : w4.cell? ⟨gb170, 4, none⟩ = some (.int .i64 a0_4) := (blk_cell BK170.out 4).trans rfl; have hcz5_5 : w4.cell? ⟨gb170, 5, none⟩ = some (.int .i64 a0_5) := (blk_cell BK170.out 5).trans rfl; have hcz5_6 : w4.cell? ⟨gb170, 6, none⟩ = some (.int .i64 a0_6) := (blk_cell BK170.out 6).trans rfl; have hcz5_7 : w4.cell? ⟨gb170, 7, none⟩ = some (.int .i64 a0_7) := (blk_cell BK170.out 7).trans rfl; have hcz5_8 : w4.cell? ⟨gb170, 8, none⟩ = some (.int .i64 a0_8) := (blk_cell BK170.out 8).trans rfl; have hcz5_9 : w4.cell? ⟨gb170, 9, none⟩ = some (.int .i64 a0_9) := (blk_cell BK170.out 9).trans rfl; have hfz5_0 := blk_frozen BK170.out 0; have hfz5_1 := blk_frozen BK170.out 1; have hfz5_2 := blk_frozen BK170.out 2; have hfz5_3 := blk_frozen BK170.out 3; have hfz5_4 := blk_frozen BK170.out 4; have hfz5_5 := blk_frozen BK170.out 5; have hfz5_6 := blk_frozen BK170.out 6; have hfz5_7 := blk_frozen BK170.out 7; have hfz5_8 := blk_frozen BK170.out 8; have hfz5_9 := blk_frozen BK170.out 9) | ((with_reducible refine gate_callee (f := 9) rfl ?_); refine goesL_ (some 18) rfl rfl Try.func9 (by kernel_rfl) rfl #[.int .i64 a0_4, .int .i64 a0_5, .int .i64 a0_6, .int .i64 a0_7] rfl (by (try simp only [List.map_toArray, List.map_cons, List.map_nil]); first | done | rfl | (simp only [List.length_drop, List.length_take]; rfl)) ?_; (with_reducible refine (ray_Line.calls k a0_4 a0_5 a0_6 a0_7 t171 t172 _ A2.out).mono ?_); rintro e w6 ⟨v173, rfl, ho0, hb⟩; refine ⟨_, rfl, ?_⟩; have n0_ := Aside0.mk (Kd.R_lower ho0 (below_size (by repeat (first | (with_reducible first | exact HB.out | apply below_alloc | apply pw_below_drewN | apply below_drew1 | refine below_set ?_ GE170.out) | exact HB.out)))); have n1_ := Aside0.mk (blk_below (g := gb170) (o := .cells #[.int .i64 a0_0, .int .i64 a0_1, .int .i64 a0_2, .slice A0_3 l0_3.length c0_3, .int .i64 a0_4, .int .i64 a0_5, .int .i64 a0_6, .int .i64 a0_7, .int .i64 a0_8, .int .i64 a0_9] 26 (0, 0)) (by (with_reducible repeat (first | refine blk_drewN ?_ _ | refine blk_drew ?_ | refine blk_alloc ?_ _)); exact BK170.out) hb); have n2_ := Aside0.mk (below_step (by repeat (first | (with_reducible first | exact HB.out | apply below_alloc | apply pw_below_drewN | apply below_drew1 | refine below_set ?_ GE170.out) | exact HB.out)) hb); clear BK170; clear HB; have HO174 := n0_; have BK170 := n1_; have HB := n2_; clear n0_ n1_ n2_; (try clear hb); (try clear hb2); (try clear hk); (try clear hi); (try clear ho0)))
  (try simp only [Act.put, List.setIfInBounds_toArray, List.set_cons_zero, List.set_cons_succ])
  go_cut [42] (fun v42 wc => ∃ (kq : Nat) (x42_2 : Bool), v42 = .bool x42_2 ∧ Aside0 (bivouaclaw08_RayLines.j0 kq t171 t172 x42_2 a0_0 a0_1 a0_2 l0_3 a0_4 a0_5 a0_6 a0_7 a0_8 a0_9 = some r) ∧ Aside0 (kq ≤ k) ∧ Aside0 (Kd.R k36 36 wc w.heap.size (fun _ => True) v173 t171) ∧ Aside0 (wc.heap[gb170]? = some (.cells #[.int .i64 a0_0, .int .i64 a0_1, .int .i64 a0_2, (.slice A0_3 l0_3.length c0_3), .int .i64 a0_4, .int .i64 a0_5, .int .i64 a0_6, .int .i64 a0_7, .int .i64 a0_8, .int .i64 a0_9] 26 (0, 0))) ∧ Aside0 (Below w.heap.size w wc))
  case first =>
    have H := HC3.out
    clear HC3
    replace H := Option.bind_eq_some_iff.mp H
    obtain ⟨t175, A70, H⟩ := H
    replace H : (if t175 = true then ((bivouaclaw08_in.f a0_5).bind fun t176 => (if t176 = true then ((bivouaclaw08_in.f a0_6).bind fun t177 => (if t177 = true then ((bivouaclaw08_in.f a0_7).bind fun t178 => (bivouaclaw08_RayLines.j0 k t171 t172 (!t178) a0_0 a0_1 a0_2 l0_3 a0_4 a0_5 a0_6 a0_7 a0_8 a0_9)) else (bivouaclaw08_RayLines.j0 k t171 t172 true a0_0 a0_1 a0_2 l0_3 a0_4 a0_5 a0_6 a0_7 a0_8 a0_9))) else (bivouaclaw08_RayLines.j0 k t171 t172 true a0_0 a0_1 a0_2 l0_3 a0_4 a0_5 a0_6 a0_7 a0_8 a0_9))) else (bivouaclaw08_RayLines.j0 k t171 t172 true a0_0 a0_1 a0_2 l0_3 a0_4 a0_5 a0_6 a0_7 a0_8 a0_9)) = some r := H
    have A7 := Aside0.mk A70
    clear A70
    by_cases c8 : t175 = true
    · subst c8
      have H1 : ((bivouaclaw08_in.f a0_5).bind fun t176 => (if t176 = true then ((bivouaclaw08_in.f a0_6).bind fun t177 => (if t177 = true then ((bivouaclaw08_in.f a0_7).bind fun t178 => (bivouaclaw08_RayLines.j0 k t171 t172 (!t178) a0_0 a0_1 a0_2 l0_3 a0_4 a0_5 a0_6 a0_7 a0_8 a0_9)) else (bivouaclaw08_RayLines.j0 k t171 t172 true a0_0 a0_1 a0_2 l0_3 a0_4 a0_5 a0_6 a0_7 a0_8 a0_9))) else (bivouaclaw08_RayLines.j0 k t171 t172 true a0_0 a0_1 a0_2 l0_3 a0_4 a0_5 a0_6 a0_7 a0_8 a0_9))) = some r := by rw [if_pos rfl] at H; exact H
      clear H
      have H := H1
      clear H1
      replace H := Option.bind_eq_some_iff.mp H
      obtain ⟨t176, A90, H⟩ := H
      replace H : (if t176 = true then ((bivouaclaw08_in.f a0_6).bind fun t177 => (if t177 = true then ((bivouaclaw08_in.f a0_7).bind fun t178 => (bivouaclaw08_RayLines.j0 k t171 t172 (!t178) a0_0 a0_1 a0_2 l0_3 a0_4 a0_5 a0_6 a0_7 a0_8 a0_9)) else (bivouaclaw08_RayLines.j0 k t171 t172 true a0_0 a0_1 a0_2 l0_3 a0_4 a0_5 a0_6 a0_7 a0_8 a0_9))) else (bivouaclaw08_RayLines.j0 k t171 t172 true a0_0 a0_1 a0_2 l0_3 a0_4 a0_5 a0_6 a0_7 a0_8 a0_9)) = some r := H
      have A9 := Aside0.mk A90
      clear A90
      by_cases c10 : t176 = true
      · subst c10
        have H1 : ((bivouaclaw08_in.f a0_6).bind fun t177 => (if t177 = true then ((bivouaclaw08_in.f a0_7).bind fun t178 => (bivouaclaw08_RayLines.j0 k t171 t172 (!t178) a0_0 a0_1 a0_2 l0_3 a0_4 a0_5 a0_6 a0_7 a0_8 a0_9)) else (bivouaclaw08_RayLines.j0 k t171 t172 true a0_0 a0_1 a0_2 l0_3 a0_4 a0_5 a0_6 a0_7 a0_8 a0_9))) = some r := by rw [if_pos rfl] at H; exact H
        clear H
        have H := H1
        clear H1
        replace H := Option.bind_eq_some_iff.mp H
        obtain ⟨t177, A110, H⟩ := H
        replace H : (if t177 = true then ((bivouaclaw08_in.f a0_7).bind fun t178 => (bivouaclaw08_RayLines.j0 k t171 t172 (!t178) a0_0 a0_1 a0_2 l0_3 a0_4 a0_5 a0_6 a0_7 a0_8 a0_9)) else (bivouaclaw08_RayLines.j0 k t171 t172 true a0_0 a0_1 a0_2 l0_3 a0_4 a0_5 a0_6 a0_7 a0_8 a0_9)) = some r := H
        have A11 := Aside0.mk A110
        clear A110
        by_cases c12 : t177 = true
        · subst c12
          have H1 : ((bivouaclaw08_in.f a0_7).bind fun t178 => (bivouaclaw08_RayLines.j0 k t171 t172 (!t178) a0_0 a0_1 a0_2 l0_3 a0_4 a0_5 a0_6 a0_7 a0_8 a0_9)) = some r := by rw [if_pos rfl] at H; exact H
          clear H
          have H := H1
          clear H1
          replace H := Option.bind_eq_some_iff.mp H
          obtain ⟨t178, A130, H⟩ := H
          replace H : (bivouaclaw08_RayLines.j0 k t171 t172 (!t178) a0_0 a0_1 a0_2 l0_3 a0_4 a0_5 a0_6 a0_7 a0_8 a0_9) = some r := H
          have A13 := Aside0.mk A130
          clear A130
          have H' := Aside0.mk H
          clear H
          have hcz14_0 : w6.cell? ⟨gb170, 0, none⟩ = some (.int .i64 a0_0) := (blk_cell BK170.out 0).trans rfl
          have hcz14_1 : w6.cell? ⟨gb170, 1, none⟩ = some (.int .i64 a0_1) := (blk_cell BK170.out 1).trans rfl
          have hcz14_2 : w6.cell? ⟨gb170, 2, none⟩ = some (.int .i64 a0_2) := (blk_cell BK170.out 2).trans rfl
          have hcz14_3 : w6.cell? ⟨gb170, 3, none⟩ = some (.slice A0_3 l0_3.length c0_3) := (blk_cell BK170.out 3).trans rfl
          have hcz14_4 : w6.cell? ⟨gb170, 4, none⟩ = some (.int .i64 a0_4) := (blk_cell BK170.out 4).trans rfl
          have hcz14_5 : w6.cell? ⟨gb170, 5, none⟩ = some (.int .i64 a0_5) := (blk_cell BK170.out 5).trans rfl
          have hcz14_6 : w6.cell? ⟨gb170, 6, none⟩ = some (.int .i64 a0_6) := (blk_cell BK170.out 6).trans rfl
          have hcz14_7 : w6.cell? ⟨gb170, 7, none⟩ = some (.int .i64 a0_7) := (blk_cell BK170.out 7).trans rfl
          have hcz14_8 : w6.cell? ⟨gb170, 8, none⟩ = some (.int .i64 a0_8) := (blk_cell BK170.out 8).trans rfl
          have hcz14_9 : w6.cell? ⟨gb170, 9, none⟩ = some (.int .i64 a0_9) := (blk_cell BK170.out 9).trans rfl
          have hfz14_0 := blk_frozen BK170.out 0
          have hfz14_1 := blk_frozen BK170.out 1
          have hfz14_2 := blk_frozen BK170.out 2
          have hfz14_3 := blk_frozen BK170.out 3
          have hfz14_4 := blk_frozen BK170.out 4
          have hfz14_5 := blk_frozen BK170.out 5
          have hfz14_6 := blk_frozen BK170.out 6
          have hfz14_7 := blk_frozen BK170.out 7
          have hfz14_8 := blk_frozen BK170.out 8
          have hfz14_9 := blk_frozen BK170.out 9
          go_wp2_with (first | ((with_reducible refine gate_callee (f := 10) rfl ?_); refine goesL_ (some 23) rfl rfl Try.func10 (by kernel_rfl) rfl #[.int .i64 a0_4] rfl (by (try simp only [List.map_toArray, List.map_cons, List.map_nil]); first | done | rfl | (simp only [List.length_drop, List.length_take]; rfl)) ?_; (with_reducible refine (bivouaclaw08_in.calls a0_4 true _ A7.out).mono ?_); rintro e w' ⟨rfl, ⟨nd, rfl⟩⟩; refine ⟨_, rfl, ?_⟩) | (go_at_call 10; (with_reducible refine (bivouaclaw08_in.calls a0_5 true _ A9.out).mono ?_); rintro e w' ⟨rfl, ⟨nd, rfl⟩⟩) | (go_at_call 10; (with_reducible refine (bivouaclaw08_in.calls a0_6 true _ A11.out).mono ?_); rintro e w' ⟨rfl, ⟨nd, rfl⟩⟩) | (go_at_call 10; (with_reducible refine (bivouaclaw08_in.calls a0_7 t178 _ A13.out).mono ?_); rintro e w' ⟨rfl, ⟨nd, rfl⟩⟩))
          go_meet
          case rel => exact ⟨_, (!t178), (by first | rfl | (simp; done) | (simp [*]; done)), H', ⟨by first | omega | exact Nat.le_refl _⟩, ⟨by (with_reducible repeat (first | apply Kd.R_alloc | apply Kd.R_drewN | apply Kd.R_drew)); exact HO174.out⟩, ⟨by (with_reducible repeat (first | refine blk_drewN ?_ _ | refine blk_drew ?_ | refine blk_alloc ?_ _)); exact BK170.out⟩, ⟨by repeat (first | (with_reducible first | exact HB.out | apply below_alloc | apply pw_below_drewN | apply below_drew1 | refine below_set ?_ GE170.out) | exact HB.out)⟩⟩
        · replace c12 := Bool.eq_false_iff.mpr c12
          subst c12
          have H1 : (bivouaclaw08_RayLines.j0 k t171 t172 true a0_0 a0_1 a0_2 l0_3 a0_4 a0_5 a0_6 a0_7 a0_8 a0_9) = some r := by rw [if_neg (show ¬ (false = true) by decide)] at H; exact H
          clear H
          have H := H1
          clear H1
          have H' := Aside0.mk H
          clear H
          have hcz15_0 : w6.cell? ⟨gb170, 0, none⟩ = some (.int .i64 a0_0) := (blk_cell BK170.out 0).trans rfl
          have hcz15_1 : w6.cell? ⟨gb170, 1, none⟩ = some (.int .i64 a0_1) := (blk_cell BK170.out 1).trans rfl
          have hcz15_2 : w6.cell? ⟨gb170, 2, none⟩ = some (.int .i64 a0_2) := (blk_cell BK170.out 2).trans rfl
          have hcz15_3 : w6.cell? ⟨gb170, 3, none⟩ = some (.slice A0_3 l0_3.length c0_3) := (blk_cell BK170.out 3).trans rfl
          have hcz15_4 : w6.cell? ⟨gb170, 4, none⟩ = some (.int .i64 a0_4) := (blk_cell BK170.out 4).trans rfl
          have hcz15_5 : w6.cell? ⟨gb170, 5, none⟩ = some (.int .i64 a0_5) := (blk_cell BK170.out 5).trans rfl
          have hcz15_6 : w6.cell? ⟨gb170, 6, none⟩ = some (.int .i64 a0_6) := (blk_cell BK170.out 6).trans rfl
          have hcz15_7 : w6.cell? ⟨gb170, 7, none⟩ = some (.int .i64 a0_7) := (blk_cell BK170.out 7).trans rfl
          have hcz15_8 : w6.cell? ⟨gb170, 8, none⟩ = some (.int .i64 a0_8) := (blk_cell BK170.out 8).trans rfl
          have hcz15_9 : w6.cell? ⟨gb170, 9, none⟩ = some (.int .i64 a0_9) := (blk_cell BK170.out 9).trans rfl
          have hfz15_0 := blk_frozen BK170.out 0
          have hfz15_1 := blk_frozen BK170.out 1
          have hfz15_2 := blk_frozen BK170.out 2
          have hfz15_3 := blk_frozen BK170.out 3
          have hfz15_4 := blk_frozen BK170.out 4
          have hfz15_5 := blk_frozen BK170.out 5
          have hfz15_6 := blk_frozen BK170.out 6
          have hfz15_7 := blk_frozen BK170.out 7
          have hfz15_8 := blk_frozen BK170.out 8
          have hfz15_9 := blk_frozen BK170.out 9
          go_wp2_with (first | ((with_reducible refine gate_callee (f := 10) rfl ?_); refine goesL_ (some 23) rfl rfl Try.func10 (by kernel_rfl) rfl #[.int .i64 a0_4] rfl (by (try simp only [List.map_toArray, List.map_cons, List.map_nil]); first | done | rfl | (simp only [List.length_drop, List.length_take]; rfl)) ?_; (with_reducible refine (bivouaclaw08_in.calls a0_4 true _ A7.out).mono ?_); rintro e w' ⟨rfl, ⟨nd, rfl⟩⟩; refine ⟨_, rfl, ?_⟩) | (go_at_call 10; (with_reducible refine (bivouaclaw08_in.calls a0_5 true _ A9.out).mono ?_); rintro e w' ⟨rfl, ⟨nd, rfl⟩⟩) | (go_at_call 10; (with_reducible refine (bivouaclaw08_in.calls a0_6 false _ A11.out).mono ?_); rintro e w' ⟨rfl, ⟨nd, rfl⟩⟩))
          go_meet
          case rel => exact ⟨_, (true), (by first | rfl | (simp; done) | (simp [*]; done)), H', ⟨by first | omega | exact Nat.le_refl _⟩, ⟨by (with_reducible repeat (first | apply Kd.R_alloc | apply Kd.R_drewN | apply Kd.R_drew)); exact HO174.out⟩, ⟨by (with_reducible repeat (first | refine blk_drewN ?_ _ | refine blk_drew ?_ | refine blk_alloc ?_ _)); exact BK170.out⟩, ⟨by repeat (first | (with_reducible first | exact HB.out | apply below_alloc | apply pw_below_drewN | apply below_drew1 | refine below_set ?_ GE170.out) | exact HB.out)⟩⟩
      · replace c10 := Bool.eq_false_iff.mpr c10
        subst c10
        have H1 : (bivouaclaw08_RayLines.j0 k t171 t172 true a0_0 a0_1 a0_2 l0_3 a0_4 a0_5 a0_6 a0_7 a0_8 a0_9) = some r := by rw [if_neg (show ¬ (false = true) by decide)] at H; exact H
        clear H
        have H := H1
        clear H1
        have H' := Aside0.mk H
        clear H
        have hcz16_0 : w6.cell? ⟨gb170, 0, none⟩ = some (.int .i64 a0_0) := (blk_cell BK170.out 0).trans rfl
        have hcz16_1 : w6.cell? ⟨gb170, 1, none⟩ = some (.int .i64 a0_1) := (blk_cell BK170.out 1).trans rfl
        have hcz16_2 : w6.cell? ⟨gb170, 2, none⟩ = some (.int .i64 a0_2) := (blk_cell BK170.out 2).trans rfl
        have hcz16_3 : w6.cell? ⟨gb170, 3, none⟩ = some (.slice A0_3 l0_3.length c0_3) := (blk_cell BK170.out 3).trans rfl
        have hcz16_4 : w6.cell? ⟨gb170, 4, none⟩ = some (.int .i64 a0_4) := (blk_cell BK170.out 4).trans rfl
        have hcz16_5 : w6.cell? ⟨gb170, 5, none⟩ = some (.int .i64 a0_5) := (blk_cell BK170.out 5).trans rfl
        have hcz16_6 : w6.cell? ⟨gb170, 6, none⟩ = some (.int .i64 a0_6) := (blk_cell BK170.out 6).trans rfl
        have hcz16_7 : w6.cell? ⟨gb170, 7, none⟩ = some (.int .i64 a0_7) := (blk_cell BK170.out 7).trans rfl
        have hcz16_8 : w6.cell? ⟨gb170, 8, none⟩ = some (.int .i64 a0_8) := (blk_cell BK170.out 8).trans rfl
        have hcz16_9 : w6.cell? ⟨gb170, 9, none⟩ = some (.int .i64 a0_9) := (blk_cell BK170.out 9).trans rfl
        have hfz16_0 := blk_frozen BK170.out 0
        have hfz16_1 := blk_frozen BK170.out 1
        have hfz16_2 := blk_frozen BK170.out 2
        have hfz16_3 := blk_frozen BK170.out 3
        have hfz16_4 := blk_frozen BK170.out 4
        have hfz16_5 := blk_frozen BK170.out 5
        have hfz16_6 := blk_frozen BK170.out 6
        have hfz16_7 := blk_frozen BK170.out 7
        have hfz16_8 := blk_frozen BK170.out 8
        have hfz16_9 := blk_frozen BK170.out 9
        go_wp2_with (first | ((with_reducible refine gate_callee (f := 10) rfl ?_); refine goesL_ (some 23) rfl rfl Try.func10 (by kernel_rfl) rfl #[.int .i64 a0_4] rfl (by (try simp only [List.map_toArray, List.map_cons, List.map_nil]); first | done | rfl | (simp only [List.length_drop, List.length_take]; rfl)) ?_; (with_reducible refine (bivouaclaw08_in.calls a0_4 true _ A7.out).mono ?_); rintro e w' ⟨rfl, ⟨nd, rfl⟩⟩; refine ⟨_, rfl, ?_⟩) | (go_at_call 10; (with_reducible refine (bivouaclaw08_in.calls a0_5 false _ A9.out).mono ?_); rintro e w' ⟨rfl, ⟨nd, rfl⟩⟩))
        go_meet
        case rel => exact ⟨_, (true), (by first | rfl | (simp; done) | (simp [*]; done)), H', ⟨by first | omega | exact Nat.le_refl _⟩, ⟨by (with_reducible repeat (first | apply Kd.R_alloc | apply Kd.R_drewN | apply Kd.R_drew)); exact HO174.out⟩, ⟨by (with_reducible repeat (first | refine blk_drewN ?_ _ | refine blk_drew ?_ | refine blk_alloc ?_ _)); exact BK170.out⟩, ⟨by repeat (first | (with_reducible first | exact HB.out | apply below_alloc | apply pw_below_drewN | apply below_drew1 | refine below_set ?_ GE170.out) | exact HB.out)⟩⟩
    · replace c8 := Bool.eq_false_iff.mpr c8
      subst c8
      have H1 : (bivouaclaw08_RayLines.j0 k t171 t172 true a0_0 a0_1 a0_2 l0_3 a0_4 a0_5 a0_6 a0_7 a0_8 a0_9) = some r := by rw [if_neg (show ¬ (false = true) by decide)] at H; exact H
      clear H
      have H := H1
      clear H1
      have H' := Aside0.mk H
      clear H
      have hcz17_0 : w6.cell? ⟨gb170, 0, none⟩ = some (.int .i64 a0_0) := (blk_cell BK170.out 0).trans rfl
      have hcz17_1 : w6.cell? ⟨gb170, 1, none⟩ = some (.int .i64 a0_1) := (blk_cell BK170.out 1).trans rfl
      have hcz17_2 : w6.cell? ⟨gb170, 2, none⟩ = some (.int .i64 a0_2) := (blk_cell BK170.out 2).trans rfl
      have hcz17_3 : w6.cell? ⟨gb170, 3, none⟩ = some (.slice A0_3 l0_3.length c0_3) := (blk_cell BK170.out 3).trans rfl
      have hcz17_4 : w6.cell? ⟨gb170, 4, none⟩ = some (.int .i64 a0_4) := (blk_cell BK170.out 4).trans rfl
      have hcz17_5 : w6.cell? ⟨gb170, 5, none⟩ = some (.int .i64 a0_5) := (blk_cell BK170.out 5).trans rfl
      have hcz17_6 : w6.cell? ⟨gb170, 6, none⟩ = some (.int .i64 a0_6) := (blk_cell BK170.out 6).trans rfl
      have hcz17_7 : w6.cell? ⟨gb170, 7, none⟩ = some (.int .i64 a0_7) := (blk_cell BK170.out 7).trans rfl
      have hcz17_8 : w6.cell? ⟨gb170, 8, none⟩ = some (.int .i64 a0_8) := (blk_cell BK170.out 8).trans rfl
      have hcz17_9 : w6.cell? ⟨gb170, 9, none⟩ = some (.int .i64 a0_9) := (blk_cell BK170.out 9).trans rfl
      have hfz17_0 := blk_frozen BK170.out 0
      have hfz17_1 := blk_frozen BK170.out 1
      have hfz17_2 := blk_frozen BK170.out 2
      have hfz17_3 := blk_frozen BK170.out 3
      have hfz17_4 := blk_frozen BK170.out 4
      have hfz17_5 := blk_frozen BK170.out 5
      have hfz17_6 := blk_frozen BK170.out 6
      have hfz17_7 := blk_frozen BK170.out 7
      have hfz17_8 := blk_frozen BK170.out 8
      have hfz17_9 := blk_frozen BK170.out 9
      go_wp2_with (first | ((with_reducible refine gate_callee (f := 10) rfl ?_); refine goesL_ (some 23) rfl rfl Try.func10 (by kernel_rfl) rfl #[.int .i64 a0_4] rfl (by (try simp only [List.map_toArray, List.map_cons, List.map_nil]); first | done | rfl | (simp only [List.length_drop, List.length_take]; rfl)) ?_; (with_reducible refine (bivouaclaw08_in.calls a0_4 false _ A7.out).mono ?_); rintro e w' ⟨rfl, ⟨nd, rfl⟩⟩; refine ⟨_, rfl, ?_⟩))
      go_meet
      case rel => exact ⟨_, (true), (by first | rfl | (simp; done) | (simp [*]; done)), H', ⟨by first | omega | exact Nat.le_refl _⟩, ⟨by (with_reducible repeat (first | apply Kd.R_alloc | apply Kd.R_drewN | apply Kd.R_drew)); exact HO174.out⟩, ⟨by (with_reducible repeat (first | refine blk_drewN ?_ _ | refine blk_drew ?_ | refine blk_alloc ?_ _)); exact BK170.out⟩, ⟨by repeat (first | (with_reducible first | exact HB.out | apply below_alloc | apply pw_below_drewN | apply below_drew1 | refine below_set ?_ GE170.out) | exact HB.out)⟩⟩
  case rest =>
    clear HC3
    try clear c1
    try clear p2
    try clear c3
    try clear c8
    try clear c9
    try clear c10
    try clear c12
    try clear hcz14_0
    try clear hcz14_1
    try clear hcz14_2
    try clear hcz14_3
    try clear hcz14_4
    try clear hcz14_5
    try clear hcz14_6
    try clear hcz14_7
    try clear hcz14_8
    try clear hcz14_9
    try clear hcz15_0
    try clear hcz15_1
    try clear hcz15_2
    try clear hcz15_3
    try clear hcz15_4
    try clear hcz15_5
    try clear hcz15_6
    try clear hcz15_7
    try clear hcz15_8
    try clear hcz15_9
    try clear hcz16_0
    try clear hcz16_1
    try clear hcz16_2
    try clear hcz16_3
    try clear hcz16_4
    try clear hcz16_5
    try clear hcz16_6
    try clear hcz16_7
    try clear hcz16_8
    try clear hcz16_9
    try clear hcz17_0
    try clear hcz17_1
    try clear hcz17_2
    try clear hcz17_3
    try clear hcz17_4
    try clear hcz17_5
    try clear hcz17_6
    try clear hcz17_7
    try clear hcz17_8
    try clear hcz17_9
    try clear hcz5_0
    try clear hcz5_1
    try clear hcz5_2
    try clear hcz5_3
    try clear hcz5_4
    try clear hcz5_5
    try clear hcz5_6
    try clear hcz5_7
    try clear hcz5_8
    try clear hcz5_9
    try clear hfz14_0
    try clear hfz14_1
    try clear hfz14_2
    try clear hfz14_3
    try clear hfz14_4
    try clear hfz14_5
    try clear hfz14_6
    try clear hfz14_7
    try clear hfz14_8
    try clear hfz14_9
    try clear hfz15_0
    try clear hfz15_1
    try clear hfz15_2
    try clear hfz15_3
    try clear hfz15_4
    try clear hfz15_5
    try clear hfz15_6
    try clear hfz15_7
    try clear hfz15_8
    try clear hfz15_9
    try clear hfz16_0
    try clear hfz16_1
    try clear hfz16_2
    try clear hfz16_3
    try clear hfz16_4
    try clear hfz16_5
    try clear hfz16_6
    try clear hfz16_7
    try clear hfz16_8
    try clear hfz16_9
    try clear hfz17_0
    try clear hfz17_1
    try clear hfz17_2
    try clear hfz17_3
    try clear hfz17_4
    try clear hfz17_5
    try clear hfz17_6
    try clear hfz17_7
    try clear hfz17_8
    try clear hfz17_9
    try clear hfz5_0
    try clear hfz5_1
    try clear hfz5_2
    try clear hfz5_3
    try clear hfz5_4
    try clear hfz5_5
    try clear hfz5_6
    try clear hfz5_7
    try clear hfz5_8
    try clear hfz5_9
    obtain ⟨kq, x42_2, rfl, HA, HJ2, HO_3, BK170, HB⟩ := hcut
    cases kq with
    | zero => exact absurd HA.out (by simp [bivouaclaw08_RayLines.j0])
    | succ kj2 =>
      have H := HA.out
      clear HA
      simp only [bivouaclaw08_RayLines.j0] at H
      by_cases c18 : x42_2 = true
      · subst c18
        have H1 : (if (t171.length : Int) = 0 then (if t172 = 4 then ((bivouaclaw08_awake.f kj2).bind fun t179 => (some t179)) else (some false)) else (some false)) = some r := by rw [if_pos rfl] at H; exact H
        clear H
        have H := H1
        clear H1
        by_cases c19 : (t171.length : Int) = 0
        · rw [if_pos c19] at H
          have c19b0 : ((t171.length : Int) == 0) = true := beq_iff_eq.mpr c19
          have c19b1 : ((t171.length : Int) != 0) = false := bne_eq_false_iff_eq.mpr c19
          clear c19
          by_cases c20 : t172 = 4
          · rw [if_pos c20] at H
            have c20b0 : (t172 == 4) = true := beq_iff_eq.mpr c20
            have c20b1 : (t172 != 4) = false := bne_eq_false_iff_eq.mpr c20
            clear c20
            replace H := Option.bind_eq_some_iff.mp H
            obtain ⟨t179, A210, H⟩ := H
            replace H : (some t179) = some r := H
            have A21 := Aside0.mk A210
            clear A210
            obtain rfl := Option.some.inj H
            obtain ⟨Ao22, co22, eo22⟩ := Kd.R_slice HO_3.out
            subst eo22
            go_wp2_with (first | (go_at_call 11; (with_reducible refine (bivouaclaw08_awake.calls kj2  t179 _ A21.out).mono ?_); rintro e w23 ⟨rfl, hb⟩; have n0_ := Aside0.mk (Kd.R_below (by (with_reducible repeat (first | apply Kd.R_alloc | apply Kd.R_drewN | apply Kd.R_drew)); exact HO_3.out) hb); have n1_ := Aside0.mk (blk_below (g := gb170) (o := .cells #[.int .i64 a0_0, .int .i64 a0_1, .int .i64 a0_2, .slice A0_3 l0_3.length c0_3, .int .i64 a0_4, .int .i64 a0_5, .int .i64 a0_6, .int .i64 a0_7, .int .i64 a0_8, .int .i64 a0_9] 26 (0, 0)) (by (with_reducible repeat (first | refine blk_drewN ?_ _ | refine blk_drew ?_ | refine blk_alloc ?_ _)); exact BK170.out) hb); have n2_ := Aside0.mk (below_step (by repeat (first | (with_reducible first | exact HB.out | apply below_alloc | apply pw_below_drewN | apply below_drew1 | refine below_set ?_ GE170.out) | exact HB.out)) hb); clear HO_3; clear BK170; clear HB; have HO_3 := n0_; have BK170 := n1_; have HB := n2_; clear n0_ n1_ n2_; (try clear hb); (try clear hb2); (try clear hk); (try clear hi)))
            go_ret
            exact ⟨by first | rfl | (simp [errW_none, errW_some] <;> rfl) | (simp [*, errW_none, errW_some] <;> rfl) | (rw [Int.tdiv_eq_ediv_of_nonneg (by assumption)]; rfl), by repeat (first | (with_reducible first | exact HB.out | apply below_alloc | apply pw_below_drewN | apply below_drew1 | refine below_set ?_ GE170.out) | exact HB.out)⟩
          · rw [if_neg c20] at H
            have c20b0 : (t172 == 4) = false := beq_eq_false_iff_ne.mpr c20
            have c20b1 : (t172 != 4) = true := bne_iff_ne.mpr c20
            obtain rfl := Option.some.inj H
            obtain ⟨Ao24, co24, eo24⟩ := Kd.R_slice HO_3.out
            subst eo24
            go_wp2
            go_ret
            exact ⟨by first | rfl | (simp [errW_none, errW_some] <;> rfl) | (simp [*, errW_none, errW_some] <;> rfl) | (rw [Int.tdiv_eq_ediv_of_nonneg (by assumption)]; rfl), by repeat (first | (with_reducible first | exact HB.out | apply below_alloc | apply pw_below_drewN | apply below_drew1 | refine below_set ?_ GE170.out) | exact HB.out)⟩
        · rw [if_neg c19] at H
          have c19b0 : ((t171.length : Int) == 0) = false := beq_eq_false_iff_ne.mpr c19
          have c19b1 : ((t171.length : Int) != 0) = true := bne_iff_ne.mpr c19
          have c19b2 : ¬ (t171 = []) := fun h_ => c19 (by rw [h_]; rfl)
          obtain rfl := Option.some.inj H
          obtain ⟨Ao25, co25, eo25⟩ := Kd.R_slice HO_3.out
          subst eo25
          go_wp2
          go_ret
          exact ⟨by first | rfl | (simp [errW_none, errW_some] <;> rfl) | (simp [*, errW_none, errW_some] <;> rfl) | (rw [Int.tdiv_eq_ediv_of_nonneg (by assumption)]; rfl), by repeat (first | (with_reducible first | exact HB.out | apply below_alloc | apply pw_below_drewN | apply below_drew1 | refine below_set ?_ GE170.out) | exact HB.out)⟩
      · replace c18 := Bool.eq_false_iff.mpr c18
        subst c18
        have H1 : ((bivouacref08_Long.f a0_4 a0_5 a0_6 a0_7).bind fun t180 => (if (t171.length : Int) = (wrap64 (t180 + 1)) then (bivouaclaw08_RayLines.j1 kj2 t171 t180 (t172 != 0) a0_0 a0_1 a0_2 l0_3 a0_4 a0_5 a0_6 a0_7 a0_8 a0_9) else (bivouaclaw08_RayLines.j1 kj2 t171 t180 true a0_0 a0_1 a0_2 l0_3 a0_4 a0_5 a0_6 a0_7 a0_8 a0_9))) = some r := by rw [if_neg (show ¬ (false = true) by decide)] at H; exact H
        clear H
        have H := H1
        clear H1
        replace H := Option.bind_eq_some_iff.mp H
        obtain ⟨t180, A260, H⟩ := H
        replace H : (if (t171.length : Int) = (wrap64 (t180 + 1)) then (bivouaclaw08_RayLines.j1 kj2 t171 t180 (t172 != 0) a0_0 a0_1 a0_2 l0_3 a0_4 a0_5 a0_6 a0_7 a0_8 a0_9) else (bivouaclaw08_RayLines.j1 kj2 t171 t180 true a0_0 a0_1 a0_2 l0_3 a0_4 a0_5 a0_6 a0_7 a0_8 a0_9)) = some r := H
        have A26 := Aside0.mk A260
        clear A260
        have HC27 := Aside0.mk H
        clear H
        have hcz28_0 : wc.cell? ⟨gb170, 0, none⟩ = some (.int .i64 a0_0) := (blk_cell BK170.out 0).trans rfl
        have hcz28_1 : wc.cell? ⟨gb170, 1, none⟩ = some (.int .i64 a0_1) := (blk_cell BK170.out 1).trans rfl
        have hcz28_2 : wc.cell? ⟨gb170, 2, none⟩ = some (.int .i64 a0_2) := (blk_cell BK170.out 2).trans rfl
        have hcz28_3 : wc.cell? ⟨gb170, 3, none⟩ = some (.slice A0_3 l0_3.length c0_3) := (blk_cell BK170.out 3).trans rfl
        have hcz28_4 : wc.cell? ⟨gb170, 4, none⟩ = some (.int .i64 a0_4) := (blk_cell BK170.out 4).trans rfl
        have hcz28_5 : wc.cell? ⟨gb170, 5, none⟩ = some (.int .i64 a0_5) := (blk_cell BK170.out 5).trans rfl
        have hcz28_6 : wc.cell? ⟨gb170, 6, none⟩ = some (.int .i64 a0_6) := (blk_cell BK170.out 6).trans rfl
        have hcz28_7 : wc.cell? ⟨gb170, 7, none⟩ = some (.int .i64 a0_7) := (blk_cell BK170.out 7).trans rfl
        have hcz28_8 : wc.cell? ⟨gb170, 8, none⟩ = some (.int .i64 a0_8) := (blk_cell BK170.out 8).trans rfl
        have hcz28_9 : wc.cell? ⟨gb170, 9, none⟩ = some (.int .i64 a0_9) := (blk_cell BK170.out 9).trans rfl
        have hfz28_0 := blk_frozen BK170.out 0
        have hfz28_1 := blk_frozen BK170.out 1
        have hfz28_2 := blk_frozen BK170.out 2
        have hfz28_3 := blk_frozen BK170.out 3
        have hfz28_4 := blk_frozen BK170.out 4
        have hfz28_5 := blk_frozen BK170.out 5
        have hfz28_6 := blk_frozen BK170.out 6
        have hfz28_7 := blk_frozen BK170.out 7
        have hfz28_8 := blk_frozen BK170.out 8
        have hfz28_9 := blk_frozen BK170.out 9
        go_upto_region 5 with (first | ((with_reducible refine gate_callee (f := 12) rfl ?_); refine goesL_ (some 61) rfl rfl Try.func12 (by kernel_rfl) rfl #[.int .i64 a0_4, .int .i64 a0_5, .int .i64 a0_6, .int .i64 a0_7] rfl (by (try simp only [List.map_toArray, List.map_cons, List.map_nil]); first | done | rfl | (simp only [List.length_drop, List.length_take]; rfl)) ?_; (with_reducible refine (bivouacref08_Long.calls a0_4 a0_5 a0_6 a0_7 t180 _ A26.out).mono ?_); rintro e w' ⟨rfl, ⟨nd, rfl⟩⟩; refine ⟨_, rfl, ?_⟩))
        (try simp only [Act.put, List.setIfInBounds_toArray, List.set_cons_zero, List.set_cons_succ])
        go_cut [70] (fun v70 wc => ∃ (kq : Nat) (x70_26 : Bool), v70 = .bool x70_26 ∧ Aside0 (bivouaclaw08_RayLines.j1 kq t171 t180 x70_26 a0_0 a0_1 a0_2 l0_3 a0_4 a0_5 a0_6 a0_7 a0_8 a0_9 = some r) ∧ Aside0 (kq ≤ kj2) ∧ Aside0 (Kd.R k36 36 wc w.heap.size (fun _ => True) v173 t171) ∧ Aside0 (wc.heap[gb170]? = some (.cells #[.int .i64 a0_0, .int .i64 a0_1, .int .i64 a0_2, (.slice A0_3 l0_3.length c0_3), .int .i64 a0_4, .int .i64 a0_5, .int .i64 a0_6, .int .i64 a0_7, .int .i64 a0_8, .int .i64 a0_9] 26 (0, 0))) ∧ Aside0 (Below w.heap.size w wc))
        case first =>
          have H := HC27.out
          clear HC27
          by_cases c29 : (t171.length : Int) = (wrap64 (t180 + 1))
          · rw [if_pos c29] at H
            have c29b0 : ((t171.length : Int) == (wrap64 (t180 + 1))) = true := beq_iff_eq.mpr c29
            have c29b1 : ((t171.length : Int) != (wrap64 (t180 + 1))) = false := bne_eq_false_iff_eq.mpr c29
            clear c29
            (first | rw [c29b0] | (simp only [i64_w, i32_w]; rw [c29b0]) | skip)
            have H' := Aside0.mk H
            clear H
            obtain ⟨Ao30, co30, eo30⟩ := Kd.R_slice HO_3.out
            subst eo30
            go_wp2
            go_meet
            case rel => exact ⟨_, ((t172 != 0)), (by first | rfl | (simp; done) | (simp [*]; done)), H', ⟨by have := HJ2.out; first | omega | exact Nat.le_refl _⟩, ⟨by (with_reducible repeat (first | apply Kd.R_alloc | apply Kd.R_drewN | apply Kd.R_drew)); exact HO_3.out⟩, ⟨by (with_reducible repeat (first | refine blk_drewN ?_ _ | refine blk_drew ?_ | refine blk_alloc ?_ _)); exact BK170.out⟩, ⟨by repeat (first | (with_reducible first | exact HB.out | apply below_alloc | apply pw_below_drewN | apply below_drew1 | refine below_set ?_ GE170.out) | exact HB.out)⟩⟩
          · rw [if_neg c29] at H
            have c29b0 : ((t171.length : Int) == (wrap64 (t180 + 1))) = false := beq_eq_false_iff_ne.mpr c29
            have c29b1 : ((t171.length : Int) != (wrap64 (t180 + 1))) = true := bne_iff_ne.mpr c29
            (first | rw [c29b0] | (simp only [i64_w, i32_w]; rw [c29b0]) | skip)
            have H' := Aside0.mk H
            clear H
            obtain ⟨Ao31, co31, eo31⟩ := Kd.R_slice HO_3.out
            subst eo31
            go_wp2
            go_meet
            case rel => exact ⟨_, (true), (by first | rfl | (simp; done) | (simp [*]; done)), H', ⟨by have := HJ2.out; first | omega | exact Nat.le_refl _⟩, ⟨by (with_reducible repeat (first | apply Kd.R_alloc | apply Kd.R_drewN | apply Kd.R_drew)); exact HO_3.out⟩, ⟨by (with_reducible repeat (first | refine blk_drewN ?_ _ | refine blk_drew ?_ | refine blk_alloc ?_ _)); exact BK170.out⟩, ⟨by repeat (first | (with_reducible first | exact HB.out | apply below_alloc | apply pw_below_drewN | apply below_drew1 | refine below_set ?_ GE170.out) | exact HB.out)⟩⟩
        case rest =>
          clear HC27
          try clear c1
          try clear c2
          try clear p2
          try clear c3
          try clear p6
          try clear c8
          try clear c9
          try clear c10
          try clear c12
          try clear c18
          try clear c19
          try clear c19b0
          try clear c19b1
          try clear c19b2
          try clear c20
          try clear c20b0
          try clear c20b1
          try clear c29
          try clear c29b0
          try clear c29b1
          try clear hcz14_0
          try clear hcz14_1
          try clear hcz14_2
          try clear hcz14_3
          try clear hcz14_4
          try clear hcz14_5
          try clear hcz14_6
          try clear hcz14_7
          try clear hcz14_8
          try clear hcz14_9
          try clear hcz15_0
          try clear hcz15_1
          try clear hcz15_2
          try clear hcz15_3
          try clear hcz15_4
          try clear hcz15_5
          try clear hcz15_6
          try clear hcz15_7
          try clear hcz15_8
          try clear hcz15_9
          try clear hcz16_0
          try clear hcz16_1
          try clear hcz16_2
          try clear hcz16_3
          try clear hcz16_4
          try clear hcz16_5
          try clear hcz16_6
          try clear hcz16_7
          try clear hcz16_8
          try clear hcz16_9
          try clear hcz17_0
          try clear hcz17_1
          try clear hcz17_2
          try clear hcz17_3
          try clear hcz17_4
          try clear hcz17_5
          try clear hcz17_6
          try clear hcz17_7
          try clear hcz17_8
          try clear hcz17_9
          try clear hcz28_0
          try clear hcz28_1
          try clear hcz28_2
          try clear hcz28_3
          try clear hcz28_4
          try clear hcz28_5
          try clear hcz28_6
          try clear hcz28_7
          try clear hcz28_8
          try clear hcz28_9
          try clear hcz5_0
          try clear hcz5_1
          try clear hcz5_2
          try clear hcz5_3
          try clear hcz5_4
          try clear hcz5_5
          try clear hcz5_6
          try clear hcz5_7
          try clear hcz5_8
          try clear hcz5_9
          try clear hfz14_0
          try clear hfz14_1
          try clear hfz14_2
          try clear hfz14_3
          try clear hfz14_4
          try clear hfz14_5
          try clear hfz14_6
          try clear hfz14_7
          try clear hfz14_8
          try clear hfz14_9
          try clear hfz15_0
          try clear hfz15_1
          try clear hfz15_2
          try clear hfz15_3
          try clear hfz15_4
          try clear hfz15_5
          try clear hfz15_6
          try clear hfz15_7
          try clear hfz15_8
          try clear hfz15_9
          try clear hfz16_0
          try clear hfz16_1
          try clear hfz16_2
          try clear hfz16_3
          try clear hfz16_4
          try clear hfz16_5
          try clear hfz16_6
          try clear hfz16_7
          try clear hfz16_8
          try clear hfz16_9
          try clear hfz17_0
          try clear hfz17_1
          try clear hfz17_2
          try clear hfz17_3
          try clear hfz17_4
          try clear hfz17_5
          try clear hfz17_6
          try clear hfz17_7
          try clear hfz17_8
          try clear hfz17_9
          try clear hfz28_0
          try clear hfz28_1
          try clear hfz28_2
          try clear hfz28_3
          try clear hfz28_4
          try clear hfz28_5
          try clear hfz28_6
          try clear hfz28_7
          try clear hfz28_8
          try clear hfz28_9
          try clear hfz5_0
          try clear hfz5_1
          try clear hfz5_2
          try clear hfz5_3
          try clear hfz5_4
          try clear hfz5_5
          try clear hfz5_6
          try clear hfz5_7
          try clear hfz5_8
          try clear hfz5_9
          try clear p2
          obtain ⟨kq, x70_26, rfl, HA, HJ26, HO_3, BK170, HB⟩ := hcut
          cases kq with
          | zero => exact absurd HA.out (by simp [bivouaclaw08_RayLines.j1])
          | succ kj26 =>
            have H := HA.out
            clear HA
            simp only [bivouaclaw08_RayLines.j1] at H
            by_cases c32 : x70_26 = true
            · subst c32
              have H1 : (some false) = some r := by rw [if_pos rfl] at H; exact H
              clear H
              have H := H1
              clear H1
              obtain rfl := Option.some.inj H
              go_wp2
              go_ret
              exact ⟨by first | rfl | (simp [errW_none, errW_some] <;> rfl) | (simp [*, errW_none, errW_some] <;> rfl) | (rw [Int.tdiv_eq_ediv_of_nonneg (by assumption)]; rfl), by repeat (first | (with_reducible first | exact HB.out | apply below_alloc | apply pw_below_drewN | apply below_drew1 | refine below_set ?_ GE170.out) | exact HB.out)⟩
            · replace c32 := Bool.eq_false_iff.mpr c32
              subst c32
              have H1 : (bivouaclaw08_RayLines.l0 kj26 t171 t180 0 a0_0 a0_1 a0_2 l0_3 a0_4 a0_5 a0_6 a0_7 a0_8 a0_9) = some r := by rw [if_neg (show ¬ (false = true) by decide)] at H; exact H
              clear H
              have H := H1
              clear H1
              have H' := Aside0.mk H
              clear H
              go_wp2
              go_loopg [6] kj26 (fun kq v6 w' => ∃ (x6_3 : Int), v6 = .int .i64 x6_3 ∧ Aside0 (bivouaclaw08_RayLines.l0 kq t171 t180 x6_3 a0_0 a0_1 a0_2 l0_3 a0_4 a0_5 a0_6 a0_7 a0_8 a0_9 = some r) ∧ Aside0 (kq ≤ kj26) ∧ Aside0 (Kd.R k36 36 w' w.heap.size (fun _ => True) v173 t171) ∧ Aside0 (w'.heap[gb170]? = some (.cells #[.int .i64 a0_0, .int .i64 a0_1, .int .i64 a0_2, (.slice A0_3 l0_3.length c0_3), .int .i64 a0_4, .int .i64 a0_5, .int .i64 a0_6, .int .i64 a0_7, .int .i64 a0_8, .int .i64 a0_9] 26 (0, 0))) ∧ Aside0 (Below w.heap.size w w'))
              case atStart => exact ⟨(0), (by first | rfl | (simp; done) | (simp [*]; done)), H', ⟨Nat.le_refl _⟩, ⟨by (with_reducible repeat (first | apply Kd.R_alloc | apply Kd.R_drewN | apply Kd.R_drew)); exact HO_3.out⟩, ⟨by (with_reducible repeat (first | refine blk_drewN ?_ _ | refine blk_drew ?_ | refine blk_alloc ?_ _)); exact BK170.out⟩, ⟨by repeat (first | (with_reducible first | exact HB.out | apply below_alloc | apply pw_below_drewN | apply below_drew1 | refine below_set ?_ GE170.out) | exact HB.out)⟩⟩
              case round =>
                clear H'
                try clear c1
                try clear c2
                try clear p2
                try clear c3
                try clear p6
                try clear c8
                try clear c9
                try clear c10
                try clear c12
                try clear c18
                try clear c19
                try clear c19b0
                try clear c19b1
                try clear c19b2
                try clear c20
                try clear c20b0
                try clear c20b1
                try clear c29
                try clear c29b0
                try clear c29b1
                try clear c32
                try clear hcz14_0
                try clear hcz14_1
                try clear hcz14_2
                try clear hcz14_3
                try clear hcz14_4
                try clear hcz14_5
                try clear hcz14_6
                try clear hcz14_7
                try clear hcz14_8
                try clear hcz14_9
                try clear hcz15_0
                try clear hcz15_1
                try clear hcz15_2
                try clear hcz15_3
                try clear hcz15_4
                try clear hcz15_5
                try clear hcz15_6
                try clear hcz15_7
                try clear hcz15_8
                try clear hcz15_9
                try clear hcz16_0
                try clear hcz16_1
                try clear hcz16_2
                try clear hcz16_3
                try clear hcz16_4
                try clear hcz16_5
                try clear hcz16_6
                try clear hcz16_7
                try clear hcz16_8
                try clear hcz16_9
                try clear hcz17_0
                try clear hcz17_1
                try clear hcz17_2
                try clear hcz17_3
                try clear hcz17_4
                try clear hcz17_5
                try clear hcz17_6
                try clear hcz17_7
                try clear hcz17_8
                try clear hcz17_9
                try clear hcz28_0
                try clear hcz28_1
                try clear hcz28_2
                try clear hcz28_3
                try clear hcz28_4
                try clear hcz28_5
                try clear hcz28_6
                try clear hcz28_7
                try clear hcz28_8
                try clear hcz28_9
                try clear hcz5_0
                try clear hcz5_1
                try clear hcz5_2
                try clear hcz5_3
                try clear hcz5_4
                try clear hcz5_5
                try clear hcz5_6
                try clear hcz5_7
                try clear hcz5_8
                try clear hcz5_9
                try clear hfz14_0
                try clear hfz14_1
                try clear hfz14_2
                try clear hfz14_3
                try clear hfz14_4
                try clear hfz14_5
                try clear hfz14_6
                try clear hfz14_7
                try clear hfz14_8
                try clear hfz14_9
                try clear hfz15_0
                try clear hfz15_1
                try clear hfz15_2
                try clear hfz15_3
                try clear hfz15_4
                try clear hfz15_5
                try clear hfz15_6
                try clear hfz15_7
                try clear hfz15_8
                try clear hfz15_9
                try clear hfz16_0
                try clear hfz16_1
                try clear hfz16_2
                try clear hfz16_3
                try clear hfz16_4
                try clear hfz16_5
                try clear hfz16_6
                try clear hfz16_7
                try clear hfz16_8
                try clear hfz16_9
                try clear hfz17_0
                try clear hfz17_1
                try clear hfz17_2
                try clear hfz17_3
                try clear hfz17_4
                try clear hfz17_5
                try clear hfz17_6
                try clear hfz17_7
                try clear hfz17_8
                try clear hfz17_9
                try clear hfz28_0
                try clear hfz28_1
                try clear hfz28_2
                try clear hfz28_3
                try clear hfz28_4
                try clear hfz28_5
                try clear hfz28_6
                try clear hfz28_7
                try clear hfz28_8
                try clear hfz28_9
                try clear hfz5_0
                try clear hfz5_1
                try clear hfz5_2
                try clear hfz5_3
                try clear hfz5_4
                try clear hfz5_5
                try clear hfz5_6
                try clear hfz5_7
                try clear hfz5_8
                try clear hfz5_9
                try clear p2
                try clear p6
                obtain ⟨x6_3, rfl, HA, HK3, HO_3, BK170, HB⟩ := hrel
                cases gk with
                | zero => exact absurd HA.out (by simp [bivouaclaw08_RayLines.l0])
                | succ k3 =>
                  have H := HA.out
                  clear HA
                  simp only [bivouaclaw08_RayLines.l0] at H
                  by_cases c33 : x6_3 ≤ t180
                  · rw [if_pos c33] at H
                    have c33b0 : decide (x6_3 ≤ t180) = true := decide_eq_true c33
                    clear c33
                    replace H := Option.bind_eq_some_iff.mp H
                    obtain ⟨⟨t181, t182⟩, A340, H⟩ := H
                    replace H : (if 0 ≤ x6_3 then (if x6_3 < (t171.length : Int) then (if (!(((rd_T36 t171 x6_3).f0) == t181) || (!(((rd_T36 t171 x6_3).f1) == t182))) = true then (some false) else (bivouaclaw08_RayLines.l0 k3 t171 t180 (wrap64 (x6_3 + 1)) a0_0 a0_1 a0_2 l0_3 a0_4 a0_5 a0_6 a0_7 a0_8 a0_9)) else (none)) else (none)) = some r := H
                    have A34 := Aside0.mk A340
                    clear A340
                    by_cases c35 : 0 ≤ x6_3
                    · rw [if_pos c35] at H
                      have c35b0 : decide (0 ≤ x6_3) = true := decide_eq_true c35
                      clear c35
                      by_cases c36 : x6_3 < (t171.length : Int)
                      · rw [if_pos c36] at H
                        have c36b0 : decide (x6_3 < (t171.length : Int)) = true := decide_eq_true c36
                        clear c36
                        by_cases c37 : (!(((rd_T36 t171 x6_3).f0) == t181) || (!(((rd_T36 t171 x6_3).f1) == t182))) = true
                        · rw [if_pos c37] at H
                          have c37b0 : (!(((rd_T36 t171 x6_3).f0) == t181) || (!(((rd_T36 t171 x6_3).f1) == t182))) = true := c37
                          clear c37
                          obtain rfl := Option.some.inj H
                          have hcz38_0 : wr.cell? ⟨gb170, 0, none⟩ = some (.int .i64 a0_0) := (blk_cell BK170.out 0).trans rfl
                          have hcz38_1 : wr.cell? ⟨gb170, 1, none⟩ = some (.int .i64 a0_1) := (blk_cell BK170.out 1).trans rfl
                          have hcz38_2 : wr.cell? ⟨gb170, 2, none⟩ = some (.int .i64 a0_2) := (blk_cell BK170.out 2).trans rfl
                          have hcz38_3 : wr.cell? ⟨gb170, 3, none⟩ = some (.slice A0_3 l0_3.length c0_3) := (blk_cell BK170.out 3).trans rfl
                          have hcz38_4 : wr.cell? ⟨gb170, 4, none⟩ = some (.int .i64 a0_4) := (blk_cell BK170.out 4).trans rfl
                          have hcz38_5 : wr.cell? ⟨gb170, 5, none⟩ = some (.int .i64 a0_5) := (blk_cell BK170.out 5).trans rfl
                          have hcz38_6 : wr.cell? ⟨gb170, 6, none⟩ = some (.int .i64 a0_6) := (blk_cell BK170.out 6).trans rfl
                          have hcz38_7 : wr.cell? ⟨gb170, 7, none⟩ = some (.int .i64 a0_7) := (blk_cell BK170.out 7).trans rfl
                          have hcz38_8 : wr.cell? ⟨gb170, 8, none⟩ = some (.int .i64 a0_8) := (blk_cell BK170.out 8).trans rfl
                          have hcz38_9 : wr.cell? ⟨gb170, 9, none⟩ = some (.int .i64 a0_9) := (blk_cell BK170.out 9).trans rfl
                          have hfz38_0 := blk_frozen BK170.out 0
                          have hfz38_1 := blk_frozen BK170.out 1
                          have hfz38_2 := blk_frozen BK170.out 2
                          have hfz38_3 := blk_frozen BK170.out 3
                          have hfz38_4 := blk_frozen BK170.out 4
                          have hfz38_5 := blk_frozen BK170.out 5
                          have hfz38_6 := blk_frozen BK170.out 6
                          have hfz38_7 := blk_frozen BK170.out 7
                          have hfz38_8 := blk_frozen BK170.out 8
                          have hfz38_9 := blk_frozen BK170.out 9
                          go_wp2_with (first | ((with_reducible refine gate_callee (f := 13) rfl ?_); refine goesL_ (some 86) rfl rfl Try.func13 (by kernel_rfl) rfl #[.int .i64 a0_4, .int .i64 a0_5, .int .i64 a0_6, .int .i64 a0_7, .int .i64 x6_3] rfl (by (try simp only [List.map_toArray, List.map_cons, List.map_nil]); first | done | rfl | (simp only [List.length_drop, List.length_take]; rfl)) ?_; (with_reducible refine (bivouacref08_Cell.calls a0_4 a0_5 a0_6 a0_7 x6_3 t181 t182 _ A34.out).mono ?_); rintro e w' ⟨rfl, ⟨nd, rfl⟩⟩; refine ⟨_, rfl, ?_⟩; obtain ⟨Ao39, co39, eo39⟩ := Kd.R_slice HO_3.out; subst eo39; have p183 : 0 ≤ (x6_3 : Int) := of_decide_eq_true (by first | (with_reducible assumption) | assumption); have q183 : x6_3 < (t171.length : Int) := of_decide_eq_true (by first | (with_reducible assumption) | assumption); obtain ⟨ad183, e183, hx183_0, hx183_1⟩ := at_T36 (Kd.R_reads' HO_3.out).2.2 x6_3 p183 q183; cases e183; replace p183 := eq_true p183; replace q183 := eq_true q183))
                          go_ret
                          exact ⟨by first | rfl | (simp [errW_none, errW_some] <;> rfl) | (simp [*, errW_none, errW_some] <;> rfl) | (rw [Int.tdiv_eq_ediv_of_nonneg (by assumption)]; rfl), by repeat (first | (with_reducible first | exact HB.out | apply below_alloc | apply pw_below_drewN | apply below_drew1 | refine below_set ?_ GE170.out) | exact HB.out)⟩
                        · rw [if_neg c37] at H
                          have c37b0 : (!(((rd_T36 t171 x6_3).f0) == t181) || (!(((rd_T36 t171 x6_3).f1) == t182))) = false := by simpa using c37
                          clear c37
                          have H' := Aside0.mk H
                          clear H
                          have hcz40_0 : wr.cell? ⟨gb170, 0, none⟩ = some (.int .i64 a0_0) := (blk_cell BK170.out 0).trans rfl
                          have hcz40_1 : wr.cell? ⟨gb170, 1, none⟩ = some (.int .i64 a0_1) := (blk_cell BK170.out 1).trans rfl
                          have hcz40_2 : wr.cell? ⟨gb170, 2, none⟩ = some (.int .i64 a0_2) := (blk_cell BK170.out 2).trans rfl
                          have hcz40_3 : wr.cell? ⟨gb170, 3, none⟩ = some (.slice A0_3 l0_3.length c0_3) := (blk_cell BK170.out 3).trans rfl
                          have hcz40_4 : wr.cell? ⟨gb170, 4, none⟩ = some (.int .i64 a0_4) := (blk_cell BK170.out 4).trans rfl
                          have hcz40_5 : wr.cell? ⟨gb170, 5, none⟩ = some (.int .i64 a0_5) := (blk_cell BK170.out 5).trans rfl
                          have hcz40_6 : wr.cell? ⟨gb170, 6, none⟩ = some (.int .i64 a0_6) := (blk_cell BK170.out 6).trans rfl
                          have hcz40_7 : wr.cell? ⟨gb170, 7, none⟩ = some (.int .i64 a0_7) := (blk_cell BK170.out 7).trans rfl
                          have hcz40_8 : wr.cell? ⟨gb170, 8, none⟩ = some (.int .i64 a0_8) := (blk_cell BK170.out 8).trans rfl
                          have hcz40_9 : wr.cell? ⟨gb170, 9, none⟩ = some (.int .i64 a0_9) := (blk_cell BK170.out 9).trans rfl
                          have hfz40_0 := blk_frozen BK170.out 0
                          have hfz40_1 := blk_frozen BK170.out 1
                          have hfz40_2 := blk_frozen BK170.out 2
                          have hfz40_3 := blk_frozen BK170.out 3
                          have hfz40_4 := blk_frozen BK170.out 4
                          have hfz40_5 := blk_frozen BK170.out 5
                          have hfz40_6 := blk_frozen BK170.out 6
                          have hfz40_7 := blk_frozen BK170.out 7
                          have hfz40_8 := blk_frozen BK170.out 8
                          have hfz40_9 := blk_frozen BK170.out 9
                          go_wp2_with (first | ((with_reducible refine gate_callee (f := 13) rfl ?_); refine goesL_ (some 86) rfl rfl Try.func13 (by kernel_rfl) rfl #[.int .i64 a0_4, .int .i64 a0_5, .int .i64 a0_6, .int .i64 a0_7, .int .i64 x6_3] rfl (by (try simp only [List.map_toArray, List.map_cons, List.map_nil]); first | done | rfl | (simp only [List.length_drop, List.length_take]; rfl)) ?_; (with_reducible refine (bivouacref08_Cell.calls a0_4 a0_5 a0_6 a0_7 x6_3 t181 t182 _ A34.out).mono ?_); rintro e w' ⟨rfl, ⟨nd, rfl⟩⟩; refine ⟨_, rfl, ?_⟩; obtain ⟨Ao41, co41, eo41⟩ := Kd.R_slice HO_3.out; subst eo41; have p183 : 0 ≤ (x6_3 : Int) := of_decide_eq_true (by first | (with_reducible assumption) | assumption); have q183 : x6_3 < (t171.length : Int) := of_decide_eq_true (by first | (with_reducible assumption) | assumption); obtain ⟨ad183, e183, hx183_0, hx183_1⟩ := at_T36 (Kd.R_reads' HO_3.out).2.2 x6_3 p183 q183; cases e183; replace p183 := eq_true p183; replace q183 := eq_true q183))
                          go_roundg k3
                          case measure => have := HJ2.out; have := HJ26.out; have := HK3.out; omega
                          case rel => exact ⟨(wrap64 (x6_3 + 1)), (by first | rfl | (simp; done) | (simp [*]; done)), H', ⟨by have := HJ2.out; have := HJ26.out; have := HK3.out; omega⟩, ⟨by (with_reducible repeat (first | apply Kd.R_alloc | apply Kd.R_drewN | apply Kd.R_drew)); exact HO_3.out⟩, ⟨by (with_reducible repeat (first | refine blk_drewN ?_ _ | refine blk_drew ?_ | refine blk_alloc ?_ _)); exact BK170.out⟩, ⟨by repeat (first | (with_reducible first | exact HB.out | apply below_alloc | apply pw_below_drewN | apply below_drew1 | refine below_set ?_ GE170.out) | exact HB.out)⟩⟩
                      · rw [if_neg c36] at H
                        exact absurd H (by simp)
                    · rw [if_neg c35] at H
                      exact absurd H (by simp)
                  · rw [if_neg c33] at H
                    have c33b0 : decide (x6_3 ≤ t180) = false := decide_eq_false c33
                    clear c33
                    replace H := Option.bind_eq_some_iff.mp H
                    obtain ⟨t184, A420, H⟩ := H
                    replace H : (some t184) = some r := H
                    have A42 := Aside0.mk A420
                    clear A420
                    obtain rfl := Option.some.inj H
                    go_wp2_with (first | ((with_reducible refine gate_callee (f := 11) rfl ?_); refine goesL_ (some 97) rfl rfl Try.func11 (by kernel_rfl) rfl #[] rfl (by (try simp only [List.map_toArray, List.map_cons, List.map_nil]); first | done | rfl | (simp only [List.length_drop, List.length_take]; rfl)) ?_; (with_reducible refine (bivouaclaw08_awake.calls k3  t184 _ A42.out).mono ?_); rintro e w43 ⟨rfl, hb⟩; refine ⟨_, rfl, ?_⟩; have n0_ := Aside0.mk (Kd.R_below (by (with_reducible repeat (first | apply Kd.R_alloc | apply Kd.R_drewN | apply Kd.R_drew)); exact HO_3.out) hb); have n1_ := Aside0.mk (blk_below (g := gb170) (o := .cells #[.int .i64 a0_0, .int .i64 a0_1, .int .i64 a0_2, .slice A0_3 l0_3.length c0_3, .int .i64 a0_4, .int .i64 a0_5, .int .i64 a0_6, .int .i64 a0_7, .int .i64 a0_8, .int .i64 a0_9] 26 (0, 0)) (by (with_reducible repeat (first | refine blk_drewN ?_ _ | refine blk_drew ?_ | refine blk_alloc ?_ _)); exact BK170.out) hb); have n2_ := Aside0.mk (below_step (by repeat (first | (with_reducible first | exact HB.out | apply below_alloc | apply pw_below_drewN | apply below_drew1 | refine below_set ?_ GE170.out) | exact HB.out)) hb); clear HO_3; clear BK170; clear HB; have HO_3 := n0_; have BK170 := n1_; have HB := n2_; clear n0_ n1_ n2_; (try clear hb); (try clear hb2); (try clear hk); (try clear hi)))
                    go_ret
                    exact ⟨by first | rfl | (simp [errW_none, errW_some] <;> rfl) | (simp [*, errW_none, errW_some] <;> rfl) | (rw [Int.tdiv_eq_ediv_of_nonneg (by assumption)]; rfl), by repeat (first | (with_reducible first | exact HB.out | apply below_alloc | apply pw_below_drewN | apply below_drew1 | refine below_set ?_ GE170.out) | exact HB.out)⟩

/-- THE ONE PURE STATEMENT of bivouaclaw08_RayLines. -/
def bivouaclaw08_RayLines.Pure : Prop := ∀ (a0_0 : Int) (a0_1 : Int) (a0_2 : Int) (l0_3 : List Int) (a0_4 : Int) (a0_5 : Int) (a0_6 : Int) (a0_7 : Int) (a0_8 : Int) (a0_9 : Int), (Lit.int .i64 a0_0).wf = true → (Lit.int .i64 a0_1).wf = true → (Lit.int .i64 a0_2).wf = true → l0_3.length ≤ maxLen → (∀ x ∈ l0_3, (Lit.int .u8 x).wf = true) → (Lit.int .i64 a0_4).wf = true → (Lit.int .i64 a0_5).wf = true → (Lit.int .i64 a0_6).wf = true → (Lit.int .i64 a0_7).wf = true → (Lit.int .i64 a0_8).wf = true → (Lit.int .i64 a0_9).wf = true → ∃ k, bivouaclaw08_RayLines.f k a0_0 a0_1 a0_2 l0_3 a0_4 a0_5 a0_6 a0_7 a0_8 a0_9 = some true
theorem bivouaclaw08_RayLines.walked : True := trivial

end Go.Proofs.Ytincnaejgimlbaa.PA
