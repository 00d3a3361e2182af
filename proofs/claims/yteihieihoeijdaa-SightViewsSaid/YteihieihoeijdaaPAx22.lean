-- WRITTEN BY A PROGRAM OF THIS SESSION (a turned copy of the kit's printer), for this claim. Nothing here is trusted: Lean checks it.
import Derived.Test.YteihieihoeijdaaPAx0
import Derived.Test.YteihieihoeijdaaPAxS
namespace Go.Proofs.Yteihieihoeijdaa.PA
open Go.RowKit Go.Proofs.YteihieihoeijdaaW.PrintWords Go.Proofs.YteihieihoeijdaaW.PrintLast Go.Proofs.YteihieihoeijdaaW.PrintMore
attribute [local go_sem] max2_int min2_int max_two min_two max_three min_three max_four min_four   -- for this text's walks alone
set_option linter.unusedVariables false
set_option linter.unusedSimpArgs false
theorem aMx22 {p : Prop} (h : p) : Aside0 p := zA h
theorem bNx22 {w : World} {g : Nat} {o : Obj} (h : w.heap[g]? = some o) (n : Nat) : (w.drewN n).heap[g]? = some o := h
theorem bDx22 {w : World} {g : Nat} {o : Obj} (h : w.heap[g]? = some o) : w.drew.heap[g]? = some o := h
theorem bKx22 {w : World} {g : Nat} {o : Obj} (h : w.heap[g]? = some o) (o' : Obj) : (w.alloc o').heap[g]? = some o := zM h o'
theorem bCx22 {w : World} {g : Nat} {t : TypeId} {cs : Array Value} (h : w.heap[g]? = some (.cells cs t (0, 0))) (i : Nat) : w.cell? ⟨g, i, none⟩ = cs[i]? := zD h i
theorem bFx22 {w : World} {g : Nat} {t : TypeId} {cs : Array Value} (h : w.heap[g]? = some (.cells cs t (0, 0))) (i : Nat) : w.frozen? ⟨g, i, none⟩ = false := zG h i
theorem blk_far8_x22 {w : World} {f g : Nat} {t : TypeId} {cs : Array Value} {v0 v1 v2 v3 v4 v5 v6 v7 : Value} (h : w.heap[f]? = some (.cells cs t (0, 0))) (e : f ≠ g) : ((((((((w.setCell ⟨g, 0, none⟩ v0).setCell ⟨g, 1, none⟩ v1).setCell ⟨g, 2, none⟩ v2).setCell ⟨g, 3, none⟩ v3).setCell ⟨g, 4, none⟩ v4).setCell ⟨g, 5, none⟩ v5).setCell ⟨g, 6, none⟩ v6).setCell ⟨g, 7, none⟩ v7).heap[f]? = some (.cells cs t (0, 0)) := by
 have h0 : (w.setCell ⟨g, 0, none⟩ v0).heap[f]? = some (.cells cs t (0, 0)) := zL h e _
 have h1 : ((w.setCell ⟨g, 0, none⟩ v0).setCell ⟨g, 1, none⟩ v1).heap[f]? = some (.cells cs t (0, 0)) := zL h0 e _
 have h2 : (((w.setCell ⟨g, 0, none⟩ v0).setCell ⟨g, 1, none⟩ v1).setCell ⟨g, 2, none⟩ v2).heap[f]? = some (.cells cs t (0, 0)) := zL h1 e _
 have h3 : ((((w.setCell ⟨g, 0, none⟩ v0).setCell ⟨g, 1, none⟩ v1).setCell ⟨g, 2, none⟩ v2).setCell ⟨g, 3, none⟩ v3).heap[f]? = some (.cells cs t (0, 0)) := zL h2 e _
 have h4 : (((((w.setCell ⟨g, 0, none⟩ v0).setCell ⟨g, 1, none⟩ v1).setCell ⟨g, 2, none⟩ v2).setCell ⟨g, 3, none⟩ v3).setCell ⟨g, 4, none⟩ v4).heap[f]? = some (.cells cs t (0, 0)) := zL h3 e _
 have h5 : ((((((w.setCell ⟨g, 0, none⟩ v0).setCell ⟨g, 1, none⟩ v1).setCell ⟨g, 2, none⟩ v2).setCell ⟨g, 3, none⟩ v3).setCell ⟨g, 4, none⟩ v4).setCell ⟨g, 5, none⟩ v5).heap[f]? = some (.cells cs t (0, 0)) := zL h4 e _
 have h6 : (((((((w.setCell ⟨g, 0, none⟩ v0).setCell ⟨g, 1, none⟩ v1).setCell ⟨g, 2, none⟩ v2).setCell ⟨g, 3, none⟩ v3).setCell ⟨g, 4, none⟩ v4).setCell ⟨g, 5, none⟩ v5).setCell ⟨g, 6, none⟩ v6).heap[f]? = some (.cells cs t (0, 0)) := zL h5 e _
 have h7 : ((((((((w.setCell ⟨g, 0, none⟩ v0).setCell ⟨g, 1, none⟩ v1).setCell ⟨g, 2, none⟩ v2).setCell ⟨g, 3, none⟩ v3).setCell ⟨g, 4, none⟩ v4).setCell ⟨g, 5, none⟩ v5).setCell ⟨g, 6, none⟩ v6).setCell ⟨g, 7, none⟩ v7).heap[f]? = some (.cells cs t (0, 0)) := zL h6 e _
 exact h7
theorem blk_put8_x22 {w : World} {g t : Nat} {c0 c1 c2 c3 c4 c5 c6 c7 v0 v1 v2 v3 v4 v5 v6 v7 : Value} (h : w.heap[g]? = some (.cells #[c0, c1, c2, c3, c4, c5, c6, c7] t (0, 0))) : ((((((((w.setCell ⟨g, 0, none⟩ v0).setCell ⟨g, 1, none⟩ v1).setCell ⟨g, 2, none⟩ v2).setCell ⟨g, 3, none⟩ v3).setCell ⟨g, 4, none⟩ v4).setCell ⟨g, 5, none⟩ v5).setCell ⟨g, 6, none⟩ v6).setCell ⟨g, 7, none⟩ v7).heap[g]? = some (.cells #[v0, v1, v2, v3, v4, v5, v6, v7] t (0, 0)) := by
 have h0 : (w.setCell ⟨g, 0, none⟩ v0).heap[g]? = some (.cells #[v0, c1, c2, c3, c4, c5, c6, c7] t (0, 0)) := zZ h 0 _ rfl
 have h1 : ((w.setCell ⟨g, 0, none⟩ v0).setCell ⟨g, 1, none⟩ v1).heap[g]? = some (.cells #[v0, v1, c2, c3, c4, c5, c6, c7] t (0, 0)) := zZ h0 1 _ rfl
 have h2 : (((w.setCell ⟨g, 0, none⟩ v0).setCell ⟨g, 1, none⟩ v1).setCell ⟨g, 2, none⟩ v2).heap[g]? = some (.cells #[v0, v1, v2, c3, c4, c5, c6, c7] t (0, 0)) := zZ h1 2 _ rfl
 have h3 : ((((w.setCell ⟨g, 0, none⟩ v0).setCell ⟨g, 1, none⟩ v1).setCell ⟨g, 2, none⟩ v2).setCell ⟨g, 3, none⟩ v3).heap[g]? = some (.cells #[v0, v1, v2, v3, c4, c5, c6, c7] t (0, 0)) := zZ h2 3 _ rfl
 have h4 : (((((w.setCell ⟨g, 0, none⟩ v0).setCell ⟨g, 1, none⟩ v1).setCell ⟨g, 2, none⟩ v2).setCell ⟨g, 3, none⟩ v3).setCell ⟨g, 4, none⟩ v4).heap[g]? = some (.cells #[v0, v1, v2, v3, v4, c5, c6, c7] t (0, 0)) := zZ h3 4 _ rfl
 have h5 : ((((((w.setCell ⟨g, 0, none⟩ v0).setCell ⟨g, 1, none⟩ v1).setCell ⟨g, 2, none⟩ v2).setCell ⟨g, 3, none⟩ v3).setCell ⟨g, 4, none⟩ v4).setCell ⟨g, 5, none⟩ v5).heap[g]? = some (.cells #[v0, v1, v2, v3, v4, v5, c6, c7] t (0, 0)) := zZ h4 5 _ rfl
 have h6 : (((((((w.setCell ⟨g, 0, none⟩ v0).setCell ⟨g, 1, none⟩ v1).setCell ⟨g, 2, none⟩ v2).setCell ⟨g, 3, none⟩ v3).setCell ⟨g, 4, none⟩ v4).setCell ⟨g, 5, none⟩ v5).setCell ⟨g, 6, none⟩ v6).heap[g]? = some (.cells #[v0, v1, v2, v3, v4, v5, v6, c7] t (0, 0)) := zZ h5 6 _ rfl
 have h7 : ((((((((w.setCell ⟨g, 0, none⟩ v0).setCell ⟨g, 1, none⟩ v1).setCell ⟨g, 2, none⟩ v2).setCell ⟨g, 3, none⟩ v3).setCell ⟨g, 4, none⟩ v4).setCell ⟨g, 5, none⟩ v5).setCell ⟨g, 6, none⟩ v6).setCell ⟨g, 7, none⟩ v7).heap[g]? = some (.cells #[v0, v1, v2, v3, v4, v5, v6, v7] t (0, 0)) := zZ h6 7 _ rfl
 exact h7

/-! ### sight_May: function 12 -/
mutual
def sight_May.j0 : Nat → List (S27) → Bool → Int → Int → Int → List Int → Option (Bool)
 | 0, _, _, _, _, _, _ => none
 | k + 1, x1, x14, x193000, x193001, x193002, x193003 => if x14 = true then (some false) else (sight_May.l0 k x1 (x1.length : Int) 0 x193000 x193001 x193002 x193003)
def sight_May.l0 : Nat → List (S27) → Int → Int → Int → Int → Int → List Int → Option (Bool)
 | 0, _, _, _, _, _, _, _ => none
 | k + 1, x15, x16, x17, x193000, x193001, x193002, x193003 => if x17 < x16 then (if 0 ≤ x17 then (if x17 < (x15.length : Int) then ((sight_eye.f k x193000 x193001 x193002 x193003 ((rd_T27 x15 x17).f0) ((rd_T27 x15 x17).f1) ((rd_T27 x15 x17).f2) ((rd_T27 x15 x17).f3) ((rd_T27 x15 x17).f4) ((rd_T27 x15 x17).f5) ((rd_T27 x15 x17).f6) ((rd_T27 x15 x17).f7)).bind fun t196 => (if t196 = true then (sight_May.l0 k x15 x16 (wrap64 (x17 + 1)) x193000 x193001 x193002 x193003) else (some false))) else (none)) else (none)) else (some true)
end
def sight_May.f (k : Nat) (a0_0 : Int) (a0_1 : Int) (a0_2 : Int) (l0_3 : List Int) (l1 : List (S27)) : Option (Bool) := (relief_Check.f k a0_0 a0_1 a0_2 l0_3).bind fun t193 => (if t193 = 0 then (sight_May.j0 k l1 (decide ((l1.length : Int) > 64)) a0_0 a0_1 a0_2 l0_3) else (sight_May.j0 k l1 true a0_0 a0_1 a0_2 l0_3))
theorem sight_May.mono_l : ∀ k, (∀ y0 y1 y2 y3 y4 y5, LeO (sight_May.j0 k y0 y1 y2 y3 y4 y5) (sight_May.j0 (k + 1) y0 y1 y2 y3 y4 y5)) ∧ (∀ y0 y1 y2 y3 y4 y5 y6, LeO (sight_May.l0 k y0 y1 y2 y3 y4 y5 y6) (sight_May.l0 (k + 1) y0 y1 y2 y3 y4 y5 y6))
 | 0 => ⟨fun _ _ _ _ _ _ r h => by simp [sight_May.j0] at h, fun _ _ _ _ _ _ _ r h => by simp [sight_May.l0] at h⟩
 | k + 1 => by
  obtain ⟨ih0, ih1⟩ := sight_May.mono_l k
  refine ⟨?_, ?_⟩
  ·
   intro y0 y1 y2 y3 y4 y5
   unfold sight_May.j0
   repeat' first
   | (with_reducible exact ih0 _ _ _ _ _ _)
   | (with_reducible exact ih1 _ _ _ _ _ _ _)
   | (with_reducible exact relief_Check.mono _ _ _ _ _)
   | (with_reducible exact sight_eye.mono _ _ _ _ _ _ _ _ _ _ _ _ _)
   | (with_reducible exact LeO.refl _)
   | (with_reducible exact LeO.none _)
   | (with_reducible refine LeO.ite ?_ ?_)
   | (with_reducible refine LeO.bind ?_ (fun _ => ?_))
   | exact ih0 _ _ _ _ _ _
   | exact ih1 _ _ _ _ _ _ _
   | exact relief_Check.mono _ _ _ _ _
   | exact sight_eye.mono _ _ _ _ _ _ _ _ _ _ _ _ _
   | exact LeO.none _
   | refine LeO.ite ?_ ?_
   | refine LeO.bind ?_ (fun _ => ?_)
  ·
   intro y0 y1 y2 y3 y4 y5 y6
   unfold sight_May.l0
   repeat' first
   | (with_reducible exact ih0 _ _ _ _ _ _)
   | (with_reducible exact ih1 _ _ _ _ _ _ _)
   | (with_reducible exact relief_Check.mono _ _ _ _ _)
   | (with_reducible exact sight_eye.mono _ _ _ _ _ _ _ _ _ _ _ _ _)
   | (with_reducible exact LeO.refl _)
   | (with_reducible exact LeO.none _)
   | (with_reducible refine LeO.ite ?_ ?_)
   | (with_reducible refine LeO.bind ?_ (fun _ => ?_))
   | exact ih0 _ _ _ _ _ _
   | exact ih1 _ _ _ _ _ _ _
   | exact relief_Check.mono _ _ _ _ _
   | exact sight_eye.mono _ _ _ _ _ _ _ _ _ _ _ _ _
   | exact LeO.none _
   | refine LeO.ite ?_ ?_
   | refine LeO.bind ?_ (fun _ => ?_)
theorem sight_May.mono : ∀ a0 a1 a2 a3 a4 k, LeO (sight_May.f k a0 a1 a2 a3 a4) (sight_May.f (k + 1) a0 a1 a2 a3 a4) := by
 intro a0 a1 a2 a3 a4 k
 obtain ⟨ih0, ih1⟩ := sight_May.mono_l k
 unfold sight_May.f
 repeat' first
   | (with_reducible exact ih0 _ _ _ _ _ _)
   | (with_reducible exact ih1 _ _ _ _ _ _ _)
   | (with_reducible exact relief_Check.mono _ _ _ _ _)
   | (with_reducible exact sight_eye.mono _ _ _ _ _ _ _ _ _ _ _ _ _)
   | (with_reducible exact LeO.refl _)
   | (with_reducible exact LeO.none _)
   | (with_reducible refine LeO.ite ?_ ?_)
   | (with_reducible refine LeO.bind ?_ (fun _ => ?_))
   | exact ih0 _ _ _ _ _ _
   | exact ih1 _ _ _ _ _ _ _
   | exact relief_Check.mono _ _ _ _ _
   | exact sight_eye.mono _ _ _ _ _ _ _ _ _ _ _ _ _
   | exact LeO.none _
   | refine LeO.ite ?_ ?_
   | refine LeO.bind ?_ (fun _ => ?_)
set_option maxHeartbeats 8000000 in
set_option maxRecDepth 100000 in
theorem sight_May.calls (k : Nat) (a0_0 : Int) (a0_1 : Int) (a0_2 : Int) (A0_3 : Option Addr) (c0_3 : Nat) (l0_3 : List Int) (A1 : Option Addr) (c1 : Nat) (l1 : List (S27)) (r : Bool) (w : World) (hr0_3 : Kd.C (Kd.int .u8) w A0_3 l0_3.length l0_3) (hc0_3 : l0_3.length ≤ c0_3) (hr1 : Kd.C k27 w A1 l1.length l1) (hc1 : l1.length ≤ c1) (h : sight_May.f k a0_0 a0_1 a0_2 l0_3 l1 = some r) :
  Calls Try.prog 12 #[.agg #[.int .i64 a0_0, .int .i64 a0_1, .int .i64 a0_2, .slice A0_3 l0_3.length c0_3], .slice A1 l1.length c1] w fun e w' => e = .returned (.bool r) ∧ Below w.heap.size w w' := by
 have hu24 := Try.underlying24
 have hu27 := Try.underlying27
 have HR0_3 := aMx22 hr0_3
 have HC0_3 := aMx22 hc0_3
 clear hr0_3 hc0_3
 have HR1 := aMx22 hr1
 have HC1 := aMx22 hc1
 clear hr1 hc1
 have HB := aMx22 (Below.refl w.heap.size w)
 have H : ((relief_Check.f k a0_0 a0_1 a0_2 l0_3).bind fun t193 => (if t193 = 0 then (sight_May.j0 k l1 (decide ((l1.length : Int) > 64)) a0_0 a0_1 a0_2 l0_3) else (sight_May.j0 k l1 true a0_0 a0_1 a0_2 l0_3))) = some r := h
 clear h
 have HC3 := aMx22 H
 clear H
 go_enter Try.func12, Try.ntmps12
 go_upto_region 1 with (first | ((with_reducible refine gate_dst (N := 2) rfl ?_); (try (refine gate_guard (by rfl) ?_; dsimp only)); refine box_event ?hg (N := 2) ?hd (cs := #[.int .i64 a0_0, .int .i64 a0_1, .int .i64 a0_2, .slice A0_3 l0_3.length c0_3]) (t := 24) ?hr ?_; (case hd => rfl); (case hg => rfl); (case hr => first | (go_simp; done) | (go_simp; rfl)); intro gb192 hg w4 hbox hb; have n0_ := aMx22 (zJ (by repeat (first | (with_reducible first | exact HB.out | apply zF | apply zB | apply zE) | exact HB.out)) hb); have n1_ := aMx22 (hbox); have n2_ := aMx22 ((by rw [hg]; exact (zK (by repeat (first | (with_reducible first | exact HB.out | apply zF | apply zB | apply zE) | exact HB.out))) : w.heap.size ≤ gb192)); have n3_ := aMx22 ((by rw [hg]; exact (zK (by repeat (first | (with_reducible first | exact HB.out | apply zF | apply zB | apply zE) | exact HB.out))) : w.heap.size ≤ gb192)); clear HB; have HB := n0_; have BK192 := n1_; have GW192 := n2_; have GE192 := n3_; clear n0_ n1_ n2_ n3_; clear hb hbox hg))
 (try simp only [Act.put, List.setIfInBounds_toArray, List.set_cons_zero, List.set_cons_succ])
 go_cut [14] (fun v14 wc => ∃ (kq : Nat) (x14_2 : Bool), v14 = .bool x14_2 ∧ Aside0 (sight_May.j0 kq l1 x14_2 a0_0 a0_1 a0_2 l0_3 = some r) ∧ Aside0 (kq ≤ k) ∧ Aside0 (wc.heap[gb192]? = some (.cells #[.int .i64 a0_0, .int .i64 a0_1, .int .i64 a0_2, (.slice A0_3 l0_3.length c0_3)] 24 (0, 0))) ∧ Aside0 (Below w.heap.size w wc))
 case first =>
  have H := HC3.out
  clear HC3
  replace H := Option.bind_eq_some_iff.mp H
  obtain ⟨t193, A50, H⟩ := H
  replace H : (if t193 = 0 then (sight_May.j0 k l1 (decide ((l1.length : Int) > 64)) a0_0 a0_1 a0_2 l0_3) else (sight_May.j0 k l1 true a0_0 a0_1 a0_2 l0_3)) = some r := H
  have A5 := aMx22 A50
  clear A50
  by_cases c6 : t193 = 0
  ·
   rw [if_pos c6] at H
   have c6b0 : (t193 == 0) = true := beq_iff_eq.mpr c6
   have c6b1 : (t193 != 0) = false := bne_eq_false_iff_eq.mpr c6
   clear c6
   (first | rw [c6b0] | (simp only [i64_w, i32_w]; rw [c6b0]) | skip)
   have H' := aMx22 H
   clear H
   have hcz7_0 : w4.cell? ⟨gb192, 0, none⟩ = some (.int .i64 a0_0) := (bCx22 BK192.out 0).trans rfl
   have hcz7_1 : w4.cell? ⟨gb192, 1, none⟩ = some (.int .i64 a0_1) := (bCx22 BK192.out 1).trans rfl
   have hcz7_2 : w4.cell? ⟨gb192, 2, none⟩ = some (.int .i64 a0_2) := (bCx22 BK192.out 2).trans rfl
   have hcz7_3 : w4.cell? ⟨gb192, 3, none⟩ = some (.slice A0_3 l0_3.length c0_3) := (bCx22 BK192.out 3).trans rfl
   have hfz7_0 := bFx22 BK192.out 0
   have hfz7_1 := bFx22 BK192.out 1
   have hfz7_2 := bFx22 BK192.out 2
   have hfz7_3 := bFx22 BK192.out 3
   go_wp2_with (first | ((with_reducible refine gate_callee (f := 29) rfl ?_); refine goesL_ (some 8) rfl rfl Try.func29 (by kernel_rfl) rfl #[.agg #[.int .i64 a0_0, .int .i64 a0_1, .int .i64 a0_2, .slice A0_3 l0_3.length c0_3]] rfl (by (try simp only [List.map_toArray, List.map_cons, List.map_nil]); first | done | rfl | (simp only [List.length_drop, List.length_take]; rfl)) ?_; (with_reducible refine (relief_Check.calls k a0_0 a0_1 a0_2 _ _ l0_3 t193 _ ?side1 ?side2 A5.out).mono ?_); (case side1 => repeat (first | exact (Kd.C_below HR0_3.out HB.out) | (with_reducible refine Kd.C_alloc ?_ _) | (with_reducible refine Kd.C_drewN ?_ _) | (with_reducible refine Kd.C_drew ?_))); (case side2 => exact HC0_3.out); rintro e w8 ⟨rfl, hb⟩; refine ⟨_, rfl, ?_⟩; have n0_ := aMx22 (zI (g := gb192) (o := .cells #[.int .i64 a0_0, .int .i64 a0_1, .int .i64 a0_2, .slice A0_3 l0_3.length c0_3] 24 (0, 0)) (by (with_reducible repeat (first | refine bNx22 ?_ _ | refine bDx22 ?_ | refine bKx22 ?_ _)); exact BK192.out) hb); have n1_ := aMx22 (zJ (by repeat (first | (with_reducible first | exact HB.out | apply zF | apply zB | apply zE | refine zC ?_ GE192.out) | exact HB.out)) hb); clear BK192; clear HB; have BK192 := n0_; have HB := n1_; clear n0_ n1_; (try clear hb); (try clear hb2); (try clear hk); (try clear hi)))
   go_meet
   case rel => exact ⟨_, (decide ((l1.length : Int) > 64)), (by first | rfl | (simp; done) | (simp [*]; done)), H', ⟨by first | omega | exact Nat.le_refl _⟩, ⟨by (with_reducible repeat (first | refine bNx22 ?_ _ | refine bDx22 ?_ | refine bKx22 ?_ _)); exact BK192.out⟩, ⟨by repeat (first | (with_reducible first | exact HB.out | apply zF | apply zB | apply zE | refine zC ?_ GE192.out) | exact HB.out)⟩⟩
  rw [if_neg c6] at H
  have c6b0 : (t193 == 0) = false := beq_eq_false_iff_ne.mpr c6
  have c6b1 : (t193 != 0) = true := bne_iff_ne.mpr c6
  (first | rw [c6b0] | (simp only [i64_w, i32_w]; rw [c6b0]) | skip)
  have H' := aMx22 H
  clear H
  have hcz9_0 : w4.cell? ⟨gb192, 0, none⟩ = some (.int .i64 a0_0) := (bCx22 BK192.out 0).trans rfl
  have hcz9_1 : w4.cell? ⟨gb192, 1, none⟩ = some (.int .i64 a0_1) := (bCx22 BK192.out 1).trans rfl
  have hcz9_2 : w4.cell? ⟨gb192, 2, none⟩ = some (.int .i64 a0_2) := (bCx22 BK192.out 2).trans rfl
  have hcz9_3 : w4.cell? ⟨gb192, 3, none⟩ = some (.slice A0_3 l0_3.length c0_3) := (bCx22 BK192.out 3).trans rfl
  have hfz9_0 := bFx22 BK192.out 0
  have hfz9_1 := bFx22 BK192.out 1
  have hfz9_2 := bFx22 BK192.out 2
  have hfz9_3 := bFx22 BK192.out 3
  go_wp2_with (first | ((with_reducible refine gate_callee (f := 29) rfl ?_); refine goesL_ (some 8) rfl rfl Try.func29 (by kernel_rfl) rfl #[.agg #[.int .i64 a0_0, .int .i64 a0_1, .int .i64 a0_2, .slice A0_3 l0_3.length c0_3]] rfl (by (try simp only [List.map_toArray, List.map_cons, List.map_nil]); first | done | rfl | (simp only [List.length_drop, List.length_take]; rfl)) ?_; (with_reducible refine (relief_Check.calls k a0_0 a0_1 a0_2 _ _ l0_3 t193 _ ?side1 ?side2 A5.out).mono ?_); (case side1 => repeat (first | exact (Kd.C_below HR0_3.out HB.out) | (with_reducible refine Kd.C_alloc ?_ _) | (with_reducible refine Kd.C_drewN ?_ _) | (with_reducible refine Kd.C_drew ?_))); (case side2 => exact HC0_3.out); rintro e w10 ⟨rfl, hb⟩; refine ⟨_, rfl, ?_⟩; have n0_ := aMx22 (zI (g := gb192) (o := .cells #[.int .i64 a0_0, .int .i64 a0_1, .int .i64 a0_2, .slice A0_3 l0_3.length c0_3] 24 (0, 0)) (by (with_reducible repeat (first | refine bNx22 ?_ _ | refine bDx22 ?_ | refine bKx22 ?_ _)); exact BK192.out) hb); have n1_ := aMx22 (zJ (by repeat (first | (with_reducible first | exact HB.out | apply zF | apply zB | apply zE | refine zC ?_ GE192.out) | exact HB.out)) hb); clear BK192; clear HB; have BK192 := n0_; have HB := n1_; clear n0_ n1_; (try clear hb); (try clear hb2); (try clear hk); (try clear hi)))
  go_meet
  case rel => exact ⟨_, (true), (by first | rfl | (simp; done) | (simp [*]; done)), H', ⟨by first | omega | exact Nat.le_refl _⟩, ⟨by (with_reducible repeat (first | refine bNx22 ?_ _ | refine bDx22 ?_ | refine bKx22 ?_ _)); exact BK192.out⟩, ⟨by repeat (first | (with_reducible first | exact HB.out | apply zF | apply zB | apply zE | refine zC ?_ GE192.out) | exact HB.out)⟩⟩
 clear HC3
 try clear c1 c2 p2 c6 c6b0 c6b1 hcz7_0 hcz7_1 hcz7_2 hcz7_3 hcz9_0 hcz9_1 hcz9_2 hcz9_3 hfz7_0 hfz7_1 hfz7_2 hfz7_3 hfz9_0 hfz9_1 hfz9_2 hfz9_3
 obtain ⟨kq, x14_2, rfl, HA, HJ2, BK192, HB⟩ := hcut
 cases kq with
 | zero => exact absurd HA.out (by simp [sight_May.j0])
 | succ kj2 =>
  have H := HA.out
  clear HA
  simp only [sight_May.j0] at H
  by_cases c11 : x14_2 = true
  ·
   subst c11
   have H1 : (some false) = some r := by rw [if_pos rfl] at H; exact H
   clear H
   have H := H1
   clear H1
   obtain rfl := Option.some.inj H
   go_wp2
   go_ret
   exact ⟨by first | rfl | (simp [zU, zT] <;> rfl) | (simp [*, zU, zT] <;> rfl) | (rw [zW (by assumption)]; rfl), by repeat (first | (with_reducible first | exact HB.out | apply zF | apply zB | apply zE | refine zC ?_ GE192.out) | exact HB.out)⟩
  replace c11 := Bool.eq_false_iff.mpr c11
  subst c11
  have H1 : (sight_May.l0 kj2 l1 (l1.length : Int) 0 a0_0 a0_1 a0_2 l0_3) = some r := by rw [if_neg (show ¬ (false = true) by decide)] at H; exact H
  clear H
  have H := H1
  clear H1
  have H' := aMx22 H
  clear H
  go_wp2
  go_loopg [17] kj2 (fun kq v17 w' => ∃ (x17_2 : Int), v17 = .int .i64 x17_2 ∧ Aside0 (sight_May.l0 kq l1 (l1.length : Int) x17_2 a0_0 a0_1 a0_2 l0_3 = some r) ∧ Aside0 (kq ≤ kj2) ∧ Aside0 (w'.heap[gb192]? = some (.cells #[.int .i64 a0_0, .int .i64 a0_1, .int .i64 a0_2, (.slice A0_3 l0_3.length c0_3)] 24 (0, 0))) ∧ Aside0 (Below w.heap.size w w'))
  case atStart => exact ⟨(0), (by first | rfl | (simp; done) | (simp [*]; done)), H', ⟨Nat.le_refl _⟩, ⟨by (with_reducible repeat (first | refine bNx22 ?_ _ | refine bDx22 ?_ | refine bKx22 ?_ _)); exact BK192.out⟩, ⟨by repeat (first | (with_reducible first | exact HB.out | apply zF | apply zB | apply zE | refine zC ?_ GE192.out) | exact HB.out)⟩⟩
  clear H'
  try clear c1 c2 p2 c6 c6b0 c6b1 c11 hcz7_0 hcz7_1 hcz7_2 hcz7_3 hcz9_0 hcz9_1 hcz9_2 hcz9_3 hfz7_0 hfz7_1 hfz7_2 hfz7_3 hfz9_0 hfz9_1 hfz9_2 hfz9_3 p2
  obtain ⟨x17_2, rfl, HA, HK2, BK192, HB⟩ := hrel
  cases gk with
  | zero => exact absurd HA.out (by simp [sight_May.l0])
  | succ k2 =>
   have H := HA.out
   clear HA
   simp only [sight_May.l0] at H
   by_cases c12 : x17_2 < (l1.length : Int)
   ·
    rw [if_pos c12] at H
    have c12b0 : decide (x17_2 < (l1.length : Int)) = true := decide_eq_true c12
    clear c12
    by_cases c13 : 0 ≤ x17_2
    ·
     rw [if_pos c13] at H
     have c13b0 : decide (0 ≤ x17_2) = true := decide_eq_true c13
     clear c13
     by_cases c14 : x17_2 < (l1.length : Int)
     ·
      rw [if_pos c14] at H
      have c14b0 : decide (x17_2 < (l1.length : Int)) = true := decide_eq_true c14
      clear c14
      replace H := Option.bind_eq_some_iff.mp H
      obtain ⟨t196, A150, H⟩ := H
      replace H : (if t196 = true then (sight_May.l0 k2 l1 (l1.length : Int) (wrap64 (x17_2 + 1)) a0_0 a0_1 a0_2 l0_3) else (some false)) = some r := H
      have A15 := aMx22 A150
      clear A150
      by_cases c16 : t196 = true
      ·
       subst c16
       have H1 : (sight_May.l0 k2 l1 (l1.length : Int) (wrap64 (x17_2 + 1)) a0_0 a0_1 a0_2 l0_3) = some r := by rw [if_pos rfl] at H; exact H
       clear H
       have H := H1
       clear H1
       have H' := aMx22 H
       clear H
       have p194 : 0 ≤ (x17_2 : Int) := of_decide_eq_true (by first | (with_reducible assumption) | assumption)
       have q194 : x17_2 < (l1.length : Int) := of_decide_eq_true (by first | (with_reducible assumption) | assumption)
       obtain ⟨ad194, e194, hx194_0, hx194_1, hx194_2, hx194_3, hx194_4, hx194_5, hx194_6, hx194_7⟩ := at_T27 HR1.out x17_2 p194 q194
       cases e194
       replace hx194_0 := (HB.out.cell (zH w _ hx194_0)).trans hx194_0
       replace hx194_1 := (HB.out.cell (zH w _ hx194_1)).trans hx194_1
       replace hx194_2 := (HB.out.cell (zH w _ hx194_2)).trans hx194_2
       replace hx194_3 := (HB.out.cell (zH w _ hx194_3)).trans hx194_3
       replace hx194_4 := (HB.out.cell (zH w _ hx194_4)).trans hx194_4
       replace hx194_5 := (HB.out.cell (zH w _ hx194_5)).trans hx194_5
       replace hx194_6 := (HB.out.cell (zH w _ hx194_6)).trans hx194_6
       replace hx194_7 := (HB.out.cell (zH w _ hx194_7)).trans hx194_7
       replace p194 := eq_true p194
       replace q194 := eq_true q194
       go_wp2_with (first | ((with_reducible refine gate_dst (N := 6) rfl ?_); (try (refine gate_guard (by rfl) ?_; dsimp only)); refine box_event ?hg (N := 6) ?hd (cs := #[.int .i64 0, .int .i64 0, .int .i64 0, .int .i64 0, .int .i64 0, .int .i64 0, .int .i64 0, .int .i64 0]) (t := 27) ?hr ?_; (case hd => rfl); (case hg => rfl); (case hr => first | (go_simp; done) | (go_simp; rfl)); intro gb195 hg w17 hbox hb; have n0_ := aMx22 (zI (g := gb192) (o := .cells #[.int .i64 a0_0, .int .i64 a0_1, .int .i64 a0_2, .slice A0_3 l0_3.length c0_3] 24 (0, 0)) (by (with_reducible repeat (first | refine bNx22 ?_ _ | refine bDx22 ?_ | refine bKx22 ?_ _)); exact BK192.out) hb); have n1_ := aMx22 (zJ (by repeat (first | (with_reducible first | exact HB.out | apply zF | apply zB | apply zE | refine zC ?_ GE192.out) | exact HB.out)) hb); have n2_ := aMx22 (hbox); have n3_ := aMx22 ((by rw [hg]; exact (zK (by repeat (first | (with_reducible first | exact HB.out | apply zF | apply zB | apply zE | refine zC ?_ GE192.out) | exact HB.out))) : w.heap.size ≤ gb195)); have n4_ := aMx22 ((by rw [hg]; exact (zK (by repeat (first | (with_reducible first | exact HB.out | apply zF | apply zB | apply zE | refine zC ?_ GE192.out) | exact HB.out))) : w.heap.size ≤ gb195)); have n5_ := aMx22 ((by rw [hg]; exact Nat.ne_of_lt (blk_lt (g := gb192) (o := .cells #[.int .i64 a0_0, .int .i64 a0_1, .int .i64 a0_2, .slice A0_3 l0_3.length c0_3] 24 (0, 0)) (by (with_reducible repeat (first | refine bNx22 ?_ _ | refine bDx22 ?_ | refine bKx22 ?_ _)); exact BK192.out)) : gb192 ≠ gb195)); have n6_ := aMx22 ((by rw [hg]; exact Nat.ne_of_gt (blk_lt (g := gb192) (o := .cells #[.int .i64 a0_0, .int .i64 a0_1, .int .i64 a0_2, .slice A0_3 l0_3.length c0_3] 24 (0, 0)) (by (with_reducible repeat (first | refine bNx22 ?_ _ | refine bDx22 ?_ | refine bKx22 ?_ _)); exact BK192.out)) : gb195 ≠ gb192)); clear BK192; clear HB; have BK192 := n0_; have HB := n1_; have BK195 := n2_; have GW195 := n3_; have GE195 := n4_; have NB192_195 := n5_; have NB195_192 := n6_; clear n0_ n1_ n2_ n3_ n4_ n5_ n6_; clear hb hbox hg; have hnb18 := NB195_192.out; have hnc18 := NB192_195.out; have hcz19_0 : w17.cell? ⟨gb195, 0, none⟩ = some (.int .i64 0) := (bCx22 BK195.out 0).trans rfl; have hcz19_1 : w17.cell? ⟨gb195, 1, none⟩ = some (.int .i64 0) := (bCx22 BK195.out 1).trans rfl; have hcz19_2 : w17.cell? ⟨gb195, 2, none⟩ = some (.int .i64 0) := (bCx22 BK195.out 2).trans rfl; have hcz19_3 : w17.cell? ⟨gb195, 3, none⟩ = some (.int .i64 0) := (bCx22 BK195.out 3).trans rfl; have hcz19_4 : w17.cell? ⟨gb195, 4, none⟩ = some (.int .i64 0) := (bCx22 BK195.out 4).trans rfl; have hcz19_5 : w17.cell? ⟨gb195, 5, none⟩ = some (.int .i64 0) := (bCx22 BK195.out 5).trans rfl; have hcz19_6 : w17.cell? ⟨gb195, 6, none⟩ = some (.int .i64 0) := (bCx22 BK195.out 6).trans rfl; have hcz19_7 : w17.cell? ⟨gb195, 7, none⟩ = some (.int .i64 0) := (bCx22 BK195.out 7).trans rfl; have hfz19_0 := bFx22 BK195.out 0; have hfz19_1 := bFx22 BK195.out 1; have hfz19_2 := bFx22 BK195.out 2; have hfz19_3 := bFx22 BK195.out 3; have hfz19_4 := bFx22 BK195.out 4; have hfz19_5 := bFx22 BK195.out 5; have hfz19_6 := bFx22 BK195.out 6; have hfz19_7 := bFx22 BK195.out 7; have hcz20_0 : w17.cell? ⟨gb192, 0, none⟩ = some (.int .i64 a0_0) := (bCx22 BK192.out 0).trans rfl; have hcz20_1 : w17.cell? ⟨gb192, 1, none⟩ = some (.int .i64 a0_1) := (bCx22 BK192.out 1).trans rfl; have hcz20_2 : w17.cell? ⟨gb192, 2, none⟩ = some (.int .i64 a0_2) := (bCx22 BK192.out 2).trans rfl; have hcz20_3 : w17.cell? ⟨gb192, 3, none⟩ = some (.slice A0_3 l0_3.length c0_3) := (bCx22 BK192.out 3).trans rfl; have hfz20_0 := bFx22 BK192.out 0; have hfz20_1 := bFx22 BK192.out 1; have hfz20_2 := bFx22 BK192.out 2; have hfz20_3 := bFx22 BK192.out 3) | ((with_reducible refine gate_callee (f := 30) rfl ?_); refine goesL_ (some 23) rfl rfl Try.func30 (by kernel_rfl) rfl #[.agg #[.int .i64 a0_0, .int .i64 a0_1, .int .i64 a0_2, .slice A0_3 l0_3.length c0_3], .agg #[.int .i64 ((rd_T27 l1 x17_2).f0), .int .i64 ((rd_T27 l1 x17_2).f1), .int .i64 ((rd_T27 l1 x17_2).f2), .int .i64 ((rd_T27 l1 x17_2).f3), .int .i64 ((rd_T27 l1 x17_2).f4), .int .i64 ((rd_T27 l1 x17_2).f5), .int .i64 ((rd_T27 l1 x17_2).f6), .int .i64 ((rd_T27 l1 x17_2).f7)]] rfl (by (try simp only [List.map_toArray, List.map_cons, List.map_nil]); first | done | rfl | (simp only [List.length_drop, List.length_take]; rfl)) ?_; (with_reducible refine (sight_eye.calls k2 a0_0 a0_1 a0_2 _ _ l0_3 ((rd_T27 l1 x17_2).f0) ((rd_T27 l1 x17_2).f1) ((rd_T27 l1 x17_2).f2) ((rd_T27 l1 x17_2).f3) ((rd_T27 l1 x17_2).f4) ((rd_T27 l1 x17_2).f5) ((rd_T27 l1 x17_2).f6) ((rd_T27 l1 x17_2).f7) true _ ?side1 ?side2 A15.out).mono ?_); (case side1 => exact Kd.C_below HR0_3.out (by repeat (first | (with_reducible first | exact HB.out | apply zF | apply zB | apply zE | refine zC ?_ GE192.out | refine zC ?_ GE195.out) | exact HB.out))); (case side2 => exact HC0_3.out); rintro e w21 ⟨rfl, hb⟩; refine ⟨_, rfl, ?_⟩; have n0_ := aMx22 (zI (g := gb192) (o := .cells #[.int .i64 a0_0, .int .i64 a0_1, .int .i64 a0_2, .slice A0_3 l0_3.length c0_3] 24 (0, 0)) (by (with_reducible repeat (first | refine bNx22 ?_ _ | refine bDx22 ?_ | refine bKx22 ?_ _)); exact blk_far8_x22 BK192.out NB192_195.out) hb); have n1_ := aMx22 (zI (g := gb195) (o := .cells #[.int .i64 ((rd_T27 l1 x17_2).f0), .int .i64 ((rd_T27 l1 x17_2).f1), .int .i64 ((rd_T27 l1 x17_2).f2), .int .i64 ((rd_T27 l1 x17_2).f3), .int .i64 ((rd_T27 l1 x17_2).f4), .int .i64 ((rd_T27 l1 x17_2).f5), .int .i64 ((rd_T27 l1 x17_2).f6), .int .i64 ((rd_T27 l1 x17_2).f7)] 27 (0, 0)) (by (with_reducible repeat (first | refine bNx22 ?_ _ | refine bDx22 ?_ | refine bKx22 ?_ _)); exact blk_put8_x22 BK195.out) hb); have n2_ := aMx22 (zJ (by repeat (first | (with_reducible first | exact HB.out | apply zF | apply zB | apply zE | refine zC ?_ GE192.out | refine zC ?_ GE195.out) | exact HB.out)) hb); clear BK192; clear BK195; clear HB; have BK192 := n0_; have BK195 := n1_; have HB := n2_; clear n0_ n1_ n2_; (try clear hb); (try clear hb2); (try clear hk); (try clear hi)))
       go_roundg k2
       case measure => have := HJ2.out; have := HK2.out; omega
       case rel => exact ⟨(wrap64 (x17_2 + 1)), (by first | rfl | (simp; done) | (simp [*]; done)), H', ⟨by have := HJ2.out; have := HK2.out; omega⟩, ⟨by (with_reducible repeat (first | refine bNx22 ?_ _ | refine bDx22 ?_ | refine bKx22 ?_ _)); exact BK192.out⟩, ⟨by repeat (first | (with_reducible first | exact HB.out | apply zF | apply zB | apply zE | refine zC ?_ GE192.out | refine zC ?_ GE195.out) | exact HB.out)⟩⟩
      replace c16 := Bool.eq_false_iff.mpr c16
      subst c16
      have H1 : (some false) = some r := by rw [if_neg (show ¬ (false = true) by decide)] at H; exact H
      clear H
      have H := H1
      clear H1
      obtain rfl := Option.some.inj H
      have p194 : 0 ≤ (x17_2 : Int) := of_decide_eq_true (by first | (with_reducible assumption) | assumption)
      have q194 : x17_2 < (l1.length : Int) := of_decide_eq_true (by first | (with_reducible assumption) | assumption)
      obtain ⟨ad194, e194, hx194_0, hx194_1, hx194_2, hx194_3, hx194_4, hx194_5, hx194_6, hx194_7⟩ := at_T27 HR1.out x17_2 p194 q194
      cases e194
      replace hx194_0 := (HB.out.cell (zH w _ hx194_0)).trans hx194_0
      replace hx194_1 := (HB.out.cell (zH w _ hx194_1)).trans hx194_1
      replace hx194_2 := (HB.out.cell (zH w _ hx194_2)).trans hx194_2
      replace hx194_3 := (HB.out.cell (zH w _ hx194_3)).trans hx194_3
      replace hx194_4 := (HB.out.cell (zH w _ hx194_4)).trans hx194_4
      replace hx194_5 := (HB.out.cell (zH w _ hx194_5)).trans hx194_5
      replace hx194_6 := (HB.out.cell (zH w _ hx194_6)).trans hx194_6
      replace hx194_7 := (HB.out.cell (zH w _ hx194_7)).trans hx194_7
      replace p194 := eq_true p194
      replace q194 := eq_true q194
      go_wp2_with (first | ((with_reducible refine gate_dst (N := 6) rfl ?_); (try (refine gate_guard (by rfl) ?_; dsimp only)); refine box_event ?hg (N := 6) ?hd (cs := #[.int .i64 0, .int .i64 0, .int .i64 0, .int .i64 0, .int .i64 0, .int .i64 0, .int .i64 0, .int .i64 0]) (t := 27) ?hr ?_; (case hd => rfl); (case hg => rfl); (case hr => first | (go_simp; done) | (go_simp; rfl)); intro gb195 hg w22 hbox hb; have n0_ := aMx22 (zI (g := gb192) (o := .cells #[.int .i64 a0_0, .int .i64 a0_1, .int .i64 a0_2, .slice A0_3 l0_3.length c0_3] 24 (0, 0)) (by (with_reducible repeat (first | refine bNx22 ?_ _ | refine bDx22 ?_ | refine bKx22 ?_ _)); exact BK192.out) hb); have n1_ := aMx22 (zJ (by repeat (first | (with_reducible first | exact HB.out | apply zF | apply zB | apply zE | refine zC ?_ GE192.out) | exact HB.out)) hb); have n2_ := aMx22 (hbox); have n3_ := aMx22 ((by rw [hg]; exact (zK (by repeat (first | (with_reducible first | exact HB.out | apply zF | apply zB | apply zE | refine zC ?_ GE192.out) | exact HB.out))) : w.heap.size ≤ gb195)); have n4_ := aMx22 ((by rw [hg]; exact (zK (by repeat (first | (with_reducible first | exact HB.out | apply zF | apply zB | apply zE | refine zC ?_ GE192.out) | exact HB.out))) : w.heap.size ≤ gb195)); have n5_ := aMx22 ((by rw [hg]; exact Nat.ne_of_lt (blk_lt (g := gb192) (o := .cells #[.int .i64 a0_0, .int .i64 a0_1, .int .i64 a0_2, .slice A0_3 l0_3.length c0_3] 24 (0, 0)) (by (with_reducible repeat (first | refine bNx22 ?_ _ | refine bDx22 ?_ | refine bKx22 ?_ _)); exact BK192.out)) : gb192 ≠ gb195)); have n6_ := aMx22 ((by rw [hg]; exact Nat.ne_of_gt (blk_lt (g := gb192) (o := .cells #[.int .i64 a0_0, .int .i64 a0_1, .int .i64 a0_2, .slice A0_3 l0_3.length c0_3] 24 (0, 0)) (by (with_reducible repeat (first | refine bNx22 ?_ _ | refine bDx22 ?_ | refine bKx22 ?_ _)); exact BK192.out)) : gb195 ≠ gb192)); clear BK192; clear HB; have BK192 := n0_; have HB := n1_; have BK195 := n2_; have GW195 := n3_; have GE195 := n4_; have NB192_195 := n5_; have NB195_192 := n6_; clear n0_ n1_ n2_ n3_ n4_ n5_ n6_; clear hb hbox hg; have hnb23 := NB195_192.out; have hnc23 := NB192_195.out; have hcz24_0 : w22.cell? ⟨gb195, 0, none⟩ = some (.int .i64 0) := (bCx22 BK195.out 0).trans rfl; have hcz24_1 : w22.cell? ⟨gb195, 1, none⟩ = some (.int .i64 0) := (bCx22 BK195.out 1).trans rfl; have hcz24_2 : w22.cell? ⟨gb195, 2, none⟩ = some (.int .i64 0) := (bCx22 BK195.out 2).trans rfl; have hcz24_3 : w22.cell? ⟨gb195, 3, none⟩ = some (.int .i64 0) := (bCx22 BK195.out 3).trans rfl; have hcz24_4 : w22.cell? ⟨gb195, 4, none⟩ = some (.int .i64 0) := (bCx22 BK195.out 4).trans rfl; have hcz24_5 : w22.cell? ⟨gb195, 5, none⟩ = some (.int .i64 0) := (bCx22 BK195.out 5).trans rfl; have hcz24_6 : w22.cell? ⟨gb195, 6, none⟩ = some (.int .i64 0) := (bCx22 BK195.out 6).trans rfl; have hcz24_7 : w22.cell? ⟨gb195, 7, none⟩ = some (.int .i64 0) := (bCx22 BK195.out 7).trans rfl; have hfz24_0 := bFx22 BK195.out 0; have hfz24_1 := bFx22 BK195.out 1; have hfz24_2 := bFx22 BK195.out 2; have hfz24_3 := bFx22 BK195.out 3; have hfz24_4 := bFx22 BK195.out 4; have hfz24_5 := bFx22 BK195.out 5; have hfz24_6 := bFx22 BK195.out 6; have hfz24_7 := bFx22 BK195.out 7; have hcz25_0 : w22.cell? ⟨gb192, 0, none⟩ = some (.int .i64 a0_0) := (bCx22 BK192.out 0).trans rfl; have hcz25_1 : w22.cell? ⟨gb192, 1, none⟩ = some (.int .i64 a0_1) := (bCx22 BK192.out 1).trans rfl; have hcz25_2 : w22.cell? ⟨gb192, 2, none⟩ = some (.int .i64 a0_2) := (bCx22 BK192.out 2).trans rfl; have hcz25_3 : w22.cell? ⟨gb192, 3, none⟩ = some (.slice A0_3 l0_3.length c0_3) := (bCx22 BK192.out 3).trans rfl; have hfz25_0 := bFx22 BK192.out 0; have hfz25_1 := bFx22 BK192.out 1; have hfz25_2 := bFx22 BK192.out 2; have hfz25_3 := bFx22 BK192.out 3) | ((with_reducible refine gate_callee (f := 30) rfl ?_); refine goesL_ (some 23) rfl rfl Try.func30 (by kernel_rfl) rfl #[.agg #[.int .i64 a0_0, .int .i64 a0_1, .int .i64 a0_2, .slice A0_3 l0_3.length c0_3], .agg #[.int .i64 ((rd_T27 l1 x17_2).f0), .int .i64 ((rd_T27 l1 x17_2).f1), .int .i64 ((rd_T27 l1 x17_2).f2), .int .i64 ((rd_T27 l1 x17_2).f3), .int .i64 ((rd_T27 l1 x17_2).f4), .int .i64 ((rd_T27 l1 x17_2).f5), .int .i64 ((rd_T27 l1 x17_2).f6), .int .i64 ((rd_T27 l1 x17_2).f7)]] rfl (by (try simp only [List.map_toArray, List.map_cons, List.map_nil]); first | done | rfl | (simp only [List.length_drop, List.length_take]; rfl)) ?_; (with_reducible refine (sight_eye.calls k2 a0_0 a0_1 a0_2 _ _ l0_3 ((rd_T27 l1 x17_2).f0) ((rd_T27 l1 x17_2).f1) ((rd_T27 l1 x17_2).f2) ((rd_T27 l1 x17_2).f3) ((rd_T27 l1 x17_2).f4) ((rd_T27 l1 x17_2).f5) ((rd_T27 l1 x17_2).f6) ((rd_T27 l1 x17_2).f7) false _ ?side1 ?side2 A15.out).mono ?_); (case side1 => exact Kd.C_below HR0_3.out (by repeat (first | (with_reducible first | exact HB.out | apply zF | apply zB | apply zE | refine zC ?_ GE192.out | refine zC ?_ GE195.out) | exact HB.out))); (case side2 => exact HC0_3.out); rintro e w26 ⟨rfl, hb⟩; refine ⟨_, rfl, ?_⟩; have n0_ := aMx22 (zI (g := gb192) (o := .cells #[.int .i64 a0_0, .int .i64 a0_1, .int .i64 a0_2, .slice A0_3 l0_3.length c0_3] 24 (0, 0)) (by (with_reducible repeat (first | refine bNx22 ?_ _ | refine bDx22 ?_ | refine bKx22 ?_ _)); exact blk_far8_x22 BK192.out NB192_195.out) hb); have n1_ := aMx22 (zI (g := gb195) (o := .cells #[.int .i64 ((rd_T27 l1 x17_2).f0), .int .i64 ((rd_T27 l1 x17_2).f1), .int .i64 ((rd_T27 l1 x17_2).f2), .int .i64 ((rd_T27 l1 x17_2).f3), .int .i64 ((rd_T27 l1 x17_2).f4), .int .i64 ((rd_T27 l1 x17_2).f5), .int .i64 ((rd_T27 l1 x17_2).f6), .int .i64 ((rd_T27 l1 x17_2).f7)] 27 (0, 0)) (by (with_reducible repeat (first | refine bNx22 ?_ _ | refine bDx22 ?_ | refine bKx22 ?_ _)); exact blk_put8_x22 BK195.out) hb); have n2_ := aMx22 (zJ (by repeat (first | (with_reducible first | exact HB.out | apply zF | apply zB | apply zE | refine zC ?_ GE192.out | refine zC ?_ GE195.out) | exact HB.out)) hb); clear BK192; clear BK195; clear HB; have BK192 := n0_; have BK195 := n1_; have HB := n2_; clear n0_ n1_ n2_; (try clear hb); (try clear hb2); (try clear hk); (try clear hi)))
      go_ret
      exact ⟨by first | rfl | (simp [zU, zT] <;> rfl) | (simp [*, zU, zT] <;> rfl) | (rw [zW (by assumption)]; rfl), by repeat (first | (with_reducible first | exact HB.out | apply zF | apply zB | apply zE | refine zC ?_ GE192.out | refine zC ?_ GE195.out) | exact HB.out)⟩
     rw [if_neg c14] at H
     exact absurd H (by simp)
    rw [if_neg c13] at H
    exact absurd H (by simp)
   rw [if_neg c12] at H
   have c12b0 : decide (x17_2 < (l1.length : Int)) = false := decide_eq_false c12
   clear c12
   obtain rfl := Option.some.inj H
   go_wp2
   go_ret
   exact ⟨by first | rfl | (simp [zU, zT] <;> rfl) | (simp [*, zU, zT] <;> rfl) | (rw [zW (by assumption)]; rfl), by repeat (first | (with_reducible first | exact HB.out | apply zF | apply zB | apply zE | refine zC ?_ GE192.out) | exact HB.out)⟩

end Go.Proofs.Yteihieihoeijdaa.PA
