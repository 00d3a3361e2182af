-- WRITTEN BY A PROGRAM OF THIS SESSION (a turned copy of the kit's printer), for this claim. Nothing here is trusted: Lean checks it.
import Derived.Test.YteihieihoeijdaaPAx0
import Derived.Test.YteihieihoeijdaaPAxS
import Derived.Test.YteihieihoeijdaaPAx11
import Derived.Test.YteihieihoeijdaaGAraySees
namespace Go.Proofs.Yteihieihoeijdaa.PA
open Go.RowKit Go.Proofs.YteihieihoeijdaaW.PrintWords Go.Proofs.YteihieihoeijdaaW.PrintLast Go.Proofs.YteihieihoeijdaaW.PrintMore
attribute [local go_sem] max2_int min2_int max_two min_two max_three min_three max_four min_four   -- for this text's walks alone
set_option linter.unusedVariables false
set_option linter.unusedSimpArgs false
theorem aMx17 {p : Prop} (h : p) : Aside0 p := zA h
theorem bNx17 {w : World} {g : Nat} {o : Obj} (h : w.heap[g]? = some o) (n : Nat) : (w.drewN n).heap[g]? = some o := h
theorem bDx17 {w : World} {g : Nat} {o : Obj} (h : w.heap[g]? = some o) : w.drew.heap[g]? = some o := h
theorem bKx17 {w : World} {g : Nat} {o : Obj} (h : w.heap[g]? = some o) (o' : Obj) : (w.alloc o').heap[g]? = some o := zM h o'
theorem bCx17 {w : World} {g : Nat} {t : TypeId} {cs : Array Value} (h : w.heap[g]? = some (.cells cs t (0, 0))) (i : Nat) : w.cell? ⟨g, i, none⟩ = cs[i]? := zD h i
theorem bFx17 {w : World} {g : Nat} {t : TypeId} {cs : Array Value} (h : w.heap[g]? = some (.cells cs t (0, 0))) (i : Nat) : w.frozen? ⟨g, i, none⟩ = false := zG h i

/-! ### ray_Seen: function 25 -/
mutual
def ray_Seen.j0 : Nat → Int → Int → Bool → Int → Int → Int → List Int → Int → Int → Option (List Bool × Int)
 | 0, _, _, _, _, _, _, _, _, _ => none
 | k + 1, x2, x3, x32, x168000, x168001, x168002, x168003, x169000, x169001 => if x32 = true then (some (([] : List Bool), 1)) else ((ray_Floor.f k x168000 x168001 x168002 x168003 x169000 x169001).bind fun bt171 => (if bt171.2 = 0 then (if 0 ≤ (wrap64 (x168000 * x168001)) then (if (wrap64 (x168000 * x168001) : Int).toNat ≤ 281474976710656 then ((some (List.replicate (wrap64 (x168000 * x168001) : Int).toNat false : List Bool)).bind fun y173 => (ray_Seen.l0 k x2 x3 y173 (y173.length : Int) 0 x168000 x168001 x168002 x168003 x169000 x169001)) else (none)) else (none)) else (some (([] : List Bool), 4))))
def ray_Seen.l0 : Nat → Int → Int → List Bool → Int → Int → Int → Int → Int → List Int → Int → Int → Option (List Bool × Int)
 | 0, _, _, _, _, _, _, _, _, _, _, _ => none
 | k + 1, x2, x3, x12, x51, x52, x168000, x168001, x168002, x168003, x169000, x169001 => if x52 < x51 then (if x168000 = 0 then (none) else (if (wrap64 ((wrap64 ((wrap64 ((Int.tmod x52 x168000) - x169000)) * (wrap64 ((Int.tmod x52 x168000) - x169000)))) + (wrap64 ((wrap64 ((wrap64 (Int.tdiv x52 x168000)) - x169001)) * (wrap64 ((wrap64 (Int.tdiv x52 x168000)) - x169001)))))) ≤ (wrap64 (x3 * x3)) then ((ray_Sees.f k x168000 x168001 x168002 x168003 x169000 x169001 (Int.tmod x52 x168000) (wrap64 (Int.tdiv x52 x168000)) x2 0).bind fun bt177 => (if 0 ≤ x52 then (if x52 < (x12.length : Int) then (ray_Seen.l0 k x2 x3 (x12.set (x52 : Int).toNat bt177.1) x51 (wrap64 (x52 + 1)) x168000 x168001 x168002 x168003 x169000 x169001) else (none)) else (none))) else (ray_Seen.l0 k x2 x3 x12 x51 (wrap64 (x52 + 1)) x168000 x168001 x168002 x168003 x169000 x169001))) else (some (x12, 0))
end
def ray_Seen.f (k : Nat) (a0_0 : Int) (a0_1 : Int) (a0_2 : Int) (l0_3 : List Int) (a1_0 : Int) (a1_1 : Int) (a2 : Int) (a3 : Int) : Option (List Bool × Int) := (relief_Check.f k a0_0 a0_1 a0_2 l0_3).bind fun t169 => (if t169 = 0 then ((ray_high.f a2).bind fun t170 => (if t170 = true then (if a3 < 0 then (ray_Seen.j0 k a2 a3 true a0_0 a0_1 a0_2 l0_3 a1_0 a1_1) else (ray_Seen.j0 k a2 a3 (decide (a3 > 64)) a0_0 a0_1 a0_2 l0_3 a1_0 a1_1)) else (ray_Seen.j0 k a2 a3 true a0_0 a0_1 a0_2 l0_3 a1_0 a1_1))) else (ray_Seen.j0 k a2 a3 true a0_0 a0_1 a0_2 l0_3 a1_0 a1_1))
theorem ray_Seen.mono_l : ∀ k, (∀ y0 y1 y2 y3 y4 y5 y6 y7 y8, LeO (ray_Seen.j0 k y0 y1 y2 y3 y4 y5 y6 y7 y8) (ray_Seen.j0 (k + 1) y0 y1 y2 y3 y4 y5 y6 y7 y8)) ∧ (∀ y0 y1 y2 y3 y4 y5 y6 y7 y8 y9 y10, LeO (ray_Seen.l0 k y0 y1 y2 y3 y4 y5 y6 y7 y8 y9 y10) (ray_Seen.l0 (k + 1) y0 y1 y2 y3 y4 y5 y6 y7 y8 y9 y10))
 | 0 => ⟨fun _ _ _ _ _ _ _ _ _ r h => by simp [ray_Seen.j0] at h, fun _ _ _ _ _ _ _ _ _ _ _ r h => by simp [ray_Seen.l0] at h⟩
 | k + 1 => by
  obtain ⟨ih0, ih1⟩ := ray_Seen.mono_l k
  refine ⟨?_, ?_⟩
  ·
   intro y0 y1 y2 y3 y4 y5 y6 y7 y8
   unfold ray_Seen.j0
   repeat' first
   | (with_reducible exact ih0 _ _ _ _ _ _ _ _ _)
   | (with_reducible exact ih1 _ _ _ _ _ _ _ _ _ _ _)
   | (with_reducible exact ray_Floor.mono _ _ _ _ _ _ _)
   | (with_reducible exact ray_Sees.mono _ _ _ _ _ _ _ _ _ _ _)
   | (with_reducible exact relief_Check.mono _ _ _ _ _)
   | (with_reducible exact LeO.refl _)
   | (with_reducible exact LeO.none _)
   | (with_reducible refine LeO.ite ?_ ?_)
   | (with_reducible refine LeO.bind ?_ (fun _ => ?_))
   | exact ih0 _ _ _ _ _ _ _ _ _
   | exact ih1 _ _ _ _ _ _ _ _ _ _ _
   | exact ray_Floor.mono _ _ _ _ _ _ _
   | exact ray_Sees.mono _ _ _ _ _ _ _ _ _ _ _
   | exact relief_Check.mono _ _ _ _ _
   | exact LeO.none _
   | refine LeO.ite ?_ ?_
   | refine LeO.bind ?_ (fun _ => ?_)
  ·
   intro y0 y1 y2 y3 y4 y5 y6 y7 y8 y9 y10
   unfold ray_Seen.l0
   repeat' first
   | (with_reducible exact ih0 _ _ _ _ _ _ _ _ _)
   | (with_reducible exact ih1 _ _ _ _ _ _ _ _ _ _ _)
   | (with_reducible exact ray_Floor.mono _ _ _ _ _ _ _)
   | (with_reducible exact ray_Sees.mono _ _ _ _ _ _ _ _ _ _ _)
   | (with_reducible exact relief_Check.mono _ _ _ _ _)
   | (with_reducible exact LeO.refl _)
   | (with_reducible exact LeO.none _)
   | (with_reducible refine LeO.ite ?_ ?_)
   | (with_reducible refine LeO.bind ?_ (fun _ => ?_))
   | exact ih0 _ _ _ _ _ _ _ _ _
   | exact ih1 _ _ _ _ _ _ _ _ _ _ _
   | exact ray_Floor.mono _ _ _ _ _ _ _
   | exact ray_Sees.mono _ _ _ _ _ _ _ _ _ _ _
   | exact relief_Check.mono _ _ _ _ _
   | exact LeO.none _
   | refine LeO.ite ?_ ?_
   | refine LeO.bind ?_ (fun _ => ?_)
theorem ray_Seen.mono : ∀ a0 a1 a2 a3 a4 a5 a6 a7 k, LeO (ray_Seen.f k a0 a1 a2 a3 a4 a5 a6 a7) (ray_Seen.f (k + 1) a0 a1 a2 a3 a4 a5 a6 a7) := by
 intro a0 a1 a2 a3 a4 a5 a6 a7 k
 obtain ⟨ih0, ih1⟩ := ray_Seen.mono_l k
 unfold ray_Seen.f
 repeat' first
   | (with_reducible exact ih0 _ _ _ _ _ _ _ _ _)
   | (with_reducible exact ih1 _ _ _ _ _ _ _ _ _ _ _)
   | (with_reducible exact ray_Floor.mono _ _ _ _ _ _ _)
   | (with_reducible exact ray_Sees.mono _ _ _ _ _ _ _ _ _ _ _)
   | (with_reducible exact relief_Check.mono _ _ _ _ _)
   | (with_reducible exact LeO.refl _)
   | (with_reducible exact LeO.none _)
   | (with_reducible refine LeO.ite ?_ ?_)
   | (with_reducible refine LeO.bind ?_ (fun _ => ?_))
   | exact ih0 _ _ _ _ _ _ _ _ _
   | exact ih1 _ _ _ _ _ _ _ _ _ _ _
   | exact ray_Floor.mono _ _ _ _ _ _ _
   | exact ray_Sees.mono _ _ _ _ _ _ _ _ _ _ _
   | exact relief_Check.mono _ _ _ _ _
   | exact LeO.none _
   | refine LeO.ite ?_ ?_
   | refine LeO.bind ?_ (fun _ => ?_)
def ray_Seen.T10 : Bool × List (List Nat × List Nat) := (true, [([], []), ([], []), ([1], [1]), ([0, 2], [0, 2]), ([], []), ([], []), ([5], [5]), ([4, 6], [4, 6]), ([3, 7], [3, 7]), ([], []), ([9, 8, 0, 1, 2, 3, 4, 5, 6, 7, 8, 9], [8, 9])])
def ray_Seen.B10 : List Nat := [0, 0, 2, 7, 0, 0, 32, 112, 255, 0, 1023]
theorem ray_Seen.tab10 : rtab .any (opsOf Try.f25 10) = ray_Seen.T10 := by kernel_rfl
theorem ray_Seen.bits10 : waitsOk ray_Seen.T10.2 ray_Seen.B10 = true := by kernel_rfl
def ray_Seen.T11 : Bool × List (List Nat × List Nat) := (true, [([], []), ([0], [0]), ([], []), ([2], [2]), ([1, 3], [1, 3]), ([], []), ([5], [5]), ([], []), ([7], [7]), ([6, 8], [6, 8]), ([4, 0, 1, 2, 3, 4], [4]), ([9, 10, 0, 1, 2, 3, 4, 5, 6, 7, 8, 9, 10], [9])])
def ray_Seen.B11 : List Nat := [0, 1, 0, 4, 15, 0, 32, 0, 128, 480, 31, 2047]
theorem ray_Seen.tab11 : rtab .any (opsOf Try.f25 11) = ray_Seen.T11 := by kernel_rfl
theorem ray_Seen.bits11 : waitsOk ray_Seen.T11.2 ray_Seen.B11 = true := by kernel_rfl
set_option maxHeartbeats 8000000 in
set_option maxRecDepth 100000 in
theorem ray_Seen.calls (k : Nat) (a0_0 : Int) (a0_1 : Int) (a0_2 : Int) (A0_3 : Option Addr) (c0_3 : Nat) (l0_3 : List Int) (a1_0 : Int) (a1_1 : Int) (a2 : Int) (a3 : Int) (r1 : List Bool) (r2 : Int) (w : World) (hr0_3 : Kd.C (Kd.int .u8) w A0_3 l0_3.length l0_3) (hc0_3 : l0_3.length ≤ c0_3) (h : ray_Seen.f k a0_0 a0_1 a0_2 l0_3 a1_0 a1_1 a2 a3 = some (r1, r2)) :
  Calls Try.prog 25 #[.agg #[.int .i64 a0_0, .int .i64 a0_1, .int .i64 a0_2, .slice A0_3 l0_3.length c0_3], .agg #[.int .i64 a1_0, .int .i64 a1_1], .int .i64 a2, .int .i64 a3] w fun e w' => ∃ v0_ : Value, e = .returned (.tuple #[v0_, .int .i64 r2]) ∧ Kd.R Kd.bool 4 w' w.heap.size (fun _ => True) v0_ r1 ∧ Below w.heap.size w w' := by
 have hu24 := Try.underlying24
 have hu57 := Try.underlying57
 have HR0_3 := aMx17 hr0_3
 have HC0_3 := aMx17 hc0_3
 clear hr0_3 hc0_3
 have HB := aMx17 (Below.refl w.heap.size w)
 have H : ((relief_Check.f k a0_0 a0_1 a0_2 l0_3).bind fun t169 => (if t169 = 0 then ((ray_high.f a2).bind fun t170 => (if t170 = true then (if a3 < 0 then (ray_Seen.j0 k a2 a3 true a0_0 a0_1 a0_2 l0_3 a1_0 a1_1) else (ray_Seen.j0 k a2 a3 (decide (a3 > 64)) a0_0 a0_1 a0_2 l0_3 a1_0 a1_1)) else (ray_Seen.j0 k a2 a3 true a0_0 a0_1 a0_2 l0_3 a1_0 a1_1))) else (ray_Seen.j0 k a2 a3 true a0_0 a0_1 a0_2 l0_3 a1_0 a1_1))) = some (r1, r2) := h
 clear h
 have HC5 := aMx17 H
 clear H
 go_enter Try.func25, Try.ntmps25
 go_upto_region 1 with (first | ((with_reducible refine gate_dst (N := 4) rfl ?_); refine box_event ?hg (N := 4) ?hd (cs := #[.int .i64 a0_0, .int .i64 a0_1, .int .i64 a0_2, .slice A0_3 l0_3.length c0_3]) (t := 24) ?hr ?_; (case hd => rfl); (case hg => rfl); (case hr => first | (go_simp; done) | (go_simp; rfl)); intro gb167 hg w6 hbox hb; have n0_ := aMx17 (zJ (by repeat (first | (with_reducible first | exact HB.out | apply zF | apply zB | apply zE) | exact HB.out)) hb); have n1_ := aMx17 (hbox); have n2_ := aMx17 ((by rw [hg]; exact (zK (by repeat (first | (with_reducible first | exact HB.out | apply zF | apply zB | apply zE) | exact HB.out))) : w.heap.size ≤ gb167)); have n3_ := aMx17 ((by rw [hg]; exact (zK (by repeat (first | (with_reducible first | exact HB.out | apply zF | apply zB | apply zE) | exact HB.out))) : w.heap.size ≤ gb167)); clear HB; have HB := n0_; have BK167 := n1_; have GW167 := n2_; have GE167 := n3_; clear n0_ n1_ n2_ n3_; clear hb hbox hg) | ((with_reducible refine gate_dst (N := 5) rfl ?_); refine box_event ?hg (N := 5) ?hd (cs := #[.int .i64 a1_0, .int .i64 a1_1]) (t := 57) ?hr ?_; (case hd => rfl); (case hg => rfl); (case hr => first | (go_simp; done) | (go_simp; rfl)); intro gb168 hg w7 hbox hb; have n0_ := aMx17 (zI (g := gb167) (o := .cells #[.int .i64 a0_0, .int .i64 a0_1, .int .i64 a0_2, .slice A0_3 l0_3.length c0_3] 24 (0, 0)) (by (with_reducible repeat (first | refine bNx17 ?_ _ | refine bDx17 ?_ | refine bKx17 ?_ _)); exact BK167.out) hb); have n1_ := aMx17 (zJ (by repeat (first | (with_reducible first | exact HB.out | apply zF | apply zB | apply zE | refine zC ?_ GE167.out) | exact HB.out)) hb); have n2_ := aMx17 (hbox); have n3_ := aMx17 ((by rw [hg]; exact (zK (by repeat (first | (with_reducible first | exact HB.out | apply zF | apply zB | apply zE | refine zC ?_ GE167.out) | exact HB.out))) : w.heap.size ≤ gb168)); have n4_ := aMx17 ((by rw [hg]; exact (zK (by repeat (first | (with_reducible first | exact HB.out | apply zF | apply zB | apply zE | refine zC ?_ GE167.out) | exact HB.out))) : w.heap.size ≤ gb168)); have n5_ := aMx17 ((by rw [hg]; exact Nat.ne_of_lt (blk_lt (g := gb167) (o := .cells #[.int .i64 a0_0, .int .i64 a0_1, .int .i64 a0_2, .slice A0_3 l0_3.length c0_3] 24 (0, 0)) (by (with_reducible repeat (first | refine bNx17 ?_ _ | refine bDx17 ?_ | refine bKx17 ?_ _)); exact BK167.out)) : gb167 ≠ gb168)); have n6_ := aMx17 ((by rw [hg]; exact Nat.ne_of_gt (blk_lt (g := gb167) (o := .cells #[.int .i64 a0_0, .int .i64 a0_1, .int .i64 a0_2, .slice A0_3 l0_3.length c0_3] 24 (0, 0)) (by (with_reducible repeat (first | refine bNx17 ?_ _ | refine bDx17 ?_ | refine bKx17 ?_ _)); exact BK167.out)) : gb168 ≠ gb167)); clear BK167; clear HB; have BK167 := n0_; have HB := n1_; have BK168 := n2_; have GW168 := n3_; have GE168 := n4_; have NB167_168 := n5_; have NB168_167 := n6_; clear n0_ n1_ n2_ n3_ n4_ n5_ n6_; clear hb hbox hg))
 (try simp only [Act.put, List.setIfInBounds_toArray, List.set_cons_zero, List.set_cons_succ])
 go_cut [32] (fun v32 wc => ∃ (kq : Nat) (x32_4 : Bool), v32 = .bool x32_4 ∧ Aside0 (ray_Seen.j0 kq a2 a3 x32_4 a0_0 a0_1 a0_2 l0_3 a1_0 a1_1 = some (r1, r2)) ∧ Aside0 (kq ≤ k) ∧ Aside0 (wc.heap[gb167]? = some (.cells #[.int .i64 a0_0, .int .i64 a0_1, .int .i64 a0_2, (.slice A0_3 l0_3.length c0_3)] 24 (0, 0))) ∧ Aside0 (wc.heap[gb168]? = some (.cells #[.int .i64 a1_0, .int .i64 a1_1] 57 (0, 0))) ∧ Aside0 (Below w.heap.size w wc))
 case first =>
  have H := HC5.out
  clear HC5
  replace H := Option.bind_eq_some_iff.mp H
  obtain ⟨t169, A80, H⟩ := H
  replace H : (if t169 = 0 then ((ray_high.f a2).bind fun t170 => (if t170 = true then (if a3 < 0 then (ray_Seen.j0 k a2 a3 true a0_0 a0_1 a0_2 l0_3 a1_0 a1_1) else (ray_Seen.j0 k a2 a3 (decide (a3 > 64)) a0_0 a0_1 a0_2 l0_3 a1_0 a1_1)) else (ray_Seen.j0 k a2 a3 true a0_0 a0_1 a0_2 l0_3 a1_0 a1_1))) else (ray_Seen.j0 k a2 a3 true a0_0 a0_1 a0_2 l0_3 a1_0 a1_1)) = some (r1, r2) := H
  have A8 := aMx17 A80
  clear A80
  by_cases c9 : t169 = 0
  ·
   rw [if_pos c9] at H
   have c9b0 : (t169 == 0) = true := beq_iff_eq.mpr c9
   have c9b1 : (t169 != 0) = false := bne_eq_false_iff_eq.mpr c9
   clear c9
   (first | rw [c9b0] | (simp only [i64_w, i32_w]; rw [c9b0]) | skip)
   replace H := Option.bind_eq_some_iff.mp H
   obtain ⟨t170, A100, H⟩ := H
   replace H : (if t170 = true then (if a3 < 0 then (ray_Seen.j0 k a2 a3 true a0_0 a0_1 a0_2 l0_3 a1_0 a1_1) else (ray_Seen.j0 k a2 a3 (decide (a3 > 64)) a0_0 a0_1 a0_2 l0_3 a1_0 a1_1)) else (ray_Seen.j0 k a2 a3 true a0_0 a0_1 a0_2 l0_3 a1_0 a1_1)) = some (r1, r2) := H
   have A10 := aMx17 A100
   clear A100
   by_cases c11 : t170 = true
   ·
    subst c11
    have H1 : (if a3 < 0 then (ray_Seen.j0 k a2 a3 true a0_0 a0_1 a0_2 l0_3 a1_0 a1_1) else (ray_Seen.j0 k a2 a3 (decide (a3 > 64)) a0_0 a0_1 a0_2 l0_3 a1_0 a1_1)) = some (r1, r2) := by rw [if_pos rfl] at H; exact H
    clear H
    have H := H1
    clear H1
    by_cases c12 : a3 < 0
    ·
     rw [if_pos c12] at H
     have c12b0 : decide (a3 < 0) = true := decide_eq_true c12
     clear c12
     have H' := aMx17 H
     clear H
     have hnb13 := NB167_168.out
     have hnc13 := NB168_167.out
     have hcz14_0 : w7.cell? ⟨gb167, 0, none⟩ = some (.int .i64 a0_0) := (bCx17 BK167.out 0).trans rfl
     have hcz14_1 : w7.cell? ⟨gb167, 1, none⟩ = some (.int .i64 a0_1) := (bCx17 BK167.out 1).trans rfl
     have hcz14_2 : w7.cell? ⟨gb167, 2, none⟩ = some (.int .i64 a0_2) := (bCx17 BK167.out 2).trans rfl
     have hcz14_3 : w7.cell? ⟨gb167, 3, none⟩ = some (.slice A0_3 l0_3.length c0_3) := (bCx17 BK167.out 3).trans rfl
     have hfz14_0 := bFx17 BK167.out 0
     have hfz14_1 := bFx17 BK167.out 1
     have hfz14_2 := bFx17 BK167.out 2
     have hfz14_3 := bFx17 BK167.out 3
     go_wp2_with (first | ((with_reducible refine gate_callee (f := 29) rfl ?_); refine goesL_ (some 18) rfl rfl Try.func29 (by kernel_rfl) rfl #[.agg #[.int .i64 a0_0, .int .i64 a0_1, .int .i64 a0_2, .slice A0_3 l0_3.length c0_3]] rfl (by (try simp only [List.map_toArray, List.map_cons, List.map_nil]); first | done | rfl | (simp only [List.length_drop, List.length_take]; rfl)) ?_; (with_reducible refine (relief_Check.calls k a0_0 a0_1 a0_2 _ _ l0_3 t169 _ ?side1 ?side2 A8.out).mono ?_); (case side1 => repeat (first | exact (Kd.C_below HR0_3.out HB.out) | (with_reducible refine Kd.C_alloc ?_ _) | (with_reducible refine Kd.C_drewN ?_ _) | (with_reducible refine Kd.C_drew ?_))); (case side2 => exact HC0_3.out); rintro e w15 ⟨rfl, hb⟩; refine ⟨_, rfl, ?_⟩; have n0_ := aMx17 (zI (g := gb167) (o := .cells #[.int .i64 a0_0, .int .i64 a0_1, .int .i64 a0_2, .slice A0_3 l0_3.length c0_3] 24 (0, 0)) (by (with_reducible repeat (first | refine bNx17 ?_ _ | refine bDx17 ?_ | refine bKx17 ?_ _)); exact BK167.out) hb); have n1_ := aMx17 (zI (g := gb168) (o := .cells #[.int .i64 a1_0, .int .i64 a1_1] 57 (0, 0)) (by (with_reducible repeat (first | refine bNx17 ?_ _ | refine bDx17 ?_ | refine bKx17 ?_ _)); exact BK168.out) hb); have n2_ := aMx17 (zJ (by repeat (first | (with_reducible first | exact HB.out | apply zF | apply zB | apply zE | refine zC ?_ GE167.out | refine zC ?_ GE168.out) | exact HB.out)) hb); clear BK167; clear BK168; clear HB; have BK167 := n0_; have BK168 := n1_; have HB := n2_; clear n0_ n1_ n2_; (try clear hb); (try clear hb2); (try clear hk); (try clear hi)) | (go_at_call 38; (with_reducible refine (ray_high.calls a2 true _ A10.out).mono ?_); rintro e w' ⟨rfl, ⟨nd, rfl⟩⟩))
     go_meet
     case rel => exact ⟨_, (true), (by first | rfl | (simp; done) | (simp [*]; done)), H', ⟨by first | omega | exact Nat.le_refl _⟩, ⟨by (with_reducible repeat (first | refine bNx17 ?_ _ | refine bDx17 ?_ | refine bKx17 ?_ _)); exact BK167.out⟩, ⟨by (with_reducible repeat (first | refine bNx17 ?_ _ | refine bDx17 ?_ | refine bKx17 ?_ _)); exact BK168.out⟩, ⟨by repeat (first | (with_reducible first | exact HB.out | apply zF | apply zB | apply zE | refine zC ?_ GE167.out | refine zC ?_ GE168.out) | exact HB.out)⟩⟩
    rw [if_neg c12] at H
    have c12b0 : decide (a3 < 0) = false := decide_eq_false c12
    clear c12
    have H' := aMx17 H
    clear H
    have hnb16 := NB167_168.out
    have hnc16 := NB168_167.out
    have hcz17_0 : w7.cell? ⟨gb167, 0, none⟩ = some (.int .i64 a0_0) := (bCx17 BK167.out 0).trans rfl
    have hcz17_1 : w7.cell? ⟨gb167, 1, none⟩ = some (.int .i64 a0_1) := (bCx17 BK167.out 1).trans rfl
    have hcz17_2 : w7.cell? ⟨gb167, 2, none⟩ = some (.int .i64 a0_2) := (bCx17 BK167.out 2).trans rfl
    have hcz17_3 : w7.cell? ⟨gb167, 3, none⟩ = some (.slice A0_3 l0_3.length c0_3) := (bCx17 BK167.out 3).trans rfl
    have hfz17_0 := bFx17 BK167.out 0
    have hfz17_1 := bFx17 BK167.out 1
    have hfz17_2 := bFx17 BK167.out 2
    have hfz17_3 := bFx17 BK167.out 3
    go_wp2_with (first | ((with_reducible refine gate_callee (f := 29) rfl ?_); refine goesL_ (some 18) rfl rfl Try.func29 (by kernel_rfl) rfl #[.agg #[.int .i64 a0_0, .int .i64 a0_1, .int .i64 a0_2, .slice A0_3 l0_3.length c0_3]] rfl (by (try simp only [List.map_toArray, List.map_cons, List.map_nil]); first | done | rfl | (simp only [List.length_drop, List.length_take]; rfl)) ?_; (with_reducible refine (relief_Check.calls k a0_0 a0_1 a0_2 _ _ l0_3 t169 _ ?side1 ?side2 A8.out).mono ?_); (case side1 => repeat (first | exact (Kd.C_below HR0_3.out HB.out) | (with_reducible refine Kd.C_alloc ?_ _) | (with_reducible refine Kd.C_drewN ?_ _) | (with_reducible refine Kd.C_drew ?_))); (case side2 => exact HC0_3.out); rintro e w18 ⟨rfl, hb⟩; refine ⟨_, rfl, ?_⟩; have n0_ := aMx17 (zI (g := gb167) (o := .cells #[.int .i64 a0_0, .int .i64 a0_1, .int .i64 a0_2, .slice A0_3 l0_3.length c0_3] 24 (0, 0)) (by (with_reducible repeat (first | refine bNx17 ?_ _ | refine bDx17 ?_ | refine bKx17 ?_ _)); exact BK167.out) hb); have n1_ := aMx17 (zI (g := gb168) (o := .cells #[.int .i64 a1_0, .int .i64 a1_1] 57 (0, 0)) (by (with_reducible repeat (first | refine bNx17 ?_ _ | refine bDx17 ?_ | refine bKx17 ?_ _)); exact BK168.out) hb); have n2_ := aMx17 (zJ (by repeat (first | (with_reducible first | exact HB.out | apply zF | apply zB | apply zE | refine zC ?_ GE167.out | refine zC ?_ GE168.out) | exact HB.out)) hb); clear BK167; clear BK168; clear HB; have BK167 := n0_; have BK168 := n1_; have HB := n2_; clear n0_ n1_ n2_; (try clear hb); (try clear hb2); (try clear hk); (try clear hi)) | (go_at_call 38; (with_reducible refine (ray_high.calls a2 true _ A10.out).mono ?_); rintro e w' ⟨rfl, ⟨nd, rfl⟩⟩))
    go_meet
    case rel => exact ⟨_, (decide (a3 > 64)), (by first | rfl | (simp; done) | (simp [*]; done)), H', ⟨by first | omega | exact Nat.le_refl _⟩, ⟨by (with_reducible repeat (first | refine bNx17 ?_ _ | refine bDx17 ?_ | refine bKx17 ?_ _)); exact BK167.out⟩, ⟨by (with_reducible repeat (first | refine bNx17 ?_ _ | refine bDx17 ?_ | refine bKx17 ?_ _)); exact BK168.out⟩, ⟨by repeat (first | (with_reducible first | exact HB.out | apply zF | apply zB | apply zE | refine zC ?_ GE167.out | refine zC ?_ GE168.out) | exact HB.out)⟩⟩
   replace c11 := Bool.eq_false_iff.mpr c11
   subst c11
   have H1 : (ray_Seen.j0 k a2 a3 true a0_0 a0_1 a0_2 l0_3 a1_0 a1_1) = some (r1, r2) := by rw [if_neg (show ¬ (false = true) by decide)] at H; exact H
   clear H
   have H := H1
   clear H1
   have H' := aMx17 H
   clear H
   have hnb19 := NB167_168.out
   have hnc19 := NB168_167.out
   have hcz20_0 : w7.cell? ⟨gb167, 0, none⟩ = some (.int .i64 a0_0) := (bCx17 BK167.out 0).trans rfl
   have hcz20_1 : w7.cell? ⟨gb167, 1, none⟩ = some (.int .i64 a0_1) := (bCx17 BK167.out 1).trans rfl
   have hcz20_2 : w7.cell? ⟨gb167, 2, none⟩ = some (.int .i64 a0_2) := (bCx17 BK167.out 2).trans rfl
   have hcz20_3 : w7.cell? ⟨gb167, 3, none⟩ = some (.slice A0_3 l0_3.length c0_3) := (bCx17 BK167.out 3).trans rfl
   have hfz20_0 := bFx17 BK167.out 0
   have hfz20_1 := bFx17 BK167.out 1
   have hfz20_2 := bFx17 BK167.out 2
   have hfz20_3 := bFx17 BK167.out 3
   go_wp2_with (first | ((with_reducible refine gate_callee (f := 29) rfl ?_); refine goesL_ (some 18) rfl rfl Try.func29 (by kernel_rfl) rfl #[.agg #[.int .i64 a0_0, .int .i64 a0_1, .int .i64 a0_2, .slice A0_3 l0_3.length c0_3]] rfl (by (try simp only [List.map_toArray, List.map_cons, List.map_nil]); first | done | rfl | (simp only [List.length_drop, List.length_take]; rfl)) ?_; (with_reducible refine (relief_Check.calls k a0_0 a0_1 a0_2 _ _ l0_3 t169 _ ?side1 ?side2 A8.out).mono ?_); (case side1 => repeat (first | exact (Kd.C_below HR0_3.out HB.out) | (with_reducible refine Kd.C_alloc ?_ _) | (with_reducible refine Kd.C_drewN ?_ _) | (with_reducible refine Kd.C_drew ?_))); (case side2 => exact HC0_3.out); rintro e w21 ⟨rfl, hb⟩; refine ⟨_, rfl, ?_⟩; have n0_ := aMx17 (zI (g := gb167) (o := .cells #[.int .i64 a0_0, .int .i64 a0_1, .int .i64 a0_2, .slice A0_3 l0_3.length c0_3] 24 (0, 0)) (by (with_reducible repeat (first | refine bNx17 ?_ _ | refine bDx17 ?_ | refine bKx17 ?_ _)); exact BK167.out) hb); have n1_ := aMx17 (zI (g := gb168) (o := .cells #[.int .i64 a1_0, .int .i64 a1_1] 57 (0, 0)) (by (with_reducible repeat (first | refine bNx17 ?_ _ | refine bDx17 ?_ | refine bKx17 ?_ _)); exact BK168.out) hb); have n2_ := aMx17 (zJ (by repeat (first | (with_reducible first | exact HB.out | apply zF | apply zB | apply zE | refine zC ?_ GE167.out | refine zC ?_ GE168.out) | exact HB.out)) hb); clear BK167; clear BK168; clear HB; have BK167 := n0_; have BK168 := n1_; have HB := n2_; clear n0_ n1_ n2_; (try clear hb); (try clear hb2); (try clear hk); (try clear hi)) | (go_at_call 38; (with_reducible refine (ray_high.calls a2 false _ A10.out).mono ?_); rintro e w' ⟨rfl, ⟨nd, rfl⟩⟩))
   go_meet
   case rel => exact ⟨_, (true), (by first | rfl | (simp; done) | (simp [*]; done)), H', ⟨by first | omega | exact Nat.le_refl _⟩, ⟨by (with_reducible repeat (first | refine bNx17 ?_ _ | refine bDx17 ?_ | refine bKx17 ?_ _)); exact BK167.out⟩, ⟨by (with_reducible repeat (first | refine bNx17 ?_ _ | refine bDx17 ?_ | refine bKx17 ?_ _)); exact BK168.out⟩, ⟨by repeat (first | (with_reducible first | exact HB.out | apply zF | apply zB | apply zE | refine zC ?_ GE167.out | refine zC ?_ GE168.out) | exact HB.out)⟩⟩
  rw [if_neg c9] at H
  have c9b0 : (t169 == 0) = false := beq_eq_false_iff_ne.mpr c9
  have c9b1 : (t169 != 0) = true := bne_iff_ne.mpr c9
  (first | rw [c9b0] | (simp only [i64_w, i32_w]; rw [c9b0]) | skip)
  have H' := aMx17 H
  clear H
  have hnb22 := NB167_168.out
  have hnc22 := NB168_167.out
  have hcz23_0 : w7.cell? ⟨gb167, 0, none⟩ = some (.int .i64 a0_0) := (bCx17 BK167.out 0).trans rfl
  have hcz23_1 : w7.cell? ⟨gb167, 1, none⟩ = some (.int .i64 a0_1) := (bCx17 BK167.out 1).trans rfl
  have hcz23_2 : w7.cell? ⟨gb167, 2, none⟩ = some (.int .i64 a0_2) := (bCx17 BK167.out 2).trans rfl
  have hcz23_3 : w7.cell? ⟨gb167, 3, none⟩ = some (.slice A0_3 l0_3.length c0_3) := (bCx17 BK167.out 3).trans rfl
  have hfz23_0 := bFx17 BK167.out 0
  have hfz23_1 := bFx17 BK167.out 1
  have hfz23_2 := bFx17 BK167.out 2
  have hfz23_3 := bFx17 BK167.out 3
  go_wp2_with (first | ((with_reducible refine gate_callee (f := 29) rfl ?_); refine goesL_ (some 18) rfl rfl Try.func29 (by kernel_rfl) rfl #[.agg #[.int .i64 a0_0, .int .i64 a0_1, .int .i64 a0_2, .slice A0_3 l0_3.length c0_3]] rfl (by (try simp only [List.map_toArray, List.map_cons, List.map_nil]); first | done | rfl | (simp only [List.length_drop, List.length_take]; rfl)) ?_; (with_reducible refine (relief_Check.calls k a0_0 a0_1 a0_2 _ _ l0_3 t169 _ ?side1 ?side2 A8.out).mono ?_); (case side1 => repeat (first | exact (Kd.C_below HR0_3.out HB.out) | (with_reducible refine Kd.C_alloc ?_ _) | (with_reducible refine Kd.C_drewN ?_ _) | (with_reducible refine Kd.C_drew ?_))); (case side2 => exact HC0_3.out); rintro e w24 ⟨rfl, hb⟩; refine ⟨_, rfl, ?_⟩; have n0_ := aMx17 (zI (g := gb167) (o := .cells #[.int .i64 a0_0, .int .i64 a0_1, .int .i64 a0_2, .slice A0_3 l0_3.length c0_3] 24 (0, 0)) (by (with_reducible repeat (first | refine bNx17 ?_ _ | refine bDx17 ?_ | refine bKx17 ?_ _)); exact BK167.out) hb); have n1_ := aMx17 (zI (g := gb168) (o := .cells #[.int .i64 a1_0, .int .i64 a1_1] 57 (0, 0)) (by (with_reducible repeat (first | refine bNx17 ?_ _ | refine bDx17 ?_ | refine bKx17 ?_ _)); exact BK168.out) hb); have n2_ := aMx17 (zJ (by repeat (first | (with_reducible first | exact HB.out | apply zF | apply zB | apply zE | refine zC ?_ GE167.out | refine zC ?_ GE168.out) | exact HB.out)) hb); clear BK167; clear BK168; clear HB; have BK167 := n0_; have BK168 := n1_; have HB := n2_; clear n0_ n1_ n2_; (try clear hb); (try clear hb2); (try clear hk); (try clear hi)))
  go_meet
  case rel => exact ⟨_, (true), (by first | rfl | (simp; done) | (simp [*]; done)), H', ⟨by first | omega | exact Nat.le_refl _⟩, ⟨by (with_reducible repeat (first | refine bNx17 ?_ _ | refine bDx17 ?_ | refine bKx17 ?_ _)); exact BK167.out⟩, ⟨by (with_reducible repeat (first | refine bNx17 ?_ _ | refine bDx17 ?_ | refine bKx17 ?_ _)); exact BK168.out⟩, ⟨by repeat (first | (with_reducible first | exact HB.out | apply zF | apply zB | apply zE | refine zC ?_ GE167.out | refine zC ?_ GE168.out) | exact HB.out)⟩⟩
 clear HC5
 try clear c1 c2 p2 c9 c9b0 c9b1 c11 c12 c12b0 c13 c16 c19 c22 hcz14_0 hcz14_1 hcz14_2 hcz14_3 hcz17_0 hcz17_1 hcz17_2 hcz17_3 hcz20_0 hcz20_1 hcz20_2 hcz20_3 hcz23_0 hcz23_1 hcz23_2 hcz23_3 hfz14_0 hfz14_1 hfz14_2 hfz14_3 hfz17_0 hfz17_1 hfz17_2 hfz17_3 hfz20_0 hfz20_1 hfz20_2 hfz20_3 hfz23_0 hfz23_1 hfz23_2 hfz23_3
 obtain ⟨kq, x32_4, rfl, HA, HJ4, BK167, BK168, HB⟩ := hcut
 cases kq with
 | zero => exact absurd HA.out (by simp [ray_Seen.j0])
 | succ kj4 =>
  have H := HA.out
  clear HA
  simp only [ray_Seen.j0] at H
  by_cases c25 : x32_4 = true
  ·
   subst c25
   have H1 : (some (([] : List Bool), 1)) = some (r1, r2) := by rw [if_pos rfl] at H; exact H
   clear H
   have H := H1
   clear H1
   simp only [Option.some.injEq, Prod.mk.injEq] at H
   obtain ⟨rfl, rfl⟩ := H
   go_wp2
   go_ret2
   exact ⟨_, by first | rfl | (simp [zU, zT] <;> rfl) | (simp [*, zU, zT] <;> rfl) | (rw [zW (by assumption)]; rfl), by first | exact Kd.R_nil _ _ _ _ _ | exact Kd.N_nil _ _ _ _ _ | exact Kd.V_nil _ _ _ _ _ | exact Kd.Q_nil _ _ _ _ _ | exact Kd.S_nil _ _ _ _ _, by repeat (first | (with_reducible first | exact HB.out | apply zF | apply zB | apply zE | refine zC ?_ GE167.out | refine zC ?_ GE168.out) | exact HB.out)⟩
  replace c25 := Bool.eq_false_iff.mpr c25
  subst c25
  have H1 : ((ray_Floor.f kj4 a0_0 a0_1 a0_2 l0_3 a1_0 a1_1).bind fun bt171 => (if bt171.2 = 0 then (if 0 ≤ (wrap64 (a0_0 * a0_1)) then (if (wrap64 (a0_0 * a0_1) : Int).toNat ≤ 281474976710656 then ((some (List.replicate (wrap64 (a0_0 * a0_1) : Int).toNat false : List Bool)).bind fun y173 => (ray_Seen.l0 kj4 a2 a3 y173 (y173.length : Int) 0 a0_0 a0_1 a0_2 l0_3 a1_0 a1_1)) else (none)) else (none)) else (some (([] : List Bool), 4)))) = some (r1, r2) := by rw [if_neg (show ¬ (false = true) by decide)] at H; exact H
  clear H
  have H := H1
  clear H1
  replace H := Option.bind_eq_some_iff.mp H
  obtain ⟨⟨t171, t172⟩, A260, H⟩ := H
  replace H : (if t172 = 0 then (if 0 ≤ (wrap64 (a0_0 * a0_1)) then (if (wrap64 (a0_0 * a0_1) : Int).toNat ≤ 281474976710656 then ((some (List.replicate (wrap64 (a0_0 * a0_1) : Int).toNat false : List Bool)).bind fun y173 => (ray_Seen.l0 kj4 a2 a3 y173 (y173.length : Int) 0 a0_0 a0_1 a0_2 l0_3 a1_0 a1_1)) else (none)) else (none)) else (some (([] : List Bool), 4))) = some (r1, r2) := H
  have A26 := aMx17 A260
  clear A260
  by_cases c27 : t172 = 0
  ·
   rw [if_pos c27] at H
   have c27b0 : (t172 == 0) = true := beq_iff_eq.mpr c27
   have c27b1 : (t172 != 0) = false := bne_eq_false_iff_eq.mpr c27
   clear c27
   obtain ⟨ji28, hji28⟩ : ∃ j_ : Int, (wrap64 (a0_0 * a0_1)) = j_ := ⟨_, rfl⟩
   replace H : (if 0 ≤ (ji28) then (if (ji28 : Int).toNat ≤ 281474976710656 then ((some (List.replicate (ji28 : Int).toNat false : List Bool)).bind fun y173 => (ray_Seen.l0 kj4 a2 a3 y173 (y173.length : Int) 0 a0_0 a0_1 a0_2 l0_3 a1_0 a1_1)) else (none)) else (none)) = some (r1, r2) := by first | (rw [hji28] at H; exact H) | (simp only [hji28] at H ⊢; exact H)
   (try rw [hji28] at A26)
   have hji28w : (IntKind.i64.wrap (a0_0 * a0_1)) = ji28 := (i64_w _).trans hji28
   by_cases c29 : 0 ≤ (ji28)
   ·
    rw [if_pos c29] at H
    have c29b0 := eq_true c29
    have c29b1 : decide (0 ≤ (ji28)) = true := decide_eq_true c29
    clear c29
    by_cases c30 : (ji28 : Int).toNat ≤ 281474976710656
    ·
     rw [if_pos c30] at H
     have c30b0 := eq_true c30
     have c30b1 : decide ((ji28 : Int).toNat ≤ 281474976710656) = true := decide_eq_true c30
     clear c30
     obtain ⟨y173, hy173⟩ : ∃ y_ : List Bool, y_ = (List.replicate (ji28 : Int).toNat false) := ⟨_, rfl⟩
     replace H : (ray_Seen.l0 kj4 a2 a3 y173 (y173.length : Int) 0 a0_0 a0_1 a0_2 l0_3 a1_0 a1_1) = some (r1, r2) := by first | (rw [hy173]; with_reducible exact H) | (have H2_ := (Option.bind_some _ _).symm.trans H; rw [hy173]; with_reducible exact H2_) | (have H2_ := (Option.bind_some _ _).symm.trans H; with_reducible exact H2_) | with_reducible exact H | (rw [hy173]; exact H) | exact H
     have Ny173 := aMx17 hy173
     clear hy173
     have H' := aMx17 H
     clear H
     have hnb31 := NB167_168.out
     have hnc31 := NB168_167.out
     have hcz32_0 : wc.cell? ⟨gb167, 0, none⟩ = some (.int .i64 a0_0) := (bCx17 BK167.out 0).trans rfl
     have hcz32_1 : wc.cell? ⟨gb167, 1, none⟩ = some (.int .i64 a0_1) := (bCx17 BK167.out 1).trans rfl
     have hcz32_2 : wc.cell? ⟨gb167, 2, none⟩ = some (.int .i64 a0_2) := (bCx17 BK167.out 2).trans rfl
     have hcz32_3 : wc.cell? ⟨gb167, 3, none⟩ = some (.slice A0_3 l0_3.length c0_3) := (bCx17 BK167.out 3).trans rfl
     have hfz32_0 := bFx17 BK167.out 0
     have hfz32_1 := bFx17 BK167.out 1
     have hfz32_2 := bFx17 BK167.out 2
     have hfz32_3 := bFx17 BK167.out 3
     have hcz33_0 : wc.cell? ⟨gb168, 0, none⟩ = some (.int .i64 a1_0) := (bCx17 BK168.out 0).trans rfl
     have hcz33_1 : wc.cell? ⟨gb168, 1, none⟩ = some (.int .i64 a1_1) := (bCx17 BK168.out 1).trans rfl
     have hfz33_0 := bFx17 BK168.out 0
     have hfz33_1 := bFx17 BK168.out 1
     go_wp2_with (first | ((with_reducible refine gate_callee (f := 39) rfl ?_); refine goesL_ (some 39) rfl rfl Try.func39 (by kernel_rfl) rfl #[.agg #[.int .i64 a0_0, .int .i64 a0_1, .int .i64 a0_2, .slice A0_3 l0_3.length c0_3], .int .i64 a1_0, .int .i64 a1_1] rfl (by (try simp only [List.map_toArray, List.map_cons, List.map_nil]); first | done | rfl | (simp only [List.length_drop, List.length_take]; rfl)) ?_; (with_reducible refine (ray_Floor.calls kj4 a0_0 a0_1 a0_2 _ _ l0_3 a1_0 a1_1 t171 t172 _ ?side1 ?side2 A26.out).mono ?_); (case side1 => repeat (first | exact (Kd.C_below HR0_3.out HB.out) | (with_reducible refine Kd.C_alloc ?_ _) | (with_reducible refine Kd.C_drewN ?_ _) | (with_reducible refine Kd.C_drew ?_))); (case side2 => exact HC0_3.out); rintro e w34 ⟨rfl, hb⟩; refine ⟨_, rfl, ?_⟩; have n0_ := aMx17 (zI (g := gb167) (o := .cells #[.int .i64 a0_0, .int .i64 a0_1, .int .i64 a0_2, .slice A0_3 l0_3.length c0_3] 24 (0, 0)) (by (with_reducible repeat (first | refine bNx17 ?_ _ | refine bDx17 ?_ | refine bKx17 ?_ _)); exact BK167.out) hb); have n1_ := aMx17 (zI (g := gb168) (o := .cells #[.int .i64 a1_0, .int .i64 a1_1] 57 (0, 0)) (by (with_reducible repeat (first | refine bNx17 ?_ _ | refine bDx17 ?_ | refine bKx17 ?_ _)); exact BK168.out) hb); have n2_ := aMx17 (zJ (by repeat (first | (with_reducible first | exact HB.out | apply zF | apply zB | apply zE | refine zC ?_ GE167.out | refine zC ?_ GE168.out) | exact HB.out)) hb); clear BK167; clear BK168; clear HB; have BK167 := n0_; have BK168 := n1_; have HB := n2_; clear n0_ n1_ n2_; (try clear hb); (try clear hb2); (try clear hk); (try clear hi); have hcz35_0 : w34.cell? ⟨gb167, 0, none⟩ = some (.int .i64 a0_0) := (bCx17 BK167.out 0).trans rfl; have hcz35_1 : w34.cell? ⟨gb167, 1, none⟩ = some (.int .i64 a0_1) := (bCx17 BK167.out 1).trans rfl; have hcz35_2 : w34.cell? ⟨gb167, 2, none⟩ = some (.int .i64 a0_2) := (bCx17 BK167.out 2).trans rfl; have hcz35_3 : w34.cell? ⟨gb167, 3, none⟩ = some (.slice A0_3 l0_3.length c0_3) := (bCx17 BK167.out 3).trans rfl; have hfz35_0 := bFx17 BK167.out 0; have hfz35_1 := bFx17 BK167.out 1; have hfz35_2 := bFx17 BK167.out 2; have hfz35_3 := bFx17 BK167.out 3) | ((with_reducible refine gate_dst (N := 49) rfl ?_); refine Kd.R_make Kd.bool _ 4 rfl (N := 49) rfl 54 _ _ rfl ji28 rfl rfl Try.underlying54 (.bool false) 1 info4 rfl (by decide) (by omega) false (ok := fun _ => True) (okp := fun _ => True) rfl (fun _ hk => hk) trivial (of_decide_eq_true (by first | (with_reducible assumption) | assumption)) (Nat.le_trans (Nat.mul_le_mul_right _ (of_decide_eq_true (by first | (with_reducible assumption) | assumption) : ji28.toNat ≤ 281474976710656)) (by omega)) (Below.refl _ _) (Nat.le_refl _) ?_; intro v174 w36 ho37 hb hg_ hnew_; clear hg_ hnew_; (first | rw [← Ny173.out] at ho37 | (simp only [Int.reduceToNat] at ho37; rw [← Ny173.out] at ho37)); have n0_ := aMx17 (Kd.R_lower ho37 (zK (by repeat (first | (with_reducible first | exact HB.out | apply zF | apply zB | apply zE | refine zC ?_ GE167.out | refine zC ?_ GE168.out) | exact HB.out)))); have n1_ := aMx17 (zI (g := gb167) (o := .cells #[.int .i64 a0_0, .int .i64 a0_1, .int .i64 a0_2, .slice A0_3 l0_3.length c0_3] 24 (0, 0)) (by (with_reducible repeat (first | refine bNx17 ?_ _ | refine bDx17 ?_ | refine bKx17 ?_ _)); exact BK167.out) hb); have n2_ := aMx17 (zI (g := gb168) (o := .cells #[.int .i64 a1_0, .int .i64 a1_1] 57 (0, 0)) (by (with_reducible repeat (first | refine bNx17 ?_ _ | refine bDx17 ?_ | refine bKx17 ?_ _)); exact BK168.out) hb); have n3_ := aMx17 (zJ (by repeat (first | (with_reducible first | exact HB.out | apply zF | apply zB | apply zE | refine zC ?_ GE167.out | refine zC ?_ GE168.out) | exact HB.out)) hb); clear BK167; clear BK168; clear HB; have HO175 := n0_; have BK167 := n1_; have BK168 := n2_; have HB := n3_; clear n0_ n1_ n2_ n3_; clear hb ho37; obtain ⟨Ao38, co38, eo38⟩ := Kd.R_slice HO175.out; subst eo38))
     go_loopg [52] kj4 (fun kq v52 w' => ∃ (x12_2 : List Bool) (x52_2 : Int), v52 = .int .i64 x52_2 ∧ Aside0 (ray_Seen.l0 kq a2 a3 x12_2 (y173.length : Int) x52_2 a0_0 a0_1 a0_2 l0_3 a1_0 a1_1 = some (r1, r2)) ∧ Aside0 (kq ≤ kj4) ∧ Aside0 (Kd.R Kd.bool 4 w' w.heap.size (fun _ => True) (.slice Ao38 y173.length co38) x12_2) ∧ Aside0 (w'.heap[gb167]? = some (.cells #[.int .i64 a0_0, .int .i64 a0_1, .int .i64 a0_2, (.slice A0_3 l0_3.length c0_3)] 24 (0, 0))) ∧ Aside0 (w'.heap[gb168]? = some (.cells #[.int .i64 a1_0, .int .i64 a1_1] 57 (0, 0))) ∧ Aside0 (Below w.heap.size w w'))
     case atStart => exact ⟨(y173), (0), (by first | rfl | (simp; done) | (simp [*]; done)), H', ⟨Nat.le_refl _⟩, ⟨by (with_reducible repeat (first | apply zP | apply zQ | apply zR)); exact HO175.out⟩, ⟨by (with_reducible repeat (first | refine bNx17 ?_ _ | refine bDx17 ?_ | refine bKx17 ?_ _)); exact BK167.out⟩, ⟨by (with_reducible repeat (first | refine bNx17 ?_ _ | refine bDx17 ?_ | refine bKx17 ?_ _)); exact BK168.out⟩, ⟨by repeat (first | (with_reducible first | exact HB.out | apply zF | apply zB | apply zE | refine zC ?_ GE167.out | refine zC ?_ GE168.out) | exact HB.out)⟩⟩
     clear H'
     try clear c1 c2 p2 c3 p6 c9 c9b0 c9b1 c11 c12 c12b0 c13 c16 c19 c22 c25 c27 c27b0 c27b1 c29 c29b0 c29b1 c30 c30b0 c30b1 c31 hcz14_0 hcz14_1 hcz14_2 hcz14_3 hcz17_0 hcz17_1 hcz17_2 hcz17_3 hcz20_0 hcz20_1 hcz20_2 hcz20_3 hcz23_0 hcz23_1 hcz23_2 hcz23_3 hcz32_0 hcz32_1 hcz32_2 hcz32_3 hcz33_0 hcz33_1 hcz35_0 hcz35_1 hcz35_2 hcz35_3 hfz14_0 hfz14_1 hfz14_2 hfz14_3 hfz17_0 hfz17_1 hfz17_2 hfz17_3 hfz20_0 hfz20_1 hfz20_2 hfz20_3 hfz23_0 hfz23_1 hfz23_2 hfz23_3 hfz32_0 hfz32_1 hfz32_2 hfz32_3 hfz33_0 hfz33_1 hfz35_0 hfz35_1 hfz35_2 hfz35_3 p2
     obtain ⟨x12_2, x52_2, rfl, HA, HK2, HO_12, BK167, BK168, HB⟩ := hrel
     have hl12_2 := (Kd.R_reads' HO_12.out).1
     rw [hl12_2] at HO_12
     (try simp only [hl12_2])
     (try simp only [hl12_2] at BK167)
     (try simp only [hl12_2] at BK168)
     cases gk with
     | zero => exact absurd HA.out (by simp [ray_Seen.l0])
     | succ k2 =>
      have H := HA.out
      clear HA
      simp only [ray_Seen.l0] at H
      by_cases c39 : x52_2 < (y173.length : Int)
      ·
       rw [if_pos c39] at H
       have c39b0 : decide (x52_2 < (y173.length : Int)) = true := decide_eq_true c39
       (try simp only [hl12_2] at c39b0)
       clear c39
       by_cases c40 : a0_0 = 0
       ·
        rw [if_pos c40] at H
        exact absurd H (by simp)
       rw [if_neg c40] at H
       have c40b0 : (a0_0 == 0) = false := beq_eq_false_iff_ne.mpr c40
       (try simp only [hl12_2] at c40b0)
       have c40b1 : (a0_0 != 0) = true := bne_iff_ne.mpr c40
       (try simp only [hl12_2] at c40b1)
       by_cases c41 : (wrap64 ((wrap64 ((wrap64 ((Int.tmod x52_2 a0_0) - a1_0)) * (wrap64 ((Int.tmod x52_2 a0_0) - a1_0)))) + (wrap64 ((wrap64 ((wrap64 (Int.tdiv x52_2 a0_0)) - a1_1)) * (wrap64 ((wrap64 (Int.tdiv x52_2 a0_0)) - a1_1)))))) ≤ (wrap64 (a3 * a3))
       ·
        rw [if_pos c41] at H
        have c41b0 : decide ((wrap64 ((wrap64 ((wrap64 ((Int.tmod x52_2 a0_0) - a1_0)) * (wrap64 ((Int.tmod x52_2 a0_0) - a1_0)))) + (wrap64 ((wrap64 ((wrap64 (Int.tdiv x52_2 a0_0)) - a1_1)) * (wrap64 ((wrap64 (Int.tdiv x52_2 a0_0)) - a1_1)))))) ≤ (wrap64 (a3 * a3))) = true := decide_eq_true c41
        (try simp only [hl12_2] at c41b0)
        clear c41
        replace H := Option.bind_eq_some_iff.mp H
        obtain ⟨⟨t177, t178⟩, A420, H⟩ := H
        replace H : (if 0 ≤ x52_2 then (if x52_2 < (x12_2.length : Int) then (ray_Seen.l0 k2 a2 a3 (x12_2.set (x52_2 : Int).toNat t177) (y173.length : Int) (wrap64 (x52_2 + 1)) a0_0 a0_1 a0_2 l0_3 a1_0 a1_1) else (none)) else (none)) = some (r1, r2) := H
        have A42 := aMx17 A420
        clear A420
        by_cases c43 : 0 ≤ x52_2
        ·
         rw [if_pos c43] at H
         have c43b0 : decide (0 ≤ x52_2) = true := decide_eq_true c43
         (try simp only [hl12_2] at c43b0)
         clear c43
         by_cases c44 : x52_2 < (x12_2.length : Int)
         ·
          rw [if_pos c44] at H
          have c44b0 : decide (x52_2 < (x12_2.length : Int)) = true := decide_eq_true c44
          (try simp only [hl12_2] at c44b0)
          clear c44
          obtain ⟨y179, hy179⟩ : ∃ y_ : List Bool, y_ = (x12_2.set (x52_2 : Int).toNat t177) := ⟨_, rfl⟩
          replace H : (ray_Seen.l0 k2 a2 a3 y179 (y173.length : Int) (wrap64 (x52_2 + 1)) a0_0 a0_1 a0_2 l0_3 a1_0 a1_1) = some (r1, r2) := by first | (rw [hy179]; with_reducible exact H) | (have H2_ := (Option.bind_some _ _).symm.trans H; rw [hy179]; with_reducible exact H2_) | (have H2_ := (Option.bind_some _ _).symm.trans H; with_reducible exact H2_) | with_reducible exact H | (rw [hy179]; exact H) | exact H
          have Ny179 := aMx17 hy179
          clear hy179
          have H' := aMx17 H
          clear H
          try go_wp2
          have n0_ := aMx17 (zR HO_12.out)
          have n1_ := aMx17 (bDx17 BK167.out)
          have n2_ := aMx17 (bDx17 BK168.out)
          have n3_ := aMx17 (zE HB.out)
          clear HO_12
          clear BK167
          clear BK168
          clear HB
          have HO_12 := n0_
          have BK167 := n1_
          have BK168 := n2_
          have HB := n3_
          clear n0_ n1_ n2_ n3_
          refine start_ (n := 11) (S := fun w' => w'.cell? ⟨gb167, 0, none⟩ = some (.int .i64 a0_0) ∧ w'.cell? ⟨gb167, 1, none⟩ = some (.int .i64 a0_1) ∧ w'.cell? ⟨gb167, 2, none⟩ = some (.int .i64 a0_2) ∧ w'.cell? ⟨gb167, 3, none⟩ = some (.slice A0_3 l0_3.length c0_3)) (ds := []) (bA 11 0) (by kernel_rfl) rfl rfl ⟨(bCx17 BK167.out 0).trans rfl, (bCx17 BK167.out 1).trans rfl, (bCx17 BK167.out 2).trans rfl, (bCx17 BK167.out 3).trans rfl⟩ (fun hHeld => ?_); refine with_tabW ray_Seen.tab10 ray_Seen.bits10 (fun HT_ HW_ => ?_)
          generalize wr.drew = w46 at HO_12 BK167 BK168 HB hHeld ⊢
          refine pure_ (i := 0) (N := some 55) (v := ?_) (a' := ?_) (bA 11 1) rfl rfl (any_of HT_.out (by kernel_rfl)) (fun _ _ _ h => h) (Or.inl ⟨by rfl, ?_⟩) ?_ ?_
          rotate_left
          ·
           intro w'
           go_simp
           with_reducible rfl
          rotate_left
          ·
           simp only [Act.put, sA, sB, sC, i64_w, i32_w]
           rfl
          refine pure_ (i := 1) (N := some 56) (v := ?_) (a' := ?_) (bA 11 3) rfl rfl (any_of HT_.out (by kernel_rfl)) (fun _ _ _ h => h) (Or.inl ⟨by rfl, ?_⟩) ?_ ?_
          rotate_left
          ·
           intro w'
           go_simp
           with_reducible rfl
          rotate_left
          ·
           simp only [Act.put, sA, sB, sC, i64_w, i32_w]
           rfl
          refine pure_ (i := 4) (N := some 59) (v := ?_) (a' := ?_) (bA 11 19) rfl rfl (any_of HT_.out (by kernel_rfl)) (fun _ _ _ h => h) (Or.inl ⟨by rfl, ?_⟩) ?_ ?_
          rotate_left
          ·
           intro w'
           go_simp
           with_reducible rfl
          rotate_left
          ·
           simp only [Act.put, sA, sB, sC, i64_w, i32_w]
           rfl
          refine pure_ (i := 5) (N := some 60) (v := ?_) (a' := ?_) (bA 11 51) rfl rfl (any_of HT_.out (by kernel_rfl)) (fun _ _ _ h => h) (Or.inl ⟨by rfl, ?_⟩) ?_ ?_
          rotate_left
          ·
           intro w'
           go_simp
           with_reducible rfl
          rotate_left
          ·
           simp only [Act.put, sA, sB, sC, i64_w, i32_w]
           rfl
          refine take_ (i := 2) (N := some 57) (v := ?_) (a' := ?_) (bA 11 55) rfl rfl (take_ofW HT_.out HW_.out (by kernel_rfl)) (fun _ _ _ h => h) (Or.inl ⟨by rfl, ?_⟩) hHeld ?_ ?_
          rotate_left
          ·
           rintro w' ⟨s0, s1, s2, s3⟩
           go_simp
           with_reducible rfl
          rotate_left
          ·
           simp only [Act.put, sA, sB, sC, i64_w, i32_w]
           rfl
          refine pure_ (i := 3) (N := some 58) (v := ?_) (a' := ?_) (bA 11 63) rfl rfl (any_of HT_.out (by kernel_rfl)) (fun _ _ _ h => h) (Or.inl ⟨by rfl, ?_⟩) ?_ ?_
          rotate_left
          ·
           intro w'
           go_simp
           with_reducible rfl
          rotate_left
          ·
           simp only [Act.put, sA, sB, sC, i64_w, i32_w]
           rfl
          refine take_ (i := 6) (N := some 61) (v := ?_) (a' := ?_) (bA 11 127) rfl rfl (take_ofW HT_.out HW_.out (by kernel_rfl)) (fun _ _ _ h => h) (Or.inl ⟨by rfl, ?_⟩) hHeld ?_ ?_
          rotate_left
          ·
           rintro w' ⟨s0, s1, s2, s3⟩
           go_simp
           with_reducible rfl
          rotate_left
          ·
           simp only [Act.put, sA, sB, sC, i64_w, i32_w]
           rfl
          refine pure_ (i := 7) (N := some 62) (v := ?_) (a' := ?_) (bA 11 255) rfl rfl (any_of HT_.out (by kernel_rfl)) (fun _ _ _ h => h) (Or.inl ⟨by rfl, ?_⟩) ?_ ?_
          rotate_left
          ·
           intro w'
           go_simp
           with_reducible rfl
          rotate_left
          ·
           simp only [Act.put, sA, sB, sC, i64_w, i32_w]
           rfl
          refine pure_ (i := 8) (N := some 63) (v := ?_) (a' := ?_) (bA 11 511) rfl rfl (any_of HT_.out (by kernel_rfl)) (fun _ _ _ h => h) (Or.inl ⟨by rfl, ?_⟩) ?_ ?_
          rotate_left
          ·
           intro w'
           go_simp
           with_reducible rfl
          rotate_left
          ·
           simp only [Act.put, sA, sB, sC, i64_w, i32_w]
           rfl
          refine one_ (i := 9) (N := some 14) (bA 11 1023) rfl rfl (one_of HT_.out (by kernel_rfl)) (by decide) (fun K hK => ?_)
          refine box_step ?hg (N := 14) ?hd (cs := #[.int .i64 0, .int .i64 0]) (t := 57) ?hr ?_; (case hd => rfl); (case hg => rfl); (case hr => first | (go_simp; done) | (go_simp; rfl))
          intro gb176 hg w47 hbox hb
          have n0_ := aMx17 (zS (by (with_reducible repeat (first | apply zP | apply zQ | apply zR)); exact HO_12.out) hb)
          have n1_ := aMx17 (zI (g := gb167) (o := .cells #[.int .i64 a0_0, .int .i64 a0_1, .int .i64 a0_2, .slice A0_3 l0_3.length c0_3] 24 (0, 0)) (by (with_reducible repeat (first | refine bNx17 ?_ _ | refine bDx17 ?_ | refine bKx17 ?_ _)); exact BK167.out) hb)
          have n2_ := aMx17 (zI (g := gb168) (o := .cells #[.int .i64 a1_0, .int .i64 a1_1] 57 (0, 0)) (by (with_reducible repeat (first | refine bNx17 ?_ _ | refine bDx17 ?_ | refine bKx17 ?_ _)); exact BK168.out) hb)
          have n3_ := aMx17 (zJ (by repeat (first | (with_reducible first | exact HB.out | apply zF | apply zB | apply zE | refine zC ?_ GE167.out | refine zC ?_ GE168.out) | exact HB.out)) hb)
          have n4_ := aMx17 (hbox)
          have n5_ := aMx17 ((by rw [hg]; exact (zK (by repeat (first | (with_reducible first | exact HB.out | apply zF | apply zB | apply zE | refine zC ?_ GE167.out | refine zC ?_ GE168.out) | exact HB.out))) : w.heap.size ≤ gb176))
          have n6_ := aMx17 ((by rw [hg]; exact (zK (by repeat (first | (with_reducible first | exact HB.out | apply zF | apply zB | apply zE | refine zC ?_ GE167.out | refine zC ?_ GE168.out) | exact HB.out))) : w.heap.size ≤ gb176))
          have n7_ := aMx17 ((by rw [hg]; exact Nat.ne_of_lt (blk_lt (g := gb167) (o := .cells #[.int .i64 a0_0, .int .i64 a0_1, .int .i64 a0_2, .slice A0_3 l0_3.length c0_3] 24 (0, 0)) (by (with_reducible repeat (first | refine bNx17 ?_ _ | refine bDx17 ?_ | refine bKx17 ?_ _)); exact BK167.out)) : gb167 ≠ gb176))
          have n8_ := aMx17 ((by rw [hg]; exact Nat.ne_of_gt (blk_lt (g := gb167) (o := .cells #[.int .i64 a0_0, .int .i64 a0_1, .int .i64 a0_2, .slice A0_3 l0_3.length c0_3] 24 (0, 0)) (by (with_reducible repeat (first | refine bNx17 ?_ _ | refine bDx17 ?_ | refine bKx17 ?_ _)); exact BK167.out)) : gb176 ≠ gb167))
          have n9_ := aMx17 ((by rw [hg]; exact Nat.ne_of_lt (blk_lt (g := gb168) (o := .cells #[.int .i64 a1_0, .int .i64 a1_1] 57 (0, 0)) (by (with_reducible repeat (first | refine bNx17 ?_ _ | refine bDx17 ?_ | refine bKx17 ?_ _)); exact BK168.out)) : gb168 ≠ gb176))
          have n10_ := aMx17 ((by rw [hg]; exact Nat.ne_of_gt (blk_lt (g := gb168) (o := .cells #[.int .i64 a1_0, .int .i64 a1_1] 57 (0, 0)) (by (with_reducible repeat (first | refine bNx17 ?_ _ | refine bDx17 ?_ | refine bKx17 ?_ _)); exact BK168.out)) : gb176 ≠ gb168))
          clear HO_12
          clear BK167
          clear BK168
          clear HB
          have HO_12 := n0_
          have BK167 := n1_
          have BK168 := n2_
          have HB := n3_
          have BK176 := n4_
          have GW176 := n5_
          have GE176 := n6_
          have NB167_176 := n7_
          have NB176_167 := n8_
          have NB168_176 := n9_
          have NB176_168 := n10_
          clear n0_ n1_ n2_ n3_ n4_ n5_ n6_ n7_ n8_ n9_ n10_
          clear hb hbox hg
          refine hK.out _ _ ⟨(bCx17 BK167.out 0).trans rfl, (bCx17 BK167.out 1).trans rfl, (bCx17 BK167.out 2).trans rfl, (bCx17 BK167.out 3).trans rfl⟩ (fun hHeld => ?_)
          clear hK K
          refine norm_ (a' := ?_) ?_ ?_
          rotate_left
          ·
           show Act.put _ (some 14) _ = _
           simp only [Act.put, sA, sB, sC, i64_w, i32_w]
           rfl
          refine one_ (i := 10) (N := none) (bA 11 2047) rfl rfl (one_of HT_.out (by kernel_rfl)) (by decide) (fun K hK => ?_)
          have hs48 : w47.cell? ⟨gb176, 0, none⟩ = some (.int .i64 0) := (bCx17 BK176.out 0).trans rfl
          have hfs48 := bFx17 BK176.out 0
          have hns48_0 := NB167_176.out
          have hns48_1 := NB168_176.out
          have hms48_0 := NB176_167.out
          have hms48_1 := NB176_168.out
          have hs49 : w47.cell? ⟨gb176, 1, none⟩ = some (.int .i64 0) := (bCx17 BK176.out 1).trans rfl
          have hfs49 := bFx17 BK176.out 1
          have hns49_0 := NB167_176.out
          have hns49_1 := NB168_176.out
          have hms49_0 := NB176_167.out
          have hms49_1 := NB176_168.out
          refine skip_ (w1 := ?_) (by rfl) rfl ?_ ?_
          rotate_left
          ·
           go_simp
           rfl
          refine hK.out _ _ ⟨((zY (p := ⟨gb176, _, none⟩) NB167_176.out _).trans (((zY (p := ⟨gb176, _, none⟩) NB167_176.out _).trans (hHeld.1)))), ((zY (p := ⟨gb176, _, none⟩) NB167_176.out _).trans (((zY (p := ⟨gb176, _, none⟩) NB167_176.out _).trans (hHeld.2.1)))), ((zY (p := ⟨gb176, _, none⟩) NB167_176.out _).trans (((zY (p := ⟨gb176, _, none⟩) NB167_176.out _).trans (hHeld.2.2.1)))), ((zY (p := ⟨gb176, _, none⟩) NB167_176.out _).trans (((zY (p := ⟨gb176, _, none⟩) NB167_176.out _).trans (hHeld.2.2.2))))⟩ (fun hHeld => ?_)
          clear hK K
          refine done_ (done_of HT_.out (by kernel_rfl)) ?_
          try go_wp2
          have n0_ : Aside0 (Kd.R Kd.bool 4 ((w47.setCell ⟨gb176, 0, none⟩ (.int .i64 (Int.tmod x52_2 a0_0))).setCell ⟨gb176, 1, none⟩ (.int .i64 (wrap64 (Int.tdiv x52_2 a0_0)))) w.heap.size (fun _ => True) (.slice Ao38 x12_2.length co38) x12_2) := ⟨by (with_reducible repeat (first | apply zP | apply zQ | apply zR)); exact Kd.R_mono (Kd.R_far (p := ⟨gb176, 1, none⟩) (Kd.R_far (p := ⟨gb176, 0, none⟩) (Kd.R_types HO_12.out BK176.out (by decide)) (fun _ hk => hk.2) (.int .i64 (Int.tmod x52_2 a0_0))) (fun _ hk => hk.2) (.int .i64 (wrap64 (Int.tdiv x52_2 a0_0)))) (fun _ hk => trivial)⟩
          have n1_ : Aside0 (((w47.setCell ⟨gb176, 0, none⟩ (.int .i64 (Int.tmod x52_2 a0_0))).setCell ⟨gb176, 1, none⟩ (.int .i64 (wrap64 (Int.tdiv x52_2 a0_0)))).heap[gb167]? = some (.cells #[.int .i64 a0_0, .int .i64 a0_1, .int .i64 a0_2, .slice A0_3 l0_3.length c0_3] 24 (0, 0))) := ⟨by (with_reducible repeat (first | refine bNx17 ?_ _ | refine bDx17 ?_ | refine bKx17 ?_ _)); refine zL ?_ NB167_176.out _; (with_reducible repeat (first | refine bNx17 ?_ _ | refine bDx17 ?_ | refine bKx17 ?_ _)); refine zL ?_ NB167_176.out _; (with_reducible repeat (first | refine bNx17 ?_ _ | refine bDx17 ?_ | refine bKx17 ?_ _)); exact BK167.out⟩
          have n2_ : Aside0 (((w47.setCell ⟨gb176, 0, none⟩ (.int .i64 (Int.tmod x52_2 a0_0))).setCell ⟨gb176, 1, none⟩ (.int .i64 (wrap64 (Int.tdiv x52_2 a0_0)))).heap[gb168]? = some (.cells #[.int .i64 a1_0, .int .i64 a1_1] 57 (0, 0))) := ⟨by (with_reducible repeat (first | refine bNx17 ?_ _ | refine bDx17 ?_ | refine bKx17 ?_ _)); refine zL ?_ NB168_176.out _; (with_reducible repeat (first | refine bNx17 ?_ _ | refine bDx17 ?_ | refine bKx17 ?_ _)); refine zL ?_ NB168_176.out _; (with_reducible repeat (first | refine bNx17 ?_ _ | refine bDx17 ?_ | refine bKx17 ?_ _)); exact BK168.out⟩
          have n3_ : Aside0 (((w47.setCell ⟨gb176, 0, none⟩ (.int .i64 (Int.tmod x52_2 a0_0))).setCell ⟨gb176, 1, none⟩ (.int .i64 (wrap64 (Int.tdiv x52_2 a0_0)))).heap[gb176]? = some (.cells #[.int .i64 (Int.tmod x52_2 a0_0), .int .i64 (wrap64 (Int.tdiv x52_2 a0_0))] 57 (0, 0))) := ⟨by (with_reducible repeat (first | refine bNx17 ?_ _ | refine bDx17 ?_ | refine bKx17 ?_ _)); refine zZ (cs := #[.int .i64 (Int.tmod x52_2 a0_0), .int .i64 0]) ?_ 1 _ rfl; (with_reducible repeat (first | refine bNx17 ?_ _ | refine bDx17 ?_ | refine bKx17 ?_ _)); refine zZ (cs := #[.int .i64 0, .int .i64 0]) ?_ 0 _ rfl; (with_reducible repeat (first | refine bNx17 ?_ _ | refine bDx17 ?_ | refine bKx17 ?_ _)); exact BK176.out⟩
          have n4_ : Aside0 (Below w.heap.size w ((w47.setCell ⟨gb176, 0, none⟩ (.int .i64 (Int.tmod x52_2 a0_0))).setCell ⟨gb176, 1, none⟩ (.int .i64 (wrap64 (Int.tdiv x52_2 a0_0))))) := ⟨by repeat (first | (with_reducible first | exact HB.out | apply zF | apply zB | apply zE | refine zC ?_ GE167.out | refine zC ?_ GE168.out | refine zC ?_ GE176.out) | exact HB.out)⟩
          (try clear HO_12)
          (try clear BK167)
          (try clear BK168)
          (try clear BK176)
          (try clear HB)
          generalize ((w47.setCell ⟨gb176, 0, none⟩ (.int .i64 (Int.tmod x52_2 a0_0))).setCell ⟨gb176, 1, none⟩ (.int .i64 (wrap64 (Int.tdiv x52_2 a0_0)))) = w50 at n0_ n1_ n2_ n3_ n4_ ⊢
          have HO_12 := n0_
          have BK167 := n1_
          have BK168 := n2_
          have BK176 := n3_
          have HB := n4_
          clear n0_ n1_ n2_ n3_ n4_
          have n0_ := aMx17 (zR HO_12.out)
          have n1_ := aMx17 (bDx17 BK167.out)
          have n2_ := aMx17 (bDx17 BK168.out)
          have n3_ := aMx17 (bDx17 BK176.out)
          have n4_ := aMx17 (zE HB.out)
          clear HO_12
          clear BK167
          clear BK168
          clear BK176
          clear HB
          have HO_12 := n0_
          have BK167 := n1_
          have BK168 := n2_
          have BK176 := n3_
          have HB := n4_
          clear n0_ n1_ n2_ n3_ n4_
          refine start_ (n := 12) (S := fun w' => w'.cell? ⟨gb176, 0, none⟩ = some (.int .i64 (Int.tmod x52_2 a0_0)) ∧ w'.cell? ⟨gb176, 1, none⟩ = some (.int .i64 (wrap64 (Int.tdiv x52_2 a0_0))) ∧ w'.cell? ⟨gb168, 0, none⟩ = some (.int .i64 a1_0) ∧ w'.cell? ⟨gb168, 1, none⟩ = some (.int .i64 a1_1)) (ds := []) (bA 12 0) (by kernel_rfl) rfl rfl ⟨(bCx17 BK176.out 0).trans rfl, (bCx17 BK176.out 1).trans rfl, (bCx17 BK168.out 0).trans rfl, (bCx17 BK168.out 1).trans rfl⟩ (fun hHeld => ?_); refine with_tabW ray_Seen.tab11 ray_Seen.bits11 (fun HT_ HW_ => ?_)
          generalize w50.drew = w51 at HO_12 BK167 BK168 BK176 HB hHeld ⊢
          refine pure_ (i := 0) (N := some 64) (v := ?_) (a' := ?_) (bA 12 1) rfl rfl (any_of HT_.out (by kernel_rfl)) (fun _ _ _ h => h) (Or.inl ⟨by rfl, ?_⟩) ?_ ?_
          rotate_left
          ·
           intro w'
           go_simp
           with_reducible rfl
          rotate_left
          ·
           simp only [Act.put, sA, sB, sC, i64_w, i32_w]
           rfl
          refine pure_ (i := 2) (N := some 66) (v := ?_) (a' := ?_) (bA 12 5) rfl rfl (any_of HT_.out (by kernel_rfl)) (fun _ _ _ h => h) (Or.inl ⟨by rfl, ?_⟩) ?_ ?_
          rotate_left
          ·
           intro w'
           go_simp
           with_reducible rfl
          rotate_left
          ·
           simp only [Act.put, sA, sB, sC, i64_w, i32_w]
           rfl
          refine pure_ (i := 5) (N := some 69) (v := ?_) (a' := ?_) (bA 12 37) rfl rfl (any_of HT_.out (by kernel_rfl)) (fun _ _ _ h => h) (Or.inl ⟨by rfl, ?_⟩) ?_ ?_
          rotate_left
          ·
           intro w'
           go_simp
           with_reducible rfl
          rotate_left
          ·
           simp only [Act.put, sA, sB, sC, i64_w, i32_w]
           rfl
          refine pure_ (i := 7) (N := some 71) (v := ?_) (a' := ?_) (bA 12 165) rfl rfl (any_of HT_.out (by kernel_rfl)) (fun _ _ _ h => h) (Or.inl ⟨by rfl, ?_⟩) ?_ ?_
          rotate_left
          ·
           intro w'
           go_simp
           with_reducible rfl
          rotate_left
          ·
           simp only [Act.put, sA, sB, sC, i64_w, i32_w]
           rfl
          refine take_ (i := 1) (N := some 65) (v := ?_) (a' := ?_) (bA 12 167) rfl rfl (take_ofW HT_.out HW_.out (by kernel_rfl)) (fun _ _ _ h => h) (Or.inl ⟨by rfl, ?_⟩) hHeld ?_ ?_
          rotate_left
          ·
           rintro w' ⟨s0, s1, s2, s3⟩
           go_simp
           with_reducible rfl
          rotate_left
          ·
           simp only [Act.put, sA, sB, sC, i64_w, i32_w]
           rfl
          refine take_ (i := 3) (N := some 67) (v := ?_) (a' := ?_) (bA 12 175) rfl rfl (take_ofW HT_.out HW_.out (by kernel_rfl)) (fun _ _ _ h => h) (Or.inl ⟨by rfl, ?_⟩) hHeld ?_ ?_
          rotate_left
          ·
           rintro w' ⟨s0, s1, s2, s3⟩
           go_simp
           with_reducible rfl
          rotate_left
          ·
           simp only [Act.put, sA, sB, sC, i64_w, i32_w]
           rfl
          refine pure_ (i := 4) (N := some 68) (v := ?_) (a' := ?_) (bA 12 191) rfl rfl (any_of HT_.out (by kernel_rfl)) (fun _ _ _ h => h) (Or.inl ⟨by rfl, ?_⟩) ?_ ?_
          rotate_left
          ·
           intro w'
           go_simp
           with_reducible rfl
          rotate_left
          ·
           simp only [Act.put, sA, sB, sC, i64_w, i32_w]
           rfl
          refine pure_ (i := 10) (N := some 15) (v := ?_) (a' := ?_) (bA 12 1215) rfl rfl (any_of HT_.out (by kernel_rfl)) (fun _ _ _ h => h) (Or.inl ⟨by rfl, ?_⟩) ?_ ?_
          rotate_left
          ·
           intro w'
           go_simp
           with_reducible rfl
          rotate_left
          ·
           simp only [Act.put, sA, sB, sC, i64_w, i32_w]
           rfl
          refine take_ (i := 6) (N := some 70) (v := ?_) (a' := ?_) (bA 12 1279) rfl rfl (take_ofW HT_.out HW_.out (by kernel_rfl)) (fun _ _ _ h => h) (Or.inl ⟨by rfl, ?_⟩) hHeld ?_ ?_
          rotate_left
          ·
           rintro w' ⟨s0, s1, s2, s3⟩
           go_simp
           with_reducible rfl
          rotate_left
          ·
           simp only [Act.put, sA, sB, sC, i64_w, i32_w]
           rfl
          refine take_ (i := 8) (N := some 72) (v := ?_) (a' := ?_) (bA 12 1535) rfl rfl (take_ofW HT_.out HW_.out (by kernel_rfl)) (fun _ _ _ h => h) (Or.inl ⟨by rfl, ?_⟩) hHeld ?_ ?_
          rotate_left
          ·
           rintro w' ⟨s0, s1, s2, s3⟩
           go_simp
           with_reducible rfl
          rotate_left
          ·
           simp only [Act.put, sA, sB, sC, i64_w, i32_w]
           rfl
          refine pure_ (i := 9) (N := some 73) (v := ?_) (a' := ?_) (bA 12 2047) rfl rfl (any_of HT_.out (by kernel_rfl)) (fun _ _ _ h => h) (Or.inl ⟨by rfl, ?_⟩) ?_ ?_
          rotate_left
          ·
           intro w'
           go_simp
           with_reducible rfl
          rotate_left
          ·
           simp only [Act.put, sA, sB, sC, i64_w, i32_w]
           rfl
          refine pure_ (i := 11) (N := some 16) (v := ?_) (a' := ?_) (bA 12 4095) rfl rfl (any_of HT_.out (by kernel_rfl)) (fun _ _ _ h => h) (Or.inl ⟨by rfl, ?_⟩) ?_ ?_
          rotate_left
          ·
           intro w'
           go_simp
           with_reducible rfl
          rotate_left
          ·
           simp only [Act.put, sA, sB, sC, i64_w, i32_w]
           rfl
          refine done_ (done_of HT_.out (by kernel_rfl)) ?_
          have hnb52 := NB167_168.out
          have hnc52 := NB168_167.out
          have hnb53 := NB167_176.out
          have hnc53 := NB176_167.out
          have hcz54_0 : w51.cell? ⟨gb167, 0, none⟩ = some (.int .i64 a0_0) := (bCx17 BK167.out 0).trans rfl
          have hcz54_1 : w51.cell? ⟨gb167, 1, none⟩ = some (.int .i64 a0_1) := (bCx17 BK167.out 1).trans rfl
          have hcz54_2 : w51.cell? ⟨gb167, 2, none⟩ = some (.int .i64 a0_2) := (bCx17 BK167.out 2).trans rfl
          have hcz54_3 : w51.cell? ⟨gb167, 3, none⟩ = some (.slice A0_3 l0_3.length c0_3) := (bCx17 BK167.out 3).trans rfl
          have hfz54_0 := bFx17 BK167.out 0
          have hfz54_1 := bFx17 BK167.out 1
          have hfz54_2 := bFx17 BK167.out 2
          have hfz54_3 := bFx17 BK167.out 3
          have hnb55 := NB168_176.out
          have hnc55 := NB176_168.out
          have hcz56_0 : w51.cell? ⟨gb168, 0, none⟩ = some (.int .i64 a1_0) := (bCx17 BK168.out 0).trans rfl
          have hcz56_1 : w51.cell? ⟨gb168, 1, none⟩ = some (.int .i64 a1_1) := (bCx17 BK168.out 1).trans rfl
          have hfz56_0 := bFx17 BK168.out 0
          have hfz56_1 := bFx17 BK168.out 1
          have hcz57_0 : w51.cell? ⟨gb176, 0, none⟩ = some (.int .i64 (Int.tmod x52_2 a0_0)) := (bCx17 BK176.out 0).trans rfl
          have hcz57_1 : w51.cell? ⟨gb176, 1, none⟩ = some (.int .i64 (wrap64 (Int.tdiv x52_2 a0_0))) := (bCx17 BK176.out 1).trans rfl
          have hfz57_0 := bFx17 BK176.out 0
          have hfz57_1 := bFx17 BK176.out 1
          try go_wp2_with (first | ((with_reducible refine gate_callee (f := 40) rfl ?_); refine goesL_ (some 92) rfl rfl Try.func40 (by kernel_rfl) rfl #[.agg #[.int .i64 a0_0, .int .i64 a0_1, .int .i64 a0_2, .slice A0_3 l0_3.length c0_3], .agg #[.int .i64 a1_0, .int .i64 a1_1], .agg #[.int .i64 (Int.tmod x52_2 a0_0), .int .i64 (wrap64 (Int.tdiv x52_2 a0_0))], .int .i64 a2, .int .i64 0] rfl (by (try simp only [List.map_toArray, List.map_cons, List.map_nil]); first | done | rfl | (simp only [List.length_drop, List.length_take]; rfl)) ?_; (with_reducible refine (ray_Sees.calls k2 a0_0 a0_1 a0_2 _ _ l0_3 a1_0 a1_1 (Int.tmod x52_2 a0_0) (wrap64 (Int.tdiv x52_2 a0_0)) a2 0 t177 t178 _ ?side1 ?side2 A42.out).mono ?_); (case side1 => repeat (first | exact (Kd.C_below HR0_3.out HB.out) | (with_reducible refine Kd.C_alloc ?_ _) | (with_reducible refine Kd.C_drewN ?_ _) | (with_reducible refine Kd.C_drew ?_))); (case side2 => exact HC0_3.out); rintro e w58 ⟨rfl, hb⟩; refine ⟨_, rfl, ?_⟩; have n0_ := aMx17 (zS (by (with_reducible repeat (first | apply zP | apply zQ | apply zR)); exact HO_12.out) hb); have n1_ := aMx17 (zI (g := gb167) (o := .cells #[.int .i64 a0_0, .int .i64 a0_1, .int .i64 a0_2, .slice A0_3 l0_3.length c0_3] 24 (0, 0)) (by (with_reducible repeat (first | refine bNx17 ?_ _ | refine bDx17 ?_ | refine bKx17 ?_ _)); exact BK167.out) hb); have n2_ := aMx17 (zI (g := gb168) (o := .cells #[.int .i64 a1_0, .int .i64 a1_1] 57 (0, 0)) (by (with_reducible repeat (first | refine bNx17 ?_ _ | refine bDx17 ?_ | refine bKx17 ?_ _)); exact BK168.out) hb); have n3_ := aMx17 (zI (g := gb176) (o := .cells #[.int .i64 (Int.tmod x52_2 a0_0), .int .i64 (wrap64 (Int.tdiv x52_2 a0_0))] 57 (0, 0)) (by (with_reducible repeat (first | refine bNx17 ?_ _ | refine bDx17 ?_ | refine bKx17 ?_ _)); exact BK176.out) hb); have n4_ := aMx17 (zJ (by repeat (first | (with_reducible first | exact HB.out | apply zF | apply zB | apply zE | refine zC ?_ GE167.out | refine zC ?_ GE168.out | refine zC ?_ GE176.out) | exact HB.out)) hb); clear HO_12; clear BK167; clear BK168; clear BK176; clear HB; have HO_12 := n0_; have BK167 := n1_; have BK168 := n2_; have BK176 := n3_; have HB := n4_; clear n0_ n1_ n2_ n3_ n4_; (try clear hb); (try clear hb2); (try clear hk); (try clear hi); have p45 : 0 ≤ (x52_2 : Int) := of_decide_eq_true (by first | (with_reducible assumption) | assumption); have q45 : (x52_2 : Int) < ((x12_2.length : Int) : Int) := of_decide_eq_true (by first | (with_reducible assumption) | assumption); obtain ⟨go45, co45, eo45, gb45, gl45, cl45, HG45⟩ := Kd.R_form HO_12.out (by omega); (first | cases eo45 | (injection eo45 with ea_ en_ ec_; (first | subst ea_ | (injection ea_ with ea_; subst ea_)); subst ec_; clear en_)); have GB45 := aMx17 gb45; have GG45 := aMx17 HG45; clear gb45 gl45 HG45; obtain ⟨hx45_0, hf45_0⟩ := Kd.R_celln false HO_12.out (x52_2 : Int) p45 q45; replace p45 := eq_true p45; replace q45 := eq_true q45; obtain ⟨hy59_, hz59_⟩ := Kd.R_celln false HO_12.out (x52_2 : Int) (of_decide_eq_true (by first | (with_reducible assumption) | assumption)) (of_decide_eq_true (by first | (with_reducible assumption) | assumption)); have HP59 := Kd.R_putg HO_12.out (x52_2 : Int) t177) | ((with_reducible refine gate_store (t := 4) (p := 95) rfl ?_); refine store_event (t := 4) (p := 95) (v := ?vo_w60) (w1 := (w58.setCell ⟨go45, (x52_2 : Int).toNat, none⟩ (.bool t177))) ?hg ?ho ?hn ?hr ?_; (case ho => rfl); (case hg => rfl); (case hn => rfl); (case hr => first | (go_simp; done) | (go_simp; rfl)); intro w60 hw; have hg : w58.grownBy w60 (some go45) := (by rw [hw]; exact HP59.2); have hp_ : Kd.R Kd.bool 4 w60 w.heap.size (fun _ => True) (.slice (some ⟨go45, 0, none⟩) x12_2.length co38) y179 := (by rw [hw, Ny179.out]; exact HP59.1); clear HP59; have n0_ := aMx17 (hp_); have n1_ := aMx17 (blk_grown (g := gb167) (o := .cells #[.int .i64 a0_0, .int .i64 a0_1, .int .i64 a0_2, .slice A0_3 l0_3.length c0_3] 24 (0, 0)) (by (with_reducible repeat (first | refine bNx17 ?_ _ | refine bDx17 ?_ | refine bKx17 ?_ _)); exact BK167.out) hg (Kd.R_ne HO_12.out BK167.out (by decide))); have n2_ := aMx17 (blk_grown (g := gb168) (o := .cells #[.int .i64 a1_0, .int .i64 a1_1] 57 (0, 0)) (by (with_reducible repeat (first | refine bNx17 ?_ _ | refine bDx17 ?_ | refine bKx17 ?_ _)); exact BK168.out) hg (Kd.R_ne HO_12.out BK168.out (by decide))); have n3_ := aMx17 (blk_grown (g := gb176) (o := .cells #[.int .i64 (Int.tmod x52_2 a0_0), .int .i64 (wrap64 (Int.tdiv x52_2 a0_0))] 57 (0, 0)) (by (with_reducible repeat (first | refine bNx17 ?_ _ | refine bDx17 ?_ | refine bKx17 ?_ _)); exact BK176.out) hg (Kd.R_ne HO_12.out BK176.out (by decide))); have n4_ := aMx17 ((by rw [hw]; exact zC (HB.out) GB45.out : Below w.heap.size w w60)); clear HO_12; clear BK167; clear BK168; clear BK176; clear HB; have HO_12 := n0_; have BK167 := n1_; have BK168 := n2_; have BK176 := n3_; have HB := n4_; clear n0_ n1_ n2_ n3_ n4_; clear hg hw hp_))
          (try simp only [← hl12_2])
          go_roundg k2
          case measure => have := HJ4.out; have := HK2.out; omega
          case rel => exact ⟨(y179), (wrap64 (x52_2 + 1)), (by first | rfl | (simp; done) | (simp [*]; done)), H', ⟨by have := HJ4.out; have := HK2.out; omega⟩, ⟨by (try simp only [hl12_2]); (with_reducible repeat (first | apply zP | apply zQ | apply zR)); exact HO_12.out⟩, ⟨by (try simp only [hl12_2]); (with_reducible repeat (first | refine bNx17 ?_ _ | refine bDx17 ?_ | refine bKx17 ?_ _)); exact BK167.out⟩, ⟨by (try simp only [hl12_2]); (with_reducible repeat (first | refine bNx17 ?_ _ | refine bDx17 ?_ | refine bKx17 ?_ _)); exact BK168.out⟩, ⟨by repeat (first | (with_reducible first | exact HB.out | apply zF | apply zB | apply zE | refine zC ?_ GE167.out | refine zC ?_ GE168.out | refine zC ?_ GE176.out) | exact HB.out)⟩⟩
         rw [if_neg c44] at H
         exact absurd H (by simp)
        rw [if_neg c43] at H
        exact absurd H (by simp)
       rw [if_neg c41] at H
       have c41b0 : decide ((wrap64 ((wrap64 ((wrap64 ((Int.tmod x52_2 a0_0) - a1_0)) * (wrap64 ((Int.tmod x52_2 a0_0) - a1_0)))) + (wrap64 ((wrap64 ((wrap64 (Int.tdiv x52_2 a0_0)) - a1_1)) * (wrap64 ((wrap64 (Int.tdiv x52_2 a0_0)) - a1_1)))))) ≤ (wrap64 (a3 * a3))) = false := decide_eq_false c41
       (try simp only [hl12_2] at c41b0)
       clear c41
       have H' := aMx17 H
       clear H
       try go_wp2
       have n0_ := aMx17 (zR HO_12.out)
       have n1_ := aMx17 (bDx17 BK167.out)
       have n2_ := aMx17 (bDx17 BK168.out)
       have n3_ := aMx17 (zE HB.out)
       clear HO_12
       clear BK167
       clear BK168
       clear HB
       have HO_12 := n0_
       have BK167 := n1_
       have BK168 := n2_
       have HB := n3_
       clear n0_ n1_ n2_ n3_
       refine start_ (n := 11) (S := fun w' => w'.cell? ⟨gb167, 0, none⟩ = some (.int .i64 a0_0) ∧ w'.cell? ⟨gb167, 1, none⟩ = some (.int .i64 a0_1) ∧ w'.cell? ⟨gb167, 2, none⟩ = some (.int .i64 a0_2) ∧ w'.cell? ⟨gb167, 3, none⟩ = some (.slice A0_3 l0_3.length c0_3)) (ds := []) (bA 11 0) (by kernel_rfl) rfl rfl ⟨(bCx17 BK167.out 0).trans rfl, (bCx17 BK167.out 1).trans rfl, (bCx17 BK167.out 2).trans rfl, (bCx17 BK167.out 3).trans rfl⟩ (fun hHeld => ?_); refine with_tabW ray_Seen.tab10 ray_Seen.bits10 (fun HT_ HW_ => ?_)
       generalize wr.drew = w61 at HO_12 BK167 BK168 HB hHeld ⊢
       refine pure_ (i := 0) (N := some 55) (v := ?_) (a' := ?_) (bA 11 1) rfl rfl (any_of HT_.out (by kernel_rfl)) (fun _ _ _ h => h) (Or.inl ⟨by rfl, ?_⟩) ?_ ?_
       rotate_left
       ·
        intro w'
        go_simp
        with_reducible rfl
       rotate_left
       ·
        simp only [Act.put, sA, sB, sC, i64_w, i32_w]
        rfl
       refine pure_ (i := 1) (N := some 56) (v := ?_) (a' := ?_) (bA 11 3) rfl rfl (any_of HT_.out (by kernel_rfl)) (fun _ _ _ h => h) (Or.inl ⟨by rfl, ?_⟩) ?_ ?_
       rotate_left
       ·
        intro w'
        go_simp
        with_reducible rfl
       rotate_left
       ·
        simp only [Act.put, sA, sB, sC, i64_w, i32_w]
        rfl
       refine pure_ (i := 4) (N := some 59) (v := ?_) (a' := ?_) (bA 11 19) rfl rfl (any_of HT_.out (by kernel_rfl)) (fun _ _ _ h => h) (Or.inl ⟨by rfl, ?_⟩) ?_ ?_
       rotate_left
       ·
        intro w'
        go_simp
        with_reducible rfl
       rotate_left
       ·
        simp only [Act.put, sA, sB, sC, i64_w, i32_w]
        rfl
       refine pure_ (i := 5) (N := some 60) (v := ?_) (a' := ?_) (bA 11 51) rfl rfl (any_of HT_.out (by kernel_rfl)) (fun _ _ _ h => h) (Or.inl ⟨by rfl, ?_⟩) ?_ ?_
       rotate_left
       ·
        intro w'
        go_simp
        with_reducible rfl
       rotate_left
       ·
        simp only [Act.put, sA, sB, sC, i64_w, i32_w]
        rfl
       refine take_ (i := 2) (N := some 57) (v := ?_) (a' := ?_) (bA 11 55) rfl rfl (take_ofW HT_.out HW_.out (by kernel_rfl)) (fun _ _ _ h => h) (Or.inl ⟨by rfl, ?_⟩) hHeld ?_ ?_
       rotate_left
       ·
        rintro w' ⟨s0, s1, s2, s3⟩
        go_simp
        with_reducible rfl
       rotate_left
       ·
        simp only [Act.put, sA, sB, sC, i64_w, i32_w]
        rfl
       refine pure_ (i := 3) (N := some 58) (v := ?_) (a' := ?_) (bA 11 63) rfl rfl (any_of HT_.out (by kernel_rfl)) (fun _ _ _ h => h) (Or.inl ⟨by rfl, ?_⟩) ?_ ?_
       rotate_left
       ·
        intro w'
        go_simp
        with_reducible rfl
       rotate_left
       ·
        simp only [Act.put, sA, sB, sC, i64_w, i32_w]
        rfl
       refine take_ (i := 6) (N := some 61) (v := ?_) (a' := ?_) (bA 11 127) rfl rfl (take_ofW HT_.out HW_.out (by kernel_rfl)) (fun _ _ _ h => h) (Or.inl ⟨by rfl, ?_⟩) hHeld ?_ ?_
       rotate_left
       ·
        rintro w' ⟨s0, s1, s2, s3⟩
        go_simp
        with_reducible rfl
       rotate_left
       ·
        simp only [Act.put, sA, sB, sC, i64_w, i32_w]
        rfl
       refine pure_ (i := 7) (N := some 62) (v := ?_) (a' := ?_) (bA 11 255) rfl rfl (any_of HT_.out (by kernel_rfl)) (fun _ _ _ h => h) (Or.inl ⟨by rfl, ?_⟩) ?_ ?_
       rotate_left
       ·
        intro w'
        go_simp
        with_reducible rfl
       rotate_left
       ·
        simp only [Act.put, sA, sB, sC, i64_w, i32_w]
        rfl
       refine pure_ (i := 8) (N := some 63) (v := ?_) (a' := ?_) (bA 11 511) rfl rfl (any_of HT_.out (by kernel_rfl)) (fun _ _ _ h => h) (Or.inl ⟨by rfl, ?_⟩) ?_ ?_
       rotate_left
       ·
        intro w'
        go_simp
        with_reducible rfl
       rotate_left
       ·
        simp only [Act.put, sA, sB, sC, i64_w, i32_w]
        rfl
       refine one_ (i := 9) (N := some 14) (bA 11 1023) rfl rfl (one_of HT_.out (by kernel_rfl)) (by decide) (fun K hK => ?_)
       refine box_step ?hg (N := 14) ?hd (cs := #[.int .i64 0, .int .i64 0]) (t := 57) ?hr ?_; (case hd => rfl); (case hg => rfl); (case hr => first | (go_simp; done) | (go_simp; rfl))
       intro gb176 hg w62 hbox hb
       have n0_ := aMx17 (zS (by (with_reducible repeat (first | apply zP | apply zQ | apply zR)); exact HO_12.out) hb)
       have n1_ := aMx17 (zI (g := gb167) (o := .cells #[.int .i64 a0_0, .int .i64 a0_1, .int .i64 a0_2, .slice A0_3 l0_3.length c0_3] 24 (0, 0)) (by (with_reducible repeat (first | refine bNx17 ?_ _ | refine bDx17 ?_ | refine bKx17 ?_ _)); exact BK167.out) hb)
       have n2_ := aMx17 (zI (g := gb168) (o := .cells #[.int .i64 a1_0, .int .i64 a1_1] 57 (0, 0)) (by (with_reducible repeat (first | refine bNx17 ?_ _ | refine bDx17 ?_ | refine bKx17 ?_ _)); exact BK168.out) hb)
       have n3_ := aMx17 (zJ (by repeat (first | (with_reducible first | exact HB.out | apply zF | apply zB | apply zE | refine zC ?_ GE167.out | refine zC ?_ GE168.out) | exact HB.out)) hb)
       have n4_ := aMx17 (hbox)
       have n5_ := aMx17 ((by rw [hg]; exact (zK (by repeat (first | (with_reducible first | exact HB.out | apply zF | apply zB | apply zE | refine zC ?_ GE167.out | refine zC ?_ GE168.out) | exact HB.out))) : w.heap.size ≤ gb176))
       have n6_ := aMx17 ((by rw [hg]; exact (zK (by repeat (first | (with_reducible first | exact HB.out | apply zF | apply zB | apply zE | refine zC ?_ GE167.out | refine zC ?_ GE168.out) | exact HB.out))) : w.heap.size ≤ gb176))
       have n7_ := aMx17 ((by rw [hg]; exact Nat.ne_of_lt (blk_lt (g := gb167) (o := .cells #[.int .i64 a0_0, .int .i64 a0_1, .int .i64 a0_2, .slice A0_3 l0_3.length c0_3] 24 (0, 0)) (by (with_reducible repeat (first | refine bNx17 ?_ _ | refine bDx17 ?_ | refine bKx17 ?_ _)); exact BK167.out)) : gb167 ≠ gb176))
       have n8_ := aMx17 ((by rw [hg]; exact Nat.ne_of_gt (blk_lt (g := gb167) (o := .cells #[.int .i64 a0_0, .int .i64 a0_1, .int .i64 a0_2, .slice A0_3 l0_3.length c0_3] 24 (0, 0)) (by (with_reducible repeat (first | refine bNx17 ?_ _ | refine bDx17 ?_ | refine bKx17 ?_ _)); exact BK167.out)) : gb176 ≠ gb167))
       have n9_ := aMx17 ((by rw [hg]; exact Nat.ne_of_lt (blk_lt (g := gb168) (o := .cells #[.int .i64 a1_0, .int .i64 a1_1] 57 (0, 0)) (by (with_reducible repeat (first | refine bNx17 ?_ _ | refine bDx17 ?_ | refine bKx17 ?_ _)); exact BK168.out)) : gb168 ≠ gb176))
       have n10_ := aMx17 ((by rw [hg]; exact Nat.ne_of_gt (blk_lt (g := gb168) (o := .cells #[.int .i64 a1_0, .int .i64 a1_1] 57 (0, 0)) (by (with_reducible repeat (first | refine bNx17 ?_ _ | refine bDx17 ?_ | refine bKx17 ?_ _)); exact BK168.out)) : gb176 ≠ gb168))
       clear HO_12
       clear BK167
       clear BK168
       clear HB
       have HO_12 := n0_
       have BK167 := n1_
       have BK168 := n2_
       have HB := n3_
       have BK176 := n4_
       have GW176 := n5_
       have GE176 := n6_
       have NB167_176 := n7_
       have NB176_167 := n8_
       have NB168_176 := n9_
       have NB176_168 := n10_
       clear n0_ n1_ n2_ n3_ n4_ n5_ n6_ n7_ n8_ n9_ n10_
       clear hb hbox hg
       refine hK.out _ _ ⟨(bCx17 BK167.out 0).trans rfl, (bCx17 BK167.out 1).trans rfl, (bCx17 BK167.out 2).trans rfl, (bCx17 BK167.out 3).trans rfl⟩ (fun hHeld => ?_)
       clear hK K
       refine norm_ (a' := ?_) ?_ ?_
       rotate_left
       ·
        show Act.put _ (some 14) _ = _
        simp only [Act.put, sA, sB, sC, i64_w, i32_w]
        rfl
       refine one_ (i := 10) (N := none) (bA 11 2047) rfl rfl (one_of HT_.out (by kernel_rfl)) (by decide) (fun K hK => ?_)
       have hs63 : w62.cell? ⟨gb176, 0, none⟩ = some (.int .i64 0) := (bCx17 BK176.out 0).trans rfl
       have hfs63 := bFx17 BK176.out 0
       have hns63_0 := NB167_176.out
       have hns63_1 := NB168_176.out
       have hms63_0 := NB176_167.out
       have hms63_1 := NB176_168.out
       have hs64 : w62.cell? ⟨gb176, 1, none⟩ = some (.int .i64 0) := (bCx17 BK176.out 1).trans rfl
       have hfs64 := bFx17 BK176.out 1
       have hns64_0 := NB167_176.out
       have hns64_1 := NB168_176.out
       have hms64_0 := NB176_167.out
       have hms64_1 := NB176_168.out
       refine skip_ (w1 := ?_) (by rfl) rfl ?_ ?_
       rotate_left
       ·
        go_simp
        rfl
       refine hK.out _ _ ⟨((zY (p := ⟨gb176, _, none⟩) NB167_176.out _).trans (((zY (p := ⟨gb176, _, none⟩) NB167_176.out _).trans (hHeld.1)))), ((zY (p := ⟨gb176, _, none⟩) NB167_176.out _).trans (((zY (p := ⟨gb176, _, none⟩) NB167_176.out _).trans (hHeld.2.1)))), ((zY (p := ⟨gb176, _, none⟩) NB167_176.out _).trans (((zY (p := ⟨gb176, _, none⟩) NB167_176.out _).trans (hHeld.2.2.1)))), ((zY (p := ⟨gb176, _, none⟩) NB167_176.out _).trans (((zY (p := ⟨gb176, _, none⟩) NB167_176.out _).trans (hHeld.2.2.2))))⟩ (fun hHeld => ?_)
       clear hK K
       refine done_ (done_of HT_.out (by kernel_rfl)) ?_
       try go_wp2
       have n0_ : Aside0 (Kd.R Kd.bool 4 ((w62.setCell ⟨gb176, 0, none⟩ (.int .i64 (Int.tmod x52_2 a0_0))).setCell ⟨gb176, 1, none⟩ (.int .i64 (wrap64 (Int.tdiv x52_2 a0_0)))) w.heap.size (fun _ => True) (.slice Ao38 x12_2.length co38) x12_2) := ⟨by (with_reducible repeat (first | apply zP | apply zQ | apply zR)); exact Kd.R_mono (Kd.R_far (p := ⟨gb176, 1, none⟩) (Kd.R_far (p := ⟨gb176, 0, none⟩) (Kd.R_types HO_12.out BK176.out (by decide)) (fun _ hk => hk.2) (.int .i64 (Int.tmod x52_2 a0_0))) (fun _ hk => hk.2) (.int .i64 (wrap64 (Int.tdiv x52_2 a0_0)))) (fun _ hk => trivial)⟩
       have n1_ : Aside0 (((w62.setCell ⟨gb176, 0, none⟩ (.int .i64 (Int.tmod x52_2 a0_0))).setCell ⟨gb176, 1, none⟩ (.int .i64 (wrap64 (Int.tdiv x52_2 a0_0)))).heap[gb167]? = some (.cells #[.int .i64 a0_0, .int .i64 a0_1, .int .i64 a0_2, .slice A0_3 l0_3.length c0_3] 24 (0, 0))) := ⟨by (with_reducible repeat (first | refine bNx17 ?_ _ | refine bDx17 ?_ | refine bKx17 ?_ _)); refine zL ?_ NB167_176.out _; (with_reducible repeat (first | refine bNx17 ?_ _ | refine bDx17 ?_ | refine bKx17 ?_ _)); refine zL ?_ NB167_176.out _; (with_reducible repeat (first | refine bNx17 ?_ _ | refine bDx17 ?_ | refine bKx17 ?_ _)); exact BK167.out⟩
       have n2_ : Aside0 (((w62.setCell ⟨gb176, 0, none⟩ (.int .i64 (Int.tmod x52_2 a0_0))).setCell ⟨gb176, 1, none⟩ (.int .i64 (wrap64 (Int.tdiv x52_2 a0_0)))).heap[gb168]? = some (.cells #[.int .i64 a1_0, .int .i64 a1_1] 57 (0, 0))) := ⟨by (with_reducible repeat (first | refine bNx17 ?_ _ | refine bDx17 ?_ | refine bKx17 ?_ _)); refine zL ?_ NB168_176.out _; (with_reducible repeat (first | refine bNx17 ?_ _ | refine bDx17 ?_ | refine bKx17 ?_ _)); refine zL ?_ NB168_176.out _; (with_reducible repeat (first | refine bNx17 ?_ _ | refine bDx17 ?_ | refine bKx17 ?_ _)); exact BK168.out⟩
       have n3_ : Aside0 (((w62.setCell ⟨gb176, 0, none⟩ (.int .i64 (Int.tmod x52_2 a0_0))).setCell ⟨gb176, 1, none⟩ (.int .i64 (wrap64 (Int.tdiv x52_2 a0_0)))).heap[gb176]? = some (.cells #[.int .i64 (Int.tmod x52_2 a0_0), .int .i64 (wrap64 (Int.tdiv x52_2 a0_0))] 57 (0, 0))) := ⟨by (with_reducible repeat (first | refine bNx17 ?_ _ | refine bDx17 ?_ | refine bKx17 ?_ _)); refine zZ (cs := #[.int .i64 (Int.tmod x52_2 a0_0), .int .i64 0]) ?_ 1 _ rfl; (with_reducible repeat (first | refine bNx17 ?_ _ | refine bDx17 ?_ | refine bKx17 ?_ _)); refine zZ (cs := #[.int .i64 0, .int .i64 0]) ?_ 0 _ rfl; (with_reducible repeat (first | refine bNx17 ?_ _ | refine bDx17 ?_ | refine bKx17 ?_ _)); exact BK176.out⟩
       have n4_ : Aside0 (Below w.heap.size w ((w62.setCell ⟨gb176, 0, none⟩ (.int .i64 (Int.tmod x52_2 a0_0))).setCell ⟨gb176, 1, none⟩ (.int .i64 (wrap64 (Int.tdiv x52_2 a0_0))))) := ⟨by repeat (first | (with_reducible first | exact HB.out | apply zF | apply zB | apply zE | refine zC ?_ GE167.out | refine zC ?_ GE168.out | refine zC ?_ GE176.out) | exact HB.out)⟩
       (try clear HO_12)
       (try clear BK167)
       (try clear BK168)
       (try clear BK176)
       (try clear HB)
       generalize ((w62.setCell ⟨gb176, 0, none⟩ (.int .i64 (Int.tmod x52_2 a0_0))).setCell ⟨gb176, 1, none⟩ (.int .i64 (wrap64 (Int.tdiv x52_2 a0_0)))) = w65 at n0_ n1_ n2_ n3_ n4_ ⊢
       have HO_12 := n0_
       have BK167 := n1_
       have BK168 := n2_
       have BK176 := n3_
       have HB := n4_
       clear n0_ n1_ n2_ n3_ n4_
       have n0_ := aMx17 (zR HO_12.out)
       have n1_ := aMx17 (bDx17 BK167.out)
       have n2_ := aMx17 (bDx17 BK168.out)
       have n3_ := aMx17 (bDx17 BK176.out)
       have n4_ := aMx17 (zE HB.out)
       clear HO_12
       clear BK167
       clear BK168
       clear BK176
       clear HB
       have HO_12 := n0_
       have BK167 := n1_
       have BK168 := n2_
       have BK176 := n3_
       have HB := n4_
       clear n0_ n1_ n2_ n3_ n4_
       refine start_ (n := 12) (S := fun w' => w'.cell? ⟨gb176, 0, none⟩ = some (.int .i64 (Int.tmod x52_2 a0_0)) ∧ w'.cell? ⟨gb176, 1, none⟩ = some (.int .i64 (wrap64 (Int.tdiv x52_2 a0_0))) ∧ w'.cell? ⟨gb168, 0, none⟩ = some (.int .i64 a1_0) ∧ w'.cell? ⟨gb168, 1, none⟩ = some (.int .i64 a1_1)) (ds := []) (bA 12 0) (by kernel_rfl) rfl rfl ⟨(bCx17 BK176.out 0).trans rfl, (bCx17 BK176.out 1).trans rfl, (bCx17 BK168.out 0).trans rfl, (bCx17 BK168.out 1).trans rfl⟩ (fun hHeld => ?_); refine with_tabW ray_Seen.tab11 ray_Seen.bits11 (fun HT_ HW_ => ?_)
       generalize w65.drew = w66 at HO_12 BK167 BK168 BK176 HB hHeld ⊢
       refine pure_ (i := 0) (N := some 64) (v := ?_) (a' := ?_) (bA 12 1) rfl rfl (any_of HT_.out (by kernel_rfl)) (fun _ _ _ h => h) (Or.inl ⟨by rfl, ?_⟩) ?_ ?_
       rotate_left
       ·
        intro w'
        go_simp
        with_reducible rfl
       rotate_left
       ·
        simp only [Act.put, sA, sB, sC, i64_w, i32_w]
        rfl
       refine pure_ (i := 2) (N := some 66) (v := ?_) (a' := ?_) (bA 12 5) rfl rfl (any_of HT_.out (by kernel_rfl)) (fun _ _ _ h => h) (Or.inl ⟨by rfl, ?_⟩) ?_ ?_
       rotate_left
       ·
        intro w'
        go_simp
        with_reducible rfl
       rotate_left
       ·
        simp only [Act.put, sA, sB, sC, i64_w, i32_w]
        rfl
       refine pure_ (i := 5) (N := some 69) (v := ?_) (a' := ?_) (bA 12 37) rfl rfl (any_of HT_.out (by kernel_rfl)) (fun _ _ _ h => h) (Or.inl ⟨by rfl, ?_⟩) ?_ ?_
       rotate_left
       ·
        intro w'
        go_simp
        with_reducible rfl
       rotate_left
       ·
        simp only [Act.put, sA, sB, sC, i64_w, i32_w]
        rfl
       refine pure_ (i := 7) (N := some 71) (v := ?_) (a' := ?_) (bA 12 165) rfl rfl (any_of HT_.out (by kernel_rfl)) (fun _ _ _ h => h) (Or.inl ⟨by rfl, ?_⟩) ?_ ?_
       rotate_left
       ·
        intro w'
        go_simp
        with_reducible rfl
       rotate_left
       ·
        simp only [Act.put, sA, sB, sC, i64_w, i32_w]
        rfl
       refine take_ (i := 1) (N := some 65) (v := ?_) (a' := ?_) (bA 12 167) rfl rfl (take_ofW HT_.out HW_.out (by kernel_rfl)) (fun _ _ _ h => h) (Or.inl ⟨by rfl, ?_⟩) hHeld ?_ ?_
       rotate_left
       ·
        rintro w' ⟨s0, s1, s2, s3⟩
        go_simp
        with_reducible rfl
       rotate_left
       ·
        simp only [Act.put, sA, sB, sC, i64_w, i32_w]
        rfl
       refine take_ (i := 3) (N := some 67) (v := ?_) (a' := ?_) (bA 12 175) rfl rfl (take_ofW HT_.out HW_.out (by kernel_rfl)) (fun _ _ _ h => h) (Or.inl ⟨by rfl, ?_⟩) hHeld ?_ ?_
       rotate_left
       ·
        rintro w' ⟨s0, s1, s2, s3⟩
        go_simp
        with_reducible rfl
       rotate_left
       ·
        simp only [Act.put, sA, sB, sC, i64_w, i32_w]
        rfl
       refine pure_ (i := 4) (N := some 68) (v := ?_) (a' := ?_) (bA 12 191) rfl rfl (any_of HT_.out (by kernel_rfl)) (fun _ _ _ h => h) (Or.inl ⟨by rfl, ?_⟩) ?_ ?_
       rotate_left
       ·
        intro w'
        go_simp
        with_reducible rfl
       rotate_left
       ·
        simp only [Act.put, sA, sB, sC, i64_w, i32_w]
        rfl
       refine pure_ (i := 10) (N := some 15) (v := ?_) (a' := ?_) (bA 12 1215) rfl rfl (any_of HT_.out (by kernel_rfl)) (fun _ _ _ h => h) (Or.inl ⟨by rfl, ?_⟩) ?_ ?_
       rotate_left
       ·
        intro w'
        go_simp
        with_reducible rfl
       rotate_left
       ·
        simp only [Act.put, sA, sB, sC, i64_w, i32_w]
        rfl
       refine take_ (i := 6) (N := some 70) (v := ?_) (a' := ?_) (bA 12 1279) rfl rfl (take_ofW HT_.out HW_.out (by kernel_rfl)) (fun _ _ _ h => h) (Or.inl ⟨by rfl, ?_⟩) hHeld ?_ ?_
       rotate_left
       ·
        rintro w' ⟨s0, s1, s2, s3⟩
        go_simp
        with_reducible rfl
       rotate_left
       ·
        simp only [Act.put, sA, sB, sC, i64_w, i32_w]
        rfl
       refine take_ (i := 8) (N := some 72) (v := ?_) (a' := ?_) (bA 12 1535) rfl rfl (take_ofW HT_.out HW_.out (by kernel_rfl)) (fun _ _ _ h => h) (Or.inl ⟨by rfl, ?_⟩) hHeld ?_ ?_
       rotate_left
       ·
        rintro w' ⟨s0, s1, s2, s3⟩
        go_simp
        with_reducible rfl
       rotate_left
       ·
        simp only [Act.put, sA, sB, sC, i64_w, i32_w]
        rfl
       refine pure_ (i := 9) (N := some 73) (v := ?_) (a' := ?_) (bA 12 2047) rfl rfl (any_of HT_.out (by kernel_rfl)) (fun _ _ _ h => h) (Or.inl ⟨by rfl, ?_⟩) ?_ ?_
       rotate_left
       ·
        intro w'
        go_simp
        with_reducible rfl
       rotate_left
       ·
        simp only [Act.put, sA, sB, sC, i64_w, i32_w]
        rfl
       refine pure_ (i := 11) (N := some 16) (v := ?_) (a' := ?_) (bA 12 4095) rfl rfl (any_of HT_.out (by kernel_rfl)) (fun _ _ _ h => h) (Or.inl ⟨by rfl, ?_⟩) ?_ ?_
       rotate_left
       ·
        intro w'
        go_simp
        with_reducible rfl
       rotate_left
       ·
        simp only [Act.put, sA, sB, sC, i64_w, i32_w]
        rfl
       refine done_ (done_of HT_.out (by kernel_rfl)) ?_
       try go_wp2
       (try simp only [← hl12_2])
       go_roundg k2
       case measure => have := HJ4.out; have := HK2.out; omega
       case rel => exact ⟨(x12_2), (wrap64 (x52_2 + 1)), (by first | rfl | (simp; done) | (simp [*]; done)), H', ⟨by have := HJ4.out; have := HK2.out; omega⟩, ⟨by (try simp only [hl12_2]); (with_reducible repeat (first | apply zP | apply zQ | apply zR)); exact HO_12.out⟩, ⟨by (try simp only [hl12_2]); (with_reducible repeat (first | refine bNx17 ?_ _ | refine bDx17 ?_ | refine bKx17 ?_ _)); exact BK167.out⟩, ⟨by (try simp only [hl12_2]); (with_reducible repeat (first | refine bNx17 ?_ _ | refine bDx17 ?_ | refine bKx17 ?_ _)); exact BK168.out⟩, ⟨by repeat (first | (with_reducible first | exact HB.out | apply zF | apply zB | apply zE | refine zC ?_ GE167.out | refine zC ?_ GE168.out | refine zC ?_ GE176.out) | exact HB.out)⟩⟩
      rw [if_neg c39] at H
      have c39b0 : decide (x52_2 < (y173.length : Int)) = false := decide_eq_false c39
      (try simp only [hl12_2] at c39b0)
      clear c39
      simp only [Option.some.injEq, Prod.mk.injEq] at H
      obtain ⟨rfl, rfl⟩ := H
      go_wp2
      go_ret2
      exact ⟨_, by first | rfl | (simp [zU, zT] <;> rfl) | (simp only [← hji28]; first | rfl | (simp [zU, zT] <;> rfl)) | (simp [*, zU, zT] <;> rfl) | (rw [zW (by assumption)]; rfl), by (with_reducible repeat (first | apply zP | apply zQ | apply zR)); exact HO_12.out, by repeat (first | (with_reducible first | exact HB.out | apply zF | apply zB | apply zE | refine zC ?_ GE167.out | refine zC ?_ GE168.out) | exact HB.out)⟩
    rw [if_neg c30] at H
    exact absurd H (by simp)
   rw [if_neg c29] at H
   exact absurd H (by simp)
  rw [if_neg c27] at H
  have c27b0 : (t172 == 0) = false := beq_eq_false_iff_ne.mpr c27
  have c27b1 : (t172 != 0) = true := bne_iff_ne.mpr c27
  simp only [Option.some.injEq, Prod.mk.injEq] at H
  obtain ⟨rfl, rfl⟩ := H
  have hnb67 := NB167_168.out
  have hnc67 := NB168_167.out
  have hcz68_0 : wc.cell? ⟨gb167, 0, none⟩ = some (.int .i64 a0_0) := (bCx17 BK167.out 0).trans rfl
  have hcz68_1 : wc.cell? ⟨gb167, 1, none⟩ = some (.int .i64 a0_1) := (bCx17 BK167.out 1).trans rfl
  have hcz68_2 : wc.cell? ⟨gb167, 2, none⟩ = some (.int .i64 a0_2) := (bCx17 BK167.out 2).trans rfl
  have hcz68_3 : wc.cell? ⟨gb167, 3, none⟩ = some (.slice A0_3 l0_3.length c0_3) := (bCx17 BK167.out 3).trans rfl
  have hfz68_0 := bFx17 BK167.out 0
  have hfz68_1 := bFx17 BK167.out 1
  have hfz68_2 := bFx17 BK167.out 2
  have hfz68_3 := bFx17 BK167.out 3
  have hcz69_0 : wc.cell? ⟨gb168, 0, none⟩ = some (.int .i64 a1_0) := (bCx17 BK168.out 0).trans rfl
  have hcz69_1 : wc.cell? ⟨gb168, 1, none⟩ = some (.int .i64 a1_1) := (bCx17 BK168.out 1).trans rfl
  have hfz69_0 := bFx17 BK168.out 0
  have hfz69_1 := bFx17 BK168.out 1
  go_wp2_with (first | ((with_reducible refine gate_callee (f := 39) rfl ?_); refine goesL_ (some 39) rfl rfl Try.func39 (by kernel_rfl) rfl #[.agg #[.int .i64 a0_0, .int .i64 a0_1, .int .i64 a0_2, .slice A0_3 l0_3.length c0_3], .int .i64 a1_0, .int .i64 a1_1] rfl (by (try simp only [List.map_toArray, List.map_cons, List.map_nil]); first | done | rfl | (simp only [List.length_drop, List.length_take]; rfl)) ?_; (with_reducible refine (ray_Floor.calls kj4 a0_0 a0_1 a0_2 _ _ l0_3 a1_0 a1_1 t171 t172 _ ?side1 ?side2 A26.out).mono ?_); (case side1 => repeat (first | exact (Kd.C_below HR0_3.out HB.out) | (with_reducible refine Kd.C_alloc ?_ _) | (with_reducible refine Kd.C_drewN ?_ _) | (with_reducible refine Kd.C_drew ?_))); (case side2 => exact HC0_3.out); rintro e w70 ⟨rfl, hb⟩; refine ⟨_, rfl, ?_⟩; have n0_ := aMx17 (zI (g := gb167) (o := .cells #[.int .i64 a0_0, .int .i64 a0_1, .int .i64 a0_2, .slice A0_3 l0_3.length c0_3] 24 (0, 0)) (by (with_reducible repeat (first | refine bNx17 ?_ _ | refine bDx17 ?_ | refine bKx17 ?_ _)); exact BK167.out) hb); have n1_ := aMx17 (zI (g := gb168) (o := .cells #[.int .i64 a1_0, .int .i64 a1_1] 57 (0, 0)) (by (with_reducible repeat (first | refine bNx17 ?_ _ | refine bDx17 ?_ | refine bKx17 ?_ _)); exact BK168.out) hb); have n2_ := aMx17 (zJ (by repeat (first | (with_reducible first | exact HB.out | apply zF | apply zB | apply zE | refine zC ?_ GE167.out | refine zC ?_ GE168.out) | exact HB.out)) hb); clear BK167; clear BK168; clear HB; have BK167 := n0_; have BK168 := n1_; have HB := n2_; clear n0_ n1_ n2_; (try clear hb); (try clear hb2); (try clear hk); (try clear hi)))
  go_ret2
  exact ⟨_, by first | rfl | (simp [zU, zT] <;> rfl) | (simp [*, zU, zT] <;> rfl) | (rw [zW (by assumption)]; rfl), by first | exact Kd.R_nil _ _ _ _ _ | exact Kd.N_nil _ _ _ _ _ | exact Kd.V_nil _ _ _ _ _ | exact Kd.Q_nil _ _ _ _ _ | exact Kd.S_nil _ _ _ _ _, by repeat (first | (with_reducible first | exact HB.out | apply zF | apply zB | apply zE | refine zC ?_ GE167.out | refine zC ?_ GE168.out) | exact HB.out)⟩

end Go.Proofs.Yteihieihoeijdaa.PA
