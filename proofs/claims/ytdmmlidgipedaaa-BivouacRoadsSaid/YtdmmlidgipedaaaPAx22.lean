-- WRITTEN BY A PROGRAM OF THIS SESSION (a turned copy of the kit's printer), for this claim. Nothing here is trusted: Lean checks it.
import Derived.Test.YtdmmlidgipedaaaPAx0
import Derived.Test.YtdmmlidgipedaaaPAx1
import Derived.Test.YtdmmlidgipedaaaPAx11
import Derived.Test.YtdmmlidgipedaaaPAx12
import Derived.Test.YtdmmlidgipedaaaPAx20
import Derived.Test.YtdmmlidgipedaaaGAgroundJoined
import Derived.Test.YtdmmlidgipedaaaGArouteWay
namespace Go.Proofs.Ytdmmlidgipedaaa.PA
open Go.RowKit Go.Proofs.YtdmmlidgipedaaaW.PrintWords Go.Proofs.YtdmmlidgipedaaaW.PrintLast Go.Proofs.YtdmmlidgipedaaaW.PrintMore
attribute [local go_sem] max2_int min2_int max_two min_two max_three min_three max_four min_four   -- for this text's walks alone
set_option linter.unusedVariables false
set_option linter.unusedSimpArgs false

/-! ### bivouactop_BivouacRoads: function 3 -/
mutual
def bivouactop_BivouacRoads.j0 : Nat → Int → Int → Int → List Bool → Bool → Int → Int → Int → List Int → Option (Bool)
 | 0, _, _, _, _, _, _, _, _, _ => none
 | k + 1, x4, x5, x6, x8, x43, x166000, x166001, x166002, x166003 => if x43 = true then (if (x8.length : Int) > 400 then (some true) else (if (x8.length : Int) = 0 then ((ground_Joined.f k x166000 x166001 x166002 x166003 x4 x5 x6).bind fun t175 => (some (!t175))) else (none))) else ((route_Cost.f k x166000 x166001 x8 x5 x6).bind fun bt176 => ((route_Way.f k x166000 x166001 x8 x5 x6 1048576).bind fun bt178 => ((ground_Joined.f k x166000 x166001 x166002 x166003 x4 x5 x6).bind fun t182 => (if ((bt176.2 == 0) != t182) = true then (bivouactop_BivouacRoads.j1 k x4 bt178.1 true x166000 x166001 x166002 x166003) else (if bt176.2 = bt178.2 then (if ((bt176.2 == 0) != (decide ((bt178.1.length : Int) > 0))) = true then (bivouactop_BivouacRoads.j1 k x4 bt178.1 true x166000 x166001 x166002 x166003) else (bivouactop_BivouacRoads.j1 k x4 bt178.1 (decide (bt176.1 < 0)) x166000 x166001 x166002 x166003)) else (bivouactop_BivouacRoads.j1 k x4 bt178.1 true x166000 x166001 x166002 x166003))))))
def bivouactop_BivouacRoads.j1 : Nat → Int → List Int → Bool → Int → Int → Int → List Int → Option (Bool)
 | 0, _, _, _, _, _, _, _ => none
 | k + 1, x4, x12, x108, x166000, x166001, x166002, x166003 => if x108 = true then (none) else (bivouactop_BivouacRoads.l0 k x4 x12 0 x166000 x166001 x166002 x166003)
def bivouactop_BivouacRoads.l0 : Nat → Int → List Int → Int → Int → Int → Int → List Int → Option (Bool)
 | 0, _, _, _, _, _, _, _ => none
 | k + 1, x4, x12, x14, x166000, x166001, x166002, x166003 => if x14 < (x12.length : Int) then (if 0 ≤ x14 then (if x166000 = 0 then (none) else ((ground_Open.f k x166000 x166001 x166002 x166003 x4 (Int.tmod (rd x12 x14) x166000) (wrap64 (Int.tdiv (rd x12 x14) x166000))).bind fun bt185 => (if bt185.2 = 0 then (if bt185.1 = true then (bivouactop_BivouacRoads.l0 k x4 x12 (wrap64 (x14 + 1)) x166000 x166001 x166002 x166003) else (none)) else (none)))) else (none)) else (some true)
end
def bivouactop_BivouacRoads.f (k : Nat) (a0_0 : Int) (a0_1 : Int) (a0_2 : Int) (l0_3 : List Int) (a0_4 : Int) (a0_5 : Int) (a0_6 : Int) : Option (Bool) := (bivouactop_few.f a0_0 a0_1 a0_2 l0_3).bind fun bt159 => (if 6 ≤ 281474976710656 then ((ground_Joined.f k 2 1 0 (List.replicate 6 0) 0 0 1).bind fun t170 => (if t170 = true then ((ground_Grid.f k bt159.1 bt159.2.1 bt159.2.2.1 bt159.2.2.2 a0_4).bind fun bt171 => (if bt171.2 = 0 then (bivouactop_BivouacRoads.j0 k a0_4 a0_5 a0_6 bt171.1 (decide ((bt171.1.length : Int) > 400)) bt159.1 bt159.2.1 bt159.2.2.1 bt159.2.2.2) else (bivouactop_BivouacRoads.j0 k a0_4 a0_5 a0_6 bt171.1 true bt159.1 bt159.2.1 bt159.2.2.1 bt159.2.2.2))) else (none))) else (none))
theorem bivouactop_BivouacRoads.mono_l : ∀ k, (∀ y0 y1 y2 y3 y4 y5 y6 y7 y8, LeO (bivouactop_BivouacRoads.j0 k y0 y1 y2 y3 y4 y5 y6 y7 y8) (bivouactop_BivouacRoads.j0 (k + 1) y0 y1 y2 y3 y4 y5 y6 y7 y8)) ∧ (∀ y0 y1 y2 y3 y4 y5 y6, LeO (bivouactop_BivouacRoads.j1 k y0 y1 y2 y3 y4 y5 y6) (bivouactop_BivouacRoads.j1 (k + 1) y0 y1 y2 y3 y4 y5 y6)) ∧ (∀ y0 y1 y2 y3 y4 y5 y6, LeO (bivouactop_BivouacRoads.l0 k y0 y1 y2 y3 y4 y5 y6) (bivouactop_BivouacRoads.l0 (k + 1) y0 y1 y2 y3 y4 y5 y6))
 | 0 => ⟨fun _ _ _ _ _ _ _ _ _ r h => by simp [bivouactop_BivouacRoads.j0] at h, fun _ _ _ _ _ _ _ r h => by simp [bivouactop_BivouacRoads.j1] at h, fun _ _ _ _ _ _ _ r h => by simp [bivouactop_BivouacRoads.l0] at h⟩
 | k + 1 => by
  obtain ⟨ih0, ih1, ih2⟩ := bivouactop_BivouacRoads.mono_l k
  refine ⟨?_, ?_, ?_⟩
  ·
   intro y0 y1 y2 y3 y4 y5 y6 y7 y8
   unfold bivouactop_BivouacRoads.j0
   repeat' first
   | (with_reducible exact ih0 _ _ _ _ _ _ _ _ _)
   | (with_reducible exact ih1 _ _ _ _ _ _ _)
   | (with_reducible exact ih2 _ _ _ _ _ _ _)
   | (with_reducible exact ground_Grid.mono _ _ _ _ _ _)
   | (with_reducible exact ground_Joined.mono _ _ _ _ _ _ _ _)
   | (with_reducible exact ground_Open.mono _ _ _ _ _ _ _ _)
   | (with_reducible exact route_Cost.mono _ _ _ _ _ _)
   | (with_reducible exact route_Way.mono _ _ _ _ _ _ _)
   | (with_reducible exact LeO.refl _)
   | (with_reducible exact LeO.none _)
   | (with_reducible refine LeO.ite ?_ ?_)
   | (with_reducible refine LeO.bind ?_ (fun _ => ?_))
   | exact ih0 _ _ _ _ _ _ _ _ _
   | exact ih1 _ _ _ _ _ _ _
   | exact ih2 _ _ _ _ _ _ _
   | exact ground_Grid.mono _ _ _ _ _ _
   | exact ground_Joined.mono _ _ _ _ _ _ _ _
   | exact ground_Open.mono _ _ _ _ _ _ _ _
   | exact route_Cost.mono _ _ _ _ _ _
   | exact route_Way.mono _ _ _ _ _ _ _
   | exact LeO.none _
   | refine LeO.ite ?_ ?_
   | refine LeO.bind ?_ (fun _ => ?_)
  ·
   intro y0 y1 y2 y3 y4 y5 y6
   unfold bivouactop_BivouacRoads.j1
   repeat' first
   | (with_reducible exact ih0 _ _ _ _ _ _ _ _ _)
   | (with_reducible exact ih1 _ _ _ _ _ _ _)
   | (with_reducible exact ih2 _ _ _ _ _ _ _)
   | (with_reducible exact ground_Grid.mono _ _ _ _ _ _)
   | (with_reducible exact ground_Joined.mono _ _ _ _ _ _ _ _)
   | (with_reducible exact ground_Open.mono _ _ _ _ _ _ _ _)
   | (with_reducible exact route_Cost.mono _ _ _ _ _ _)
   | (with_reducible exact route_Way.mono _ _ _ _ _ _ _)
   | (with_reducible exact LeO.refl _)
   | (with_reducible exact LeO.none _)
   | (with_reducible refine LeO.ite ?_ ?_)
   | (with_reducible refine LeO.bind ?_ (fun _ => ?_))
   | exact ih0 _ _ _ _ _ _ _ _ _
   | exact ih1 _ _ _ _ _ _ _
   | exact ih2 _ _ _ _ _ _ _
   | exact ground_Grid.mono _ _ _ _ _ _
   | exact ground_Joined.mono _ _ _ _ _ _ _ _
   | exact ground_Open.mono _ _ _ _ _ _ _ _
   | exact route_Cost.mono _ _ _ _ _ _
   | exact route_Way.mono _ _ _ _ _ _ _
   | exact LeO.none _
   | refine LeO.ite ?_ ?_
   | refine LeO.bind ?_ (fun _ => ?_)
  ·
   intro y0 y1 y2 y3 y4 y5 y6
   unfold bivouactop_BivouacRoads.l0
   repeat' first
   | (with_reducible exact ih0 _ _ _ _ _ _ _ _ _)
   | (with_reducible exact ih1 _ _ _ _ _ _ _)
   | (with_reducible exact ih2 _ _ _ _ _ _ _)
   | (with_reducible exact ground_Grid.mono _ _ _ _ _ _)
   | (with_reducible exact ground_Joined.mono _ _ _ _ _ _ _ _)
   | (with_reducible exact ground_Open.mono _ _ _ _ _ _ _ _)
   | (with_reducible exact route_Cost.mono _ _ _ _ _ _)
   | (with_reducible exact route_Way.mono _ _ _ _ _ _ _)
   | (with_reducible exact LeO.refl _)
   | (with_reducible exact LeO.none _)
   | (with_reducible refine LeO.ite ?_ ?_)
   | (with_reducible refine LeO.bind ?_ (fun _ => ?_))
   | exact ih0 _ _ _ _ _ _ _ _ _
   | exact ih1 _ _ _ _ _ _ _
   | exact ih2 _ _ _ _ _ _ _
   | exact ground_Grid.mono _ _ _ _ _ _
   | exact ground_Joined.mono _ _ _ _ _ _ _ _
   | exact ground_Open.mono _ _ _ _ _ _ _ _
   | exact route_Cost.mono _ _ _ _ _ _
   | exact route_Way.mono _ _ _ _ _ _ _
   | exact LeO.none _
   | refine LeO.ite ?_ ?_
   | refine LeO.bind ?_ (fun _ => ?_)
theorem bivouactop_BivouacRoads.mono : ∀ a0 a1 a2 a3 a4 a5 a6 k, LeO (bivouactop_BivouacRoads.f k a0 a1 a2 a3 a4 a5 a6) (bivouactop_BivouacRoads.f (k + 1) a0 a1 a2 a3 a4 a5 a6) := by
 intro a0 a1 a2 a3 a4 a5 a6 k
 obtain ⟨ih0, ih1, ih2⟩ := bivouactop_BivouacRoads.mono_l k
 unfold bivouactop_BivouacRoads.f
 repeat' first
   | (with_reducible exact ih0 _ _ _ _ _ _ _ _ _)
   | (with_reducible exact ih1 _ _ _ _ _ _ _)
   | (with_reducible exact ih2 _ _ _ _ _ _ _)
   | (with_reducible exact ground_Grid.mono _ _ _ _ _ _)
   | (with_reducible exact ground_Joined.mono _ _ _ _ _ _ _ _)
   | (with_reducible exact ground_Open.mono _ _ _ _ _ _ _ _)
   | (with_reducible exact route_Cost.mono _ _ _ _ _ _)
   | (with_reducible exact route_Way.mono _ _ _ _ _ _ _)
   | (with_reducible exact LeO.refl _)
   | (with_reducible exact LeO.none _)
   | (with_reducible refine LeO.ite ?_ ?_)
   | (with_reducible refine LeO.bind ?_ (fun _ => ?_))
   | exact ih0 _ _ _ _ _ _ _ _ _
   | exact ih1 _ _ _ _ _ _ _
   | exact ih2 _ _ _ _ _ _ _
   | exact ground_Grid.mono _ _ _ _ _ _
   | exact ground_Joined.mono _ _ _ _ _ _ _ _
   | exact ground_Open.mono _ _ _ _ _ _ _ _
   | exact route_Cost.mono _ _ _ _ _ _
   | exact route_Way.mono _ _ _ _ _ _ _
   | exact LeO.none _
   | refine LeO.ite ?_ ?_
   | refine LeO.bind ?_ (fun _ => ?_)
def bivouactop_BivouacRoads.T1 : Bool × List (List Nat × List Nat) := (true, [([], []), ([0], [0]), ([1], [1]), ([], []), ([3], [3]), ([], []), ([5], [5]), ([], []), ([7], [7]), ([], []), ([9, 2, 2, 0, 1, 2, 9], [2, 9]), ([4, 10, 0, 1, 2, 3, 4, 9, 10], [4]), ([6, 11, 0, 1, 2, 3, 4, 5, 6, 9, 10, 11], [6]), ([8, 12, 0, 1, 2, 3, 4, 5, 6, 7, 8, 9, 10, 11, 12], [8])])
def bivouactop_BivouacRoads.B1 : List Nat := [0, 1, 3, 0, 8, 0, 32, 0, 128, 0, 519, 1567, 3711, 8191]
theorem bivouactop_BivouacRoads.tab1 : rtab .any (opsOf Try.f3 1) = bivouactop_BivouacRoads.T1 := by kernel_rfl
theorem bivouactop_BivouacRoads.bits1 : waitsOk bivouactop_BivouacRoads.T1.2 bivouactop_BivouacRoads.B1 = true := by kernel_rfl
def bivouactop_BivouacRoads.T15 : Bool × List (List Nat × List Nat) := (true, [([], []), ([], []), ([], []), ([], []), ([2, 3], [2, 3]), ([4], [4]), ([], []), ([6], [6]), ([5, 7], [5, 7]), ([], []), ([], []), ([9, 10], [9, 10]), ([11], [11]), ([], []), ([13], [13]), ([12, 14], [12, 14]), ([0, 1, 8, 15], [0, 1, 8, 15]), ([16], [16]), ([17], [17]), ([17], [17]), ([18, 16, 0, 1, 2, 3, 4, 5, 6, 7, 8, 9, 10, 11, 12, 13, 14, 15, 16, 17, 18], [18]), ([19, 20, 0, 1, 2, 3, 4, 5, 6, 7, 8, 9, 10, 11, 12, 13, 14, 15, 16, 17, 18, 19, 20], [19])])
def bivouactop_BivouacRoads.B15 : List Nat := [0, 0, 0, 0, 12, 28, 0, 64, 252, 0, 0, 1536, 3584, 0, 8192, 32256, 65535, 131071, 262143, 262143, 524287, 2097151]
theorem bivouactop_BivouacRoads.tab15 : rtab .any (opsOf Try.f3 15) = bivouactop_BivouacRoads.T15 := by kernel_rfl
theorem bivouactop_BivouacRoads.bits15 : waitsOk bivouactop_BivouacRoads.T15.2 bivouactop_BivouacRoads.B15 = true := by kernel_rfl
set_option maxHeartbeats 8000000 in
set_option maxRecDepth 100000 in
theorem bivouactop_BivouacRoads.calls (k : Nat) (a0_0 : Int) (a0_1 : Int) (a0_2 : Int) (A0_3 : Option Addr) (c0_3 : Nat) (l0_3 : List Int) (a0_4 : Int) (a0_5 : Int) (a0_6 : Int) (r : Bool) (w : World) (hr0_3 : Kd.C (Kd.int .u8) w A0_3 l0_3.length l0_3) (hc0_3 : l0_3.length ≤ c0_3) (h : bivouactop_BivouacRoads.f k a0_0 a0_1 a0_2 l0_3 a0_4 a0_5 a0_6 = some r) :
  Calls Try.prog 3 #[.agg #[.int .i64 a0_0, .int .i64 a0_1, .int .i64 a0_2, .slice A0_3 l0_3.length c0_3, .int .i64 a0_4, .int .i64 a0_5, .int .i64 a0_6]] w fun e w' => e = .returned (.bool r) ∧ Below w.heap.size w w' := by
 have hu26 := Try.underlying26
 have hu24 := Try.underlying24
 have hu36 := Try.underlying36
 have HR0_3 := Aside0.mk hr0_3
 have HC0_3 := Aside0.mk hc0_3
 clear hr0_3 hc0_3
 have HB := Aside0.mk (Below.refl w.heap.size w)
 have H : ((bivouactop_few.f a0_0 a0_1 a0_2 l0_3).bind fun bt159 => (if 6 ≤ 281474976710656 then ((ground_Joined.f k 2 1 0 (List.replicate 6 0) 0 0 1).bind fun t170 => (if t170 = true then ((ground_Grid.f k bt159.1 bt159.2.1 bt159.2.2.1 bt159.2.2.2 a0_4).bind fun bt171 => (if bt171.2 = 0 then (bivouactop_BivouacRoads.j0 k a0_4 a0_5 a0_6 bt171.1 (decide ((bt171.1.length : Int) > 400)) bt159.1 bt159.2.1 bt159.2.2.1 bt159.2.2.2) else (bivouactop_BivouacRoads.j0 k a0_4 a0_5 a0_6 bt171.1 true bt159.1 bt159.2.1 bt159.2.2.1 bt159.2.2.2))) else (none))) else (none))) = some r := h
 clear h
 replace H := Option.bind_eq_some_iff.mp H
 obtain ⟨⟨t159, t160, t161, t162⟩, A20, H⟩ := H
 replace H : (if 6 ≤ 281474976710656 then ((ground_Joined.f k 2 1 0 (List.replicate 6 0) 0 0 1).bind fun t170 => (if t170 = true then ((ground_Grid.f k t159 t160 t161 t162 a0_4).bind fun bt171 => (if bt171.2 = 0 then (bivouactop_BivouacRoads.j0 k a0_4 a0_5 a0_6 bt171.1 (decide ((bt171.1.length : Int) > 400)) t159 t160 t161 t162) else (bivouactop_BivouacRoads.j0 k a0_4 a0_5 a0_6 bt171.1 true t159 t160 t161 t162))) else (none))) else (none)) = some r := H
 have A2 := Aside0.mk A20
 clear A20
 by_cases c3 : 6 ≤ 281474976710656
 ·
  rw [if_pos c3] at H
  have c3b0 := eq_true c3
  have c3b1 : decide (6 ≤ 281474976710656) = true := decide_eq_true c3
  clear c3
  obtain ⟨y166, hy166⟩ : ∃ y_ : List Int, y_ = (List.replicate 6 0) := ⟨_, rfl⟩
  replace H : ((ground_Joined.f k 2 1 0 y166 0 0 1).bind fun t170 => (if t170 = true then ((ground_Grid.f k t159 t160 t161 t162 a0_4).bind fun bt171 => (if bt171.2 = 0 then (bivouactop_BivouacRoads.j0 k a0_4 a0_5 a0_6 bt171.1 (decide ((bt171.1.length : Int) > 400)) t159 t160 t161 t162) else (bivouactop_BivouacRoads.j0 k a0_4 a0_5 a0_6 bt171.1 true t159 t160 t161 t162))) else (none))) = some r := by first | (rw [hy166]; with_reducible exact H) | (have H2_ := (Option.bind_some _ _).symm.trans H; rw [hy166]; with_reducible exact H2_) | (have H2_ := (Option.bind_some _ _).symm.trans H; with_reducible exact H2_) | with_reducible exact H | (rw [hy166]; exact H) | exact H
  have Ny166 := Aside0.mk hy166
  clear hy166
  replace H := Option.bind_eq_some_iff.mp H
  obtain ⟨t170, A40, H⟩ := H
  replace H : (if t170 = true then ((ground_Grid.f k t159 t160 t161 t162 a0_4).bind fun bt171 => (if bt171.2 = 0 then (bivouactop_BivouacRoads.j0 k a0_4 a0_5 a0_6 bt171.1 (decide ((bt171.1.length : Int) > 400)) t159 t160 t161 t162) else (bivouactop_BivouacRoads.j0 k a0_4 a0_5 a0_6 bt171.1 true t159 t160 t161 t162))) else (none)) = some r := H
  have A4 := Aside0.mk A40
  clear A40
  by_cases c5 : t170 = true
  ·
   subst c5
   have H1 : ((ground_Grid.f k t159 t160 t161 t162 a0_4).bind fun bt171 => (if bt171.2 = 0 then (bivouactop_BivouacRoads.j0 k a0_4 a0_5 a0_6 bt171.1 (decide ((bt171.1.length : Int) > 400)) t159 t160 t161 t162) else (bivouactop_BivouacRoads.j0 k a0_4 a0_5 a0_6 bt171.1 true t159 t160 t161 t162))) = some r := by rw [if_pos rfl] at H; exact H
   clear H
   have H := H1
   clear H1
   replace H := Option.bind_eq_some_iff.mp H
   obtain ⟨⟨t171, t174⟩, A60, H⟩ := H
   replace H : (if t174 = 0 then (bivouactop_BivouacRoads.j0 k a0_4 a0_5 a0_6 t171 (decide ((t171.length : Int) > 400)) t159 t160 t161 t162) else (bivouactop_BivouacRoads.j0 k a0_4 a0_5 a0_6 t171 true t159 t160 t161 t162)) = some r := H
   have A6 := Aside0.mk A60
   clear A60
   have HC7 := Aside0.mk H
   clear H
   go_enter Try.func3, Try.ntmps3
   try go_wp2_with (first | ((with_reducible refine gate_dst (N := 1) rfl ?_); (try (refine gate_guard (by rfl) ?_; dsimp only)); refine box_event ?hg (N := 1) ?hd (cs := #[.int .i64 a0_0, .int .i64 a0_1, .int .i64 a0_2, .slice A0_3 l0_3.length c0_3, .int .i64 a0_4, .int .i64 a0_5, .int .i64 a0_6]) (t := 26) ?hr ?_; (case hd => rfl); (case hg => rfl); (case hr => first | (go_simp; done) | (go_simp; rfl)); intro gb158 hg w8 hbox hb; have n0_ := Aside0.mk (below_step (by repeat (first | (with_reducible first | exact HB.out | apply below_alloc | apply pw_below_drewN | apply below_drew1) | exact HB.out)) hb); have n1_ := Aside0.mk (hbox); have n2_ := Aside0.mk ((by rw [hg]; exact (below_size (by repeat (first | (with_reducible first | exact HB.out | apply below_alloc | apply pw_below_drewN | apply below_drew1) | exact HB.out))) : w.heap.size ≤ gb158)); have n3_ := Aside0.mk ((by rw [hg]; exact (below_size (by repeat (first | (with_reducible first | exact HB.out | apply below_alloc | apply pw_below_drewN | apply below_drew1) | exact HB.out))) : w.heap.size ≤ gb158)); clear HB; have HB := n0_; have BK158 := n1_; have GW158 := n2_; have GE158 := n3_; clear n0_ n1_ n2_ n3_; clear hb hbox hg))
   have n0_ := Aside0.mk (blk_drew BK158.out)
   have n1_ := Aside0.mk (below_drew1 HB.out)
   clear BK158
   clear HB
   have BK158 := n0_
   have HB := n1_
   clear n0_ n1_
   refine start_ (n := 14) (S := fun w' => w'.cell? ⟨gb158, 0, none⟩ = some (.int .i64 a0_0) ∧ w'.cell? ⟨gb158, 1, none⟩ = some (.int .i64 a0_1) ∧ w'.cell? ⟨gb158, 2, none⟩ = some (.int .i64 a0_2) ∧ w'.cell? ⟨gb158, 3, none⟩ = some (.slice A0_3 l0_3.length c0_3) ∧ w'.cell? ⟨gb158, 4, none⟩ = some (.int .i64 a0_4) ∧ w'.cell? ⟨gb158, 5, none⟩ = some (.int .i64 a0_5) ∧ w'.cell? ⟨gb158, 6, none⟩ = some (.int .i64 a0_6)) (ds := []) (bA 14 0) (by kernel_rfl) rfl rfl ⟨(blk_cell BK158.out 0).trans rfl, (blk_cell BK158.out 1).trans rfl, (blk_cell BK158.out 2).trans rfl, (blk_cell BK158.out 3).trans rfl, (blk_cell BK158.out 4).trans rfl, (blk_cell BK158.out 5).trans rfl, (blk_cell BK158.out 6).trans rfl⟩ (fun hHeld => ?_); refine with_tabW bivouactop_BivouacRoads.tab1 bivouactop_BivouacRoads.bits1 (fun HT_ HW_ => ?_)
   generalize w8.drew = w9 at BK158 HB hHeld ⊢
   refine pure_ (i := 0) (N := some 17) (v := ?_) (a' := ?_) (bA 14 1) rfl rfl (any_of HT_.out (by kernel_rfl)) (fun _ _ _ h => h) (Or.inl ⟨by rfl, ?_⟩) ?_ ?_
   rotate_left
   ·
    intro w'
    go_simp
    with_reducible rfl
   rotate_left
   ·
    simp only [Act.put, sA, sB, sC, i64_w, i32_w]
    rfl
   refine pure_ (i := 3) (N := some 20) (v := ?_) (a' := ?_) (bA 14 9) rfl rfl (any_of HT_.out (by kernel_rfl)) (fun _ _ _ h => h) (Or.inl ⟨by rfl, ?_⟩) ?_ ?_
   rotate_left
   ·
    intro w'
    go_simp
    with_reducible rfl
   rotate_left
   ·
    simp only [Act.put, sA, sB, sC, i64_w, i32_w]
    rfl
   refine pure_ (i := 5) (N := some 22) (v := ?_) (a' := ?_) (bA 14 41) rfl rfl (any_of HT_.out (by kernel_rfl)) (fun _ _ _ h => h) (Or.inl ⟨by rfl, ?_⟩) ?_ ?_
   rotate_left
   ·
    intro w'
    go_simp
    with_reducible rfl
   rotate_left
   ·
    simp only [Act.put, sA, sB, sC, i64_w, i32_w]
    rfl
   refine pure_ (i := 7) (N := some 24) (v := ?_) (a' := ?_) (bA 14 169) rfl rfl (any_of HT_.out (by kernel_rfl)) (fun _ _ _ h => h) (Or.inl ⟨by rfl, ?_⟩) ?_ ?_
   rotate_left
   ·
    intro w'
    go_simp
    with_reducible rfl
   rotate_left
   ·
    simp only [Act.put, sA, sB, sC, i64_w, i32_w]
    rfl
   refine take_ (i := 1) (N := some 18) (v := ?_) (a' := ?_) (bA 14 171) rfl rfl (take_ofW HT_.out HW_.out (by kernel_rfl)) (fun _ _ _ h => h) (Or.inl ⟨by rfl, ?_⟩) hHeld ?_ ?_
   rotate_left
   ·
    rintro w' ⟨s0, s1, s2, s3, s4, s5, s6⟩
    go_simp
    with_reducible rfl
   rotate_left
   ·
    simp only [Act.put, sA, sB, sC, i64_w, i32_w]
    rfl
   refine take_ (i := 4) (N := some 21) (v := ?_) (a' := ?_) (bA 14 187) rfl rfl (take_ofW HT_.out HW_.out (by kernel_rfl)) (fun _ _ _ h => h) (Or.inl ⟨by rfl, ?_⟩) hHeld ?_ ?_
   rotate_left
   ·
    rintro w' ⟨s0, s1, s2, s3, s4, s5, s6⟩
    go_simp
    with_reducible rfl
   rotate_left
   ·
    simp only [Act.put, sA, sB, sC, i64_w, i32_w]
    rfl
   refine take_ (i := 6) (N := some 23) (v := ?_) (a' := ?_) (bA 14 251) rfl rfl (take_ofW HT_.out HW_.out (by kernel_rfl)) (fun _ _ _ h => h) (Or.inl ⟨by rfl, ?_⟩) hHeld ?_ ?_
   rotate_left
   ·
    rintro w' ⟨s0, s1, s2, s3, s4, s5, s6⟩
    go_simp
    with_reducible rfl
   rotate_left
   ·
    simp only [Act.put, sA, sB, sC, i64_w, i32_w]
    rfl
   refine take_ (i := 8) (N := some 25) (v := ?_) (a' := ?_) (bA 14 507) rfl rfl (take_ofW HT_.out HW_.out (by kernel_rfl)) (fun _ _ _ h => h) (Or.inl ⟨by rfl, ?_⟩) hHeld ?_ ?_
   rotate_left
   ·
    rintro w' ⟨s0, s1, s2, s3, s4, s5, s6⟩
    go_simp
    with_reducible rfl
   rotate_left
   ·
    simp only [Act.put, sA, sB, sC, i64_w, i32_w]
    rfl
   refine join_ (σ := Value × Nat) 4 #[true, true, true, true, true, true, true, true, true, true, false, false, false, false] (fun s_ => [(19, .agg #[.int .i64 t159, .int .i64 t160, .int .i64 t161, s_.1]), (3, .pointer (some ⟨s_.2, 0, none⟩))]) (fun s_ w' => (w'.cell? ⟨gb158, 0, none⟩ = some (.int .i64 a0_0) ∧ w'.cell? ⟨gb158, 1, none⟩ = some (.int .i64 a0_1) ∧ w'.cell? ⟨gb158, 2, none⟩ = some (.int .i64 a0_2) ∧ w'.cell? ⟨gb158, 3, none⟩ = some (.slice A0_3 l0_3.length c0_3) ∧ w'.cell? ⟨gb158, 4, none⟩ = some (.int .i64 a0_4) ∧ w'.cell? ⟨gb158, 5, none⟩ = some (.int .i64 a0_5) ∧ w'.cell? ⟨gb158, 6, none⟩ = some (.int .i64 a0_6)) ∧ (Kd.V (Kd.int .u8) 5 w' w.heap.size (fun k_ => k_ ≠ gb158 ∧ k_ ≠ s_.2) s_.1 t162) ∧ (w'.heap[gb158]? = some (.cells #[.int .i64 a0_0, .int .i64 a0_1, .int .i64 a0_2, .slice A0_3 l0_3.length c0_3, .int .i64 a0_4, .int .i64 a0_5, .int .i64 a0_6] 26 (0, 0))) ∧ (w'.heap[s_.2]? = some (.cells #[.int .i64 0, .int .i64 0, .int .i64 0, .slice none 0 0] 24 (0, 0))) ∧ (w.heap.size ≤ s_.2) ∧ (w.heap.size ≤ s_.2) ∧ (gb158 ≠ s_.2) ∧ (s_.2 ≠ gb158) ∧ (Below w.heap.size w w')) ?_ ?_
   rotate_left
   ·
    intro hCont
    refine two_ (i := 2) (j := 9) (Ni := some 19) (Nj := some 3) (bA 14 511) #[true, true, false, true, true, true, true, true, true, true, false, false, false, false] rfl rfl rfl rfl (two_of HT_.out (by kernel_rfl)) (by decide) (by decide) (fun K hK => ?_) (fun K hK => ?_)
    ·
     skip
     refine goes_ Try.func4 (by kernel_rfl) rfl #[.agg #[.int .i64 a0_0, .int .i64 a0_1, .int .i64 a0_2, .slice A0_3 l0_3.length c0_3]] (by rfl) rfl rfl (by (try simp only [List.map_toArray, List.map_cons, List.map_nil]); first | done | rfl | (simp only [List.length_drop, List.length_take]; rfl)) ?_
     with_reducible refine (bivouactop_few.calls a0_0 a0_1 a0_2 (fun k_ => k_ < w.heap.size) _ _ l0_3 t159 t160 t161 t162 _ ?side1 A2.out).mono ?_
     (case side1 => exact Kd.V_mk HC0_3.out (Kd.F_below (Kd.C_F (Kd.heap_int .u8) HR0_3.out) (by repeat (first | (with_reducible first | exact HB.out | apply below_alloc | apply pw_below_drewN | apply below_drew1 | refine below_set ?_ GE158.out) | exact HB.out))))
     rintro e w10 ⟨v163, rfl, ho0, hb⟩
     refine ⟨_, rfl, ?_⟩
     have n0_ := Aside0.mk (Kd.V_lower (Kd.V_mono (ok' := fun k_ => k_ ≠ gb158) ho0 (fun k_ hk_ => Or.elim hk_ (fun hs_ => fun e_ => Nat.not_le.2 hs_ (by rw [e_]; exact GW158.out)) (fun hn_ => (Kd.freshB (g := gb158) (o := .cells #[.int .i64 a0_0, .int .i64 a0_1, .int .i64 a0_2, .slice A0_3 l0_3.length c0_3, .int .i64 a0_4, .int .i64 a0_5, .int .i64 a0_6] 26 (0, 0)) (by (with_reducible repeat (first | refine blk_drewN ?_ _ | refine blk_drew ?_ | refine blk_alloc ?_ _)); exact BK158.out) k_ hn_)))) (below_size (by repeat (first | (with_reducible first | exact HB.out | apply below_alloc | apply pw_below_drewN | apply below_drew1 | refine below_set ?_ GE158.out) | exact HB.out))))
     have n1_ := Aside0.mk (blk_below (g := gb158) (o := .cells #[.int .i64 a0_0, .int .i64 a0_1, .int .i64 a0_2, .slice A0_3 l0_3.length c0_3, .int .i64 a0_4, .int .i64 a0_5, .int .i64 a0_6] 26 (0, 0)) (by (with_reducible repeat (first | refine blk_drewN ?_ _ | refine blk_drew ?_ | refine blk_alloc ?_ _)); exact BK158.out) hb)
     have n2_ := Aside0.mk (below_step (by repeat (first | (with_reducible first | exact HB.out | apply below_alloc | apply pw_below_drewN | apply below_drew1 | refine below_set ?_ GE158.out) | exact HB.out)) hb)
     clear BK158
     clear HB
     have HO164 := n0_
     have BK158 := n1_
     have HB := n2_
     clear n0_ n1_ n2_
     (try clear hb)
     (try clear hb2)
     (try clear hk)
     (try clear hi)
     (try clear ho0)
     refine hK.out _ _ ⟨(blk_cell BK158.out 0).trans rfl, (blk_cell BK158.out 1).trans rfl, (blk_cell BK158.out 2).trans rfl, (blk_cell BK158.out 3).trans rfl, (blk_cell BK158.out 4).trans rfl, (blk_cell BK158.out 5).trans rfl, (blk_cell BK158.out 6).trans rfl⟩ (fun hHeld => ?_)
     clear hK K
     refine norm_ (a' := ?_) ?_ ?_
     rotate_left
     ·
      show Act.put _ (some 19) _ = _
      simp only [Act.put, sA, sB, sC, i64_w, i32_w]
      rfl
     refine one_ (i := 9) (N := some 3) (bA 14 1023) rfl rfl (one_of HT_.out (by kernel_rfl)) (by decide) (fun K hK => ?_)
     refine box_step ?hg (N := 3) ?hd (cs := #[.int .i64 0, .int .i64 0, .int .i64 0, .slice none 0 0]) (t := 24) ?hr ?_; (case hd => rfl); (case hg => rfl); (case hr => first | (go_simp; done) | (go_simp; rfl))
     intro gb165 hg w11 hbox hb
     have n0_ := Aside0.mk (Kd.V_below (Kd.V_elderB (by (with_reducible repeat (first | apply Kd.V_alloc | apply Kd.V_drewN | apply Kd.V_drew)); exact HO164.out) gb165 (Nat.le_of_eq hg.symm)) hb)
     have n1_ := Aside0.mk (blk_below (g := gb158) (o := .cells #[.int .i64 a0_0, .int .i64 a0_1, .int .i64 a0_2, .slice A0_3 l0_3.length c0_3, .int .i64 a0_4, .int .i64 a0_5, .int .i64 a0_6] 26 (0, 0)) (by (with_reducible repeat (first | refine blk_drewN ?_ _ | refine blk_drew ?_ | refine blk_alloc ?_ _)); exact BK158.out) hb)
     have n2_ := Aside0.mk (below_step (by repeat (first | (with_reducible first | exact HB.out | apply below_alloc | apply pw_below_drewN | apply below_drew1 | refine below_set ?_ GE158.out) | exact HB.out)) hb)
     have n3_ := Aside0.mk (hbox)
     have n4_ := Aside0.mk ((by rw [hg]; exact (below_size (by repeat (first | (with_reducible first | exact HB.out | apply below_alloc | apply pw_below_drewN | apply below_drew1 | refine below_set ?_ GE158.out) | exact HB.out))) : w.heap.size ≤ gb165))
     have n5_ := Aside0.mk ((by rw [hg]; exact (below_size (by repeat (first | (with_reducible first | exact HB.out | apply below_alloc | apply pw_below_drewN | apply below_drew1 | refine below_set ?_ GE158.out) | exact HB.out))) : w.heap.size ≤ gb165))
     have n6_ := Aside0.mk ((by rw [hg]; exact Nat.ne_of_lt (blk_lt (g := gb158) (o := .cells #[.int .i64 a0_0, .int .i64 a0_1, .int .i64 a0_2, .slice A0_3 l0_3.length c0_3, .int .i64 a0_4, .int .i64 a0_5, .int .i64 a0_6] 26 (0, 0)) (by (with_reducible repeat (first | refine blk_drewN ?_ _ | refine blk_drew ?_ | refine blk_alloc ?_ _)); exact BK158.out)) : gb158 ≠ gb165))
     have n7_ := Aside0.mk ((by rw [hg]; exact Nat.ne_of_gt (blk_lt (g := gb158) (o := .cells #[.int .i64 a0_0, .int .i64 a0_1, .int .i64 a0_2, .slice A0_3 l0_3.length c0_3, .int .i64 a0_4, .int .i64 a0_5, .int .i64 a0_6] 26 (0, 0)) (by (with_reducible repeat (first | refine blk_drewN ?_ _ | refine blk_drew ?_ | refine blk_alloc ?_ _)); exact BK158.out)) : gb165 ≠ gb158))
     clear HO164
     clear BK158
     clear HB
     have HO164 := n0_
     have BK158 := n1_
     have HB := n2_
     have BK165 := n3_
     have GW165 := n4_
     have GE165 := n5_
     have NB158_165 := n6_
     have NB165_158 := n7_
     clear n0_ n1_ n2_ n3_ n4_ n5_ n6_ n7_
     clear hb hbox hg
     refine hK.out _ _ ⟨(blk_cell BK158.out 0).trans rfl, (blk_cell BK158.out 1).trans rfl, (blk_cell BK158.out 2).trans rfl, (blk_cell BK158.out 3).trans rfl, (blk_cell BK158.out 4).trans rfl, (blk_cell BK158.out 5).trans rfl, (blk_cell BK158.out 6).trans rfl⟩ (fun hHeld => ?_)
     clear hK K
     refine norm_ (a' := ?_) ?_ ?_
     rotate_left
     ·
      show Act.put _ (some 3) _ = _
      simp only [Act.put, sA, sB, sC, i64_w, i32_w]
      rfl
     exact norm_ (by simp only [putAll, Act.put, List.setIfInBounds_toArray, List.set_cons_zero, List.set_cons_succ]) (hCont (v163, gb165) _ ⟨hHeld, (by (with_reducible repeat (first | apply Kd.V_alloc | apply Kd.V_drewN | apply Kd.V_drew)); exact HO164.out), (by (with_reducible repeat (first | refine blk_drewN ?_ _ | refine blk_drew ?_ | refine blk_alloc ?_ _)); exact BK158.out), (by (with_reducible repeat (first | refine blk_drewN ?_ _ | refine blk_drew ?_ | refine blk_alloc ?_ _)); exact BK165.out), GW165.out, GE165.out, NB158_165.out, NB165_158.out, (by repeat (first | (with_reducible first | exact HB.out | apply below_alloc | apply pw_below_drewN | apply below_drew1 | refine below_set ?_ GE158.out | refine below_set ?_ GE165.out) | exact HB.out))⟩)
    ·
     skip
     refine box_step ?hg (N := 3) ?hd (cs := #[.int .i64 0, .int .i64 0, .int .i64 0, .slice none 0 0]) (t := 24) ?hr ?_; (case hd => rfl); (case hg => rfl); (case hr => first | (go_simp; done) | (go_simp; rfl))
     intro gb165 hg w10 hbox hb
     have n0_ := Aside0.mk (blk_below (g := gb158) (o := .cells #[.int .i64 a0_0, .int .i64 a0_1, .int .i64 a0_2, .slice A0_3 l0_3.length c0_3, .int .i64 a0_4, .int .i64 a0_5, .int .i64 a0_6] 26 (0, 0)) (by (with_reducible repeat (first | refine blk_drewN ?_ _ | refine blk_drew ?_ | refine blk_alloc ?_ _)); exact BK158.out) hb)
     have n1_ := Aside0.mk (below_step (by repeat (first | (with_reducible first | exact HB.out | apply below_alloc | apply pw_below_drewN | apply below_drew1 | refine below_set ?_ GE158.out) | exact HB.out)) hb)
     have n2_ := Aside0.mk (hbox)
     have n3_ := Aside0.mk ((by rw [hg]; exact (below_size (by repeat (first | (with_reducible first | exact HB.out | apply below_alloc | apply pw_below_drewN | apply below_drew1 | refine below_set ?_ GE158.out) | exact HB.out))) : w.heap.size ≤ gb165))
     have n4_ := Aside0.mk ((by rw [hg]; exact (below_size (by repeat (first | (with_reducible first | exact HB.out | apply below_alloc | apply pw_below_drewN | apply below_drew1 | refine below_set ?_ GE158.out) | exact HB.out))) : w.heap.size ≤ gb165))
     have n5_ := Aside0.mk ((by rw [hg]; exact Nat.ne_of_lt (blk_lt (g := gb158) (o := .cells #[.int .i64 a0_0, .int .i64 a0_1, .int .i64 a0_2, .slice A0_3 l0_3.length c0_3, .int .i64 a0_4, .int .i64 a0_5, .int .i64 a0_6] 26 (0, 0)) (by (with_reducible repeat (first | refine blk_drewN ?_ _ | refine blk_drew ?_ | refine blk_alloc ?_ _)); exact BK158.out)) : gb158 ≠ gb165))
     have n6_ := Aside0.mk ((by rw [hg]; exact Nat.ne_of_gt (blk_lt (g := gb158) (o := .cells #[.int .i64 a0_0, .int .i64 a0_1, .int .i64 a0_2, .slice A0_3 l0_3.length c0_3, .int .i64 a0_4, .int .i64 a0_5, .int .i64 a0_6] 26 (0, 0)) (by (with_reducible repeat (first | refine blk_drewN ?_ _ | refine blk_drew ?_ | refine blk_alloc ?_ _)); exact BK158.out)) : gb165 ≠ gb158))
     clear BK158
     clear HB
     have BK158 := n0_
     have HB := n1_
     have BK165 := n2_
     have GW165 := n3_
     have GE165 := n4_
     have NB158_165 := n5_
     have NB165_158 := n6_
     clear n0_ n1_ n2_ n3_ n4_ n5_ n6_
     clear hb hbox hg
     refine hK.out _ _ ⟨(blk_cell BK158.out 0).trans rfl, (blk_cell BK158.out 1).trans rfl, (blk_cell BK158.out 2).trans rfl, (blk_cell BK158.out 3).trans rfl, (blk_cell BK158.out 4).trans rfl, (blk_cell BK158.out 5).trans rfl, (blk_cell BK158.out 6).trans rfl⟩ (fun hHeld => ?_)
     clear hK K
     refine norm_ (a' := ?_) ?_ ?_
     rotate_left
     ·
      show Act.put _ (some 3) _ = _
      simp only [Act.put, sA, sB, sC, i64_w, i32_w]
      rfl
     refine one_ (i := 2) (N := some 19) (bA 14 1023) rfl rfl (one_of HT_.out (by kernel_rfl)) (by decide) (fun K hK => ?_)
     refine goes_ Try.func4 (by kernel_rfl) rfl #[.agg #[.int .i64 a0_0, .int .i64 a0_1, .int .i64 a0_2, .slice A0_3 l0_3.length c0_3]] (by rfl) rfl rfl (by (try simp only [List.map_toArray, List.map_cons, List.map_nil]); first | done | rfl | (simp only [List.length_drop, List.length_take]; rfl)) ?_
     with_reducible refine (bivouactop_few.calls a0_0 a0_1 a0_2 (fun k_ => k_ < w.heap.size) _ _ l0_3 t159 t160 t161 t162 _ ?side1 A2.out).mono ?_
     (case side1 => exact Kd.V_mk HC0_3.out (Kd.F_below (Kd.C_F (Kd.heap_int .u8) HR0_3.out) (by repeat (first | (with_reducible first | exact HB.out | apply below_alloc | apply pw_below_drewN | apply below_drew1 | refine below_set ?_ GE158.out | refine below_set ?_ GE165.out) | exact HB.out))))
     rintro e w11 ⟨v163, rfl, ho0, hb⟩
     refine ⟨_, rfl, ?_⟩
     have n0_ := Aside0.mk (Kd.V_lower (Kd.V_mono (ok' := fun k_ => k_ ≠ gb158 ∧ k_ ≠ gb165) ho0 (fun k_ hk_ => ⟨Or.elim hk_ (fun hs_ => fun e_ => Nat.not_le.2 hs_ (by rw [e_]; exact GW158.out)) (fun hn_ => (Kd.freshB (g := gb158) (o := .cells #[.int .i64 a0_0, .int .i64 a0_1, .int .i64 a0_2, .slice A0_3 l0_3.length c0_3, .int .i64 a0_4, .int .i64 a0_5, .int .i64 a0_6] 26 (0, 0)) (by (with_reducible repeat (first | refine blk_drewN ?_ _ | refine blk_drew ?_ | refine blk_alloc ?_ _)); exact BK158.out) k_ hn_)), Or.elim hk_ (fun hs_ => fun e_ => Nat.not_le.2 hs_ (by rw [e_]; exact GW165.out)) (fun hn_ => (Kd.freshB (g := gb165) (o := .cells #[.int .i64 0, .int .i64 0, .int .i64 0, .slice none 0 0] 24 (0, 0)) (by (with_reducible repeat (first | refine blk_drewN ?_ _ | refine blk_drew ?_ | refine blk_alloc ?_ _)); exact BK165.out) k_ hn_))⟩)) (below_size (by repeat (first | (with_reducible first | exact HB.out | apply below_alloc | apply pw_below_drewN | apply below_drew1 | refine below_set ?_ GE158.out | refine below_set ?_ GE165.out) | exact HB.out))))
     have n1_ := Aside0.mk (blk_below (g := gb158) (o := .cells #[.int .i64 a0_0, .int .i64 a0_1, .int .i64 a0_2, .slice A0_3 l0_3.length c0_3, .int .i64 a0_4, .int .i64 a0_5, .int .i64 a0_6] 26 (0, 0)) (by (with_reducible repeat (first | refine blk_drewN ?_ _ | refine blk_drew ?_ | refine blk_alloc ?_ _)); exact BK158.out) hb)
     have n2_ := Aside0.mk (blk_below (g := gb165) (o := .cells #[.int .i64 0, .int .i64 0, .int .i64 0, .slice none 0 0] 24 (0, 0)) (by (with_reducible repeat (first | refine blk_drewN ?_ _ | refine blk_drew ?_ | refine blk_alloc ?_ _)); exact BK165.out) hb)
     have n3_ := Aside0.mk (below_step (by repeat (first | (with_reducible first | exact HB.out | apply below_alloc | apply pw_below_drewN | apply below_drew1 | refine below_set ?_ GE158.out | refine below_set ?_ GE165.out) | exact HB.out)) hb)
     clear BK158
     clear BK165
     clear HB
     have HO164 := n0_
     have BK158 := n1_
     have BK165 := n2_
     have HB := n3_
     clear n0_ n1_ n2_ n3_
     (try clear hb)
     (try clear hb2)
     (try clear hk)
     (try clear hi)
     (try clear ho0)
     refine hK.out _ _ ⟨(blk_cell BK158.out 0).trans rfl, (blk_cell BK158.out 1).trans rfl, (blk_cell BK158.out 2).trans rfl, (blk_cell BK158.out 3).trans rfl, (blk_cell BK158.out 4).trans rfl, (blk_cell BK158.out 5).trans rfl, (blk_cell BK158.out 6).trans rfl⟩ (fun hHeld => ?_)
     clear hK K
     refine norm_ (a' := ?_) ?_ ?_
     rotate_left
     ·
      show Act.put _ (some 19) _ = _
      simp only [Act.put, sA, sB, sC, i64_w, i32_w]
      rfl
     exact norm_ (by simp only [putAll, Act.put, List.setIfInBounds_toArray, List.set_cons_zero, List.set_cons_succ]) (hCont (v163, gb165) _ ⟨hHeld, (by (with_reducible repeat (first | apply Kd.V_alloc | apply Kd.V_drewN | apply Kd.V_drew)); exact HO164.out), (by (with_reducible repeat (first | refine blk_drewN ?_ _ | refine blk_drew ?_ | refine blk_alloc ?_ _)); exact BK158.out), (by (with_reducible repeat (first | refine blk_drewN ?_ _ | refine blk_drew ?_ | refine blk_alloc ?_ _)); exact BK165.out), GW165.out, GE165.out, NB158_165.out, NB165_158.out, (by repeat (first | (with_reducible first | exact HB.out | apply below_alloc | apply pw_below_drewN | apply below_drew1 | refine below_set ?_ GE158.out | refine below_set ?_ GE165.out) | exact HB.out))⟩)
   rintro ⟨v163, gb165⟩ w12 ⟨hS_, h0_, h1_, h2_, h3_, h4_, h5_, h6_, h7_⟩
   have n0_ : Aside0 (Kd.V (Kd.int .u8) 5 w12 w.heap.size (fun k_ => k_ ≠ gb158 ∧ k_ ≠ gb165) v163 t162) := ⟨h0_⟩
   have n1_ : Aside0 (w12.heap[gb158]? = some (.cells #[.int .i64 a0_0, .int .i64 a0_1, .int .i64 a0_2, .slice A0_3 l0_3.length c0_3, .int .i64 a0_4, .int .i64 a0_5, .int .i64 a0_6] 26 (0, 0))) := ⟨h1_⟩
   have n2_ : Aside0 (w12.heap[gb165]? = some (.cells #[.int .i64 0, .int .i64 0, .int .i64 0, .slice none 0 0] 24 (0, 0))) := ⟨h2_⟩
   have n3_ : Aside0 (w.heap.size ≤ gb165) := ⟨h3_⟩
   have n4_ : Aside0 (w.heap.size ≤ gb165) := ⟨h4_⟩
   have n5_ : Aside0 (gb158 ≠ gb165) := ⟨h5_⟩
   have n6_ : Aside0 (gb165 ≠ gb158) := ⟨h6_⟩
   have n7_ : Aside0 (Below w.heap.size w w12) := ⟨h7_⟩
   clear BK158
   clear HB
   clear h0_ h1_ h2_ h3_ h4_ h5_ h6_ h7_
   have HO164 := n0_
   have BK158 := n1_
   have BK165 := n2_
   have GW165 := n3_
   have GE165 := n4_
   have NB158_165 := n5_
   have NB165_158 := n6_
   have HB := n7_
   clear n0_ n1_ n2_ n3_ n4_ n5_ n6_ n7_
   have hHeld : w12.cell? ⟨gb158, 0, none⟩ = some (.int .i64 a0_0) ∧ w12.cell? ⟨gb158, 1, none⟩ = some (.int .i64 a0_1) ∧ w12.cell? ⟨gb158, 2, none⟩ = some (.int .i64 a0_2) ∧ w12.cell? ⟨gb158, 3, none⟩ = some (.slice A0_3 l0_3.length c0_3) ∧ w12.cell? ⟨gb158, 4, none⟩ = some (.int .i64 a0_4) ∧ w12.cell? ⟨gb158, 5, none⟩ = some (.int .i64 a0_5) ∧ w12.cell? ⟨gb158, 6, none⟩ = some (.int .i64 a0_6) := hS_
   obtain ⟨Ao16, co16, eo16⟩ := Kd.V_slice HO164.out
   (first | subst eo16 | (injection eo16 with f1_ f2_ f3_; have f4_ := f1_.symm; have f5_ := f3_.symm; clear f1_ f2_ f3_; subst f4_; subst f5_))
   refine norm_ (a' := ?_) ?_ ?_
   rotate_left
   ·
    simp only [putAll, Act.put, List.setIfInBounds_toArray, List.set_cons_zero, List.set_cons_succ]
    rfl
   refine one_ (i := 10) (N := none) (bA 14 2047) rfl rfl (one_of HT_.out (by kernel_rfl)) (by decide) (fun K hK => ?_)
   have hs13 : w12.cell? ⟨gb165, 0, none⟩ = some (.int .i64 0) := (blk_cell BK165.out 0).trans rfl
   have hfs13 := blk_frozen BK165.out 0
   have hns13_0 := NB158_165.out
   have hms13_0 := NB165_158.out
   have hs14 : w12.cell? ⟨gb165, 1, none⟩ = some (.int .i64 0) := (blk_cell BK165.out 1).trans rfl
   have hfs14 := blk_frozen BK165.out 1
   have hns14_0 := NB158_165.out
   have hms14_0 := NB165_158.out
   have hs15 : w12.cell? ⟨gb165, 2, none⟩ = some (.int .i64 0) := (blk_cell BK165.out 2).trans rfl
   have hfs15 := blk_frozen BK165.out 2
   have hns15_0 := NB158_165.out
   have hms15_0 := NB165_158.out
   have hs17 : w12.cell? ⟨gb165, 3, none⟩ = some (.slice none 0 0) := (blk_cell BK165.out 3).trans rfl
   have hfs17 := blk_frozen BK165.out 3
   have hns17_0 := NB158_165.out
   have hms17_0 := NB165_158.out
   refine skip_ (w1 := ?_) (by rfl) rfl ?_ ?_
   rotate_left
   ·
    go_simp
    rfl
   refine hK.out _ _ ⟨((cell_far (p := ⟨gb165, _, none⟩) NB158_165.out _).trans (((cell_far (p := ⟨gb165, _, none⟩) NB158_165.out _).trans (((cell_far (p := ⟨gb165, _, none⟩) NB158_165.out _).trans (((cell_far (p := ⟨gb165, _, none⟩) NB158_165.out _).trans (hHeld.1)))))))), ((cell_far (p := ⟨gb165, _, none⟩) NB158_165.out _).trans (((cell_far (p := ⟨gb165, _, none⟩) NB158_165.out _).trans (((cell_far (p := ⟨gb165, _, none⟩) NB158_165.out _).trans (((cell_far (p := ⟨gb165, _, none⟩) NB158_165.out _).trans (hHeld.2.1)))))))), ((cell_far (p := ⟨gb165, _, none⟩) NB158_165.out _).trans (((cell_far (p := ⟨gb165, _, none⟩) NB158_165.out _).trans (((cell_far (p := ⟨gb165, _, none⟩) NB158_165.out _).trans (((cell_far (p := ⟨gb165, _, none⟩) NB158_165.out _).trans (hHeld.2.2.1)))))))), ((cell_far (p := ⟨gb165, _, none⟩) NB158_165.out _).trans (((cell_far (p := ⟨gb165, _, none⟩) NB158_165.out _).trans (((cell_far (p := ⟨gb165, _, none⟩) NB158_165.out _).trans (((cell_far (p := ⟨gb165, _, none⟩) NB158_165.out _).trans (hHeld.2.2.2.1)))))))), ((cell_far (p := ⟨gb165, _, none⟩) NB158_165.out _).trans (((cell_far (p := ⟨gb165, _, none⟩) NB158_165.out _).trans (((cell_far (p := ⟨gb165, _, none⟩) NB158_165.out _).trans (((cell_far (p := ⟨gb165, _, none⟩) NB158_165.out _).trans (hHeld.2.2.2.2.1)))))))), ((cell_far (p := ⟨gb165, _, none⟩) NB158_165.out _).trans (((cell_far (p := ⟨gb165, _, none⟩) NB158_165.out _).trans (((cell_far (p := ⟨gb165, _, none⟩) NB158_165.out _).trans (((cell_far (p := ⟨gb165, _, none⟩) NB158_165.out _).trans (hHeld.2.2.2.2.2.1)))))))), ((cell_far (p := ⟨gb165, _, none⟩) NB158_165.out _).trans (((cell_far (p := ⟨gb165, _, none⟩) NB158_165.out _).trans (((cell_far (p := ⟨gb165, _, none⟩) NB158_165.out _).trans (((cell_far (p := ⟨gb165, _, none⟩) NB158_165.out _).trans (hHeld.2.2.2.2.2.2))))))))⟩ (fun hHeld => ?_)
   clear hK K
   refine pure_ (i := 11) (N := some 4) (v := ?_) (a' := ?_) (bA 14 4095) rfl rfl (any_of HT_.out (by kernel_rfl)) (fun _ _ _ h => h) (Or.inl ⟨by rfl, ?_⟩) ?_ ?_
   rotate_left
   ·
    intro w'
    go_simp
    with_reducible rfl
   rotate_left
   ·
    simp only [Act.put, sA, sB, sC, i64_w, i32_w]
    rfl
   refine pure_ (i := 12) (N := some 5) (v := ?_) (a' := ?_) (bA 14 8191) rfl rfl (any_of HT_.out (by kernel_rfl)) (fun _ _ _ h => h) (Or.inl ⟨by rfl, ?_⟩) ?_ ?_
   rotate_left
   ·
    intro w'
    go_simp
    with_reducible rfl
   rotate_left
   ·
    simp only [Act.put, sA, sB, sC, i64_w, i32_w]
    rfl
   refine pure_ (i := 13) (N := some 6) (v := ?_) (a' := ?_) (bA 14 16383) rfl rfl (any_of HT_.out (by kernel_rfl)) (fun _ _ _ h => h) (Or.inl ⟨by rfl, ?_⟩) ?_ ?_
   rotate_left
   ·
    intro w'
    go_simp
    with_reducible rfl
   rotate_left
   ·
    simp only [Act.put, sA, sB, sC, i64_w, i32_w]
    rfl
   refine done_ (done_of HT_.out (by kernel_rfl)) ?_
   go_upto_region 6 with (first | ((with_reducible refine gate_dst (N := 26) rfl ?_); (try (refine gate_guard (by rfl) ?_; dsimp only)); refine Kd.R_make (Kd.int .u8) _ 5 rfl (N := 26) rfl 22 _ _ rfl 6 rfl rfl Try.underlying22 (.int .u8 0) 1 info5 rfl (by decide) (by omega) 0 (ok := fun _ => True) (okp := fun _ => True) rfl (fun _ hk => hk) trivial (by omega) (by omega) (Below.refl _ _) (Nat.le_refl _) ?_; intro v167 w18 ho19 hb hg_ hnew_; clear hg_ hnew_; (first | rw [← Ny166.out] at ho19 | (simp only [Int.reduceToNat] at ho19; rw [← Ny166.out] at ho19)); have n0_ := Aside0.mk (Kd.V_elder' (by (with_reducible repeat (first | apply Kd.V_alloc | apply Kd.V_drewN | apply Kd.V_drew)); exact (Kd.V_mono (Kd.V_far (p := ⟨gb165, 3, none⟩) (Kd.V_far (p := ⟨gb165, 2, none⟩) (Kd.V_far (p := ⟨gb165, 1, none⟩) (Kd.V_far (p := ⟨gb165, 0, none⟩) (Kd.V_mono HO164.out (fun k_ hk => (⟨hk, hk.2⟩ : _ ∧ k_ ≠ gb165))) (fun _ hk => hk.2) (.int .i64 t159)) (fun _ hk => hk.2) (.int .i64 t160)) (fun _ hk => hk.2) (.int .i64 t161)) (fun _ hk => hk.2) (.slice Ao16 t162.length co16)) (fun _ h_ => h_.1))) (Kd.R_base ho19) hb); have n1_ := Aside0.mk (Kd.R_lower ho19 (below_size (by repeat (first | (with_reducible first | exact HB.out | apply below_alloc | apply pw_below_drewN | apply below_drew1 | refine below_set ?_ GE158.out | refine below_set ?_ GE165.out) | exact HB.out)))); have n2_ := Aside0.mk (blk_below (g := gb158) (o := .cells #[.int .i64 a0_0, .int .i64 a0_1, .int .i64 a0_2, .slice A0_3 l0_3.length c0_3, .int .i64 a0_4, .int .i64 a0_5, .int .i64 a0_6] 26 (0, 0)) (by (with_reducible repeat (first | refine blk_drewN ?_ _ | refine blk_drew ?_ | refine blk_alloc ?_ _)); refine blk_far ?_ NB158_165.out _; (with_reducible repeat (first | refine blk_drewN ?_ _ | refine blk_drew ?_ | refine blk_alloc ?_ _)); refine blk_far ?_ NB158_165.out _; (with_reducible repeat (first | refine blk_drewN ?_ _ | refine blk_drew ?_ | refine blk_alloc ?_ _)); refine blk_far ?_ NB158_165.out _; (with_reducible repeat (first | refine blk_drewN ?_ _ | refine blk_drew ?_ | refine blk_alloc ?_ _)); refine blk_far ?_ NB158_165.out _; (with_reducible repeat (first | refine blk_drewN ?_ _ | refine blk_drew ?_ | refine blk_alloc ?_ _)); exact BK158.out) hb); have n3_ := Aside0.mk (blk_below (g := gb165) (o := .cells #[.int .i64 t159, .int .i64 t160, .int .i64 t161, .slice Ao16 t162.length co16] 24 (0, 0)) (by (with_reducible repeat (first | refine blk_drewN ?_ _ | refine blk_drew ?_ | refine blk_alloc ?_ _)); refine blk_put (cs := #[.int .i64 t159, .int .i64 t160, .int .i64 t161, .slice none 0 0]) ?_ 3 _ rfl; (with_reducible repeat (first | refine blk_drewN ?_ _ | refine blk_drew ?_ | refine blk_alloc ?_ _)); refine blk_put (cs := #[.int .i64 t159, .int .i64 t160, .int .i64 0, .slice none 0 0]) ?_ 2 _ rfl; (with_reducible repeat (first | refine blk_drewN ?_ _ | refine blk_drew ?_ | refine blk_alloc ?_ _)); refine blk_put (cs := #[.int .i64 t159, .int .i64 0, .int .i64 0, .slice none 0 0]) ?_ 1 _ rfl; (with_reducible repeat (first | refine blk_drewN ?_ _ | refine blk_drew ?_ | refine blk_alloc ?_ _)); refine blk_put (cs := #[.int .i64 0, .int .i64 0, .int .i64 0, .slice none 0 0]) ?_ 0 _ rfl; (with_reducible repeat (first | refine blk_drewN ?_ _ | refine blk_drew ?_ | refine blk_alloc ?_ _)); exact BK165.out) hb); have n4_ := Aside0.mk (below_step (by repeat (first | (with_reducible first | exact HB.out | apply below_alloc | apply pw_below_drewN | apply below_drew1 | refine below_set ?_ GE158.out | refine below_set ?_ GE165.out) | exact HB.out)) hb); clear HO164; clear BK158; clear BK165; clear HB; have HO164 := n0_; have HO168 := n1_; have BK158 := n2_; have BK165 := n3_; have HB := n4_; clear n0_ n1_ n2_ n3_ n4_; clear hb ho19; obtain ⟨Ao20, co20, eo20⟩ := Kd.R_slice HO168.out; subst eo20) | ((with_reducible refine gate_dst (N := 7) rfl ?_); (try (refine gate_guard (by rfl) ?_; dsimp only)); refine box_event ?hg (N := 7) ?hd (cs := #[.int .i64 0, .int .i64 0, .int .i64 0, .slice none 0 0]) (t := 24) ?hr ?_; (case hd => rfl); (case hg => rfl); (case hr => first | (go_simp; done) | (go_simp; rfl)); intro gb169 hg w21 hbox hb; have n0_ := Aside0.mk (Kd.V_below (Kd.V_elderB (by (with_reducible repeat (first | apply Kd.V_alloc | apply Kd.V_drewN | apply Kd.V_drew)); exact HO164.out) gb169 (Nat.le_of_eq hg.symm)) hb); have n1_ := Aside0.mk (Kd.R_below (by (with_reducible repeat (first | apply Kd.R_alloc | apply Kd.R_drewN | apply Kd.R_drew)); exact HO168.out) hb); have n2_ := Aside0.mk (blk_below (g := gb158) (o := .cells #[.int .i64 a0_0, .int .i64 a0_1, .int .i64 a0_2, .slice A0_3 l0_3.length c0_3, .int .i64 a0_4, .int .i64 a0_5, .int .i64 a0_6] 26 (0, 0)) (by (with_reducible repeat (first | refine blk_drewN ?_ _ | refine blk_drew ?_ | refine blk_alloc ?_ _)); exact BK158.out) hb); have n3_ := Aside0.mk (blk_below (g := gb165) (o := .cells #[.int .i64 t159, .int .i64 t160, .int .i64 t161, .slice Ao16 t162.length co16] 24 (0, 0)) (by (with_reducible repeat (first | refine blk_drewN ?_ _ | refine blk_drew ?_ | refine blk_alloc ?_ _)); exact BK165.out) hb); have n4_ := Aside0.mk (below_step (by repeat (first | (with_reducible first | exact HB.out | apply below_alloc | apply pw_below_drewN | apply below_drew1 | refine below_set ?_ GE158.out | refine below_set ?_ GE165.out) | exact HB.out)) hb); have n5_ := Aside0.mk (hbox); have n6_ := Aside0.mk ((by rw [hg]; exact (below_size (by repeat (first | (with_reducible first | exact HB.out | apply below_alloc | apply pw_below_drewN | apply below_drew1 | refine below_set ?_ GE158.out | refine below_set ?_ GE165.out) | exact HB.out))) : w.heap.size ≤ gb169)); have n7_ := Aside0.mk ((by rw [hg]; exact (below_size (by repeat (first | (with_reducible first | exact HB.out | apply below_alloc | apply pw_below_drewN | apply below_drew1 | refine below_set ?_ GE158.out | refine below_set ?_ GE165.out) | exact HB.out))) : w.heap.size ≤ gb169)); have n8_ := Aside0.mk ((by rw [hg]; exact Nat.ne_of_lt (blk_lt (g := gb158) (o := .cells #[.int .i64 a0_0, .int .i64 a0_1, .int .i64 a0_2, .slice A0_3 l0_3.length c0_3, .int .i64 a0_4, .int .i64 a0_5, .int .i64 a0_6] 26 (0, 0)) (by (with_reducible repeat (first | refine blk_drewN ?_ _ | refine blk_drew ?_ | refine blk_alloc ?_ _)); exact BK158.out)) : gb158 ≠ gb169)); have n9_ := Aside0.mk ((by rw [hg]; exact Nat.ne_of_gt (blk_lt (g := gb158) (o := .cells #[.int .i64 a0_0, .int .i64 a0_1, .int .i64 a0_2, .slice A0_3 l0_3.length c0_3, .int .i64 a0_4, .int .i64 a0_5, .int .i64 a0_6] 26 (0, 0)) (by (with_reducible repeat (first | refine blk_drewN ?_ _ | refine blk_drew ?_ | refine blk_alloc ?_ _)); exact BK158.out)) : gb169 ≠ gb158)); have n10_ := Aside0.mk ((by rw [hg]; exact Nat.ne_of_lt (blk_lt (g := gb165) (o := .cells #[.int .i64 t159, .int .i64 t160, .int .i64 t161, .slice Ao16 t162.length co16] 24 (0, 0)) (by (with_reducible repeat (first | refine blk_drewN ?_ _ | refine blk_drew ?_ | refine blk_alloc ?_ _)); exact BK165.out)) : gb165 ≠ gb169)); have n11_ := Aside0.mk ((by rw [hg]; exact Nat.ne_of_gt (blk_lt (g := gb165) (o := .cells #[.int .i64 t159, .int .i64 t160, .int .i64 t161, .slice Ao16 t162.length co16] 24 (0, 0)) (by (with_reducible repeat (first | refine blk_drewN ?_ _ | refine blk_drew ?_ | refine blk_alloc ?_ _)); exact BK165.out)) : gb169 ≠ gb165)); clear HO164; clear HO168; clear BK158; clear BK165; clear HB; have HO164 := n0_; have HO168 := n1_; have BK158 := n2_; have BK165 := n3_; have HB := n4_; have BK169 := n5_; have GW169 := n6_; have GE169 := n7_; have NB158_169 := n8_; have NB169_158 := n9_; have NB165_169 := n10_; have NB169_165 := n11_; clear n0_ n1_ n2_ n3_ n4_ n5_ n6_ n7_ n8_ n9_ n10_ n11_; clear hb hbox hg; have hnb22 := NB169_158.out; have hnc22 := NB158_169.out; have hnb23 := NB169_165.out; have hnc23 := NB165_169.out; have hcz24_0 : w21.cell? ⟨gb169, 0, none⟩ = some (.int .i64 0) := (blk_cell BK169.out 0).trans rfl; have hcz24_1 : w21.cell? ⟨gb169, 1, none⟩ = some (.int .i64 0) := (blk_cell BK169.out 1).trans rfl; have hcz24_2 : w21.cell? ⟨gb169, 2, none⟩ = some (.int .i64 0) := (blk_cell BK169.out 2).trans rfl; have hcz24_3 : w21.cell? ⟨gb169, 3, none⟩ = some (.slice none 0 0) := (blk_cell BK169.out 3).trans rfl; have hfz24_0 := blk_frozen BK169.out 0; have hfz24_1 := blk_frozen BK169.out 1; have hfz24_2 := blk_frozen BK169.out 2; have hfz24_3 := blk_frozen BK169.out 3) | ((with_reducible refine gate_callee (f := 5) rfl ?_); refine goesL_ (some 29) rfl rfl Try.func5 (by kernel_rfl) rfl #[.agg #[.int .i64 2, .int .i64 1, .int .i64 0, .slice Ao20 y166.length co20], .int .i64 0, .int .i64 0, .int .i64 1] rfl (by (try simp only [List.map_toArray, List.map_cons, List.map_nil]); first | done | rfl | (simp only [List.length_drop, List.length_take]; rfl)) ?_; (with_reducible refine (ground_Joined.calls k 2 1 0 _ _ y166 0 0 1 true _ ?side1 ?side2 A4.out).mono ?_); (case side1 => refine (Kd.R_reads' (e := 5) (base := w.heap.size) (ok := fun k_ => True) (n := y166.length) (c := co20) ?_).2.2; exact (by (with_reducible repeat (first | apply Kd.R_alloc | apply Kd.R_drewN | apply Kd.R_drew)); exact (Kd.R_mono (Kd.R_far (p := ⟨gb169, 3, none⟩) (Kd.R_far (p := ⟨gb169, 2, none⟩) (Kd.R_far (p := ⟨gb169, 1, none⟩) (Kd.R_far (p := ⟨gb169, 0, none⟩) (Kd.R_types HO168.out BK169.out (by decide)) (fun _ hk => hk.2) (.int .i64 2)) (fun _ hk => hk.2) (.int .i64 1)) (fun _ hk => hk.2) (.int .i64 0)) (fun _ hk => hk.2) (.slice Ao20 y166.length co20)) (fun _ h_ => h_.1)))); (case side2 => exact (Kd.R_reads' HO168.out).2.1); rintro e w25 ⟨rfl, hb⟩; refine ⟨_, rfl, ?_⟩; have n0_ := Aside0.mk (Kd.V_below (by (with_reducible repeat (first | apply Kd.V_alloc | apply Kd.V_drewN | apply Kd.V_drew)); exact (Kd.V_mono (Kd.V_far (p := ⟨gb169, 3, none⟩) (Kd.V_far (p := ⟨gb169, 2, none⟩) (Kd.V_far (p := ⟨gb169, 1, none⟩) (Kd.V_far (p := ⟨gb169, 0, none⟩) (Kd.V_mono HO164.out (fun k_ hk => (⟨hk, hk.2⟩ : _ ∧ k_ ≠ gb169))) (fun _ hk => hk.2) (.int .i64 2)) (fun _ hk => hk.2) (.int .i64 1)) (fun _ hk => hk.2) (.int .i64 0)) (fun _ hk => hk.2) (.slice Ao20 y166.length co20)) (fun _ h_ => h_.1))) hb); have n1_ := Aside0.mk (Kd.R_below (by (with_reducible repeat (first | apply Kd.R_alloc | apply Kd.R_drewN | apply Kd.R_drew)); exact (Kd.R_mono (Kd.R_far (p := ⟨gb169, 3, none⟩) (Kd.R_far (p := ⟨gb169, 2, none⟩) (Kd.R_far (p := ⟨gb169, 1, none⟩) (Kd.R_far (p := ⟨gb169, 0, none⟩) (Kd.R_types HO168.out BK169.out (by decide)) (fun _ hk => hk.2) (.int .i64 2)) (fun _ hk => hk.2) (.int .i64 1)) (fun _ hk => hk.2) (.int .i64 0)) (fun _ hk => hk.2) (.slice Ao20 y166.length co20)) (fun _ h_ => h_.1))) hb); have n2_ := Aside0.mk (blk_below (g := gb158) (o := .cells #[.int .i64 a0_0, .int .i64 a0_1, .int .i64 a0_2, .slice A0_3 l0_3.length c0_3, .int .i64 a0_4, .int .i64 a0_5, .int .i64 a0_6] 26 (0, 0)) (by (with_reducible repeat (first | refine blk_drewN ?_ _ | refine blk_drew ?_ | refine blk_alloc ?_ _)); refine blk_far ?_ NB158_169.out _; (with_reducible repeat (first | refine blk_drewN ?_ _ | refine blk_drew ?_ | refine blk_alloc ?_ _)); refine blk_far ?_ NB158_169.out _; (with_reducible repeat (first | refine blk_drewN ?_ _ | refine blk_drew ?_ | refine blk_alloc ?_ _)); refine blk_far ?_ NB158_169.out _; (with_reducible repeat (first | refine blk_drewN ?_ _ | refine blk_drew ?_ | refine blk_alloc ?_ _)); refine blk_far ?_ NB158_169.out _; (with_reducible repeat (first | refine blk_drewN ?_ _ | refine blk_drew ?_ | refine blk_alloc ?_ _)); exact BK158.out) hb); have n3_ := Aside0.mk (blk_below (g := gb165) (o := .cells #[.int .i64 t159, .int .i64 t160, .int .i64 t161, .slice Ao16 t162.length co16] 24 (0, 0)) (by (with_reducible repeat (first | refine blk_drewN ?_ _ | refine blk_drew ?_ | refine blk_alloc ?_ _)); refine blk_far ?_ NB165_169.out _; (with_reducible repeat (first | refine blk_drewN ?_ _ | refine blk_drew ?_ | refine blk_alloc ?_ _)); refine blk_far ?_ NB165_169.out _; (with_reducible repeat (first | refine blk_drewN ?_ _ | refine blk_drew ?_ | refine blk_alloc ?_ _)); refine blk_far ?_ NB165_169.out _; (with_reducible repeat (first | refine blk_drewN ?_ _ | refine blk_drew ?_ | refine blk_alloc ?_ _)); refine blk_far ?_ NB165_169.out _; (with_reducible repeat (first | refine blk_drewN ?_ _ | refine blk_drew ?_ | refine blk_alloc ?_ _)); exact BK165.out) hb); have n4_ := Aside0.mk (blk_below (g := gb169) (o := .cells #[.int .i64 2, .int .i64 1, .int .i64 0, .slice Ao20 y166.length co20] 24 (0, 0)) (by (with_reducible repeat (first | refine blk_drewN ?_ _ | refine blk_drew ?_ | refine blk_alloc ?_ _)); refine blk_put (cs := #[.int .i64 2, .int .i64 1, .int .i64 0, .slice none 0 0]) ?_ 3 _ rfl; (with_reducible repeat (first | refine blk_drewN ?_ _ | refine blk_drew ?_ | refine blk_alloc ?_ _)); refine blk_put (cs := #[.int .i64 2, .int .i64 1, .int .i64 0, .slice none 0 0]) ?_ 2 _ rfl; (with_reducible repeat (first | refine blk_drewN ?_ _ | refine blk_drew ?_ | refine blk_alloc ?_ _)); refine blk_put (cs := #[.int .i64 2, .int .i64 0, .int .i64 0, .slice none 0 0]) ?_ 1 _ rfl; (with_reducible repeat (first | refine blk_drewN ?_ _ | refine blk_drew ?_ | refine blk_alloc ?_ _)); refine blk_put (cs := #[.int .i64 0, .int .i64 0, .int .i64 0, .slice none 0 0]) ?_ 0 _ rfl; (with_reducible repeat (first | refine blk_drewN ?_ _ | refine blk_drew ?_ | refine blk_alloc ?_ _)); exact BK169.out) hb); have n5_ := Aside0.mk (below_step (by repeat (first | (with_reducible first | exact HB.out | apply below_alloc | apply pw_below_drewN | apply below_drew1 | refine below_set ?_ GE158.out | refine below_set ?_ GE165.out | refine below_set ?_ GE169.out) | exact HB.out)) hb); clear HO164; clear HO168; clear BK158; clear BK165; clear BK169; clear HB; have HO164 := n0_; have HO168 := n1_; have BK158 := n2_; have BK165 := n3_; have BK169 := n4_; have HB := n5_; clear n0_ n1_ n2_ n3_ n4_ n5_; (try clear hb); (try clear hb2); (try clear hk); (try clear hi); have hnb26 := NB165_158.out; have hnc26 := NB158_165.out; have hcz27_0 : w25.cell? ⟨gb165, 0, none⟩ = some (.int .i64 t159) := (blk_cell BK165.out 0).trans rfl; have hcz27_1 : w25.cell? ⟨gb165, 1, none⟩ = some (.int .i64 t160) := (blk_cell BK165.out 1).trans rfl; have hcz27_2 : w25.cell? ⟨gb165, 2, none⟩ = some (.int .i64 t161) := (blk_cell BK165.out 2).trans rfl; have hcz27_3 : w25.cell? ⟨gb165, 3, none⟩ = some (.slice Ao16 t162.length co16) := (blk_cell BK165.out 3).trans rfl; have hfz27_0 := blk_frozen BK165.out 0; have hfz27_1 := blk_frozen BK165.out 1; have hfz27_2 := blk_frozen BK165.out 2; have hfz27_3 := blk_frozen BK165.out 3) | ((with_reducible refine gate_callee (f := 6) rfl ?_); refine goesL_ (some 34) rfl rfl Try.func6 (by kernel_rfl) rfl #[.agg #[.int .i64 t159, .int .i64 t160, .int .i64 t161, .slice Ao16 t162.length co16], .int .i64 a0_4] rfl (by (try simp only [List.map_toArray, List.map_cons, List.map_nil]); first | done | rfl | (simp only [List.length_drop, List.length_take]; rfl)) ?_; (with_reducible refine (ground_Grid.calls k t159 t160 t161 _ _ t162 a0_4 t171 t174 _ ?side1 ?side2 A6.out).mono ?_); (case side1 => repeat (first | exact (Kd.V_reads' HO164.out).2.2 | (with_reducible refine Kd.C_alloc ?_ _) | (with_reducible refine Kd.C_drewN ?_ _) | (with_reducible refine Kd.C_drew ?_))); (case side2 => exact (Kd.V_reads' HO164.out).2.1); rintro e w28 ⟨v172, rfl, ho0, hb⟩; refine ⟨_, rfl, ?_⟩; have n0_ := Aside0.mk (Kd.V_elder' (by (with_reducible repeat (first | apply Kd.V_alloc | apply Kd.V_drewN | apply Kd.V_drew)); exact HO164.out) (Kd.R_base ho0) hb); have n1_ := Aside0.mk (Kd.R_below (by (with_reducible repeat (first | apply Kd.R_alloc | apply Kd.R_drewN | apply Kd.R_drew)); exact HO168.out) hb); have n2_ := Aside0.mk (Kd.R_lower ho0 (below_size (by repeat (first | (with_reducible first | exact HB.out | apply below_alloc | apply pw_below_drewN | apply below_drew1 | refine below_set ?_ GE158.out | refine below_set ?_ GE165.out | refine below_set ?_ GE169.out) | exact HB.out)))); have n3_ := Aside0.mk (blk_below (g := gb158) (o := .cells #[.int .i64 a0_0, .int .i64 a0_1, .int .i64 a0_2, .slice A0_3 l0_3.length c0_3, .int .i64 a0_4, .int .i64 a0_5, .int .i64 a0_6] 26 (0, 0)) (by (with_reducible repeat (first | refine blk_drewN ?_ _ | refine blk_drew ?_ | refine blk_alloc ?_ _)); exact BK158.out) hb); have n4_ := Aside0.mk (blk_below (g := gb165) (o := .cells #[.int .i64 t159, .int .i64 t160, .int .i64 t161, .slice Ao16 t162.length co16] 24 (0, 0)) (by (with_reducible repeat (first | refine blk_drewN ?_ _ | refine blk_drew ?_ | refine blk_alloc ?_ _)); exact BK165.out) hb); have n5_ := Aside0.mk (blk_below (g := gb169) (o := .cells #[.int .i64 2, .int .i64 1, .int .i64 0, .slice Ao20 y166.length co20] 24 (0, 0)) (by (with_reducible repeat (first | refine blk_drewN ?_ _ | refine blk_drew ?_ | refine blk_alloc ?_ _)); exact BK169.out) hb); have n6_ := Aside0.mk (below_step (by repeat (first | (with_reducible first | exact HB.out | apply below_alloc | apply pw_below_drewN | apply below_drew1 | refine below_set ?_ GE158.out | refine below_set ?_ GE165.out | refine below_set ?_ GE169.out) | exact HB.out)) hb); clear HO164; clear HO168; clear BK158; clear BK165; clear BK169; clear HB; have HO164 := n0_; have HO168 := n1_; have HO173 := n2_; have BK158 := n3_; have BK165 := n4_; have BK169 := n5_; have HB := n6_; clear n0_ n1_ n2_ n3_ n4_ n5_ n6_; (try clear hb); (try clear hb2); (try clear hk); (try clear hi); (try clear ho0)))
   (try simp only [Act.put, List.setIfInBounds_toArray, List.set_cons_zero, List.set_cons_succ])
   go_cut [43] (fun v43 wc => ∃ (kq : Nat) (x43_6 : Bool), v43 = .bool x43_6 ∧ Aside0 (bivouactop_BivouacRoads.j0 kq a0_4 a0_5 a0_6 t171 x43_6 t159 t160 t161 t162 = some r) ∧ Aside0 (kq ≤ k) ∧ Aside0 (Kd.R Kd.bool 4 wc w.heap.size (fun _ => True) v172 t171) ∧ Aside0 (Kd.V (Kd.int .u8) 5 wc w.heap.size (fun k_ => some k_ ≠ (v172 : Value).ownBlock ∧ some k_ ≠ ((.slice Ao20 y166.length co20) : Value).ownBlock ∧ k_ ≠ gb158 ∧ k_ ≠ gb165 ∧ k_ ≠ gb169) (.slice Ao16 t162.length co16) t162) ∧ Aside0 (Kd.R (Kd.int .u8) 5 wc w.heap.size (fun _ => True) (.slice Ao20 y166.length co20) y166) ∧ Aside0 (wc.heap[gb158]? = some (.cells #[.int .i64 a0_0, .int .i64 a0_1, .int .i64 a0_2, (.slice A0_3 l0_3.length c0_3), .int .i64 a0_4, .int .i64 a0_5, .int .i64 a0_6] 26 (0, 0))) ∧ Aside0 (wc.heap[gb165]? = some (.cells #[.int .i64 t159, .int .i64 t160, .int .i64 t161, (.slice Ao16 t162.length co16)] 24 (0, 0))) ∧ Aside0 (wc.heap[gb169]? = some (.cells #[.int .i64 2, .int .i64 1, .int .i64 0, (.slice Ao20 y166.length co20)] 24 (0, 0))) ∧ Aside0 (Below w.heap.size w wc))
   case first =>
    have H := HC7.out
    clear HC7
    by_cases c29 : t174 = 0
    ·
     rw [if_pos c29] at H
     have c29b0 : (t174 == 0) = true := beq_iff_eq.mpr c29
     have c29b1 : (t174 != 0) = false := bne_eq_false_iff_eq.mpr c29
     clear c29
     (first | rw [c29b0] | (simp only [i64_w, i32_w]; rw [c29b0]) | skip)
     have H' := Aside0.mk H
     clear H
     obtain ⟨Ao30, co30, eo30⟩ := Kd.R_slice HO173.out
     subst eo30
     go_wp2
     go_meet
     case rel => exact ⟨_, (decide ((t171.length : Int) > 400)), (by first | rfl | (simp; done) | (simp [*]; done)), H', ⟨by first | omega | exact Nat.le_refl _⟩, ⟨by (with_reducible repeat (first | apply Kd.R_alloc | apply Kd.R_drewN | apply Kd.R_drew)); exact HO173.out⟩, ⟨by (with_reducible repeat (first | apply Kd.V_alloc | apply Kd.V_drewN | apply Kd.V_drew)); exact Kd.V_mono HO164.out (fun _ hk => ⟨hk.2, ⟨hk.1.1.2, ⟨hk.1.1.1.1, ⟨hk.1.1.1.2, hk.1.2⟩⟩⟩⟩)⟩, ⟨by (with_reducible repeat (first | apply Kd.R_alloc | apply Kd.R_drewN | apply Kd.R_drew)); exact HO168.out⟩, ⟨by (with_reducible repeat (first | refine blk_drewN ?_ _ | refine blk_drew ?_ | refine blk_alloc ?_ _)); exact BK158.out⟩, ⟨by (with_reducible repeat (first | refine blk_drewN ?_ _ | refine blk_drew ?_ | refine blk_alloc ?_ _)); exact BK165.out⟩, ⟨by (with_reducible repeat (first | refine blk_drewN ?_ _ | refine blk_drew ?_ | refine blk_alloc ?_ _)); exact BK169.out⟩, ⟨by repeat (first | (with_reducible first | exact HB.out | apply below_alloc | apply pw_below_drewN | apply below_drew1 | refine below_set ?_ GE158.out | refine below_set ?_ GE165.out | refine below_set ?_ GE169.out) | exact HB.out)⟩⟩
    ·
     rw [if_neg c29] at H
     have c29b0 : (t174 == 0) = false := beq_eq_false_iff_ne.mpr c29
     have c29b1 : (t174 != 0) = true := bne_iff_ne.mpr c29
     (first | rw [c29b0] | (simp only [i64_w, i32_w]; rw [c29b0]) | skip)
     have H' := Aside0.mk H
     clear H
     go_wp2
     go_meet
     case rel => exact ⟨_, (true), (by first | rfl | (simp; done) | (simp [*]; done)), H', ⟨by first | omega | exact Nat.le_refl _⟩, ⟨by (with_reducible repeat (first | apply Kd.R_alloc | apply Kd.R_drewN | apply Kd.R_drew)); exact HO173.out⟩, ⟨by (with_reducible repeat (first | apply Kd.V_alloc | apply Kd.V_drewN | apply Kd.V_drew)); exact Kd.V_mono HO164.out (fun _ hk => ⟨hk.2, ⟨hk.1.1.2, ⟨hk.1.1.1.1, ⟨hk.1.1.1.2, hk.1.2⟩⟩⟩⟩)⟩, ⟨by (with_reducible repeat (first | apply Kd.R_alloc | apply Kd.R_drewN | apply Kd.R_drew)); exact HO168.out⟩, ⟨by (with_reducible repeat (first | refine blk_drewN ?_ _ | refine blk_drew ?_ | refine blk_alloc ?_ _)); exact BK158.out⟩, ⟨by (with_reducible repeat (first | refine blk_drewN ?_ _ | refine blk_drew ?_ | refine blk_alloc ?_ _)); exact BK165.out⟩, ⟨by (with_reducible repeat (first | refine blk_drewN ?_ _ | refine blk_drew ?_ | refine blk_alloc ?_ _)); exact BK169.out⟩, ⟨by repeat (first | (with_reducible first | exact HB.out | apply below_alloc | apply pw_below_drewN | apply below_drew1 | refine below_set ?_ GE158.out | refine below_set ?_ GE165.out | refine below_set ?_ GE169.out) | exact HB.out)⟩⟩
   case rest =>
    clear HC7
    try clear c2
    try clear p2
    try clear c3
    try clear c3b0
    try clear c3b1
    try clear c4
    try clear c5
    try clear c6
    try clear c22
    try clear c23
    try clear c26
    try clear c29
    try clear c29b0
    try clear c29b1
    try clear hcz24_0
    try clear hcz24_1
    try clear hcz24_2
    try clear hcz24_3
    try clear hcz27_0
    try clear hcz27_1
    try clear hcz27_2
    try clear hcz27_3
    try clear hfz24_0
    try clear hfz24_1
    try clear hfz24_2
    try clear hfz24_3
    try clear hfz27_0
    try clear hfz27_1
    try clear hfz27_2
    try clear hfz27_3
    obtain ⟨kq, x43_6, rfl, HA, HJ6, HO_8, HO_166003, HO_170003, BK158, BK165, BK169, HB⟩ := hcut
    cases kq with
    | zero => exact absurd HA.out (by simp [bivouactop_BivouacRoads.j0])
    | succ kj6 =>
     have H := HA.out
     clear HA
     simp only [bivouactop_BivouacRoads.j0] at H
     by_cases c31 : x43_6 = true
     ·
      subst c31
      have H1 : (if (t171.length : Int) > 400 then (some true) else (if (t171.length : Int) = 0 then ((ground_Joined.f kj6 t159 t160 t161 t162 a0_4 a0_5 a0_6).bind fun t175 => (some (!t175))) else (none))) = some r := by rw [if_pos rfl] at H; exact H
      clear H
      have H := H1
      clear H1
      by_cases c32 : (t171.length : Int) > 400
      ·
       rw [if_pos c32] at H
       have c32b0 : decide (400 < (t171.length : Int)) = true := decide_eq_true c32
       have c32b1 : decide (400 < t171.length) = true := decide_eq_true (by omega)
       clear c32
       obtain rfl := Option.some.inj H
       obtain ⟨Ao33, co33, eo33⟩ := Kd.R_slice HO_8.out
       subst eo33
       go_wp2
       go_ret
       exact ⟨by first | rfl | (simp [errW_none, errW_some] <;> rfl) | (simp [*, errW_none, errW_some] <;> rfl) | (rw [Int.tdiv_eq_ediv_of_nonneg (by assumption)]; rfl), by repeat (first | (with_reducible first | exact HB.out | apply below_alloc | apply pw_below_drewN | apply below_drew1 | refine below_set ?_ GE158.out | refine below_set ?_ GE165.out | refine below_set ?_ GE169.out) | exact HB.out)⟩
      ·
       rw [if_neg c32] at H
       have c32b0 : decide (400 < (t171.length : Int)) = false := decide_eq_false c32
       have c32b1 : decide (400 < t171.length) = false := decide_eq_false (by omega)
       clear c32
       by_cases c34 : (t171.length : Int) = 0
       ·
        rw [if_pos c34] at H
        have c34b0 : ((t171.length : Int) == 0) = true := beq_iff_eq.mpr c34
        have c34b1 : ((t171.length : Int) != 0) = false := bne_eq_false_iff_eq.mpr c34
        clear c34
        replace H := Option.bind_eq_some_iff.mp H
        obtain ⟨t175, A350, H⟩ := H
        replace H : (some (!t175)) = some r := H
        have A35 := Aside0.mk A350
        clear A350
        obtain rfl := Option.some.inj H
        obtain ⟨Ao36, co36, eo36⟩ := Kd.R_slice HO_8.out
        subst eo36
        have hnb37 := NB165_158.out
        have hnc37 := NB158_165.out
        have hnb38 := NB165_169.out
        have hnc38 := NB169_165.out
        have hcz39_0 : wc.cell? ⟨gb165, 0, none⟩ = some (.int .i64 t159) := (blk_cell BK165.out 0).trans rfl
        have hcz39_1 : wc.cell? ⟨gb165, 1, none⟩ = some (.int .i64 t160) := (blk_cell BK165.out 1).trans rfl
        have hcz39_2 : wc.cell? ⟨gb165, 2, none⟩ = some (.int .i64 t161) := (blk_cell BK165.out 2).trans rfl
        have hcz39_3 : wc.cell? ⟨gb165, 3, none⟩ = some (.slice Ao16 t162.length co16) := (blk_cell BK165.out 3).trans rfl
        have hfz39_0 := blk_frozen BK165.out 0
        have hfz39_1 := blk_frozen BK165.out 1
        have hfz39_2 := blk_frozen BK165.out 2
        have hfz39_3 := blk_frozen BK165.out 3
        go_wp2_with (first | (go_at_call 5; (with_reducible refine (ground_Joined.calls kj6 t159 t160 t161 _ _ t162 a0_4 a0_5 a0_6 t175 _ ?side1 ?side2 A35.out).mono ?_); (case side1 => repeat (first | exact (Kd.V_reads' HO_166003.out).2.2 | (with_reducible refine Kd.C_alloc ?_ _) | (with_reducible refine Kd.C_drewN ?_ _) | (with_reducible refine Kd.C_drew ?_))); (case side2 => exact (Kd.V_reads' HO_166003.out).2.1); rintro e w40 ⟨rfl, hb⟩; have n0_ := Aside0.mk (Kd.R_below (by (with_reducible repeat (first | apply Kd.R_alloc | apply Kd.R_drewN | apply Kd.R_drew)); exact HO_8.out) hb); have n1_ := Aside0.mk (Kd.V_below (by (with_reducible repeat (first | apply Kd.V_alloc | apply Kd.V_drewN | apply Kd.V_drew)); exact HO_166003.out) hb); have n2_ := Aside0.mk (Kd.R_below (by (with_reducible repeat (first | apply Kd.R_alloc | apply Kd.R_drewN | apply Kd.R_drew)); exact HO_170003.out) hb); have n3_ := Aside0.mk (blk_below (g := gb158) (o := .cells #[.int .i64 a0_0, .int .i64 a0_1, .int .i64 a0_2, .slice A0_3 l0_3.length c0_3, .int .i64 a0_4, .int .i64 a0_5, .int .i64 a0_6] 26 (0, 0)) (by (with_reducible repeat (first | refine blk_drewN ?_ _ | refine blk_drew ?_ | refine blk_alloc ?_ _)); exact BK158.out) hb); have n4_ := Aside0.mk (blk_below (g := gb165) (o := .cells #[.int .i64 t159, .int .i64 t160, .int .i64 t161, .slice Ao16 t162.length co16] 24 (0, 0)) (by (with_reducible repeat (first | refine blk_drewN ?_ _ | refine blk_drew ?_ | refine blk_alloc ?_ _)); exact BK165.out) hb); have n5_ := Aside0.mk (blk_below (g := gb169) (o := .cells #[.int .i64 2, .int .i64 1, .int .i64 0, .slice Ao20 y166.length co20] 24 (0, 0)) (by (with_reducible repeat (first | refine blk_drewN ?_ _ | refine blk_drew ?_ | refine blk_alloc ?_ _)); exact BK169.out) hb); have n6_ := Aside0.mk (below_step (by repeat (first | (with_reducible first | exact HB.out | apply below_alloc | apply pw_below_drewN | apply below_drew1 | refine below_set ?_ GE158.out | refine below_set ?_ GE165.out | refine below_set ?_ GE169.out) | exact HB.out)) hb); clear HO_8; clear HO_166003; clear HO_170003; clear BK158; clear BK165; clear BK169; clear HB; have HO_8 := n0_; have HO_166003 := n1_; have HO_170003 := n2_; have BK158 := n3_; have BK165 := n4_; have BK169 := n5_; have HB := n6_; clear n0_ n1_ n2_ n3_ n4_ n5_ n6_; (try clear hb); (try clear hb2); (try clear hk); (try clear hi)))
        go_ret
        exact ⟨by first | rfl | (simp [errW_none, errW_some] <;> rfl) | (simp [*, errW_none, errW_some] <;> rfl) | (rw [Int.tdiv_eq_ediv_of_nonneg (by assumption)]; rfl), by repeat (first | (with_reducible first | exact HB.out | apply below_alloc | apply pw_below_drewN | apply below_drew1 | refine below_set ?_ GE158.out | refine below_set ?_ GE165.out | refine below_set ?_ GE169.out) | exact HB.out)⟩
       ·
        rw [if_neg c34] at H
        exact absurd H (by simp)
     ·
      replace c31 := Bool.eq_false_iff.mpr c31
      subst c31
      have H1 : ((route_Cost.f kj6 t159 t160 t171 a0_5 a0_6).bind fun bt176 => ((route_Way.f kj6 t159 t160 t171 a0_5 a0_6 1048576).bind fun bt178 => ((ground_Joined.f kj6 t159 t160 t161 t162 a0_4 a0_5 a0_6).bind fun t182 => (if ((bt176.2 == 0) != t182) = true then (bivouactop_BivouacRoads.j1 kj6 a0_4 bt178.1 true t159 t160 t161 t162) else (if bt176.2 = bt178.2 then (if ((bt176.2 == 0) != (decide ((bt178.1.length : Int) > 0))) = true then (bivouactop_BivouacRoads.j1 kj6 a0_4 bt178.1 true t159 t160 t161 t162) else (bivouactop_BivouacRoads.j1 kj6 a0_4 bt178.1 (decide (bt176.1 < 0)) t159 t160 t161 t162)) else (bivouactop_BivouacRoads.j1 kj6 a0_4 bt178.1 true t159 t160 t161 t162)))))) = some r := by rw [if_neg (show ¬ (false = true) by decide)] at H; exact H
      clear H
      have H := H1
      clear H1
      replace H := Option.bind_eq_some_iff.mp H
      obtain ⟨⟨t176, t177⟩, A410, H⟩ := H
      replace H : ((route_Way.f kj6 t159 t160 t171 a0_5 a0_6 1048576).bind fun bt178 => ((ground_Joined.f kj6 t159 t160 t161 t162 a0_4 a0_5 a0_6).bind fun t182 => (if ((t177 == 0) != t182) = true then (bivouactop_BivouacRoads.j1 kj6 a0_4 bt178.1 true t159 t160 t161 t162) else (if t177 = bt178.2 then (if ((t177 == 0) != (decide ((bt178.1.length : Int) > 0))) = true then (bivouactop_BivouacRoads.j1 kj6 a0_4 bt178.1 true t159 t160 t161 t162) else (bivouactop_BivouacRoads.j1 kj6 a0_4 bt178.1 (decide (t176 < 0)) t159 t160 t161 t162)) else (bivouactop_BivouacRoads.j1 kj6 a0_4 bt178.1 true t159 t160 t161 t162))))) = some r := H
      have A41 := Aside0.mk A410
      clear A410
      replace H := Option.bind_eq_some_iff.mp H
      obtain ⟨⟨t178, t181⟩, A420, H⟩ := H
      replace H : ((ground_Joined.f kj6 t159 t160 t161 t162 a0_4 a0_5 a0_6).bind fun t182 => (if ((t177 == 0) != t182) = true then (bivouactop_BivouacRoads.j1 kj6 a0_4 t178 true t159 t160 t161 t162) else (if t177 = t181 then (if ((t177 == 0) != (decide ((t178.length : Int) > 0))) = true then (bivouactop_BivouacRoads.j1 kj6 a0_4 t178 true t159 t160 t161 t162) else (bivouactop_BivouacRoads.j1 kj6 a0_4 t178 (decide (t176 < 0)) t159 t160 t161 t162)) else (bivouactop_BivouacRoads.j1 kj6 a0_4 t178 true t159 t160 t161 t162)))) = some r := H
      have A42 := Aside0.mk A420
      clear A420
      have HC43 := Aside0.mk H
      clear H
      have hnb44 := NB165_158.out
      have hnc44 := NB158_165.out
      have hnb45 := NB165_169.out
      have hnc45 := NB169_165.out
      have hcz46_0 : wc.cell? ⟨gb165, 0, none⟩ = some (.int .i64 t159) := (blk_cell BK165.out 0).trans rfl
      have hcz46_1 : wc.cell? ⟨gb165, 1, none⟩ = some (.int .i64 t160) := (blk_cell BK165.out 1).trans rfl
      have hcz46_2 : wc.cell? ⟨gb165, 2, none⟩ = some (.int .i64 t161) := (blk_cell BK165.out 2).trans rfl
      have hcz46_3 : wc.cell? ⟨gb165, 3, none⟩ = some (.slice Ao16 t162.length co16) := (blk_cell BK165.out 3).trans rfl
      have hfz46_0 := blk_frozen BK165.out 0
      have hfz46_1 := blk_frozen BK165.out 1
      have hfz46_2 := blk_frozen BK165.out 2
      have hfz46_3 := blk_frozen BK165.out 3
      obtain ⟨Ao47, co47, eo47⟩ := Kd.R_slice HO_8.out
      subst eo47
      go_upto_region 10 with (first | ((with_reducible refine gate_callee (f := 7) rfl ?_); refine goesL_ (some 69) rfl rfl Try.func7 (by kernel_rfl) rfl #[.agg #[.int .i64 t159, .int .i64 t160, .slice Ao47 t171.length co47], .int .i64 a0_5, .int .i64 a0_6] rfl (by (try simp only [List.map_toArray, List.map_cons, List.map_nil]); first | done | rfl | (simp only [List.length_drop, List.length_take]; rfl)) ?_; (with_reducible refine (route_Cost.calls kj6 t159 t160 _ _ t171 a0_5 a0_6 t176 t177 _ ?side1 ?side2 A41.out).mono ?_); (case side1 => repeat (first | exact (Kd.R_reads' HO_8.out).2.2 | (with_reducible refine Kd.C_alloc ?_ _) | (with_reducible refine Kd.C_drewN ?_ _) | (with_reducible refine Kd.C_drew ?_))); (case side2 => exact (Kd.R_reads' HO_8.out).2.1); rintro e w48 ⟨rfl, hb⟩; refine ⟨_, rfl, ?_⟩; have n0_ := Aside0.mk (Kd.R_below (by (with_reducible repeat (first | apply Kd.R_alloc | apply Kd.R_drewN | apply Kd.R_drew)); exact HO_8.out) hb); have n1_ := Aside0.mk (Kd.V_below (by (with_reducible repeat (first | apply Kd.V_alloc | apply Kd.V_drewN | apply Kd.V_drew)); exact HO_166003.out) hb); have n2_ := Aside0.mk (Kd.R_below (by (with_reducible repeat (first | apply Kd.R_alloc | apply Kd.R_drewN | apply Kd.R_drew)); exact HO_170003.out) hb); have n3_ := Aside0.mk (blk_below (g := gb158) (o := .cells #[.int .i64 a0_0, .int .i64 a0_1, .int .i64 a0_2, .slice A0_3 l0_3.length c0_3, .int .i64 a0_4, .int .i64 a0_5, .int .i64 a0_6] 26 (0, 0)) (by (with_reducible repeat (first | refine blk_drewN ?_ _ | refine blk_drew ?_ | refine blk_alloc ?_ _)); exact BK158.out) hb); have n4_ := Aside0.mk (blk_below (g := gb165) (o := .cells #[.int .i64 t159, .int .i64 t160, .int .i64 t161, .slice Ao16 t162.length co16] 24 (0, 0)) (by (with_reducible repeat (first | refine blk_drewN ?_ _ | refine blk_drew ?_ | refine blk_alloc ?_ _)); exact BK165.out) hb); have n5_ := Aside0.mk (blk_below (g := gb169) (o := .cells #[.int .i64 2, .int .i64 1, .int .i64 0, .slice Ao20 y166.length co20] 24 (0, 0)) (by (with_reducible repeat (first | refine blk_drewN ?_ _ | refine blk_drew ?_ | refine blk_alloc ?_ _)); exact BK169.out) hb); have n6_ := Aside0.mk (below_step (by repeat (first | (with_reducible first | exact HB.out | apply below_alloc | apply pw_below_drewN | apply below_drew1 | refine below_set ?_ GE158.out | refine below_set ?_ GE165.out | refine below_set ?_ GE169.out) | exact HB.out)) hb); clear HO_8; clear HO_166003; clear HO_170003; clear BK158; clear BK165; clear BK169; clear HB; have HO_8 := n0_; have HO_166003 := n1_; have HO_170003 := n2_; have BK158 := n3_; have BK165 := n4_; have BK169 := n5_; have HB := n6_; clear n0_ n1_ n2_ n3_ n4_ n5_ n6_; (try clear hb); (try clear hb2); (try clear hk); (try clear hi); have hcz49_0 : w48.cell? ⟨gb165, 0, none⟩ = some (.int .i64 t159) := (blk_cell BK165.out 0).trans rfl; have hcz49_1 : w48.cell? ⟨gb165, 1, none⟩ = some (.int .i64 t160) := (blk_cell BK165.out 1).trans rfl; have hcz49_2 : w48.cell? ⟨gb165, 2, none⟩ = some (.int .i64 t161) := (blk_cell BK165.out 2).trans rfl; have hcz49_3 : w48.cell? ⟨gb165, 3, none⟩ = some (.slice Ao16 t162.length co16) := (blk_cell BK165.out 3).trans rfl; have hfz49_0 := blk_frozen BK165.out 0; have hfz49_1 := blk_frozen BK165.out 1; have hfz49_2 := blk_frozen BK165.out 2; have hfz49_3 := blk_frozen BK165.out 3) | ((with_reducible refine gate_callee (f := 8) rfl ?_); refine goesL_ (some 81) rfl rfl Try.func8 (by kernel_rfl) rfl #[.agg #[.int .i64 t159, .int .i64 t160, .slice Ao47 t171.length co47], .int .i64 a0_5, .int .i64 a0_6, .int .i64 1048576] rfl (by (try simp only [List.map_toArray, List.map_cons, List.map_nil]); first | done | rfl | (simp only [List.length_drop, List.length_take]; rfl)) ?_; (with_reducible refine (route_Way.calls kj6 t159 t160 _ _ t171 a0_5 a0_6 1048576 t178 t181 _ ?side1 ?side2 A42.out).mono ?_); (case side1 => repeat (first | exact (Kd.R_reads' HO_8.out).2.2 | (with_reducible refine Kd.C_alloc ?_ _) | (with_reducible refine Kd.C_drewN ?_ _) | (with_reducible refine Kd.C_drew ?_))); (case side2 => exact (Kd.R_reads' HO_8.out).2.1); rintro e w50 ⟨v179, rfl, ho0, hb⟩; refine ⟨_, rfl, ?_⟩; have n0_ := Aside0.mk (Kd.R_below (by (with_reducible repeat (first | apply Kd.R_alloc | apply Kd.R_drewN | apply Kd.R_drew)); exact HO_8.out) hb); have n1_ := Aside0.mk (Kd.V_elder' (by (with_reducible repeat (first | apply Kd.V_alloc | apply Kd.V_drewN | apply Kd.V_drew)); exact HO_166003.out) (Kd.R_base ho0) hb); have n2_ := Aside0.mk (Kd.R_below (by (with_reducible repeat (first | apply Kd.R_alloc | apply Kd.R_drewN | apply Kd.R_drew)); exact HO_170003.out) hb); have n3_ := Aside0.mk (Kd.R_lower ho0 (below_size (by repeat (first | (with_reducible first | exact HB.out | apply below_alloc | apply pw_below_drewN | apply below_drew1 | refine below_set ?_ GE158.out | refine below_set ?_ GE165.out | refine below_set ?_ GE169.out) | exact HB.out)))); have n4_ := Aside0.mk (blk_below (g := gb158) (o := .cells #[.int .i64 a0_0, .int .i64 a0_1, .int .i64 a0_2, .slice A0_3 l0_3.length c0_3, .int .i64 a0_4, .int .i64 a0_5, .int .i64 a0_6] 26 (0, 0)) (by (with_reducible repeat (first | refine blk_drewN ?_ _ | refine blk_drew ?_ | refine blk_alloc ?_ _)); exact BK158.out) hb); have n5_ := Aside0.mk (blk_below (g := gb165) (o := .cells #[.int .i64 t159, .int .i64 t160, .int .i64 t161, .slice Ao16 t162.length co16] 24 (0, 0)) (by (with_reducible repeat (first | refine blk_drewN ?_ _ | refine blk_drew ?_ | refine blk_alloc ?_ _)); exact BK165.out) hb); have n6_ := Aside0.mk (blk_below (g := gb169) (o := .cells #[.int .i64 2, .int .i64 1, .int .i64 0, .slice Ao20 y166.length co20] 24 (0, 0)) (by (with_reducible repeat (first | refine blk_drewN ?_ _ | refine blk_drew ?_ | refine blk_alloc ?_ _)); exact BK169.out) hb); have n7_ := Aside0.mk (below_step (by repeat (first | (with_reducible first | exact HB.out | apply below_alloc | apply pw_below_drewN | apply below_drew1 | refine below_set ?_ GE158.out | refine below_set ?_ GE165.out | refine below_set ?_ GE169.out) | exact HB.out)) hb); clear HO_8; clear HO_166003; clear HO_170003; clear BK158; clear BK165; clear BK169; clear HB; have HO_8 := n0_; have HO_166003 := n1_; have HO_170003 := n2_; have HO180 := n3_; have BK158 := n4_; have BK165 := n5_; have BK169 := n6_; have HB := n7_; clear n0_ n1_ n2_ n3_ n4_ n5_ n6_ n7_; (try clear hb); (try clear hb2); (try clear hk); (try clear hi); (try clear ho0)))
      (try simp only [Act.put, List.setIfInBounds_toArray, List.set_cons_zero, List.set_cons_succ])
      go_cut [108] (fun v108 wc => ∃ (kq : Nat) (x108_42 : Bool), v108 = .bool x108_42 ∧ Aside0 (bivouactop_BivouacRoads.j1 kq a0_4 t178 x108_42 t159 t160 t161 t162 = some r) ∧ Aside0 (kq ≤ kj6) ∧ Aside0 (Kd.R (Kd.int .i64) 3 wc w.heap.size (fun _ => True) v179 t178) ∧ Aside0 (Kd.V (Kd.int .u8) 5 wc w.heap.size (fun k_ => some k_ ≠ (v179 : Value).ownBlock ∧ some k_ ≠ ((.slice Ao20 y166.length co20) : Value).ownBlock ∧ k_ ≠ gb158 ∧ k_ ≠ gb165 ∧ k_ ≠ gb169) (.slice Ao16 t162.length co16) t162) ∧ Aside0 (Kd.R (Kd.int .u8) 5 wc w.heap.size (fun _ => True) (.slice Ao20 y166.length co20) y166) ∧ Aside0 (wc.heap[gb158]? = some (.cells #[.int .i64 a0_0, .int .i64 a0_1, .int .i64 a0_2, (.slice A0_3 l0_3.length c0_3), .int .i64 a0_4, .int .i64 a0_5, .int .i64 a0_6] 26 (0, 0))) ∧ Aside0 (wc.heap[gb165]? = some (.cells #[.int .i64 t159, .int .i64 t160, .int .i64 t161, (.slice Ao16 t162.length co16)] 24 (0, 0))) ∧ Aside0 (wc.heap[gb169]? = some (.cells #[.int .i64 2, .int .i64 1, .int .i64 0, (.slice Ao20 y166.length co20)] 24 (0, 0))) ∧ Aside0 (Below w.heap.size w wc))
      case first =>
       have H := HC43.out
       clear HC43
       replace H := Option.bind_eq_some_iff.mp H
       obtain ⟨t182, A510, H⟩ := H
       replace H : (if ((t177 == 0) != t182) = true then (bivouactop_BivouacRoads.j1 kj6 a0_4 t178 true t159 t160 t161 t162) else (if t177 = t181 then (if ((t177 == 0) != (decide ((t178.length : Int) > 0))) = true then (bivouactop_BivouacRoads.j1 kj6 a0_4 t178 true t159 t160 t161 t162) else (bivouactop_BivouacRoads.j1 kj6 a0_4 t178 (decide (t176 < 0)) t159 t160 t161 t162)) else (bivouactop_BivouacRoads.j1 kj6 a0_4 t178 true t159 t160 t161 t162))) = some r := H
       have A51 := Aside0.mk A510
       clear A510
       by_cases c52 : ((t177 == 0) != t182) = true
       ·
        rw [if_pos c52] at H
        have c52b0 : ((t177 == 0) != t182) = true := c52
        (try (have c52b1 : decide ((t177 == 0) = t182) = false := by simpa using c52))
        (try (have c52b2 : ((t177 == 0) == t182) = false := by simpa using c52))
        (try (have c52b3 : ¬ ((t177 == 0) = t182) := by simpa using c52))
        clear c52
        (first | rw [c52b0] | (simp only [i64_w, i32_w]; rw [c52b0]) | skip)
        have H' := Aside0.mk H
        clear H
        have hnb53 := NB165_158.out
        have hnc53 := NB158_165.out
        have hnb54 := NB165_169.out
        have hnc54 := NB169_165.out
        have hcz55_0 : w50.cell? ⟨gb165, 0, none⟩ = some (.int .i64 t159) := (blk_cell BK165.out 0).trans rfl
        have hcz55_1 : w50.cell? ⟨gb165, 1, none⟩ = some (.int .i64 t160) := (blk_cell BK165.out 1).trans rfl
        have hcz55_2 : w50.cell? ⟨gb165, 2, none⟩ = some (.int .i64 t161) := (blk_cell BK165.out 2).trans rfl
        have hcz55_3 : w50.cell? ⟨gb165, 3, none⟩ = some (.slice Ao16 t162.length co16) := (blk_cell BK165.out 3).trans rfl
        have hfz55_0 := blk_frozen BK165.out 0
        have hfz55_1 := blk_frozen BK165.out 1
        have hfz55_2 := blk_frozen BK165.out 2
        have hfz55_3 := blk_frozen BK165.out 3
        go_wp2_with (first | ((with_reducible refine gate_callee (f := 5) rfl ?_); refine goesL_ (some 90) rfl rfl Try.func5 (by kernel_rfl) rfl #[.agg #[.int .i64 t159, .int .i64 t160, .int .i64 t161, .slice Ao16 t162.length co16], .int .i64 a0_4, .int .i64 a0_5, .int .i64 a0_6] rfl (by (try simp only [List.map_toArray, List.map_cons, List.map_nil]); first | done | rfl | (simp only [List.length_drop, List.length_take]; rfl)) ?_; (with_reducible refine (ground_Joined.calls kj6 t159 t160 t161 _ _ t162 a0_4 a0_5 a0_6 t182 _ ?side1 ?side2 A51.out).mono ?_); (case side1 => repeat (first | exact (Kd.V_reads' HO_166003.out).2.2 | (with_reducible refine Kd.C_alloc ?_ _) | (with_reducible refine Kd.C_drewN ?_ _) | (with_reducible refine Kd.C_drew ?_))); (case side2 => exact (Kd.V_reads' HO_166003.out).2.1); rintro e w56 ⟨rfl, hb⟩; refine ⟨_, rfl, ?_⟩; have n0_ := Aside0.mk (Kd.R_below (by (with_reducible repeat (first | apply Kd.R_alloc | apply Kd.R_drewN | apply Kd.R_drew)); exact HO_8.out) hb); have n1_ := Aside0.mk (Kd.V_below (by (with_reducible repeat (first | apply Kd.V_alloc | apply Kd.V_drewN | apply Kd.V_drew)); exact HO_166003.out) hb); have n2_ := Aside0.mk (Kd.R_below (by (with_reducible repeat (first | apply Kd.R_alloc | apply Kd.R_drewN | apply Kd.R_drew)); exact HO_170003.out) hb); have n3_ := Aside0.mk (Kd.R_below (by (with_reducible repeat (first | apply Kd.R_alloc | apply Kd.R_drewN | apply Kd.R_drew)); exact HO180.out) hb); have n4_ := Aside0.mk (blk_below (g := gb158) (o := .cells #[.int .i64 a0_0, .int .i64 a0_1, .int .i64 a0_2, .slice A0_3 l0_3.length c0_3, .int .i64 a0_4, .int .i64 a0_5, .int .i64 a0_6] 26 (0, 0)) (by (with_reducible repeat (first | refine blk_drewN ?_ _ | refine blk_drew ?_ | refine blk_alloc ?_ _)); exact BK158.out) hb); have n5_ := Aside0.mk (blk_below (g := gb165) (o := .cells #[.int .i64 t159, .int .i64 t160, .int .i64 t161, .slice Ao16 t162.length co16] 24 (0, 0)) (by (with_reducible repeat (first | refine blk_drewN ?_ _ | refine blk_drew ?_ | refine blk_alloc ?_ _)); exact BK165.out) hb); have n6_ := Aside0.mk (blk_below (g := gb169) (o := .cells #[.int .i64 2, .int .i64 1, .int .i64 0, .slice Ao20 y166.length co20] 24 (0, 0)) (by (with_reducible repeat (first | refine blk_drewN ?_ _ | refine blk_drew ?_ | refine blk_alloc ?_ _)); exact BK169.out) hb); have n7_ := Aside0.mk (below_step (by repeat (first | (with_reducible first | exact HB.out | apply below_alloc | apply pw_below_drewN | apply below_drew1 | refine below_set ?_ GE158.out | refine below_set ?_ GE165.out | refine below_set ?_ GE169.out) | exact HB.out)) hb); clear HO_8; clear HO_166003; clear HO_170003; clear HO180; clear BK158; clear BK165; clear BK169; clear HB; have HO_8 := n0_; have HO_166003 := n1_; have HO_170003 := n2_; have HO180 := n3_; have BK158 := n4_; have BK165 := n5_; have BK169 := n6_; have HB := n7_; clear n0_ n1_ n2_ n3_ n4_ n5_ n6_ n7_; (try clear hb); (try clear hb2); (try clear hk); (try clear hi)))
        go_meet
        case rel => exact ⟨_, (true), (by first | rfl | (simp; done) | (simp [*]; done)), H', ⟨by have := HJ6.out; first | omega | exact Nat.le_refl _⟩, ⟨by (with_reducible repeat (first | apply Kd.R_alloc | apply Kd.R_drewN | apply Kd.R_drew)); exact HO180.out⟩, ⟨by (with_reducible repeat (first | apply Kd.V_alloc | apply Kd.V_drewN | apply Kd.V_drew)); exact Kd.V_mono HO_166003.out (fun _ hk => ⟨hk.2, ⟨hk.1.2.1, ⟨hk.1.2.2.1, ⟨hk.1.2.2.2.1, hk.1.2.2.2.2⟩⟩⟩⟩)⟩, ⟨by (with_reducible repeat (first | apply Kd.R_alloc | apply Kd.R_drewN | apply Kd.R_drew)); exact HO_170003.out⟩, ⟨by (with_reducible repeat (first | refine blk_drewN ?_ _ | refine blk_drew ?_ | refine blk_alloc ?_ _)); exact BK158.out⟩, ⟨by (with_reducible repeat (first | refine blk_drewN ?_ _ | refine blk_drew ?_ | refine blk_alloc ?_ _)); exact BK165.out⟩, ⟨by (with_reducible repeat (first | refine blk_drewN ?_ _ | refine blk_drew ?_ | refine blk_alloc ?_ _)); exact BK169.out⟩, ⟨by repeat (first | (with_reducible first | exact HB.out | apply below_alloc | apply pw_below_drewN | apply below_drew1 | refine below_set ?_ GE158.out | refine below_set ?_ GE165.out | refine below_set ?_ GE169.out) | exact HB.out)⟩⟩
       ·
        rw [if_neg c52] at H
        have c52b0 : ((t177 == 0) != t182) = false := by simpa using c52
        (try (have c52b1 : decide ((t177 == 0) = t182) = true := by simpa using c52))
        (try (have c52b2 : ((t177 == 0) == t182) = true := by simpa using c52))
        clear c52
        (first | rw [c52b0] | (simp only [i64_w, i32_w]; rw [c52b0]) | skip)
        by_cases c57 : t177 = t181
        ·
         rw [if_pos c57] at H
         have c57b0 : (t177 == t181) = true := beq_iff_eq.mpr c57
         have c57b1 : (t177 != t181) = false := bne_eq_false_iff_eq.mpr c57
         clear c57
         by_cases c58 : ((t177 == 0) != (decide ((t178.length : Int) > 0))) = true
         ·
          rw [if_pos c58] at H
          have c58b0 : ((t177 == 0) != (decide ((t178.length : Int) > 0))) = true := c58
          have e_c58 : decide ((t178.length : Int) > 0) = decide (0 < t178.length) := by rw [decide_eq_decide]; omega
          have q_c58 : ((t177 == 0) != decide (0 < t178.length)) = true := by rw [← e_c58]; exact c58b0
          have c58m0 : (((t177 == 0) = decide (0 < t178.length)) = False) := eq_false (fun h => by rw [h] at q_c58; simp at q_c58)
          have c58m1 : decide ((t177 == 0) = decide (0 < t178.length)) = false := decide_eq_false (of_eq_false c58m0)
          have c58m2 : ((t177 == 0) == decide (0 < t178.length)) = false := beq_eq_false_iff_ne.mpr (of_eq_false c58m0)
          clear e_c58
          (try (have c58b1 : decide ((t177 == 0) = (decide ((t178.length : Int) > 0))) = false := by simpa using c58))
          (try (have c58b2 : ((t177 == 0) == (decide ((t178.length : Int) > 0))) = false := by simpa using c58))
          (try (have c58b3 : ¬ ((t177 == 0) = (decide ((t178.length : Int) > 0))) := by simpa using c58))
          clear c58
          have H' := Aside0.mk H
          clear H
          have hnb59 := NB165_158.out
          have hnc59 := NB158_165.out
          have hnb60 := NB165_169.out
          have hnc60 := NB169_165.out
          have hcz61_0 : w50.cell? ⟨gb165, 0, none⟩ = some (.int .i64 t159) := (blk_cell BK165.out 0).trans rfl
          have hcz61_1 : w50.cell? ⟨gb165, 1, none⟩ = some (.int .i64 t160) := (blk_cell BK165.out 1).trans rfl
          have hcz61_2 : w50.cell? ⟨gb165, 2, none⟩ = some (.int .i64 t161) := (blk_cell BK165.out 2).trans rfl
          have hcz61_3 : w50.cell? ⟨gb165, 3, none⟩ = some (.slice Ao16 t162.length co16) := (blk_cell BK165.out 3).trans rfl
          have hfz61_0 := blk_frozen BK165.out 0
          have hfz61_1 := blk_frozen BK165.out 1
          have hfz61_2 := blk_frozen BK165.out 2
          have hfz61_3 := blk_frozen BK165.out 3
          go_wp2_with (first | ((with_reducible refine gate_callee (f := 5) rfl ?_); refine goesL_ (some 90) rfl rfl Try.func5 (by kernel_rfl) rfl #[.agg #[.int .i64 t159, .int .i64 t160, .int .i64 t161, .slice Ao16 t162.length co16], .int .i64 a0_4, .int .i64 a0_5, .int .i64 a0_6] rfl (by (try simp only [List.map_toArray, List.map_cons, List.map_nil]); first | done | rfl | (simp only [List.length_drop, List.length_take]; rfl)) ?_; (with_reducible refine (ground_Joined.calls kj6 t159 t160 t161 _ _ t162 a0_4 a0_5 a0_6 t182 _ ?side1 ?side2 A51.out).mono ?_); (case side1 => repeat (first | exact (Kd.V_reads' HO_166003.out).2.2 | (with_reducible refine Kd.C_alloc ?_ _) | (with_reducible refine Kd.C_drewN ?_ _) | (with_reducible refine Kd.C_drew ?_))); (case side2 => exact (Kd.V_reads' HO_166003.out).2.1); rintro e w62 ⟨rfl, hb⟩; refine ⟨_, rfl, ?_⟩; have n0_ := Aside0.mk (Kd.R_below (by (with_reducible repeat (first | apply Kd.R_alloc | apply Kd.R_drewN | apply Kd.R_drew)); exact HO_8.out) hb); have n1_ := Aside0.mk (Kd.V_below (by (with_reducible repeat (first | apply Kd.V_alloc | apply Kd.V_drewN | apply Kd.V_drew)); exact HO_166003.out) hb); have n2_ := Aside0.mk (Kd.R_below (by (with_reducible repeat (first | apply Kd.R_alloc | apply Kd.R_drewN | apply Kd.R_drew)); exact HO_170003.out) hb); have n3_ := Aside0.mk (Kd.R_below (by (with_reducible repeat (first | apply Kd.R_alloc | apply Kd.R_drewN | apply Kd.R_drew)); exact HO180.out) hb); have n4_ := Aside0.mk (blk_below (g := gb158) (o := .cells #[.int .i64 a0_0, .int .i64 a0_1, .int .i64 a0_2, .slice A0_3 l0_3.length c0_3, .int .i64 a0_4, .int .i64 a0_5, .int .i64 a0_6] 26 (0, 0)) (by (with_reducible repeat (first | refine blk_drewN ?_ _ | refine blk_drew ?_ | refine blk_alloc ?_ _)); exact BK158.out) hb); have n5_ := Aside0.mk (blk_below (g := gb165) (o := .cells #[.int .i64 t159, .int .i64 t160, .int .i64 t161, .slice Ao16 t162.length co16] 24 (0, 0)) (by (with_reducible repeat (first | refine blk_drewN ?_ _ | refine blk_drew ?_ | refine blk_alloc ?_ _)); exact BK165.out) hb); have n6_ := Aside0.mk (blk_below (g := gb169) (o := .cells #[.int .i64 2, .int .i64 1, .int .i64 0, .slice Ao20 y166.length co20] 24 (0, 0)) (by (with_reducible repeat (first | refine blk_drewN ?_ _ | refine blk_drew ?_ | refine blk_alloc ?_ _)); exact BK169.out) hb); have n7_ := Aside0.mk (below_step (by repeat (first | (with_reducible first | exact HB.out | apply below_alloc | apply pw_below_drewN | apply below_drew1 | refine below_set ?_ GE158.out | refine below_set ?_ GE165.out | refine below_set ?_ GE169.out) | exact HB.out)) hb); clear HO_8; clear HO_166003; clear HO_170003; clear HO180; clear BK158; clear BK165; clear BK169; clear HB; have HO_8 := n0_; have HO_166003 := n1_; have HO_170003 := n2_; have HO180 := n3_; have BK158 := n4_; have BK165 := n5_; have BK169 := n6_; have HB := n7_; clear n0_ n1_ n2_ n3_ n4_ n5_ n6_ n7_; (try clear hb); (try clear hb2); (try clear hk); (try clear hi); obtain ⟨Ao63, co63, eo63⟩ := Kd.R_slice HO180.out; subst eo63))
          go_meet
          case rel => exact ⟨_, (true), (by first | rfl | (simp; done) | (simp [*]; done)), H', ⟨by have := HJ6.out; first | omega | exact Nat.le_refl _⟩, ⟨by (with_reducible repeat (first | apply Kd.R_alloc | apply Kd.R_drewN | apply Kd.R_drew)); exact HO180.out⟩, ⟨by (with_reducible repeat (first | apply Kd.V_alloc | apply Kd.V_drewN | apply Kd.V_drew)); exact Kd.V_mono HO_166003.out (fun _ hk => ⟨hk.2, ⟨hk.1.2.1, ⟨hk.1.2.2.1, ⟨hk.1.2.2.2.1, hk.1.2.2.2.2⟩⟩⟩⟩)⟩, ⟨by (with_reducible repeat (first | apply Kd.R_alloc | apply Kd.R_drewN | apply Kd.R_drew)); exact HO_170003.out⟩, ⟨by (with_reducible repeat (first | refine blk_drewN ?_ _ | refine blk_drew ?_ | refine blk_alloc ?_ _)); exact BK158.out⟩, ⟨by (with_reducible repeat (first | refine blk_drewN ?_ _ | refine blk_drew ?_ | refine blk_alloc ?_ _)); exact BK165.out⟩, ⟨by (with_reducible repeat (first | refine blk_drewN ?_ _ | refine blk_drew ?_ | refine blk_alloc ?_ _)); exact BK169.out⟩, ⟨by repeat (first | (with_reducible first | exact HB.out | apply below_alloc | apply pw_below_drewN | apply below_drew1 | refine below_set ?_ GE158.out | refine below_set ?_ GE165.out | refine below_set ?_ GE169.out) | exact HB.out)⟩⟩
         ·
          rw [if_neg c58] at H
          have c58b0 : ((t177 == 0) != (decide ((t178.length : Int) > 0))) = false := by simpa using c58
          have e_c58 : decide ((t178.length : Int) > 0) = decide (0 < t178.length) := by rw [decide_eq_decide]; omega
          have q_c58 : ((t177 == 0) != decide (0 < t178.length)) = false := by rw [← e_c58]; exact c58b0
          have c58m0 : (((t177 == 0) = decide (0 < t178.length)) = True) := eq_true (by revert q_c58; generalize (t177 == 0) = u_; generalize decide (0 < t178.length) = v_; cases u_ <;> cases v_ <;> simp)
          have c58m1 : decide ((t177 == 0) = decide (0 < t178.length)) = true := decide_eq_true (of_eq_true c58m0)
          have c58m2 : ((t177 == 0) == decide (0 < t178.length)) = true := beq_iff_eq.mpr (of_eq_true c58m0)
          clear e_c58
          (try (have c58b1 : decide ((t177 == 0) = (decide ((t178.length : Int) > 0))) = true := by simpa using c58))
          (try (have c58b2 : ((t177 == 0) == (decide ((t178.length : Int) > 0))) = true := by simpa using c58))
          clear c58
          have H' := Aside0.mk H
          clear H
          have hnb64 := NB165_158.out
          have hnc64 := NB158_165.out
          have hnb65 := NB165_169.out
          have hnc65 := NB169_165.out
          have hcz66_0 : w50.cell? ⟨gb165, 0, none⟩ = some (.int .i64 t159) := (blk_cell BK165.out 0).trans rfl
          have hcz66_1 : w50.cell? ⟨gb165, 1, none⟩ = some (.int .i64 t160) := (blk_cell BK165.out 1).trans rfl
          have hcz66_2 : w50.cell? ⟨gb165, 2, none⟩ = some (.int .i64 t161) := (blk_cell BK165.out 2).trans rfl
          have hcz66_3 : w50.cell? ⟨gb165, 3, none⟩ = some (.slice Ao16 t162.length co16) := (blk_cell BK165.out 3).trans rfl
          have hfz66_0 := blk_frozen BK165.out 0
          have hfz66_1 := blk_frozen BK165.out 1
          have hfz66_2 := blk_frozen BK165.out 2
          have hfz66_3 := blk_frozen BK165.out 3
          go_wp2_with (first | ((with_reducible refine gate_callee (f := 5) rfl ?_); refine goesL_ (some 90) rfl rfl Try.func5 (by kernel_rfl) rfl #[.agg #[.int .i64 t159, .int .i64 t160, .int .i64 t161, .slice Ao16 t162.length co16], .int .i64 a0_4, .int .i64 a0_5, .int .i64 a0_6] rfl (by (try simp only [List.map_toArray, List.map_cons, List.map_nil]); first | done | rfl | (simp only [List.length_drop, List.length_take]; rfl)) ?_; (with_reducible refine (ground_Joined.calls kj6 t159 t160 t161 _ _ t162 a0_4 a0_5 a0_6 t182 _ ?side1 ?side2 A51.out).mono ?_); (case side1 => repeat (first | exact (Kd.V_reads' HO_166003.out).2.2 | (with_reducible refine Kd.C_alloc ?_ _) | (with_reducible refine Kd.C_drewN ?_ _) | (with_reducible refine Kd.C_drew ?_))); (case side2 => exact (Kd.V_reads' HO_166003.out).2.1); rintro e w67 ⟨rfl, hb⟩; refine ⟨_, rfl, ?_⟩; have n0_ := Aside0.mk (Kd.R_below (by (with_reducible repeat (first | apply Kd.R_alloc | apply Kd.R_drewN | apply Kd.R_drew)); exact HO_8.out) hb); have n1_ := Aside0.mk (Kd.V_below (by (with_reducible repeat (first | apply Kd.V_alloc | apply Kd.V_drewN | apply Kd.V_drew)); exact HO_166003.out) hb); have n2_ := Aside0.mk (Kd.R_below (by (with_reducible repeat (first | apply Kd.R_alloc | apply Kd.R_drewN | apply Kd.R_drew)); exact HO_170003.out) hb); have n3_ := Aside0.mk (Kd.R_below (by (with_reducible repeat (first | apply Kd.R_alloc | apply Kd.R_drewN | apply Kd.R_drew)); exact HO180.out) hb); have n4_ := Aside0.mk (blk_below (g := gb158) (o := .cells #[.int .i64 a0_0, .int .i64 a0_1, .int .i64 a0_2, .slice A0_3 l0_3.length c0_3, .int .i64 a0_4, .int .i64 a0_5, .int .i64 a0_6] 26 (0, 0)) (by (with_reducible repeat (first | refine blk_drewN ?_ _ | refine blk_drew ?_ | refine blk_alloc ?_ _)); exact BK158.out) hb); have n5_ := Aside0.mk (blk_below (g := gb165) (o := .cells #[.int .i64 t159, .int .i64 t160, .int .i64 t161, .slice Ao16 t162.length co16] 24 (0, 0)) (by (with_reducible repeat (first | refine blk_drewN ?_ _ | refine blk_drew ?_ | refine blk_alloc ?_ _)); exact BK165.out) hb); have n6_ := Aside0.mk (blk_below (g := gb169) (o := .cells #[.int .i64 2, .int .i64 1, .int .i64 0, .slice Ao20 y166.length co20] 24 (0, 0)) (by (with_reducible repeat (first | refine blk_drewN ?_ _ | refine blk_drew ?_ | refine blk_alloc ?_ _)); exact BK169.out) hb); have n7_ := Aside0.mk (below_step (by repeat (first | (with_reducible first | exact HB.out | apply below_alloc | apply pw_below_drewN | apply below_drew1 | refine below_set ?_ GE158.out | refine below_set ?_ GE165.out | refine below_set ?_ GE169.out) | exact HB.out)) hb); clear HO_8; clear HO_166003; clear HO_170003; clear HO180; clear BK158; clear BK165; clear BK169; clear HB; have HO_8 := n0_; have HO_166003 := n1_; have HO_170003 := n2_; have HO180 := n3_; have BK158 := n4_; have BK165 := n5_; have BK169 := n6_; have HB := n7_; clear n0_ n1_ n2_ n3_ n4_ n5_ n6_ n7_; (try clear hb); (try clear hb2); (try clear hk); (try clear hi); obtain ⟨Ao68, co68, eo68⟩ := Kd.R_slice HO180.out; subst eo68))
          go_meet
          case rel => exact ⟨_, (decide (t176 < 0)), (by first | rfl | (simp; done) | (simp [*]; done)), H', ⟨by have := HJ6.out; first | omega | exact Nat.le_refl _⟩, ⟨by (with_reducible repeat (first | apply Kd.R_alloc | apply Kd.R_drewN | apply Kd.R_drew)); exact HO180.out⟩, ⟨by (with_reducible repeat (first | apply Kd.V_alloc | apply Kd.V_drewN | apply Kd.V_drew)); exact Kd.V_mono HO_166003.out (fun _ hk => ⟨hk.2, ⟨hk.1.2.1, ⟨hk.1.2.2.1, ⟨hk.1.2.2.2.1, hk.1.2.2.2.2⟩⟩⟩⟩)⟩, ⟨by (with_reducible repeat (first | apply Kd.R_alloc | apply Kd.R_drewN | apply Kd.R_drew)); exact HO_170003.out⟩, ⟨by (with_reducible repeat (first | refine blk_drewN ?_ _ | refine blk_drew ?_ | refine blk_alloc ?_ _)); exact BK158.out⟩, ⟨by (with_reducible repeat (first | refine blk_drewN ?_ _ | refine blk_drew ?_ | refine blk_alloc ?_ _)); exact BK165.out⟩, ⟨by (with_reducible repeat (first | refine blk_drewN ?_ _ | refine blk_drew ?_ | refine blk_alloc ?_ _)); exact BK169.out⟩, ⟨by repeat (first | (with_reducible first | exact HB.out | apply below_alloc | apply pw_below_drewN | apply below_drew1 | refine below_set ?_ GE158.out | refine below_set ?_ GE165.out | refine below_set ?_ GE169.out) | exact HB.out)⟩⟩
        ·
         rw [if_neg c57] at H
         have c57b0 : (t177 == t181) = false := beq_eq_false_iff_ne.mpr c57
         have c57b1 : (t177 != t181) = true := bne_iff_ne.mpr c57
         have H' := Aside0.mk H
         clear H
         have hnb69 := NB165_158.out
         have hnc69 := NB158_165.out
         have hnb70 := NB165_169.out
         have hnc70 := NB169_165.out
         have hcz71_0 : w50.cell? ⟨gb165, 0, none⟩ = some (.int .i64 t159) := (blk_cell BK165.out 0).trans rfl
         have hcz71_1 : w50.cell? ⟨gb165, 1, none⟩ = some (.int .i64 t160) := (blk_cell BK165.out 1).trans rfl
         have hcz71_2 : w50.cell? ⟨gb165, 2, none⟩ = some (.int .i64 t161) := (blk_cell BK165.out 2).trans rfl
         have hcz71_3 : w50.cell? ⟨gb165, 3, none⟩ = some (.slice Ao16 t162.length co16) := (blk_cell BK165.out 3).trans rfl
         have hfz71_0 := blk_frozen BK165.out 0
         have hfz71_1 := blk_frozen BK165.out 1
         have hfz71_2 := blk_frozen BK165.out 2
         have hfz71_3 := blk_frozen BK165.out 3
         go_wp2_with (first | ((with_reducible refine gate_callee (f := 5) rfl ?_); refine goesL_ (some 90) rfl rfl Try.func5 (by kernel_rfl) rfl #[.agg #[.int .i64 t159, .int .i64 t160, .int .i64 t161, .slice Ao16 t162.length co16], .int .i64 a0_4, .int .i64 a0_5, .int .i64 a0_6] rfl (by (try simp only [List.map_toArray, List.map_cons, List.map_nil]); first | done | rfl | (simp only [List.length_drop, List.length_take]; rfl)) ?_; (with_reducible refine (ground_Joined.calls kj6 t159 t160 t161 _ _ t162 a0_4 a0_5 a0_6 t182 _ ?side1 ?side2 A51.out).mono ?_); (case side1 => repeat (first | exact (Kd.V_reads' HO_166003.out).2.2 | (with_reducible refine Kd.C_alloc ?_ _) | (with_reducible refine Kd.C_drewN ?_ _) | (with_reducible refine Kd.C_drew ?_))); (case side2 => exact (Kd.V_reads' HO_166003.out).2.1); rintro e w72 ⟨rfl, hb⟩; refine ⟨_, rfl, ?_⟩; have n0_ := Aside0.mk (Kd.R_below (by (with_reducible repeat (first | apply Kd.R_alloc | apply Kd.R_drewN | apply Kd.R_drew)); exact HO_8.out) hb); have n1_ := Aside0.mk (Kd.V_below (by (with_reducible repeat (first | apply Kd.V_alloc | apply Kd.V_drewN | apply Kd.V_drew)); exact HO_166003.out) hb); have n2_ := Aside0.mk (Kd.R_below (by (with_reducible repeat (first | apply Kd.R_alloc | apply Kd.R_drewN | apply Kd.R_drew)); exact HO_170003.out) hb); have n3_ := Aside0.mk (Kd.R_below (by (with_reducible repeat (first | apply Kd.R_alloc | apply Kd.R_drewN | apply Kd.R_drew)); exact HO180.out) hb); have n4_ := Aside0.mk (blk_below (g := gb158) (o := .cells #[.int .i64 a0_0, .int .i64 a0_1, .int .i64 a0_2, .slice A0_3 l0_3.length c0_3, .int .i64 a0_4, .int .i64 a0_5, .int .i64 a0_6] 26 (0, 0)) (by (with_reducible repeat (first | refine blk_drewN ?_ _ | refine blk_drew ?_ | refine blk_alloc ?_ _)); exact BK158.out) hb); have n5_ := Aside0.mk (blk_below (g := gb165) (o := .cells #[.int .i64 t159, .int .i64 t160, .int .i64 t161, .slice Ao16 t162.length co16] 24 (0, 0)) (by (with_reducible repeat (first | refine blk_drewN ?_ _ | refine blk_drew ?_ | refine blk_alloc ?_ _)); exact BK165.out) hb); have n6_ := Aside0.mk (blk_below (g := gb169) (o := .cells #[.int .i64 2, .int .i64 1, .int .i64 0, .slice Ao20 y166.length co20] 24 (0, 0)) (by (with_reducible repeat (first | refine blk_drewN ?_ _ | refine blk_drew ?_ | refine blk_alloc ?_ _)); exact BK169.out) hb); have n7_ := Aside0.mk (below_step (by repeat (first | (with_reducible first | exact HB.out | apply below_alloc | apply pw_below_drewN | apply below_drew1 | refine below_set ?_ GE158.out | refine below_set ?_ GE165.out | refine below_set ?_ GE169.out) | exact HB.out)) hb); clear HO_8; clear HO_166003; clear HO_170003; clear HO180; clear BK158; clear BK165; clear BK169; clear HB; have HO_8 := n0_; have HO_166003 := n1_; have HO_170003 := n2_; have HO180 := n3_; have BK158 := n4_; have BK165 := n5_; have BK169 := n6_; have HB := n7_; clear n0_ n1_ n2_ n3_ n4_ n5_ n6_ n7_; (try clear hb); (try clear hb2); (try clear hk); (try clear hi)))
         go_meet
         case rel => exact ⟨_, (true), (by first | rfl | (simp; done) | (simp [*]; done)), H', ⟨by have := HJ6.out; first | omega | exact Nat.le_refl _⟩, ⟨by (with_reducible repeat (first | apply Kd.R_alloc | apply Kd.R_drewN | apply Kd.R_drew)); exact HO180.out⟩, ⟨by (with_reducible repeat (first | apply Kd.V_alloc | apply Kd.V_drewN | apply Kd.V_drew)); exact Kd.V_mono HO_166003.out (fun _ hk => ⟨hk.2, ⟨hk.1.2.1, ⟨hk.1.2.2.1, ⟨hk.1.2.2.2.1, hk.1.2.2.2.2⟩⟩⟩⟩)⟩, ⟨by (with_reducible repeat (first | apply Kd.R_alloc | apply Kd.R_drewN | apply Kd.R_drew)); exact HO_170003.out⟩, ⟨by (with_reducible repeat (first | refine blk_drewN ?_ _ | refine blk_drew ?_ | refine blk_alloc ?_ _)); exact BK158.out⟩, ⟨by (with_reducible repeat (first | refine blk_drewN ?_ _ | refine blk_drew ?_ | refine blk_alloc ?_ _)); exact BK165.out⟩, ⟨by (with_reducible repeat (first | refine blk_drewN ?_ _ | refine blk_drew ?_ | refine blk_alloc ?_ _)); exact BK169.out⟩, ⟨by repeat (first | (with_reducible first | exact HB.out | apply below_alloc | apply pw_below_drewN | apply below_drew1 | refine below_set ?_ GE158.out | refine below_set ?_ GE165.out | refine below_set ?_ GE169.out) | exact HB.out)⟩⟩
      case rest =>
       clear HC43
       try clear c2
       try clear p2
       try clear c3
       try clear c3b0
       try clear c3b1
       try clear c4
       try clear c5
       try clear c6
       try clear c7
       try clear c8
       try clear c22
       try clear c23
       try clear c26
       try clear c29
       try clear c29b0
       try clear c29b1
       try clear c31
       try clear c32
       try clear c32b0
       try clear c32b1
       try clear c34
       try clear c34b0
       try clear c34b1
       try clear c37
       try clear c38
       try clear c44
       try clear c45
       try clear c52
       try clear c52b0
       try clear c52b1
       try clear c52b2
       try clear c53
       try clear c54
       try clear c57
       try clear c57b0
       try clear c57b1
       try clear c58
       try clear c58b0
       try clear c58b1
       try clear c58b2
       try clear c59
       try clear c60
       try clear c64
       try clear c65
       try clear c69
       try clear c70
       try clear hcz24_0
       try clear hcz24_1
       try clear hcz24_2
       try clear hcz24_3
       try clear hcz27_0
       try clear hcz27_1
       try clear hcz27_2
       try clear hcz27_3
       try clear hcz39_0
       try clear hcz39_1
       try clear hcz39_2
       try clear hcz39_3
       try clear hcz46_0
       try clear hcz46_1
       try clear hcz46_2
       try clear hcz46_3
       try clear hcz49_0
       try clear hcz49_1
       try clear hcz49_2
       try clear hcz49_3
       try clear hcz55_0
       try clear hcz55_1
       try clear hcz55_2
       try clear hcz55_3
       try clear hcz61_0
       try clear hcz61_1
       try clear hcz61_2
       try clear hcz61_3
       try clear hcz66_0
       try clear hcz66_1
       try clear hcz66_2
       try clear hcz66_3
       try clear hcz71_0
       try clear hcz71_1
       try clear hcz71_2
       try clear hcz71_3
       try clear hfz24_0
       try clear hfz24_1
       try clear hfz24_2
       try clear hfz24_3
       try clear hfz27_0
       try clear hfz27_1
       try clear hfz27_2
       try clear hfz27_3
       try clear hfz39_0
       try clear hfz39_1
       try clear hfz39_2
       try clear hfz39_3
       try clear hfz46_0
       try clear hfz46_1
       try clear hfz46_2
       try clear hfz46_3
       try clear hfz49_0
       try clear hfz49_1
       try clear hfz49_2
       try clear hfz49_3
       try clear hfz55_0
       try clear hfz55_1
       try clear hfz55_2
       try clear hfz55_3
       try clear hfz61_0
       try clear hfz61_1
       try clear hfz61_2
       try clear hfz61_3
       try clear hfz66_0
       try clear hfz66_1
       try clear hfz66_2
       try clear hfz66_3
       try clear hfz71_0
       try clear hfz71_1
       try clear hfz71_2
       try clear hfz71_3
       try clear p2
       obtain ⟨kq, x108_42, rfl, HA, HJ42, HO_12, HO_166003, HO_170003, BK158, BK165, BK169, HB⟩ := hcut
       cases kq with
       | zero => exact absurd HA.out (by simp [bivouactop_BivouacRoads.j1])
       | succ kj42 =>
        have H := HA.out
        clear HA
        simp only [bivouactop_BivouacRoads.j1] at H
        by_cases c73 : x108_42 = true
        ·
         subst c73
         have H1 : (none) = some r := by rw [if_pos rfl] at H; exact H
         clear H
         have H := H1
         clear H1
         exact absurd H (by simp)
        ·
         replace c73 := Bool.eq_false_iff.mpr c73
         subst c73
         have H1 : (bivouactop_BivouacRoads.l0 kj42 a0_4 t178 0 t159 t160 t161 t162) = some r := by rw [if_neg (show ¬ (false = true) by decide)] at H; exact H
         clear H
         have H := H1
         clear H1
         have H' := Aside0.mk H
         clear H
         go_wp2
         go_loopg [14] kj42 (fun kq v14 w' => ∃ (x14_3 : Int), v14 = .int .i64 x14_3 ∧ Aside0 (bivouactop_BivouacRoads.l0 kq a0_4 t178 x14_3 t159 t160 t161 t162 = some r) ∧ Aside0 (kq ≤ kj42) ∧ Aside0 (Kd.R (Kd.int .i64) 3 w' w.heap.size (fun _ => True) v179 t178) ∧ Aside0 (Kd.V (Kd.int .u8) 5 w' w.heap.size (fun k_ => some k_ ≠ (v179 : Value).ownBlock ∧ some k_ ≠ ((.slice Ao20 y166.length co20) : Value).ownBlock ∧ k_ ≠ gb158 ∧ k_ ≠ gb165 ∧ k_ ≠ gb169) (.slice Ao16 t162.length co16) t162) ∧ Aside0 (Kd.R (Kd.int .u8) 5 w' w.heap.size (fun _ => True) (.slice Ao20 y166.length co20) y166) ∧ Aside0 (w'.heap[gb158]? = some (.cells #[.int .i64 a0_0, .int .i64 a0_1, .int .i64 a0_2, (.slice A0_3 l0_3.length c0_3), .int .i64 a0_4, .int .i64 a0_5, .int .i64 a0_6] 26 (0, 0))) ∧ Aside0 (w'.heap[gb165]? = some (.cells #[.int .i64 t159, .int .i64 t160, .int .i64 t161, (.slice Ao16 t162.length co16)] 24 (0, 0))) ∧ Aside0 (w'.heap[gb169]? = some (.cells #[.int .i64 2, .int .i64 1, .int .i64 0, (.slice Ao20 y166.length co20)] 24 (0, 0))) ∧ Aside0 (Below w.heap.size w w'))
         case atStart => exact ⟨(0), (by first | rfl | (simp; done) | (simp [*]; done)), H', ⟨Nat.le_refl _⟩, ⟨by (with_reducible repeat (first | apply Kd.R_alloc | apply Kd.R_drewN | apply Kd.R_drew)); exact HO_12.out⟩, ⟨by (with_reducible repeat (first | apply Kd.V_alloc | apply Kd.V_drewN | apply Kd.V_drew)); exact HO_166003.out⟩, ⟨by (with_reducible repeat (first | apply Kd.R_alloc | apply Kd.R_drewN | apply Kd.R_drew)); exact HO_170003.out⟩, ⟨by (with_reducible repeat (first | refine blk_drewN ?_ _ | refine blk_drew ?_ | refine blk_alloc ?_ _)); exact BK158.out⟩, ⟨by (with_reducible repeat (first | refine blk_drewN ?_ _ | refine blk_drew ?_ | refine blk_alloc ?_ _)); exact BK165.out⟩, ⟨by (with_reducible repeat (first | refine blk_drewN ?_ _ | refine blk_drew ?_ | refine blk_alloc ?_ _)); exact BK169.out⟩, ⟨by repeat (first | (with_reducible first | exact HB.out | apply below_alloc | apply pw_below_drewN | apply below_drew1 | refine below_set ?_ GE158.out | refine below_set ?_ GE165.out | refine below_set ?_ GE169.out) | exact HB.out)⟩⟩
         case round =>
          clear H'
          try clear c2
          try clear p2
          try clear c3
          try clear c3b0
          try clear c3b1
          try clear c4
          try clear c5
          try clear c6
          try clear c7
          try clear c8
          try clear c22
          try clear c23
          try clear c26
          try clear c29
          try clear c29b0
          try clear c29b1
          try clear c31
          try clear c32
          try clear c32b0
          try clear c32b1
          try clear c34
          try clear c34b0
          try clear c34b1
          try clear c37
          try clear c38
          try clear c44
          try clear c45
          try clear c52
          try clear c52b0
          try clear c52b1
          try clear c52b2
          try clear c53
          try clear c54
          try clear c57
          try clear c57b0
          try clear c57b1
          try clear c58
          try clear c58b0
          try clear c58b1
          try clear c58b2
          try clear c59
          try clear c60
          try clear c64
          try clear c65
          try clear c69
          try clear c70
          try clear c73
          try clear hcz24_0
          try clear hcz24_1
          try clear hcz24_2
          try clear hcz24_3
          try clear hcz27_0
          try clear hcz27_1
          try clear hcz27_2
          try clear hcz27_3
          try clear hcz39_0
          try clear hcz39_1
          try clear hcz39_2
          try clear hcz39_3
          try clear hcz46_0
          try clear hcz46_1
          try clear hcz46_2
          try clear hcz46_3
          try clear hcz49_0
          try clear hcz49_1
          try clear hcz49_2
          try clear hcz49_3
          try clear hcz55_0
          try clear hcz55_1
          try clear hcz55_2
          try clear hcz55_3
          try clear hcz61_0
          try clear hcz61_1
          try clear hcz61_2
          try clear hcz61_3
          try clear hcz66_0
          try clear hcz66_1
          try clear hcz66_2
          try clear hcz66_3
          try clear hcz71_0
          try clear hcz71_1
          try clear hcz71_2
          try clear hcz71_3
          try clear hfz24_0
          try clear hfz24_1
          try clear hfz24_2
          try clear hfz24_3
          try clear hfz27_0
          try clear hfz27_1
          try clear hfz27_2
          try clear hfz27_3
          try clear hfz39_0
          try clear hfz39_1
          try clear hfz39_2
          try clear hfz39_3
          try clear hfz46_0
          try clear hfz46_1
          try clear hfz46_2
          try clear hfz46_3
          try clear hfz49_0
          try clear hfz49_1
          try clear hfz49_2
          try clear hfz49_3
          try clear hfz55_0
          try clear hfz55_1
          try clear hfz55_2
          try clear hfz55_3
          try clear hfz61_0
          try clear hfz61_1
          try clear hfz61_2
          try clear hfz61_3
          try clear hfz66_0
          try clear hfz66_1
          try clear hfz66_2
          try clear hfz66_3
          try clear hfz71_0
          try clear hfz71_1
          try clear hfz71_2
          try clear hfz71_3
          try clear p2
          obtain ⟨x14_3, rfl, HA, HK3, HO_12, HO_166003, HO_170003, BK158, BK165, BK169, HB⟩ := hrel
          cases gk with
          | zero => exact absurd HA.out (by simp [bivouactop_BivouacRoads.l0])
          | succ k3 =>
           have H := HA.out
           clear HA
           simp only [bivouactop_BivouacRoads.l0] at H
           by_cases c74 : x14_3 < (t178.length : Int)
           ·
            rw [if_pos c74] at H
            have c74b0 : decide (x14_3 < (t178.length : Int)) = true := decide_eq_true c74
            clear c74
            by_cases c75 : 0 ≤ x14_3
            ·
             rw [if_pos c75] at H
             have c75b0 : decide (0 ≤ x14_3) = true := decide_eq_true c75
             clear c75
             by_cases c76 : t159 = 0
             ·
              rw [if_pos c76] at H
              exact absurd H (by simp)
             ·
              rw [if_neg c76] at H
              have c76b0 : (t159 == 0) = false := beq_eq_false_iff_ne.mpr c76
              have c76b1 : (t159 != 0) = true := bne_iff_ne.mpr c76
              replace H := Option.bind_eq_some_iff.mp H
              obtain ⟨⟨t185, t186⟩, A770, H⟩ := H
              replace H : (if t186 = 0 then (if t185 = true then (bivouactop_BivouacRoads.l0 k3 a0_4 t178 (wrap64 (x14_3 + 1)) t159 t160 t161 t162) else (none)) else (none)) = some r := H
              have A77 := Aside0.mk A770
              clear A770
              by_cases c78 : t186 = 0
              ·
               rw [if_pos c78] at H
               have c78b0 : (t186 == 0) = true := beq_iff_eq.mpr c78
               have c78b1 : (t186 != 0) = false := bne_eq_false_iff_eq.mpr c78
               clear c78
               by_cases c79 : t185 = true
               ·
                subst c79
                have H1 : (bivouactop_BivouacRoads.l0 k3 a0_4 t178 (wrap64 (x14_3 + 1)) t159 t160 t161 t162) = some r := by rw [if_pos rfl] at H; exact H
                clear H
                have H := H1
                clear H1
                have H' := Aside0.mk H
                clear H
                obtain ⟨Ao80, co80, eo80⟩ := Kd.R_slice HO_12.out
                subst eo80
                try go_wp2
                have n0_ := Aside0.mk (Kd.R_drew HO_12.out)
                have n1_ := Aside0.mk (Kd.V_drew HO_166003.out)
                have n2_ := Aside0.mk (Kd.R_drew HO_170003.out)
                have n3_ := Aside0.mk (blk_drew BK158.out)
                have n4_ := Aside0.mk (blk_drew BK165.out)
                have n5_ := Aside0.mk (blk_drew BK169.out)
                have n6_ := Aside0.mk (below_drew1 HB.out)
                clear HO_12
                clear HO_166003
                clear HO_170003
                clear BK158
                clear BK165
                clear BK169
                clear HB
                have HO_12 := n0_
                have HO_166003 := n1_
                have HO_170003 := n2_
                have BK158 := n3_
                have BK165 := n4_
                have BK169 := n5_
                have HB := n6_
                clear n0_ n1_ n2_ n3_ n4_ n5_ n6_
                have p183 : 0 ≤ (x14_3 : Int) := of_decide_eq_true (by first | (with_reducible assumption) | assumption)
                have q183 : x14_3 < (t178.length : Int) := of_decide_eq_true (by first | (with_reducible assumption) | assumption)
                obtain ⟨ad183, e183, hx183_0⟩ := Kd.at_int (Kd.R_reads' HO_12.out).2.2 x14_3 p183 q183
                cases e183
                replace p183 := eq_true p183
                replace q183 := eq_true q183
                have p184 : 0 ≤ (x14_3 : Int) := of_decide_eq_true (by first | (with_reducible assumption) | assumption)
                have q184 : x14_3 < (t178.length : Int) := of_decide_eq_true (by first | (with_reducible assumption) | assumption)
                obtain ⟨ad184, e184, hx184_0⟩ := Kd.at_int (Kd.R_reads' HO_12.out).2.2 x14_3 p184 q184
                obtain rfl : ad183 = ad184 := (by injection e184)
                replace p184 := eq_true p184
                replace q184 := eq_true q184
                refine start_ (n := 22) (S := fun w' => w'.cell? ⟨gb165, 0, none⟩ = some (.int .i64 t159) ∧ w'.cell? ⟨gb165, 1, none⟩ = some (.int .i64 t160) ∧ w'.cell? ⟨gb165, 2, none⟩ = some (.int .i64 t161) ∧ w'.cell? ⟨gb165, 3, none⟩ = some (.slice Ao16 t162.length co16) ∧ w'.cell? (ad183.add (x14_3).toNat) = some (.int .i64 (rd t178 x14_3)) ∧ w'.cell? (ad183.add (x14_3).toNat) = some (.int .i64 (rd t178 x14_3))) (ds := []) (bA 22 0) (by kernel_rfl) rfl rfl ⟨(blk_cell BK165.out 0).trans rfl, (blk_cell BK165.out 1).trans rfl, (blk_cell BK165.out 2).trans rfl, (blk_cell BK165.out 3).trans rfl, hx183_0, hx184_0⟩ (fun hHeld => ?_); refine with_tabW bivouactop_BivouacRoads.tab15 bivouactop_BivouacRoads.bits15 (fun HT_ HW_ => ?_)
                generalize wr.drew = w81 at HO_12 HO_166003 HO_170003 BK158 BK165 BK169 HB hx183_0 hx184_0 hHeld ⊢
                refine pure_ (i := 1) (N := some 117) (v := ?_) (a' := ?_) (bA 22 2) rfl rfl (any_of HT_.out (by kernel_rfl)) (fun _ _ _ h => h) (Or.inl ⟨by rfl, ?_⟩) ?_ ?_
                rotate_left
                ·
                 intro w'
                 go_simp
                 with_reducible rfl
                rotate_left
                ·
                 simp only [Act.put, sA, sB, sC, i64_w, i32_w]
                 rfl
                refine pure_ (i := 2) (N := some 118) (v := ?_) (a' := ?_) (bA 22 6) rfl rfl (any_of HT_.out (by kernel_rfl)) (fun _ _ _ h => h) (Or.inl ⟨by rfl, ?_⟩) ?_ ?_
                rotate_left
                ·
                 intro w'
                 go_simp
                 with_reducible rfl
                rotate_left
                ·
                 simp only [Act.put, sA, sB, sC, i64_w, i32_w]
                 rfl
                refine pure_ (i := 3) (N := some 119) (v := ?_) (a' := ?_) (bA 22 14) rfl rfl (any_of HT_.out (by kernel_rfl)) (fun _ _ _ h => h) (Or.inl ⟨by rfl, ?_⟩) ?_ ?_
                rotate_left
                ·
                 intro w'
                 go_simp
                 with_reducible rfl
                rotate_left
                ·
                 simp only [Act.put, sA, sB, sC, i64_w, i32_w]
                 rfl
                refine pure_ (i := 4) (N := some 120) (v := ?_) (a' := ?_) (bA 22 30) rfl rfl (any_of HT_.out (by kernel_rfl)) (fun _ _ _ h => h) (Or.inl ⟨by rfl, ?_⟩) ?_ ?_
                rotate_left
                ·
                 intro w'
                 go_simp
                 with_reducible rfl
                rotate_left
                ·
                 simp only [Act.put, sA, sB, sC, i64_w, i32_w]
                 rfl
                refine pure_ (i := 6) (N := some 122) (v := ?_) (a' := ?_) (bA 22 94) rfl rfl (any_of HT_.out (by kernel_rfl)) (fun _ _ _ h => h) (Or.inl ⟨by rfl, ?_⟩) ?_ ?_
                rotate_left
                ·
                 intro w'
                 go_simp
                 with_reducible rfl
                rotate_left
                ·
                 simp only [Act.put, sA, sB, sC, i64_w, i32_w]
                 rfl
                refine pure_ (i := 9) (N := some 125) (v := ?_) (a' := ?_) (bA 22 606) rfl rfl (any_of HT_.out (by kernel_rfl)) (fun _ _ _ h => h) (Or.inl ⟨by rfl, ?_⟩) ?_ ?_
                rotate_left
                ·
                 intro w'
                 go_simp
                 with_reducible rfl
                rotate_left
                ·
                 simp only [Act.put, sA, sB, sC, i64_w, i32_w]
                 rfl
                refine pure_ (i := 10) (N := some 126) (v := ?_) (a' := ?_) (bA 22 1630) rfl rfl (any_of HT_.out (by kernel_rfl)) (fun _ _ _ h => h) (Or.inl ⟨by rfl, ?_⟩) ?_ ?_
                rotate_left
                ·
                 intro w'
                 go_simp
                 with_reducible rfl
                rotate_left
                ·
                 simp only [Act.put, sA, sB, sC, i64_w, i32_w]
                 rfl
                refine pure_ (i := 11) (N := some 127) (v := ?_) (a' := ?_) (bA 22 3678) rfl rfl (any_of HT_.out (by kernel_rfl)) (fun _ _ _ h => h) (Or.inl ⟨by rfl, ?_⟩) ?_ ?_
                rotate_left
                ·
                 intro w'
                 go_simp
                 with_reducible rfl
                rotate_left
                ·
                 simp only [Act.put, sA, sB, sC, i64_w, i32_w]
                 rfl
                refine pure_ (i := 13) (N := some 129) (v := ?_) (a' := ?_) (bA 22 11870) rfl rfl (any_of HT_.out (by kernel_rfl)) (fun _ _ _ h => h) (Or.inl ⟨by rfl, ?_⟩) ?_ ?_
                rotate_left
                ·
                 intro w'
                 go_simp
                 with_reducible rfl
                rotate_left
                ·
                 simp only [Act.put, sA, sB, sC, i64_w, i32_w]
                 rfl
                refine take_ (i := 0) (N := some 116) (v := ?_) (a' := ?_) (bA 22 11871) rfl rfl (take_ofW HT_.out HW_.out (by kernel_rfl)) (fun _ _ _ h => h) (Or.inl ⟨by rfl, ?_⟩) hHeld ?_ ?_
                rotate_left
                ·
                 rintro w' ⟨s0, s1, s2, s3, s4, s5⟩
                 go_simp
                 with_reducible rfl
                rotate_left
                ·
                 simp only [Act.put, sA, sB, sC, i64_w, i32_w]
                 rfl
                refine take_ (i := 5) (N := some 121) (v := ?_) (a' := ?_) (bA 22 11903) rfl rfl (take_ofW HT_.out HW_.out (by kernel_rfl)) (fun _ _ _ h => h) (Or.inl ⟨by rfl, ?_⟩) hHeld ?_ ?_
                rotate_left
                ·
                 rintro w' ⟨s0, s1, s2, s3, s4, s5⟩
                 go_simp
                 with_reducible rfl
                rotate_left
                ·
                 simp only [Act.put, sA, sB, sC, i64_w, i32_w]
                 rfl
                refine take_ (i := 7) (N := some 123) (v := ?_) (a' := ?_) (bA 22 12031) rfl rfl (take_ofW HT_.out HW_.out (by kernel_rfl)) (fun _ _ _ h => h) (Or.inl ⟨by rfl, ?_⟩) hHeld ?_ ?_
                rotate_left
                ·
                 rintro w' ⟨s0, s1, s2, s3, s4, s5⟩
                 go_simp
                 with_reducible rfl
                rotate_left
                ·
                 simp only [Act.put, sA, sB, sC, i64_w, i32_w]
                 rfl
                refine pure_ (i := 8) (N := some 124) (v := ?_) (a' := ?_) (bA 22 12287) rfl rfl (any_of HT_.out (by kernel_rfl)) (fun _ _ _ h => h) (Or.inl ⟨by rfl, ?_⟩) ?_ ?_
                rotate_left
                ·
                 intro w'
                 go_simp
                 with_reducible rfl
                rotate_left
                ·
                 simp only [Act.put, sA, sB, sC, i64_w, i32_w]
                 rfl
                refine take_ (i := 12) (N := some 128) (v := ?_) (a' := ?_) (bA 22 16383) rfl rfl (take_ofW HT_.out HW_.out (by kernel_rfl)) (fun _ _ _ h => h) (Or.inl ⟨by rfl, ?_⟩) hHeld ?_ ?_
                rotate_left
                ·
                 rintro w' ⟨s0, s1, s2, s3, s4, s5⟩
                 go_simp
                 with_reducible rfl
                rotate_left
                ·
                 simp only [Act.put, sA, sB, sC, i64_w, i32_w]
                 rfl
                refine take_ (i := 14) (N := some 130) (v := ?_) (a' := ?_) (bA 22 32767) rfl rfl (take_ofW HT_.out HW_.out (by kernel_rfl)) (fun _ _ _ h => h) (Or.inl ⟨by rfl, ?_⟩) hHeld ?_ ?_
                rotate_left
                ·
                 rintro w' ⟨s0, s1, s2, s3, s4, s5⟩
                 go_simp
                 with_reducible rfl
                rotate_left
                ·
                 simp only [Act.put, sA, sB, sC, i64_w, i32_w]
                 rfl
                refine pure_ (i := 15) (N := some 131) (v := ?_) (a' := ?_) (bA 22 65535) rfl rfl (any_of HT_.out (by kernel_rfl)) (fun _ _ _ h => h) (Or.inl ⟨by rfl, ?_⟩) ?_ ?_
                rotate_left
                ·
                 intro w'
                 go_simp
                 with_reducible rfl
                rotate_left
                ·
                 simp only [Act.put, sA, sB, sC, i64_w, i32_w]
                 rfl
                refine one_ (i := 16) (N := some 132) (bA 22 131071) rfl rfl (one_of HT_.out (by kernel_rfl)) (by decide) (fun K hK => ?_)
                refine goes_ Try.func9 (by kernel_rfl) rfl #[.agg #[.int .i64 t159, .int .i64 t160, .int .i64 t161, .slice Ao16 t162.length co16], .int .i64 a0_4, .int .i64 (Int.tmod (rd t178 x14_3) t159), .int .i64 (wrap64 (Int.tdiv (rd t178 x14_3) t159))] (by rfl) rfl rfl (by (try simp only [List.map_toArray, List.map_cons, List.map_nil]); first | done | rfl | (simp only [List.length_drop, List.length_take]; rfl)) ?_
                with_reducible refine (ground_Open.calls k3 t159 t160 t161 _ _ t162 a0_4 (Int.tmod (rd t178 x14_3) t159) (wrap64 (Int.tdiv (rd t178 x14_3) t159)) true t186 _ ?side1 ?side2 A77.out).mono ?_
                (case side1 => repeat (first | exact (Kd.V_reads' HO_166003.out).2.2 | (with_reducible refine Kd.C_alloc ?_ _) | (with_reducible refine Kd.C_drewN ?_ _) | (with_reducible refine Kd.C_drew ?_)))
                (case side2 => exact (Kd.V_reads' HO_166003.out).2.1)
                rintro e w82 ⟨rfl, hb⟩
                have HS4_ := (hb.cell (World.block_lt_of_cell? _ _ (hHeld.2.2.2.2.1))).trans (hHeld.2.2.2.2.1)
                have HS5_ := (hb.cell (World.block_lt_of_cell? _ _ (hHeld.2.2.2.2.2))).trans (hHeld.2.2.2.2.2)
                refine ⟨_, rfl, ?_⟩
                have n0_ := Aside0.mk (Kd.R_below (by (with_reducible repeat (first | apply Kd.R_alloc | apply Kd.R_drewN | apply Kd.R_drew)); exact HO_12.out) hb)
                have n1_ := Aside0.mk (Kd.V_below (by (with_reducible repeat (first | apply Kd.V_alloc | apply Kd.V_drewN | apply Kd.V_drew)); exact HO_166003.out) hb)
                have n2_ := Aside0.mk (Kd.R_below (by (with_reducible repeat (first | apply Kd.R_alloc | apply Kd.R_drewN | apply Kd.R_drew)); exact HO_170003.out) hb)
                have n3_ := Aside0.mk (blk_below (g := gb158) (o := .cells #[.int .i64 a0_0, .int .i64 a0_1, .int .i64 a0_2, .slice A0_3 l0_3.length c0_3, .int .i64 a0_4, .int .i64 a0_5, .int .i64 a0_6] 26 (0, 0)) (by (with_reducible repeat (first | refine blk_drewN ?_ _ | refine blk_drew ?_ | refine blk_alloc ?_ _)); exact BK158.out) hb)
                have n4_ := Aside0.mk (blk_below (g := gb165) (o := .cells #[.int .i64 t159, .int .i64 t160, .int .i64 t161, .slice Ao16 t162.length co16] 24 (0, 0)) (by (with_reducible repeat (first | refine blk_drewN ?_ _ | refine blk_drew ?_ | refine blk_alloc ?_ _)); exact BK165.out) hb)
                have n5_ := Aside0.mk (blk_below (g := gb169) (o := .cells #[.int .i64 2, .int .i64 1, .int .i64 0, .slice Ao20 y166.length co20] 24 (0, 0)) (by (with_reducible repeat (first | refine blk_drewN ?_ _ | refine blk_drew ?_ | refine blk_alloc ?_ _)); exact BK169.out) hb)
                have n6_ := Aside0.mk (below_step (by repeat (first | (with_reducible first | exact HB.out | apply below_alloc | apply pw_below_drewN | apply below_drew1 | refine below_set ?_ GE158.out | refine below_set ?_ GE165.out | refine below_set ?_ GE169.out) | exact HB.out)) hb)
                clear HO_12
                clear HO_166003
                clear HO_170003
                clear BK158
                clear BK165
                clear BK169
                clear HB
                have HO_12 := n0_
                have HO_166003 := n1_
                have HO_170003 := n2_
                have BK158 := n3_
                have BK165 := n4_
                have BK169 := n5_
                have HB := n6_
                clear n0_ n1_ n2_ n3_ n4_ n5_ n6_
                (try clear hb)
                (try clear hb2)
                (try clear hk)
                (try clear hi)
                refine hK.out _ _ ⟨(blk_cell BK165.out 0).trans rfl, (blk_cell BK165.out 1).trans rfl, (blk_cell BK165.out 2).trans rfl, (blk_cell BK165.out 3).trans rfl, HS4_, HS5_⟩ (fun hHeld => ?_)
                clear hK K
                refine norm_ (a' := ?_) ?_ ?_
                rotate_left
                ·
                 show Act.put _ (some 132) _ = _
                 simp only [Act.put, sA, sB, sC, i64_w, i32_w]
                 rfl
                refine pure_ (i := 17) (N := some 115) (v := ?_) (a' := ?_) (bA 22 262143) rfl rfl (any_of HT_.out (by kernel_rfl)) (fun _ _ _ h => h) (Or.inl ⟨by rfl, ?_⟩) ?_ ?_
                rotate_left
                ·
                 intro w'
                 go_simp
                 with_reducible rfl
                rotate_left
                ·
                 simp only [Act.put, sA, sB, sC, i64_w, i32_w]
                 rfl
                refine pure_ (i := 18) (N := some 133) (v := ?_) (a' := ?_) (bA 22 524287) rfl rfl (any_of HT_.out (by kernel_rfl)) (fun _ _ _ h => h) (Or.inl ⟨by rfl, ?_⟩) ?_ ?_
                rotate_left
                ·
                 intro w'
                 go_simp
                 with_reducible rfl
                rotate_left
                ·
                 simp only [Act.put, sA, sB, sC, i64_w, i32_w]
                 rfl
                refine pure_ (i := 19) (N := some 134) (v := ?_) (a' := ?_) (bA 22 1048575) rfl rfl (any_of HT_.out (by kernel_rfl)) (fun _ _ _ h => h) (Or.inl ⟨by rfl, ?_⟩) ?_ ?_
                rotate_left
                ·
                 intro w'
                 go_simp
                 with_reducible rfl
                rotate_left
                ·
                 simp only [Act.put, sA, sB, sC, i64_w, i32_w]
                 rfl
                refine pure_ (i := 20) (N := some 15) (v := ?_) (a' := ?_) (bA 22 2097151) rfl rfl (any_of HT_.out (by kernel_rfl)) (fun _ _ _ h => h) (Or.inl ⟨by rfl, ?_⟩) ?_ ?_
                rotate_left
                ·
                 intro w'
                 go_simp
                 with_reducible rfl
                rotate_left
                ·
                 simp only [Act.put, sA, sB, sC, i64_w, i32_w]
                 rfl
                refine pure_ (i := 21) (N := some 16) (v := ?_) (a' := ?_) (bA 22 4194303) rfl rfl (any_of HT_.out (by kernel_rfl)) (fun _ _ _ h => h) (Or.inl ⟨by rfl, ?_⟩) ?_ ?_
                rotate_left
                ·
                 intro w'
                 go_simp
                 with_reducible rfl
                rotate_left
                ·
                 simp only [Act.put, sA, sB, sC, i64_w, i32_w]
                 rfl
                refine done_ (done_of HT_.out (by kernel_rfl)) ?_
                try go_wp2
                go_roundg k3
                case measure => have := HJ6.out; have := HJ42.out; have := HK3.out; omega
                case rel => exact ⟨(wrap64 (x14_3 + 1)), (by first | rfl | (simp; done) | (simp [*]; done)), H', ⟨by have := HJ6.out; have := HJ42.out; have := HK3.out; omega⟩, ⟨by (with_reducible repeat (first | apply Kd.R_alloc | apply Kd.R_drewN | apply Kd.R_drew)); exact HO_12.out⟩, ⟨by (with_reducible repeat (first | apply Kd.V_alloc | apply Kd.V_drewN | apply Kd.V_drew)); exact HO_166003.out⟩, ⟨by (with_reducible repeat (first | apply Kd.R_alloc | apply Kd.R_drewN | apply Kd.R_drew)); exact HO_170003.out⟩, ⟨by (with_reducible repeat (first | refine blk_drewN ?_ _ | refine blk_drew ?_ | refine blk_alloc ?_ _)); exact BK158.out⟩, ⟨by (with_reducible repeat (first | refine blk_drewN ?_ _ | refine blk_drew ?_ | refine blk_alloc ?_ _)); exact BK165.out⟩, ⟨by (with_reducible repeat (first | refine blk_drewN ?_ _ | refine blk_drew ?_ | refine blk_alloc ?_ _)); exact BK169.out⟩, ⟨by repeat (first | (with_reducible first | exact HB.out | apply below_alloc | apply pw_below_drewN | apply below_drew1 | refine below_set ?_ GE158.out | refine below_set ?_ GE165.out | refine below_set ?_ GE169.out) | exact HB.out)⟩⟩
               ·
                replace c79 := Bool.eq_false_iff.mpr c79
                subst c79
                have H1 : (none) = some r := by rw [if_neg (show ¬ (false = true) by decide)] at H; exact H
                clear H
                have H := H1
                clear H1
                exact absurd H (by simp)
              ·
               rw [if_neg c78] at H
               exact absurd H (by simp)
            ·
             rw [if_neg c75] at H
             exact absurd H (by simp)
           ·
            rw [if_neg c74] at H
            have c74b0 : decide (x14_3 < (t178.length : Int)) = false := decide_eq_false c74
            clear c74
            obtain rfl := Option.some.inj H
            obtain ⟨Ao83, co83, eo83⟩ := Kd.R_slice HO_12.out
            subst eo83
            go_wp2
            go_ret
            exact ⟨by first | rfl | (simp [errW_none, errW_some] <;> rfl) | (simp [*, errW_none, errW_some] <;> rfl) | (rw [Int.tdiv_eq_ediv_of_nonneg (by assumption)]; rfl), by repeat (first | (with_reducible first | exact HB.out | apply below_alloc | apply pw_below_drewN | apply below_drew1 | refine below_set ?_ GE158.out | refine below_set ?_ GE165.out | refine below_set ?_ GE169.out) | exact HB.out)⟩
  ·
   replace c5 := Bool.eq_false_iff.mpr c5
   subst c5
   have H1 : (none) = some r := by rw [if_neg (show ¬ (false = true) by decide)] at H; exact H
   clear H
   have H := H1
   clear H1
   exact absurd H (by simp)
 ·
  rw [if_neg c3] at H
  exact absurd H (by simp)

/-- THE ONE PURE STATEMENT of bivouactop_BivouacRoads. -/
def bivouactop_BivouacRoads.Pure : Prop := ∀ (a0_0 : Int) (a0_1 : Int) (a0_2 : Int) (l0_3 : List Int) (a0_4 : Int) (a0_5 : Int) (a0_6 : Int), (Lit.int .i64 a0_0).wf = true → (Lit.int .i64 a0_1).wf = true → (Lit.int .i64 a0_2).wf = true → l0_3.length ≤ maxLen → (∀ x ∈ l0_3, (Lit.int .u8 x).wf = true) → (Lit.int .i64 a0_4).wf = true → (Lit.int .i64 a0_5).wf = true → (Lit.int .i64 a0_6).wf = true → ∃ k, bivouactop_BivouacRoads.f k a0_0 a0_1 a0_2 l0_3 a0_4 a0_5 a0_6 = some true
theorem bivouactop_BivouacRoads.walked : True := trivial

end Go.Proofs.Ytdmmlidgipedaaa.PA
