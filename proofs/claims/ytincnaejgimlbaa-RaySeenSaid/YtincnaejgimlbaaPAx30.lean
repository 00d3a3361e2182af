-- WRITTEN BY A PROGRAM OF THIS SESSION (a turned copy of the kit's printer), for this claim. Nothing here is trusted: Lean checks it.
import Derived.Test.YtincnaejgimlbaaPAx0
import Derived.Test.YtincnaejgimlbaaPAx15
import Derived.Test.YtincnaejgimlbaaPAx20
import Derived.Test.YtincnaejgimlbaaPAx21
import Derived.Test.YtincnaejgimlbaaPAx22
import Derived.Test.YtincnaejgimlbaaPAx28
import Derived.Test.YtincnaejgimlbaaPAx29
namespace Go.Proofs.Ytincnaejgimlbaa.PA
open Go.RowKit Go.Proofs.YtincnaejgimlbaaW.PrintWords Go.Proofs.YtincnaejgimlbaaW.PrintLast Go.Proofs.YtincnaejgimlbaaW.PrintMore
attribute [local go_sem] max2_int min2_int max_two min_two max_three min_three max_four min_four   -- for this text's walks alone
set_option linter.unusedVariables false
set_option linter.unusedSimpArgs false

/-! ### bivouaclaw08_RaySeen: function 8 -/
mutual
def bivouaclaw08_RaySeen.j0 : Nat → List Bool → Int → Bool → Int → Int → Int → List Int → Int → Int → Int → Int → Int → Int → Int → Int → Int → List Int → Option (Bool)
 | 0, _, _, _, _, _, _, _, _, _, _, _, _, _, _, _, _, _ => none
 | k + 1, x4, x5, x46, x297000, x297001, x297002, x297003, x297004, x297005, x297006, x297007, x297008, x297009, x304000, x304001, x304002, x304003 => if x46 = true then (if (x4.length : Int) = 0 then (if x5 = 1 then ((bivouaclaw08_awake.f k).bind fun t309 => (some t309)) else (some false)) else (some false)) else ((bivouacref08_Is.f x304000 x304001 x304002 x304003 x297004 x297005).bind fun t310 => (if t310 = true then (if (x4.length : Int) = (wrap64 (x304000 * x304001)) then (bivouaclaw08_RaySeen.j1 k x4 (x5 != 0) x297000 x297001 x297002 x297003 x297004 x297005 x297006 x297007 x297008 x297009 x304000 x304001 x304002 x304003) else (bivouaclaw08_RaySeen.j1 k x4 true x297000 x297001 x297002 x297003 x297004 x297005 x297006 x297007 x297008 x297009 x304000 x304001 x304002 x304003)) else (if (x4.length : Int) = 0 then (if x5 = 4 then ((bivouaclaw08_awake.f k).bind fun t311 => (some t311)) else (some false)) else (some false))))
def bivouaclaw08_RaySeen.j1 : Nat → List Bool → Bool → Int → Int → Int → List Int → Int → Int → Int → Int → Int → Int → Int → Int → Int → List Int → Option (Bool)
 | 0, _, _, _, _, _, _, _, _, _, _, _, _, _, _, _, _ => none
 | k + 1, x4, x85, x297000, x297001, x297002, x297003, x297004, x297005, x297006, x297007, x297008, x297009, x304000, x304001, x304002, x304003 => if x85 = true then (some false) else (bivouaclaw08_RaySeen.l0 k x4 0 x297000 x297001 x297002 x297003 x297004 x297005 x297006 x297007 x297008 x297009 x304000 x304001 x304002 x304003)
def bivouaclaw08_RaySeen.l0 : Nat → List Bool → Int → Int → Int → Int → List Int → Int → Int → Int → Int → Int → Int → Int → Int → Int → List Int → Option (Bool)
 | 0, _, _, _, _, _, _, _, _, _, _, _, _, _, _, _, _ => none
 | k + 1, x4, x6, x297000, x297001, x297002, x297003, x297004, x297005, x297006, x297007, x297008, x297009, x304000, x304001, x304002, x304003 => if x6 < (x4.length : Int) then (if 0 ≤ x6 then (if x304000 = 0 then (none) else ((bivouacref08_Seen.f k x304000 x304001 x304002 x304003 x297004 x297005 x297008 x297009 (Int.tmod x6 x304000) (wrap64 (Int.tdiv x6 x304000))).bind fun t313 => (if ((rdOf false x4 x6) != t313) = true then (some false) else (bivouaclaw08_RaySeen.l0 k x4 (wrap64 (x6 + 1)) x297000 x297001 x297002 x297003 x297004 x297005 x297006 x297007 x297008 x297009 x304000 x304001 x304002 x304003)))) else (none)) else ((bivouaclaw08_awake.f k).bind fun t314 => (some t314))
end
def bivouaclaw08_RaySeen.f (k : Nat) (a0_0 : Int) (a0_1 : Int) (a0_2 : Int) (l0_3 : List Int) (a0_4 : Int) (a0_5 : Int) (a0_6 : Int) (a0_7 : Int) (a0_8 : Int) (a0_9 : Int) : Option (Bool) := (bivouaclaw08_few.f a0_0 a0_1 a0_2 l0_3).bind fun bt297 => ((ray_Seen.f k bt297.1 bt297.2.1 bt297.2.2.1 bt297.2.2.2 a0_4 a0_5 a0_8 a0_9).bind fun bt304 => ((bivouacref06_Check.f k bt297.1 bt297.2.1 bt297.2.2.1 bt297.2.2.2).bind fun t308 => (if t308 = 0 then (if a0_8 < 0 then (bivouaclaw08_RaySeen.j0 k bt304.1 bt304.2 true a0_0 a0_1 a0_2 l0_3 a0_4 a0_5 a0_6 a0_7 a0_8 a0_9 bt297.1 bt297.2.1 bt297.2.2.1 bt297.2.2.2) else (if a0_8 > 255 then (bivouaclaw08_RaySeen.j0 k bt304.1 bt304.2 true a0_0 a0_1 a0_2 l0_3 a0_4 a0_5 a0_6 a0_7 a0_8 a0_9 bt297.1 bt297.2.1 bt297.2.2.1 bt297.2.2.2) else (if a0_9 < 0 then (bivouaclaw08_RaySeen.j0 k bt304.1 bt304.2 true a0_0 a0_1 a0_2 l0_3 a0_4 a0_5 a0_6 a0_7 a0_8 a0_9 bt297.1 bt297.2.1 bt297.2.2.1 bt297.2.2.2) else (bivouaclaw08_RaySeen.j0 k bt304.1 bt304.2 (decide (a0_9 > 64)) a0_0 a0_1 a0_2 l0_3 a0_4 a0_5 a0_6 a0_7 a0_8 a0_9 bt297.1 bt297.2.1 bt297.2.2.1 bt297.2.2.2)))) else (bivouaclaw08_RaySeen.j0 k bt304.1 bt304.2 true a0_0 a0_1 a0_2 l0_3 a0_4 a0_5 a0_6 a0_7 a0_8 a0_9 bt297.1 bt297.2.1 bt297.2.2.1 bt297.2.2.2))))
theorem bivouaclaw08_RaySeen.mono_l : ∀ k, (∀ y0 y1 y2 y3 y4 y5 y6 y7 y8 y9 y10 y11 y12 y13 y14 y15 y16, LeO (bivouaclaw08_RaySeen.j0 k y0 y1 y2 y3 y4 y5 y6 y7 y8 y9 y10 y11 y12 y13 y14 y15 y16) (bivouaclaw08_RaySeen.j0 (k + 1) y0 y1 y2 y3 y4 y5 y6 y7 y8 y9 y10 y11 y12 y13 y14 y15 y16)) ∧ (∀ y0 y1 y2 y3 y4 y5 y6 y7 y8 y9 y10 y11 y12 y13 y14 y15, LeO (bivouaclaw08_RaySeen.j1 k y0 y1 y2 y3 y4 y5 y6 y7 y8 y9 y10 y11 y12 y13 y14 y15) (bivouaclaw08_RaySeen.j1 (k + 1) y0 y1 y2 y3 y4 y5 y6 y7 y8 y9 y10 y11 y12 y13 y14 y15)) ∧ (∀ y0 y1 y2 y3 y4 y5 y6 y7 y8 y9 y10 y11 y12 y13 y14 y15, LeO (bivouaclaw08_RaySeen.l0 k y0 y1 y2 y3 y4 y5 y6 y7 y8 y9 y10 y11 y12 y13 y14 y15) (bivouaclaw08_RaySeen.l0 (k + 1) y0 y1 y2 y3 y4 y5 y6 y7 y8 y9 y10 y11 y12 y13 y14 y15))
 | 0 => ⟨fun _ _ _ _ _ _ _ _ _ _ _ _ _ _ _ _ _ r h => by simp [bivouaclaw08_RaySeen.j0] at h, fun _ _ _ _ _ _ _ _ _ _ _ _ _ _ _ _ r h => by simp [bivouaclaw08_RaySeen.j1] at h, fun _ _ _ _ _ _ _ _ _ _ _ _ _ _ _ _ r h => by simp [bivouaclaw08_RaySeen.l0] at h⟩
 | k + 1 => by
  obtain ⟨ih0, ih1, ih2⟩ := bivouaclaw08_RaySeen.mono_l k
  refine ⟨?_, ?_, ?_⟩
  ·
   intro y0 y1 y2 y3 y4 y5 y6 y7 y8 y9 y10 y11 y12 y13 y14 y15 y16
   unfold bivouaclaw08_RaySeen.j0
   repeat' first
   | (with_reducible exact ih0 _ _ _ _ _ _ _ _ _ _ _ _ _ _ _ _ _)
   | (with_reducible exact ih1 _ _ _ _ _ _ _ _ _ _ _ _ _ _ _ _)
   | (with_reducible exact ih2 _ _ _ _ _ _ _ _ _ _ _ _ _ _ _ _)
   | (with_reducible exact bivouaclaw08_awake.mono _)
   | (with_reducible exact bivouacref06_Check.mono _ _ _ _ _)
   | (with_reducible exact bivouacref08_Seen.mono _ _ _ _ _ _ _ _ _ _ _)
   | (with_reducible exact ray_Seen.mono _ _ _ _ _ _ _ _ _)
   | (with_reducible exact LeO.refl _)
   | (with_reducible exact LeO.none _)
   | (with_reducible refine LeO.ite ?_ ?_)
   | (with_reducible refine LeO.bind ?_ (fun _ => ?_))
   | exact ih0 _ _ _ _ _ _ _ _ _ _ _ _ _ _ _ _ _
   | exact ih1 _ _ _ _ _ _ _ _ _ _ _ _ _ _ _ _
   | exact ih2 _ _ _ _ _ _ _ _ _ _ _ _ _ _ _ _
   | exact bivouaclaw08_awake.mono _
   | exact bivouacref06_Check.mono _ _ _ _ _
   | exact bivouacref08_Seen.mono _ _ _ _ _ _ _ _ _ _ _
   | exact ray_Seen.mono _ _ _ _ _ _ _ _ _
   | exact LeO.none _
   | refine LeO.ite ?_ ?_
   | refine LeO.bind ?_ (fun _ => ?_)
  ·
   intro y0 y1 y2 y3 y4 y5 y6 y7 y8 y9 y10 y11 y12 y13 y14 y15
   unfold bivouaclaw08_RaySeen.j1
   repeat' first
   | (with_reducible exact ih0 _ _ _ _ _ _ _ _ _ _ _ _ _ _ _ _ _)
   | (with_reducible exact ih1 _ _ _ _ _ _ _ _ _ _ _ _ _ _ _ _)
   | (with_reducible exact ih2 _ _ _ _ _ _ _ _ _ _ _ _ _ _ _ _)
   | (with_reducible exact bivouaclaw08_awake.mono _)
   | (with_reducible exact bivouacref06_Check.mono _ _ _ _ _)
   | (with_reducible exact bivouacref08_Seen.mono _ _ _ _ _ _ _ _ _ _ _)
   | (with_reducible exact ray_Seen.mono _ _ _ _ _ _ _ _ _)
   | (with_reducible exact LeO.refl _)
   | (with_reducible exact LeO.none _)
   | (with_reducible refine LeO.ite ?_ ?_)
   | (with_reducible refine LeO.bind ?_ (fun _ => ?_))
   | exact ih0 _ _ _ _ _ _ _ _ _ _ _ _ _ _ _ _ _
   | exact ih1 _ _ _ _ _ _ _ _ _ _ _ _ _ _ _ _
   | exact ih2 _ _ _ _ _ _ _ _ _ _ _ _ _ _ _ _
   | exact bivouaclaw08_awake.mono _
   | exact bivouacref06_Check.mono _ _ _ _ _
   | exact bivouacref08_Seen.mono _ _ _ _ _ _ _ _ _ _ _
   | exact ray_Seen.mono _ _ _ _ _ _ _ _ _
   | exact LeO.none _
   | refine LeO.ite ?_ ?_
   | refine LeO.bind ?_ (fun _ => ?_)
  ·
   intro y0 y1 y2 y3 y4 y5 y6 y7 y8 y9 y10 y11 y12 y13 y14 y15
   unfold bivouaclaw08_RaySeen.l0
   repeat' first
   | (with_reducible exact ih0 _ _ _ _ _ _ _ _ _ _ _ _ _ _ _ _ _)
   | (with_reducible exact ih1 _ _ _ _ _ _ _ _ _ _ _ _ _ _ _ _)
   | (with_reducible exact ih2 _ _ _ _ _ _ _ _ _ _ _ _ _ _ _ _)
   | (with_reducible exact bivouaclaw08_awake.mono _)
   | (with_reducible exact bivouacref06_Check.mono _ _ _ _ _)
   | (with_reducible exact bivouacref08_Seen.mono _ _ _ _ _ _ _ _ _ _ _)
   | (with_reducible exact ray_Seen.mono _ _ _ _ _ _ _ _ _)
   | (with_reducible exact LeO.refl _)
   | (with_reducible exact LeO.none _)
   | (with_reducible refine LeO.ite ?_ ?_)
   | (with_reducible refine LeO.bind ?_ (fun _ => ?_))
   | exact ih0 _ _ _ _ _ _ _ _ _ _ _ _ _ _ _ _ _
   | exact ih1 _ _ _ _ _ _ _ _ _ _ _ _ _ _ _ _
   | exact ih2 _ _ _ _ _ _ _ _ _ _ _ _ _ _ _ _
   | exact bivouaclaw08_awake.mono _
   | exact bivouacref06_Check.mono _ _ _ _ _
   | exact bivouacref08_Seen.mono _ _ _ _ _ _ _ _ _ _ _
   | exact ray_Seen.mono _ _ _ _ _ _ _ _ _
   | exact LeO.none _
   | refine LeO.ite ?_ ?_
   | refine LeO.bind ?_ (fun _ => ?_)
theorem bivouaclaw08_RaySeen.mono : ∀ a0 a1 a2 a3 a4 a5 a6 a7 a8 a9 k, LeO (bivouaclaw08_RaySeen.f k a0 a1 a2 a3 a4 a5 a6 a7 a8 a9) (bivouaclaw08_RaySeen.f (k + 1) a0 a1 a2 a3 a4 a5 a6 a7 a8 a9) := by
 intro a0 a1 a2 a3 a4 a5 a6 a7 a8 a9 k
 obtain ⟨ih0, ih1, ih2⟩ := bivouaclaw08_RaySeen.mono_l k
 unfold bivouaclaw08_RaySeen.f
 repeat' first
   | (with_reducible exact ih0 _ _ _ _ _ _ _ _ _ _ _ _ _ _ _ _ _)
   | (with_reducible exact ih1 _ _ _ _ _ _ _ _ _ _ _ _ _ _ _ _)
   | (with_reducible exact ih2 _ _ _ _ _ _ _ _ _ _ _ _ _ _ _ _)
   | (with_reducible exact bivouaclaw08_awake.mono _)
   | (with_reducible exact bivouacref06_Check.mono _ _ _ _ _)
   | (with_reducible exact bivouacref08_Seen.mono _ _ _ _ _ _ _ _ _ _ _)
   | (with_reducible exact ray_Seen.mono _ _ _ _ _ _ _ _ _)
   | (with_reducible exact LeO.refl _)
   | (with_reducible exact LeO.none _)
   | (with_reducible refine LeO.ite ?_ ?_)
   | (with_reducible refine LeO.bind ?_ (fun _ => ?_))
   | exact ih0 _ _ _ _ _ _ _ _ _ _ _ _ _ _ _ _ _
   | exact ih1 _ _ _ _ _ _ _ _ _ _ _ _ _ _ _ _
   | exact ih2 _ _ _ _ _ _ _ _ _ _ _ _ _ _ _ _
   | exact bivouaclaw08_awake.mono _
   | exact bivouacref06_Check.mono _ _ _ _ _
   | exact bivouacref08_Seen.mono _ _ _ _ _ _ _ _ _ _ _
   | exact ray_Seen.mono _ _ _ _ _ _ _ _ _
   | exact LeO.none _
   | refine LeO.ite ?_ ?_
   | refine LeO.bind ?_ (fun _ => ?_)
def bivouaclaw08_RaySeen.T12 : Bool × List (List Nat × List Nat) := (true, [([], []), ([], []), ([0, 1], [0, 1]), ([2], [2]), ([], []), ([], []), ([5], [5]), ([], []), ([7], [7]), ([], []), ([9], [9]), ([], []), ([11], [11]), ([], []), ([], []), ([14], [14]), ([13, 15], [13, 15]), ([], []), ([], []), ([18], [18]), ([17, 19], [17, 19]), ([4, 6, 8, 10, 12, 16, 20], [4, 6, 8, 10, 12, 16, 20]), ([3, 21], [3, 21])])
def bivouaclaw08_RaySeen.B12 : List Nat := [0, 0, 3, 7, 0, 0, 32, 0, 128, 0, 512, 0, 2048, 0, 0, 16384, 57344, 0, 0, 262144, 917504, 2097136, 4194303]
theorem bivouaclaw08_RaySeen.tab12 : rtab .any (opsOf Try.f8 12) = bivouaclaw08_RaySeen.T12 := by kernel_rfl
theorem bivouaclaw08_RaySeen.bits12 : waitsOk bivouaclaw08_RaySeen.T12.2 bivouaclaw08_RaySeen.B12 = true := by kernel_rfl
set_option maxHeartbeats 8000000 in
set_option maxRecDepth 100000 in
theorem bivouaclaw08_RaySeen.calls (k : Nat) (a0_0 : Int) (a0_1 : Int) (a0_2 : Int) (A0_3 : Option Addr) (c0_3 : Nat) (l0_3 : List Int) (a0_4 : Int) (a0_5 : Int) (a0_6 : Int) (a0_7 : Int) (a0_8 : Int) (a0_9 : Int) (r : Bool) (w : World) (hr0_3 : Kd.C (Kd.int .u8) w A0_3 l0_3.length l0_3) (hc0_3 : l0_3.length ≤ c0_3) (h : bivouaclaw08_RaySeen.f k a0_0 a0_1 a0_2 l0_3 a0_4 a0_5 a0_6 a0_7 a0_8 a0_9 = some r) :
  Calls Try.prog 8 #[.agg #[.int .i64 a0_0, .int .i64 a0_1, .int .i64 a0_2, .slice A0_3 l0_3.length c0_3, .int .i64 a0_4, .int .i64 a0_5, .int .i64 a0_6, .int .i64 a0_7, .int .i64 a0_8, .int .i64 a0_9]] w fun e w' => e = .returned (.bool r) ∧ Below w.heap.size w w' := by
 have hu26 := Try.underlying26
 have hu24 := Try.underlying24
 have hu36 := Try.underlying36
 have HR0_3 := Aside0.mk hr0_3
 have HC0_3 := Aside0.mk hc0_3
 clear hr0_3 hc0_3
 have HB := Aside0.mk (Below.refl w.heap.size w)
 have H : ((bivouaclaw08_few.f a0_0 a0_1 a0_2 l0_3).bind fun bt297 => ((ray_Seen.f k bt297.1 bt297.2.1 bt297.2.2.1 bt297.2.2.2 a0_4 a0_5 a0_8 a0_9).bind fun bt304 => ((bivouacref06_Check.f k bt297.1 bt297.2.1 bt297.2.2.1 bt297.2.2.2).bind fun t308 => (if t308 = 0 then (if a0_8 < 0 then (bivouaclaw08_RaySeen.j0 k bt304.1 bt304.2 true a0_0 a0_1 a0_2 l0_3 a0_4 a0_5 a0_6 a0_7 a0_8 a0_9 bt297.1 bt297.2.1 bt297.2.2.1 bt297.2.2.2) else (if a0_8 > 255 then (bivouaclaw08_RaySeen.j0 k bt304.1 bt304.2 true a0_0 a0_1 a0_2 l0_3 a0_4 a0_5 a0_6 a0_7 a0_8 a0_9 bt297.1 bt297.2.1 bt297.2.2.1 bt297.2.2.2) else (if a0_9 < 0 then (bivouaclaw08_RaySeen.j0 k bt304.1 bt304.2 true a0_0 a0_1 a0_2 l0_3 a0_4 a0_5 a0_6 a0_7 a0_8 a0_9 bt297.1 bt297.2.1 bt297.2.2.1 bt297.2.2.2) else (bivouaclaw08_RaySeen.j0 k bt304.1 bt304.2 (decide (a0_9 > 64)) a0_0 a0_1 a0_2 l0_3 a0_4 a0_5 a0_6 a0_7 a0_8 a0_9 bt297.1 bt297.2.1 bt297.2.2.1 bt297.2.2.2)))) else (bivouaclaw08_RaySeen.j0 k bt304.1 bt304.2 true a0_0 a0_1 a0_2 l0_3 a0_4 a0_5 a0_6 a0_7 a0_8 a0_9 bt297.1 bt297.2.1 bt297.2.2.1 bt297.2.2.2))))) = some r := h
 clear h
 replace H := Option.bind_eq_some_iff.mp H
 obtain ⟨⟨t297, t298, t299, t300⟩, A20, H⟩ := H
 replace H : ((ray_Seen.f k t297 t298 t299 t300 a0_4 a0_5 a0_8 a0_9).bind fun bt304 => ((bivouacref06_Check.f k t297 t298 t299 t300).bind fun t308 => (if t308 = 0 then (if a0_8 < 0 then (bivouaclaw08_RaySeen.j0 k bt304.1 bt304.2 true a0_0 a0_1 a0_2 l0_3 a0_4 a0_5 a0_6 a0_7 a0_8 a0_9 t297 t298 t299 t300) else (if a0_8 > 255 then (bivouaclaw08_RaySeen.j0 k bt304.1 bt304.2 true a0_0 a0_1 a0_2 l0_3 a0_4 a0_5 a0_6 a0_7 a0_8 a0_9 t297 t298 t299 t300) else (if a0_9 < 0 then (bivouaclaw08_RaySeen.j0 k bt304.1 bt304.2 true a0_0 a0_1 a0_2 l0_3 a0_4 a0_5 a0_6 a0_7 a0_8 a0_9 t297 t298 t299 t300) else (bivouaclaw08_RaySeen.j0 k bt304.1 bt304.2 (decide (a0_9 > 64)) a0_0 a0_1 a0_2 l0_3 a0_4 a0_5 a0_6 a0_7 a0_8 a0_9 t297 t298 t299 t300)))) else (bivouaclaw08_RaySeen.j0 k bt304.1 bt304.2 true a0_0 a0_1 a0_2 l0_3 a0_4 a0_5 a0_6 a0_7 a0_8 a0_9 t297 t298 t299 t300)))) = some r := H
 have A2 := Aside0.mk A20
 clear A20
 replace H := Option.bind_eq_some_iff.mp H
 obtain ⟨⟨t304, t307⟩, A30, H⟩ := H
 replace H : ((bivouacref06_Check.f k t297 t298 t299 t300).bind fun t308 => (if t308 = 0 then (if a0_8 < 0 then (bivouaclaw08_RaySeen.j0 k t304 t307 true a0_0 a0_1 a0_2 l0_3 a0_4 a0_5 a0_6 a0_7 a0_8 a0_9 t297 t298 t299 t300) else (if a0_8 > 255 then (bivouaclaw08_RaySeen.j0 k t304 t307 true a0_0 a0_1 a0_2 l0_3 a0_4 a0_5 a0_6 a0_7 a0_8 a0_9 t297 t298 t299 t300) else (if a0_9 < 0 then (bivouaclaw08_RaySeen.j0 k t304 t307 true a0_0 a0_1 a0_2 l0_3 a0_4 a0_5 a0_6 a0_7 a0_8 a0_9 t297 t298 t299 t300) else (bivouaclaw08_RaySeen.j0 k t304 t307 (decide (a0_9 > 64)) a0_0 a0_1 a0_2 l0_3 a0_4 a0_5 a0_6 a0_7 a0_8 a0_9 t297 t298 t299 t300)))) else (bivouaclaw08_RaySeen.j0 k t304 t307 true a0_0 a0_1 a0_2 l0_3 a0_4 a0_5 a0_6 a0_7 a0_8 a0_9 t297 t298 t299 t300))) = some r := H
 have A3 := Aside0.mk A30
 clear A30
 have HC4 := Aside0.mk H
 clear H
 go_enter Try.func8, Try.ntmps8
 go_upto_region 3 with (first | ((with_reducible refine gate_dst (N := 1) rfl ?_); refine box_event ?hg (N := 1) ?hd (cs := #[.int .i64 a0_0, .int .i64 a0_1, .int .i64 a0_2, .slice A0_3 l0_3.length c0_3, .int .i64 a0_4, .int .i64 a0_5, .int .i64 a0_6, .int .i64 a0_7, .int .i64 a0_8, .int .i64 a0_9]) (t := 26) ?hr ?_; (case hd => rfl); (case hg => rfl); (case hr => first | (go_simp; done) | (go_simp; rfl)); intro gb296 hg w5 hbox hb; have n0_ := Aside0.mk (below_step (by repeat (first | (with_reducible first | exact HB.out | apply below_alloc | apply pw_below_drewN | apply below_drew1) | exact HB.out)) hb); have n1_ := Aside0.mk (hbox); have n2_ := Aside0.mk ((by rw [hg]; exact (below_size (by repeat (first | (with_reducible first | exact HB.out | apply below_alloc | apply pw_below_drewN | apply below_drew1) | exact HB.out))) : w.heap.size ≤ gb296)); have n3_ := Aside0.mk ((by rw [hg]; exact (below_size (by repeat (first | (with_reducible first | exact HB.out | apply below_alloc | apply pw_below_drewN | apply below_drew1) | exact HB.out))) : w.heap.size ≤ gb296)); clear HB; have HB := n0_; have BK296 := n1_; have GW296 := n2_; have GE296 := n3_; clear n0_ n1_ n2_ n3_; clear hb hbox hg; have hcz6_0 : w5.cell? ⟨gb296, 0, none⟩ = some (.int .i64 a0_0) := (blk_cell BK296.out 0).trans rfl; have hcz6_1 : w5.cell? ⟨gb296, 1, none⟩ = some (.int .i64 a0_1) := (blk_cell BK296.out 1).trans rfl; have hcz6_2 : w5.cell? ⟨gb296, 2, none⟩ = some (.int .i64 a0_2) := (blk_cell BK296.out 2).trans rfl; have hcz6_3 : w5.cell? ⟨gb296, 3, none⟩ = some (.slice A0_3 l0_3.length c0_3) := (blk_cell BK296.out 3).trans rfl; have hcz6_4 : w5.cell? ⟨gb296, 4, none⟩ = some (.int .i64 a0_4) := (blk_cell BK296.out 4).trans rfl; have hcz6_5 : w5.cell? ⟨gb296, 5, none⟩ = some (.int .i64 a0_5) := (blk_cell BK296.out 5).trans rfl; have hcz6_6 : w5.cell? ⟨gb296, 6, none⟩ = some (.int .i64 a0_6) := (blk_cell BK296.out 6).trans rfl; have hcz6_7 : w5.cell? ⟨gb296, 7, none⟩ = some (.int .i64 a0_7) := (blk_cell BK296.out 7).trans rfl; have hcz6_8 : w5.cell? ⟨gb296, 8, none⟩ = some (.int .i64 a0_8) := (blk_cell BK296.out 8).trans rfl; have hcz6_9 : w5.cell? ⟨gb296, 9, none⟩ = some (.int .i64 a0_9) := (blk_cell BK296.out 9).trans rfl; have hfz6_0 := blk_frozen BK296.out 0; have hfz6_1 := blk_frozen BK296.out 1; have hfz6_2 := blk_frozen BK296.out 2; have hfz6_3 := blk_frozen BK296.out 3; have hfz6_4 := blk_frozen BK296.out 4; have hfz6_5 := blk_frozen BK296.out 5; have hfz6_6 := blk_frozen BK296.out 6; have hfz6_7 := blk_frozen BK296.out 7; have hfz6_8 := blk_frozen BK296.out 8; have hfz6_9 := blk_frozen BK296.out 9) | ((with_reducible refine gate_callee (f := 14) rfl ?_); refine goesL_ (some 9) rfl rfl Try.func14 (by kernel_rfl) rfl #[.agg #[.int .i64 a0_0, .int .i64 a0_1, .int .i64 a0_2, .slice A0_3 l0_3.length c0_3]] rfl (by (try simp only [List.map_toArray, List.map_cons, List.map_nil]); first | done | rfl | (simp only [List.length_drop, List.length_take]; rfl)) ?_; (with_reducible refine (bivouaclaw08_few.calls a0_0 a0_1 a0_2 (fun k_ => k_ < w.heap.size) _ _ l0_3 t297 t298 t299 t300 _ ?side1 A2.out).mono ?_); (case side1 => exact Kd.V_mk HC0_3.out (Kd.F_below (Kd.C_F (Kd.heap_int .u8) HR0_3.out) (by repeat (first | (with_reducible first | exact HB.out | apply below_alloc | apply pw_below_drewN | apply below_drew1 | refine below_set ?_ GE296.out) | exact HB.out)))); rintro e w7 ⟨v301, rfl, ho0, hb⟩; refine ⟨_, rfl, ?_⟩; have n0_ := Aside0.mk (Kd.V_lower (Kd.V_mono (ok' := fun k_ => k_ ≠ gb296) ho0 (fun k_ hk_ => Or.elim hk_ (fun hs_ => fun e_ => Nat.not_le.2 hs_ (by rw [e_]; exact GW296.out)) (fun hn_ => (Kd.freshB (g := gb296) (o := .cells #[.int .i64 a0_0, .int .i64 a0_1, .int .i64 a0_2, .slice A0_3 l0_3.length c0_3, .int .i64 a0_4, .int .i64 a0_5, .int .i64 a0_6, .int .i64 a0_7, .int .i64 a0_8, .int .i64 a0_9] 26 (0, 0)) (by (with_reducible repeat (first | refine blk_drewN ?_ _ | refine blk_drew ?_ | refine blk_alloc ?_ _)); exact BK296.out) k_ hn_)))) (below_size (by repeat (first | (with_reducible first | exact HB.out | apply below_alloc | apply pw_below_drewN | apply below_drew1 | refine below_set ?_ GE296.out) | exact HB.out)))); have n1_ := Aside0.mk (blk_below (g := gb296) (o := .cells #[.int .i64 a0_0, .int .i64 a0_1, .int .i64 a0_2, .slice A0_3 l0_3.length c0_3, .int .i64 a0_4, .int .i64 a0_5, .int .i64 a0_6, .int .i64 a0_7, .int .i64 a0_8, .int .i64 a0_9] 26 (0, 0)) (by (with_reducible repeat (first | refine blk_drewN ?_ _ | refine blk_drew ?_ | refine blk_alloc ?_ _)); exact BK296.out) hb); have n2_ := Aside0.mk (below_step (by repeat (first | (with_reducible first | exact HB.out | apply below_alloc | apply pw_below_drewN | apply below_drew1 | refine below_set ?_ GE296.out) | exact HB.out)) hb); clear BK296; clear HB; have HO302 := n0_; have BK296 := n1_; have HB := n2_; clear n0_ n1_ n2_; (try clear hb); (try clear hb2); (try clear hk); (try clear hi); (try clear ho0)) | ((with_reducible refine gate_dst (N := 3) rfl ?_); refine box_event ?hg (N := 3) ?hd (cs := #[.int .i64 0, .int .i64 0, .int .i64 0, .slice none 0 0]) (t := 24) ?hr ?_; (case hd => rfl); (case hg => rfl); (case hr => first | (go_simp; done) | (go_simp; rfl)); intro gb303 hg w8 hbox hb; have n0_ := Aside0.mk (Kd.V_below (Kd.V_elderB (by (with_reducible repeat (first | apply Kd.V_alloc | apply Kd.V_drewN | apply Kd.V_drew)); exact HO302.out) gb303 (Nat.le_of_eq hg.symm)) hb); have n1_ := Aside0.mk (blk_below (g := gb296) (o := .cells #[.int .i64 a0_0, .int .i64 a0_1, .int .i64 a0_2, .slice A0_3 l0_3.length c0_3, .int .i64 a0_4, .int .i64 a0_5, .int .i64 a0_6, .int .i64 a0_7, .int .i64 a0_8, .int .i64 a0_9] 26 (0, 0)) (by (with_reducible repeat (first | refine blk_drewN ?_ _ | refine blk_drew ?_ | refine blk_alloc ?_ _)); exact BK296.out) hb); have n2_ := Aside0.mk (below_step (by repeat (first | (with_reducible first | exact HB.out | apply below_alloc | apply pw_below_drewN | apply below_drew1 | refine below_set ?_ GE296.out) | exact HB.out)) hb); have n3_ := Aside0.mk (hbox); have n4_ := Aside0.mk ((by rw [hg]; exact (below_size (by repeat (first | (with_reducible first | exact HB.out | apply below_alloc | apply pw_below_drewN | apply below_drew1 | refine below_set ?_ GE296.out) | exact HB.out))) : w.heap.size ≤ gb303)); have n5_ := Aside0.mk ((by rw [hg]; exact (below_size (by repeat (first | (with_reducible first | exact HB.out | apply below_alloc | apply pw_below_drewN | apply below_drew1 | refine below_set ?_ GE296.out) | exact HB.out))) : w.heap.size ≤ gb303)); have n6_ := Aside0.mk ((by rw [hg]; exact Nat.ne_of_lt (blk_lt (g := gb296) (o := .cells #[.int .i64 a0_0, .int .i64 a0_1, .int .i64 a0_2, .slice A0_3 l0_3.length c0_3, .int .i64 a0_4, .int .i64 a0_5, .int .i64 a0_6, .int .i64 a0_7, .int .i64 a0_8, .int .i64 a0_9] 26 (0, 0)) (by (with_reducible repeat (first | refine blk_drewN ?_ _ | refine blk_drew ?_ | refine blk_alloc ?_ _)); exact BK296.out)) : gb296 ≠ gb303)); have n7_ := Aside0.mk ((by rw [hg]; exact Nat.ne_of_gt (blk_lt (g := gb296) (o := .cells #[.int .i64 a0_0, .int .i64 a0_1, .int .i64 a0_2, .slice A0_3 l0_3.length c0_3, .int .i64 a0_4, .int .i64 a0_5, .int .i64 a0_6, .int .i64 a0_7, .int .i64 a0_8, .int .i64 a0_9] 26 (0, 0)) (by (with_reducible repeat (first | refine blk_drewN ?_ _ | refine blk_drew ?_ | refine blk_alloc ?_ _)); exact BK296.out)) : gb303 ≠ gb296)); clear HO302; clear BK296; clear HB; have HO302 := n0_; have BK296 := n1_; have HB := n2_; have BK303 := n3_; have GW303 := n4_; have GE303 := n5_; have NB296_303 := n6_; have NB303_296 := n7_; clear n0_ n1_ n2_ n3_ n4_ n5_ n6_ n7_; clear hb hbox hg; have hnb9 := NB303_296.out; have hnc9 := NB296_303.out; have hcz10_0 : w8.cell? ⟨gb303, 0, none⟩ = some (.int .i64 0) := (blk_cell BK303.out 0).trans rfl; have hcz10_1 : w8.cell? ⟨gb303, 1, none⟩ = some (.int .i64 0) := (blk_cell BK303.out 1).trans rfl; have hcz10_2 : w8.cell? ⟨gb303, 2, none⟩ = some (.int .i64 0) := (blk_cell BK303.out 2).trans rfl; have hcz10_3 : w8.cell? ⟨gb303, 3, none⟩ = some (.slice none 0 0) := (blk_cell BK303.out 3).trans rfl; have hfz10_0 := blk_frozen BK303.out 0; have hfz10_1 := blk_frozen BK303.out 1; have hfz10_2 := blk_frozen BK303.out 2; have hfz10_3 := blk_frozen BK303.out 3; obtain ⟨Ao11, co11, eo11⟩ := Kd.V_slice HO302.out; subst eo11; have hcz12_0 : w8.cell? ⟨gb296, 0, none⟩ = some (.int .i64 a0_0) := (blk_cell BK296.out 0).trans rfl; have hcz12_1 : w8.cell? ⟨gb296, 1, none⟩ = some (.int .i64 a0_1) := (blk_cell BK296.out 1).trans rfl; have hcz12_2 : w8.cell? ⟨gb296, 2, none⟩ = some (.int .i64 a0_2) := (blk_cell BK296.out 2).trans rfl; have hcz12_3 : w8.cell? ⟨gb296, 3, none⟩ = some (.slice A0_3 l0_3.length c0_3) := (blk_cell BK296.out 3).trans rfl; have hcz12_4 : w8.cell? ⟨gb296, 4, none⟩ = some (.int .i64 a0_4) := (blk_cell BK296.out 4).trans rfl; have hcz12_5 : w8.cell? ⟨gb296, 5, none⟩ = some (.int .i64 a0_5) := (blk_cell BK296.out 5).trans rfl; have hcz12_6 : w8.cell? ⟨gb296, 6, none⟩ = some (.int .i64 a0_6) := (blk_cell BK296.out 6).trans rfl; have hcz12_7 : w8.cell? ⟨gb296, 7, none⟩ = some (.int .i64 a0_7) := (blk_cell BK296.out 7).trans rfl; have hcz12_8 : w8.cell? ⟨gb296, 8, none⟩ = some (.int .i64 a0_8) := (blk_cell BK296.out 8).trans rfl; have hcz12_9 : w8.cell? ⟨gb296, 9, none⟩ = some (.int .i64 a0_9) := (blk_cell BK296.out 9).trans rfl; have hfz12_0 := blk_frozen BK296.out 0; have hfz12_1 := blk_frozen BK296.out 1; have hfz12_2 := blk_frozen BK296.out 2; have hfz12_3 := blk_frozen BK296.out 3; have hfz12_4 := blk_frozen BK296.out 4; have hfz12_5 := blk_frozen BK296.out 5; have hfz12_6 := blk_frozen BK296.out 6; have hfz12_7 := blk_frozen BK296.out 7; have hfz12_8 := blk_frozen BK296.out 8; have hfz12_9 := blk_frozen BK296.out 9) | ((with_reducible refine gate_callee (f := 22) rfl ?_); refine goesL_ (some 21) rfl rfl Try.func22 (by kernel_rfl) rfl #[.agg #[.int .i64 t297, .int .i64 t298, .int .i64 t299, .slice Ao11 t300.length co11], .agg #[.int .i64 a0_4, .int .i64 a0_5], .int .i64 a0_8, .int .i64 a0_9] rfl (by (try simp only [List.map_toArray, List.map_cons, List.map_nil]); first | done | rfl | (simp only [List.length_drop, List.length_take]; rfl)) ?_; (with_reducible refine (ray_Seen.calls k t297 t298 t299 _ _ t300 a0_4 a0_5 a0_8 a0_9 t304 t307 _ ?side1 ?side2 A3.out).mono ?_); (case side1 => refine (Kd.V_reads' (e := 5) (base := w.heap.size) (ok := fun k_ => (k_ ≠ gb296 ∧ k_ ≠ gb303)) (n := t300.length) (c := co11) ?_).2.2; exact (by (with_reducible repeat (first | apply Kd.V_alloc | apply Kd.V_drewN | apply Kd.V_drew)); exact (Kd.V_mono (Kd.V_far (p := ⟨gb303, 3, none⟩) (Kd.V_far (p := ⟨gb303, 2, none⟩) (Kd.V_far (p := ⟨gb303, 1, none⟩) (Kd.V_far (p := ⟨gb303, 0, none⟩) (Kd.V_mono HO302.out (fun k_ hk => (⟨hk, hk.2⟩ : _ ∧ k_ ≠ gb303))) (fun _ hk => hk.2) (.int .i64 t297)) (fun _ hk => hk.2) (.int .i64 t298)) (fun _ hk => hk.2) (.int .i64 t299)) (fun _ hk => hk.2) (.slice Ao11 t300.length co11)) (fun _ h_ => h_.1)))); (case side2 => exact (Kd.V_reads' HO302.out).2.1); rintro e w13 ⟨v305, rfl, ho0, hb⟩; refine ⟨_, rfl, ?_⟩; have n0_ := Aside0.mk (Kd.V_elder' (by (with_reducible repeat (first | apply Kd.V_alloc | apply Kd.V_drewN | apply Kd.V_drew)); exact (Kd.V_mono (Kd.V_far (p := ⟨gb303, 3, none⟩) (Kd.V_far (p := ⟨gb303, 2, none⟩) (Kd.V_far (p := ⟨gb303, 1, none⟩) (Kd.V_far (p := ⟨gb303, 0, none⟩) (Kd.V_mono HO302.out (fun k_ hk => (⟨hk, hk.2⟩ : _ ∧ k_ ≠ gb303))) (fun _ hk => hk.2) (.int .i64 t297)) (fun _ hk => hk.2) (.int .i64 t298)) (fun _ hk => hk.2) (.int .i64 t299)) (fun _ hk => hk.2) (.slice Ao11 t300.length co11)) (fun _ h_ => h_.1))) (Kd.R_base ho0) hb); have n1_ := Aside0.mk (Kd.R_lower ho0 (below_size (by repeat (first | (with_reducible first | exact HB.out | apply below_alloc | apply pw_below_drewN | apply below_drew1 | refine below_set ?_ GE296.out | refine below_set ?_ GE303.out) | exact HB.out)))); have n2_ := Aside0.mk (blk_below (g := gb296) (o := .cells #[.int .i64 a0_0, .int .i64 a0_1, .int .i64 a0_2, .slice A0_3 l0_3.length c0_3, .int .i64 a0_4, .int .i64 a0_5, .int .i64 a0_6, .int .i64 a0_7, .int .i64 a0_8, .int .i64 a0_9] 26 (0, 0)) (by (with_reducible repeat (first | refine blk_drewN ?_ _ | refine blk_drew ?_ | refine blk_alloc ?_ _)); refine blk_far ?_ NB296_303.out _; (with_reducible repeat (first | refine blk_drewN ?_ _ | refine blk_drew ?_ | refine blk_alloc ?_ _)); refine blk_far ?_ NB296_303.out _; (with_reducible repeat (first | refine blk_drewN ?_ _ | refine blk_drew ?_ | refine blk_alloc ?_ _)); refine blk_far ?_ NB296_303.out _; (with_reducible repeat (first | refine blk_drewN ?_ _ | refine blk_drew ?_ | refine blk_alloc ?_ _)); refine blk_far ?_ NB296_303.out _; (with_reducible repeat (first | refine blk_drewN ?_ _ | refine blk_drew ?_ | refine blk_alloc ?_ _)); exact BK296.out) hb); have n3_ := Aside0.mk (blk_below (g := gb303) (o := .cells #[.int .i64 t297, .int .i64 t298, .int .i64 t299, .slice Ao11 t300.length co11] 24 (0, 0)) (by (with_reducible repeat (first | refine blk_drewN ?_ _ | refine blk_drew ?_ | refine blk_alloc ?_ _)); refine blk_put (cs := #[.int .i64 t297, .int .i64 t298, .int .i64 t299, .slice none 0 0]) ?_ 3 _ rfl; (with_reducible repeat (first | refine blk_drewN ?_ _ | refine blk_drew ?_ | refine blk_alloc ?_ _)); refine blk_put (cs := #[.int .i64 t297, .int .i64 t298, .int .i64 0, .slice none 0 0]) ?_ 2 _ rfl; (with_reducible repeat (first | refine blk_drewN ?_ _ | refine blk_drew ?_ | refine blk_alloc ?_ _)); refine blk_put (cs := #[.int .i64 t297, .int .i64 0, .int .i64 0, .slice none 0 0]) ?_ 1 _ rfl; (with_reducible repeat (first | refine blk_drewN ?_ _ | refine blk_drew ?_ | refine blk_alloc ?_ _)); refine blk_put (cs := #[.int .i64 0, .int .i64 0, .int .i64 0, .slice none 0 0]) ?_ 0 _ rfl; (with_reducible repeat (first | refine blk_drewN ?_ _ | refine blk_drew ?_ | refine blk_alloc ?_ _)); exact BK303.out) hb); have n4_ := Aside0.mk (below_step (by repeat (first | (with_reducible first | exact HB.out | apply below_alloc | apply pw_below_drewN | apply below_drew1 | refine below_set ?_ GE296.out | refine below_set ?_ GE303.out) | exact HB.out)) hb); clear HO302; clear BK296; clear BK303; clear HB; have HO302 := n0_; have HO306 := n1_; have BK296 := n2_; have BK303 := n3_; have HB := n4_; clear n0_ n1_ n2_ n3_ n4_; (try clear hb); (try clear hb2); (try clear hk); (try clear hi); (try clear ho0)))
 (try simp only [Act.put, List.setIfInBounds_toArray, List.set_cons_zero, List.set_cons_succ])
 go_cut [46] (fun v46 wc => ∃ (kq : Nat) (x46_3 : Bool), v46 = .bool x46_3 ∧ Aside0 (bivouaclaw08_RaySeen.j0 kq t304 t307 x46_3 a0_0 a0_1 a0_2 l0_3 a0_4 a0_5 a0_6 a0_7 a0_8 a0_9 t297 t298 t299 t300 = some r) ∧ Aside0 (kq ≤ k) ∧ Aside0 (Kd.R Kd.bool 4 wc w.heap.size (fun _ => True) v305 t304) ∧ Aside0 (Kd.V (Kd.int .u8) 5 wc w.heap.size (fun k_ => some k_ ≠ (v305 : Value).ownBlock ∧ k_ ≠ gb296 ∧ k_ ≠ gb303) (.slice Ao11 t300.length co11) t300) ∧ Aside0 (wc.heap[gb296]? = some (.cells #[.int .i64 a0_0, .int .i64 a0_1, .int .i64 a0_2, (.slice A0_3 l0_3.length c0_3), .int .i64 a0_4, .int .i64 a0_5, .int .i64 a0_6, .int .i64 a0_7, .int .i64 a0_8, .int .i64 a0_9] 26 (0, 0))) ∧ Aside0 (wc.heap[gb303]? = some (.cells #[.int .i64 t297, .int .i64 t298, .int .i64 t299, (.slice Ao11 t300.length co11)] 24 (0, 0))) ∧ Aside0 (Below w.heap.size w wc))
 case first =>
  have H := HC4.out
  clear HC4
  replace H := Option.bind_eq_some_iff.mp H
  obtain ⟨t308, A140, H⟩ := H
  replace H : (if t308 = 0 then (if a0_8 < 0 then (bivouaclaw08_RaySeen.j0 k t304 t307 true a0_0 a0_1 a0_2 l0_3 a0_4 a0_5 a0_6 a0_7 a0_8 a0_9 t297 t298 t299 t300) else (if a0_8 > 255 then (bivouaclaw08_RaySeen.j0 k t304 t307 true a0_0 a0_1 a0_2 l0_3 a0_4 a0_5 a0_6 a0_7 a0_8 a0_9 t297 t298 t299 t300) else (if a0_9 < 0 then (bivouaclaw08_RaySeen.j0 k t304 t307 true a0_0 a0_1 a0_2 l0_3 a0_4 a0_5 a0_6 a0_7 a0_8 a0_9 t297 t298 t299 t300) else (bivouaclaw08_RaySeen.j0 k t304 t307 (decide (a0_9 > 64)) a0_0 a0_1 a0_2 l0_3 a0_4 a0_5 a0_6 a0_7 a0_8 a0_9 t297 t298 t299 t300)))) else (bivouaclaw08_RaySeen.j0 k t304 t307 true a0_0 a0_1 a0_2 l0_3 a0_4 a0_5 a0_6 a0_7 a0_8 a0_9 t297 t298 t299 t300)) = some r := H
  have A14 := Aside0.mk A140
  clear A140
  by_cases c15 : t308 = 0
  ·
   rw [if_pos c15] at H
   have c15b0 : (t308 == 0) = true := beq_iff_eq.mpr c15
   have c15b1 : (t308 != 0) = false := bne_eq_false_iff_eq.mpr c15
   clear c15
   (first | rw [c15b0] | (simp only [i64_w, i32_w]; rw [c15b0]) | skip)
   by_cases c16 : a0_8 < 0
   ·
    rw [if_pos c16] at H
    have c16b0 : decide (a0_8 < 0) = true := decide_eq_true c16
    clear c16
    have H' := Aside0.mk H
    clear H
    have hnb17 := NB303_296.out
    have hnc17 := NB296_303.out
    have hcz18_0 : w13.cell? ⟨gb303, 0, none⟩ = some (.int .i64 t297) := (blk_cell BK303.out 0).trans rfl
    have hcz18_1 : w13.cell? ⟨gb303, 1, none⟩ = some (.int .i64 t298) := (blk_cell BK303.out 1).trans rfl
    have hcz18_2 : w13.cell? ⟨gb303, 2, none⟩ = some (.int .i64 t299) := (blk_cell BK303.out 2).trans rfl
    have hcz18_3 : w13.cell? ⟨gb303, 3, none⟩ = some (.slice Ao11 t300.length co11) := (blk_cell BK303.out 3).trans rfl
    have hfz18_0 := blk_frozen BK303.out 0
    have hfz18_1 := blk_frozen BK303.out 1
    have hfz18_2 := blk_frozen BK303.out 2
    have hfz18_3 := blk_frozen BK303.out 3
    go_wp2_with (first | ((with_reducible refine gate_callee (f := 17) rfl ?_); refine goesL_ (some 25) rfl rfl Try.func17 (by kernel_rfl) rfl #[.agg #[.int .i64 t297, .int .i64 t298, .int .i64 t299, .slice Ao11 t300.length co11]] rfl (by (try simp only [List.map_toArray, List.map_cons, List.map_nil]); first | done | rfl | (simp only [List.length_drop, List.length_take]; rfl)) ?_; (with_reducible refine (bivouacref06_Check.calls k t297 t298 t299 _ _ t300 t308 _ ?side1 ?side2 A14.out).mono ?_); (case side1 => repeat (first | exact (Kd.V_reads' HO302.out).2.2 | (with_reducible refine Kd.C_alloc ?_ _) | (with_reducible refine Kd.C_drewN ?_ _) | (with_reducible refine Kd.C_drew ?_))); (case side2 => exact (Kd.V_reads' HO302.out).2.1); rintro e w19 ⟨rfl, hb⟩; refine ⟨_, rfl, ?_⟩; have n0_ := Aside0.mk (Kd.V_below (by (with_reducible repeat (first | apply Kd.V_alloc | apply Kd.V_drewN | apply Kd.V_drew)); exact HO302.out) hb); have n1_ := Aside0.mk (Kd.R_below (by (with_reducible repeat (first | apply Kd.R_alloc | apply Kd.R_drewN | apply Kd.R_drew)); exact HO306.out) hb); have n2_ := Aside0.mk (blk_below (g := gb296) (o := .cells #[.int .i64 a0_0, .int .i64 a0_1, .int .i64 a0_2, .slice A0_3 l0_3.length c0_3, .int .i64 a0_4, .int .i64 a0_5, .int .i64 a0_6, .int .i64 a0_7, .int .i64 a0_8, .int .i64 a0_9] 26 (0, 0)) (by (with_reducible repeat (first | refine blk_drewN ?_ _ | refine blk_drew ?_ | refine blk_alloc ?_ _)); exact BK296.out) hb); have n3_ := Aside0.mk (blk_below (g := gb303) (o := .cells #[.int .i64 t297, .int .i64 t298, .int .i64 t299, .slice Ao11 t300.length co11] 24 (0, 0)) (by (with_reducible repeat (first | refine blk_drewN ?_ _ | refine blk_drew ?_ | refine blk_alloc ?_ _)); exact BK303.out) hb); have n4_ := Aside0.mk (below_step (by repeat (first | (with_reducible first | exact HB.out | apply below_alloc | apply pw_below_drewN | apply below_drew1 | refine below_set ?_ GE296.out | refine below_set ?_ GE303.out) | exact HB.out)) hb); clear HO302; clear HO306; clear BK296; clear BK303; clear HB; have HO302 := n0_; have HO306 := n1_; have BK296 := n2_; have BK303 := n3_; have HB := n4_; clear n0_ n1_ n2_ n3_ n4_; (try clear hb); (try clear hb2); (try clear hk); (try clear hi); have hcz20_0 : w19.cell? ⟨gb296, 0, none⟩ = some (.int .i64 a0_0) := (blk_cell BK296.out 0).trans rfl; have hcz20_1 : w19.cell? ⟨gb296, 1, none⟩ = some (.int .i64 a0_1) := (blk_cell BK296.out 1).trans rfl; have hcz20_2 : w19.cell? ⟨gb296, 2, none⟩ = some (.int .i64 a0_2) := (blk_cell BK296.out 2).trans rfl; have hcz20_3 : w19.cell? ⟨gb296, 3, none⟩ = some (.slice A0_3 l0_3.length c0_3) := (blk_cell BK296.out 3).trans rfl; have hcz20_4 : w19.cell? ⟨gb296, 4, none⟩ = some (.int .i64 a0_4) := (blk_cell BK296.out 4).trans rfl; have hcz20_5 : w19.cell? ⟨gb296, 5, none⟩ = some (.int .i64 a0_5) := (blk_cell BK296.out 5).trans rfl; have hcz20_6 : w19.cell? ⟨gb296, 6, none⟩ = some (.int .i64 a0_6) := (blk_cell BK296.out 6).trans rfl; have hcz20_7 : w19.cell? ⟨gb296, 7, none⟩ = some (.int .i64 a0_7) := (blk_cell BK296.out 7).trans rfl; have hcz20_8 : w19.cell? ⟨gb296, 8, none⟩ = some (.int .i64 a0_8) := (blk_cell BK296.out 8).trans rfl; have hcz20_9 : w19.cell? ⟨gb296, 9, none⟩ = some (.int .i64 a0_9) := (blk_cell BK296.out 9).trans rfl; have hfz20_0 := blk_frozen BK296.out 0; have hfz20_1 := blk_frozen BK296.out 1; have hfz20_2 := blk_frozen BK296.out 2; have hfz20_3 := blk_frozen BK296.out 3; have hfz20_4 := blk_frozen BK296.out 4; have hfz20_5 := blk_frozen BK296.out 5; have hfz20_6 := blk_frozen BK296.out 6; have hfz20_7 := blk_frozen BK296.out 7; have hfz20_8 := blk_frozen BK296.out 8; have hfz20_9 := blk_frozen BK296.out 9))
    go_meet
    case rel => exact ⟨_, (true), (by first | rfl | (simp; done) | (simp [*]; done)), H', ⟨by first | omega | exact Nat.le_refl _⟩, ⟨by (with_reducible repeat (first | apply Kd.R_alloc | apply Kd.R_drewN | apply Kd.R_drew)); exact HO306.out⟩, ⟨by (with_reducible repeat (first | apply Kd.V_alloc | apply Kd.V_drewN | apply Kd.V_drew)); exact Kd.V_mono HO302.out (fun _ hk => ⟨hk.2, ⟨hk.1.1, hk.1.2⟩⟩)⟩, ⟨by (with_reducible repeat (first | refine blk_drewN ?_ _ | refine blk_drew ?_ | refine blk_alloc ?_ _)); exact BK296.out⟩, ⟨by (with_reducible repeat (first | refine blk_drewN ?_ _ | refine blk_drew ?_ | refine blk_alloc ?_ _)); exact BK303.out⟩, ⟨by repeat (first | (with_reducible first | exact HB.out | apply below_alloc | apply pw_below_drewN | apply below_drew1 | refine below_set ?_ GE296.out | refine below_set ?_ GE303.out) | exact HB.out)⟩⟩
   ·
    rw [if_neg c16] at H
    have c16b0 : decide (a0_8 < 0) = false := decide_eq_false c16
    clear c16
    by_cases c21 : a0_8 > 255
    ·
     rw [if_pos c21] at H
     have c21b0 : decide (255 < a0_8) = true := decide_eq_true c21
     clear c21
     have H' := Aside0.mk H
     clear H
     have hnb22 := NB303_296.out
     have hnc22 := NB296_303.out
     have hcz23_0 : w13.cell? ⟨gb303, 0, none⟩ = some (.int .i64 t297) := (blk_cell BK303.out 0).trans rfl
     have hcz23_1 : w13.cell? ⟨gb303, 1, none⟩ = some (.int .i64 t298) := (blk_cell BK303.out 1).trans rfl
     have hcz23_2 : w13.cell? ⟨gb303, 2, none⟩ = some (.int .i64 t299) := (blk_cell BK303.out 2).trans rfl
     have hcz23_3 : w13.cell? ⟨gb303, 3, none⟩ = some (.slice Ao11 t300.length co11) := (blk_cell BK303.out 3).trans rfl
     have hfz23_0 := blk_frozen BK303.out 0
     have hfz23_1 := blk_frozen BK303.out 1
     have hfz23_2 := blk_frozen BK303.out 2
     have hfz23_3 := blk_frozen BK303.out 3
     go_wp2_with (first | ((with_reducible refine gate_callee (f := 17) rfl ?_); refine goesL_ (some 25) rfl rfl Try.func17 (by kernel_rfl) rfl #[.agg #[.int .i64 t297, .int .i64 t298, .int .i64 t299, .slice Ao11 t300.length co11]] rfl (by (try simp only [List.map_toArray, List.map_cons, List.map_nil]); first | done | rfl | (simp only [List.length_drop, List.length_take]; rfl)) ?_; (with_reducible refine (bivouacref06_Check.calls k t297 t298 t299 _ _ t300 t308 _ ?side1 ?side2 A14.out).mono ?_); (case side1 => repeat (first | exact (Kd.V_reads' HO302.out).2.2 | (with_reducible refine Kd.C_alloc ?_ _) | (with_reducible refine Kd.C_drewN ?_ _) | (with_reducible refine Kd.C_drew ?_))); (case side2 => exact (Kd.V_reads' HO302.out).2.1); rintro e w24 ⟨rfl, hb⟩; refine ⟨_, rfl, ?_⟩; have n0_ := Aside0.mk (Kd.V_below (by (with_reducible repeat (first | apply Kd.V_alloc | apply Kd.V_drewN | apply Kd.V_drew)); exact HO302.out) hb); have n1_ := Aside0.mk (Kd.R_below (by (with_reducible repeat (first | apply Kd.R_alloc | apply Kd.R_drewN | apply Kd.R_drew)); exact HO306.out) hb); have n2_ := Aside0.mk (blk_below (g := gb296) (o := .cells #[.int .i64 a0_0, .int .i64 a0_1, .int .i64 a0_2, .slice A0_3 l0_3.length c0_3, .int .i64 a0_4, .int .i64 a0_5, .int .i64 a0_6, .int .i64 a0_7, .int .i64 a0_8, .int .i64 a0_9] 26 (0, 0)) (by (with_reducible repeat (first | refine blk_drewN ?_ _ | refine blk_drew ?_ | refine blk_alloc ?_ _)); exact BK296.out) hb); have n3_ := Aside0.mk (blk_below (g := gb303) (o := .cells #[.int .i64 t297, .int .i64 t298, .int .i64 t299, .slice Ao11 t300.length co11] 24 (0, 0)) (by (with_reducible repeat (first | refine blk_drewN ?_ _ | refine blk_drew ?_ | refine blk_alloc ?_ _)); exact BK303.out) hb); have n4_ := Aside0.mk (below_step (by repeat (first | (with_reducible first | exact HB.out | apply below_alloc | apply pw_below_drewN | apply below_drew1 | refine below_set ?_ GE296.out | refine below_set ?_ GE303.out) | exact HB.out)) hb); clear HO302; clear HO306; clear BK296; clear BK303; clear HB; have HO302 := n0_; have HO306 := n1_; have BK296 := n2_; have BK303 := n3_; have HB := n4_; clear n0_ n1_ n2_ n3_ n4_; (try clear hb); (try clear hb2); (try clear hk); (try clear hi); have hcz25_0 : w24.cell? ⟨gb296, 0, none⟩ = some (.int .i64 a0_0) := (blk_cell BK296.out 0).trans rfl; have hcz25_1 : w24.cell? ⟨gb296, 1, none⟩ = some (.int .i64 a0_1) := (blk_cell BK296.out 1).trans rfl; have hcz25_2 : w24.cell? ⟨gb296, 2, none⟩ = some (.int .i64 a0_2) := (blk_cell BK296.out 2).trans rfl; have hcz25_3 : w24.cell? ⟨gb296, 3, none⟩ = some (.slice A0_3 l0_3.length c0_3) := (blk_cell BK296.out 3).trans rfl; have hcz25_4 : w24.cell? ⟨gb296, 4, none⟩ = some (.int .i64 a0_4) := (blk_cell BK296.out 4).trans rfl; have hcz25_5 : w24.cell? ⟨gb296, 5, none⟩ = some (.int .i64 a0_5) := (blk_cell BK296.out 5).trans rfl; have hcz25_6 : w24.cell? ⟨gb296, 6, none⟩ = some (.int .i64 a0_6) := (blk_cell BK296.out 6).trans rfl; have hcz25_7 : w24.cell? ⟨gb296, 7, none⟩ = some (.int .i64 a0_7) := (blk_cell BK296.out 7).trans rfl; have hcz25_8 : w24.cell? ⟨gb296, 8, none⟩ = some (.int .i64 a0_8) := (blk_cell BK296.out 8).trans rfl; have hcz25_9 : w24.cell? ⟨gb296, 9, none⟩ = some (.int .i64 a0_9) := (blk_cell BK296.out 9).trans rfl; have hfz25_0 := blk_frozen BK296.out 0; have hfz25_1 := blk_frozen BK296.out 1; have hfz25_2 := blk_frozen BK296.out 2; have hfz25_3 := blk_frozen BK296.out 3; have hfz25_4 := blk_frozen BK296.out 4; have hfz25_5 := blk_frozen BK296.out 5; have hfz25_6 := blk_frozen BK296.out 6; have hfz25_7 := blk_frozen BK296.out 7; have hfz25_8 := blk_frozen BK296.out 8; have hfz25_9 := blk_frozen BK296.out 9))
     go_meet
     case rel => exact ⟨_, (true), (by first | rfl | (simp; done) | (simp [*]; done)), H', ⟨by first | omega | exact Nat.le_refl _⟩, ⟨by (with_reducible repeat (first | apply Kd.R_alloc | apply Kd.R_drewN | apply Kd.R_drew)); exact HO306.out⟩, ⟨by (with_reducible repeat (first | apply Kd.V_alloc | apply Kd.V_drewN | apply Kd.V_drew)); exact Kd.V_mono HO302.out (fun _ hk => ⟨hk.2, ⟨hk.1.1, hk.1.2⟩⟩)⟩, ⟨by (with_reducible repeat (first | refine blk_drewN ?_ _ | refine blk_drew ?_ | refine blk_alloc ?_ _)); exact BK296.out⟩, ⟨by (with_reducible repeat (first | refine blk_drewN ?_ _ | refine blk_drew ?_ | refine blk_alloc ?_ _)); exact BK303.out⟩, ⟨by repeat (first | (with_reducible first | exact HB.out | apply below_alloc | apply pw_below_drewN | apply below_drew1 | refine below_set ?_ GE296.out | refine below_set ?_ GE303.out) | exact HB.out)⟩⟩
    ·
     rw [if_neg c21] at H
     have c21b0 : decide (255 < a0_8) = false := decide_eq_false c21
     clear c21
     by_cases c26 : a0_9 < 0
     ·
      rw [if_pos c26] at H
      have c26b0 : decide (a0_9 < 0) = true := decide_eq_true c26
      clear c26
      have H' := Aside0.mk H
      clear H
      have hnb27 := NB303_296.out
      have hnc27 := NB296_303.out
      have hcz28_0 : w13.cell? ⟨gb303, 0, none⟩ = some (.int .i64 t297) := (blk_cell BK303.out 0).trans rfl
      have hcz28_1 : w13.cell? ⟨gb303, 1, none⟩ = some (.int .i64 t298) := (blk_cell BK303.out 1).trans rfl
      have hcz28_2 : w13.cell? ⟨gb303, 2, none⟩ = some (.int .i64 t299) := (blk_cell BK303.out 2).trans rfl
      have hcz28_3 : w13.cell? ⟨gb303, 3, none⟩ = some (.slice Ao11 t300.length co11) := (blk_cell BK303.out 3).trans rfl
      have hfz28_0 := blk_frozen BK303.out 0
      have hfz28_1 := blk_frozen BK303.out 1
      have hfz28_2 := blk_frozen BK303.out 2
      have hfz28_3 := blk_frozen BK303.out 3
      go_wp2_with (first | ((with_reducible refine gate_callee (f := 17) rfl ?_); refine goesL_ (some 25) rfl rfl Try.func17 (by kernel_rfl) rfl #[.agg #[.int .i64 t297, .int .i64 t298, .int .i64 t299, .slice Ao11 t300.length co11]] rfl (by (try simp only [List.map_toArray, List.map_cons, List.map_nil]); first | done | rfl | (simp only [List.length_drop, List.length_take]; rfl)) ?_; (with_reducible refine (bivouacref06_Check.calls k t297 t298 t299 _ _ t300 t308 _ ?side1 ?side2 A14.out).mono ?_); (case side1 => repeat (first | exact (Kd.V_reads' HO302.out).2.2 | (with_reducible refine Kd.C_alloc ?_ _) | (with_reducible refine Kd.C_drewN ?_ _) | (with_reducible refine Kd.C_drew ?_))); (case side2 => exact (Kd.V_reads' HO302.out).2.1); rintro e w29 ⟨rfl, hb⟩; refine ⟨_, rfl, ?_⟩; have n0_ := Aside0.mk (Kd.V_below (by (with_reducible repeat (first | apply Kd.V_alloc | apply Kd.V_drewN | apply Kd.V_drew)); exact HO302.out) hb); have n1_ := Aside0.mk (Kd.R_below (by (with_reducible repeat (first | apply Kd.R_alloc | apply Kd.R_drewN | apply Kd.R_drew)); exact HO306.out) hb); have n2_ := Aside0.mk (blk_below (g := gb296) (o := .cells #[.int .i64 a0_0, .int .i64 a0_1, .int .i64 a0_2, .slice A0_3 l0_3.length c0_3, .int .i64 a0_4, .int .i64 a0_5, .int .i64 a0_6, .int .i64 a0_7, .int .i64 a0_8, .int .i64 a0_9] 26 (0, 0)) (by (with_reducible repeat (first | refine blk_drewN ?_ _ | refine blk_drew ?_ | refine blk_alloc ?_ _)); exact BK296.out) hb); have n3_ := Aside0.mk (blk_below (g := gb303) (o := .cells #[.int .i64 t297, .int .i64 t298, .int .i64 t299, .slice Ao11 t300.length co11] 24 (0, 0)) (by (with_reducible repeat (first | refine blk_drewN ?_ _ | refine blk_drew ?_ | refine blk_alloc ?_ _)); exact BK303.out) hb); have n4_ := Aside0.mk (below_step (by repeat (first | (with_reducible first | exact HB.out | apply below_alloc | apply pw_below_drewN | apply below_drew1 | refine below_set ?_ GE296.out | refine below_set ?_ GE303.out) | exact HB.out)) hb); clear HO302; clear HO306; clear BK296; clear BK303; clear HB; have HO302 := n0_; have HO306 := n1_; have BK296 := n2_; have BK303 := n3_; have HB := n4_; clear n0_ n1_ n2_ n3_ n4_; (try clear hb); (try clear hb2); (try clear hk); (try clear hi); have hcz30_0 : w29.cell? ⟨gb296, 0, none⟩ = some (.int .i64 a0_0) := (blk_cell BK296.out 0).trans rfl; have hcz30_1 : w29.cell? ⟨gb296, 1, none⟩ = some (.int .i64 a0_1) := (blk_cell BK296.out 1).trans rfl; have hcz30_2 : w29.cell? ⟨gb296, 2, none⟩ = some (.int .i64 a0_2) := (blk_cell BK296.out 2).trans rfl; have hcz30_3 : w29.cell? ⟨gb296, 3, none⟩ = some (.slice A0_3 l0_3.length c0_3) := (blk_cell BK296.out 3).trans rfl; have hcz30_4 : w29.cell? ⟨gb296, 4, none⟩ = some (.int .i64 a0_4) := (blk_cell BK296.out 4).trans rfl; have hcz30_5 : w29.cell? ⟨gb296, 5, none⟩ = some (.int .i64 a0_5) := (blk_cell BK296.out 5).trans rfl; have hcz30_6 : w29.cell? ⟨gb296, 6, none⟩ = some (.int .i64 a0_6) := (blk_cell BK296.out 6).trans rfl; have hcz30_7 : w29.cell? ⟨gb296, 7, none⟩ = some (.int .i64 a0_7) := (blk_cell BK296.out 7).trans rfl; have hcz30_8 : w29.cell? ⟨gb296, 8, none⟩ = some (.int .i64 a0_8) := (blk_cell BK296.out 8).trans rfl; have hcz30_9 : w29.cell? ⟨gb296, 9, none⟩ = some (.int .i64 a0_9) := (blk_cell BK296.out 9).trans rfl; have hfz30_0 := blk_frozen BK296.out 0; have hfz30_1 := blk_frozen BK296.out 1; have hfz30_2 := blk_frozen BK296.out 2; have hfz30_3 := blk_frozen BK296.out 3; have hfz30_4 := blk_frozen BK296.out 4; have hfz30_5 := blk_frozen BK296.out 5; have hfz30_6 := blk_frozen BK296.out 6; have hfz30_7 := blk_frozen BK296.out 7; have hfz30_8 := blk_frozen BK296.out 8; have hfz30_9 := blk_frozen BK296.out 9))
      go_meet
      case rel => exact ⟨_, (true), (by first | rfl | (simp; done) | (simp [*]; done)), H', ⟨by first | omega | exact Nat.le_refl _⟩, ⟨by (with_reducible repeat (first | apply Kd.R_alloc | apply Kd.R_drewN | apply Kd.R_drew)); exact HO306.out⟩, ⟨by (with_reducible repeat (first | apply Kd.V_alloc | apply Kd.V_drewN | apply Kd.V_drew)); exact Kd.V_mono HO302.out (fun _ hk => ⟨hk.2, ⟨hk.1.1, hk.1.2⟩⟩)⟩, ⟨by (with_reducible repeat (first | refine blk_drewN ?_ _ | refine blk_drew ?_ | refine blk_alloc ?_ _)); exact BK296.out⟩, ⟨by (with_reducible repeat (first | refine blk_drewN ?_ _ | refine blk_drew ?_ | refine blk_alloc ?_ _)); exact BK303.out⟩, ⟨by repeat (first | (with_reducible first | exact HB.out | apply below_alloc | apply pw_below_drewN | apply below_drew1 | refine below_set ?_ GE296.out | refine below_set ?_ GE303.out) | exact HB.out)⟩⟩
     ·
      rw [if_neg c26] at H
      have c26b0 : decide (a0_9 < 0) = false := decide_eq_false c26
      clear c26
      have H' := Aside0.mk H
      clear H
      have hnb31 := NB303_296.out
      have hnc31 := NB296_303.out
      have hcz32_0 : w13.cell? ⟨gb303, 0, none⟩ = some (.int .i64 t297) := (blk_cell BK303.out 0).trans rfl
      have hcz32_1 : w13.cell? ⟨gb303, 1, none⟩ = some (.int .i64 t298) := (blk_cell BK303.out 1).trans rfl
      have hcz32_2 : w13.cell? ⟨gb303, 2, none⟩ = some (.int .i64 t299) := (blk_cell BK303.out 2).trans rfl
      have hcz32_3 : w13.cell? ⟨gb303, 3, none⟩ = some (.slice Ao11 t300.length co11) := (blk_cell BK303.out 3).trans rfl
      have hfz32_0 := blk_frozen BK303.out 0
      have hfz32_1 := blk_frozen BK303.out 1
      have hfz32_2 := blk_frozen BK303.out 2
      have hfz32_3 := blk_frozen BK303.out 3
      go_wp2_with (first | ((with_reducible refine gate_callee (f := 17) rfl ?_); refine goesL_ (some 25) rfl rfl Try.func17 (by kernel_rfl) rfl #[.agg #[.int .i64 t297, .int .i64 t298, .int .i64 t299, .slice Ao11 t300.length co11]] rfl (by (try simp only [List.map_toArray, List.map_cons, List.map_nil]); first | done | rfl | (simp only [List.length_drop, List.length_take]; rfl)) ?_; (with_reducible refine (bivouacref06_Check.calls k t297 t298 t299 _ _ t300 t308 _ ?side1 ?side2 A14.out).mono ?_); (case side1 => repeat (first | exact (Kd.V_reads' HO302.out).2.2 | (with_reducible refine Kd.C_alloc ?_ _) | (with_reducible refine Kd.C_drewN ?_ _) | (with_reducible refine Kd.C_drew ?_))); (case side2 => exact (Kd.V_reads' HO302.out).2.1); rintro e w33 ⟨rfl, hb⟩; refine ⟨_, rfl, ?_⟩; have n0_ := Aside0.mk (Kd.V_below (by (with_reducible repeat (first | apply Kd.V_alloc | apply Kd.V_drewN | apply Kd.V_drew)); exact HO302.out) hb); have n1_ := Aside0.mk (Kd.R_below (by (with_reducible repeat (first | apply Kd.R_alloc | apply Kd.R_drewN | apply Kd.R_drew)); exact HO306.out) hb); have n2_ := Aside0.mk (blk_below (g := gb296) (o := .cells #[.int .i64 a0_0, .int .i64 a0_1, .int .i64 a0_2, .slice A0_3 l0_3.length c0_3, .int .i64 a0_4, .int .i64 a0_5, .int .i64 a0_6, .int .i64 a0_7, .int .i64 a0_8, .int .i64 a0_9] 26 (0, 0)) (by (with_reducible repeat (first | refine blk_drewN ?_ _ | refine blk_drew ?_ | refine blk_alloc ?_ _)); exact BK296.out) hb); have n3_ := Aside0.mk (blk_below (g := gb303) (o := .cells #[.int .i64 t297, .int .i64 t298, .int .i64 t299, .slice Ao11 t300.length co11] 24 (0, 0)) (by (with_reducible repeat (first | refine blk_drewN ?_ _ | refine blk_drew ?_ | refine blk_alloc ?_ _)); exact BK303.out) hb); have n4_ := Aside0.mk (below_step (by repeat (first | (with_reducible first | exact HB.out | apply below_alloc | apply pw_below_drewN | apply below_drew1 | refine below_set ?_ GE296.out | refine below_set ?_ GE303.out) | exact HB.out)) hb); clear HO302; clear HO306; clear BK296; clear BK303; clear HB; have HO302 := n0_; have HO306 := n1_; have BK296 := n2_; have BK303 := n3_; have HB := n4_; clear n0_ n1_ n2_ n3_ n4_; (try clear hb); (try clear hb2); (try clear hk); (try clear hi); have hcz34_0 : w33.cell? ⟨gb296, 0, none⟩ = some (.int .i64 a0_0) := (blk_cell BK296.out 0).trans rfl; have hcz34_1 : w33.cell? ⟨gb296, 1, none⟩ = some (.int .i64 a0_1) := (blk_cell BK296.out 1).trans rfl; have hcz34_2 : w33.cell? ⟨gb296, 2, none⟩ = some (.int .i64 a0_2) := (blk_cell BK296.out 2).trans rfl; have hcz34_3 : w33.cell? ⟨gb296, 3, none⟩ = some (.slice A0_3 l0_3.length c0_3) := (blk_cell BK296.out 3).trans rfl; have hcz34_4 : w33.cell? ⟨gb296, 4, none⟩ = some (.int .i64 a0_4) := (blk_cell BK296.out 4).trans rfl; have hcz34_5 : w33.cell? ⟨gb296, 5, none⟩ = some (.int .i64 a0_5) := (blk_cell BK296.out 5).trans rfl; have hcz34_6 : w33.cell? ⟨gb296, 6, none⟩ = some (.int .i64 a0_6) := (blk_cell BK296.out 6).trans rfl; have hcz34_7 : w33.cell? ⟨gb296, 7, none⟩ = some (.int .i64 a0_7) := (blk_cell BK296.out 7).trans rfl; have hcz34_8 : w33.cell? ⟨gb296, 8, none⟩ = some (.int .i64 a0_8) := (blk_cell BK296.out 8).trans rfl; have hcz34_9 : w33.cell? ⟨gb296, 9, none⟩ = some (.int .i64 a0_9) := (blk_cell BK296.out 9).trans rfl; have hfz34_0 := blk_frozen BK296.out 0; have hfz34_1 := blk_frozen BK296.out 1; have hfz34_2 := blk_frozen BK296.out 2; have hfz34_3 := blk_frozen BK296.out 3; have hfz34_4 := blk_frozen BK296.out 4; have hfz34_5 := blk_frozen BK296.out 5; have hfz34_6 := blk_frozen BK296.out 6; have hfz34_7 := blk_frozen BK296.out 7; have hfz34_8 := blk_frozen BK296.out 8; have hfz34_9 := blk_frozen BK296.out 9))
      go_meet
      case rel => exact ⟨_, (decide (a0_9 > 64)), (by first | rfl | (simp; done) | (simp [*]; done)), H', ⟨by first | omega | exact Nat.le_refl _⟩, ⟨by (with_reducible repeat (first | apply Kd.R_alloc | apply Kd.R_drewN | apply Kd.R_drew)); exact HO306.out⟩, ⟨by (with_reducible repeat (first | apply Kd.V_alloc | apply Kd.V_drewN | apply Kd.V_drew)); exact Kd.V_mono HO302.out (fun _ hk => ⟨hk.2, ⟨hk.1.1, hk.1.2⟩⟩)⟩, ⟨by (with_reducible repeat (first | refine blk_drewN ?_ _ | refine blk_drew ?_ | refine blk_alloc ?_ _)); exact BK296.out⟩, ⟨by (with_reducible repeat (first | refine blk_drewN ?_ _ | refine blk_drew ?_ | refine blk_alloc ?_ _)); exact BK303.out⟩, ⟨by repeat (first | (with_reducible first | exact HB.out | apply below_alloc | apply pw_below_drewN | apply below_drew1 | refine below_set ?_ GE296.out | refine below_set ?_ GE303.out) | exact HB.out)⟩⟩
  ·
   rw [if_neg c15] at H
   have c15b0 : (t308 == 0) = false := beq_eq_false_iff_ne.mpr c15
   have c15b1 : (t308 != 0) = true := bne_iff_ne.mpr c15
   (first | rw [c15b0] | (simp only [i64_w, i32_w]; rw [c15b0]) | skip)
   have H' := Aside0.mk H
   clear H
   have hnb35 := NB303_296.out
   have hnc35 := NB296_303.out
   have hcz36_0 : w13.cell? ⟨gb303, 0, none⟩ = some (.int .i64 t297) := (blk_cell BK303.out 0).trans rfl
   have hcz36_1 : w13.cell? ⟨gb303, 1, none⟩ = some (.int .i64 t298) := (blk_cell BK303.out 1).trans rfl
   have hcz36_2 : w13.cell? ⟨gb303, 2, none⟩ = some (.int .i64 t299) := (blk_cell BK303.out 2).trans rfl
   have hcz36_3 : w13.cell? ⟨gb303, 3, none⟩ = some (.slice Ao11 t300.length co11) := (blk_cell BK303.out 3).trans rfl
   have hfz36_0 := blk_frozen BK303.out 0
   have hfz36_1 := blk_frozen BK303.out 1
   have hfz36_2 := blk_frozen BK303.out 2
   have hfz36_3 := blk_frozen BK303.out 3
   go_wp2_with (first | ((with_reducible refine gate_callee (f := 17) rfl ?_); refine goesL_ (some 25) rfl rfl Try.func17 (by kernel_rfl) rfl #[.agg #[.int .i64 t297, .int .i64 t298, .int .i64 t299, .slice Ao11 t300.length co11]] rfl (by (try simp only [List.map_toArray, List.map_cons, List.map_nil]); first | done | rfl | (simp only [List.length_drop, List.length_take]; rfl)) ?_; (with_reducible refine (bivouacref06_Check.calls k t297 t298 t299 _ _ t300 t308 _ ?side1 ?side2 A14.out).mono ?_); (case side1 => repeat (first | exact (Kd.V_reads' HO302.out).2.2 | (with_reducible refine Kd.C_alloc ?_ _) | (with_reducible refine Kd.C_drewN ?_ _) | (with_reducible refine Kd.C_drew ?_))); (case side2 => exact (Kd.V_reads' HO302.out).2.1); rintro e w37 ⟨rfl, hb⟩; refine ⟨_, rfl, ?_⟩; have n0_ := Aside0.mk (Kd.V_below (by (with_reducible repeat (first | apply Kd.V_alloc | apply Kd.V_drewN | apply Kd.V_drew)); exact HO302.out) hb); have n1_ := Aside0.mk (Kd.R_below (by (with_reducible repeat (first | apply Kd.R_alloc | apply Kd.R_drewN | apply Kd.R_drew)); exact HO306.out) hb); have n2_ := Aside0.mk (blk_below (g := gb296) (o := .cells #[.int .i64 a0_0, .int .i64 a0_1, .int .i64 a0_2, .slice A0_3 l0_3.length c0_3, .int .i64 a0_4, .int .i64 a0_5, .int .i64 a0_6, .int .i64 a0_7, .int .i64 a0_8, .int .i64 a0_9] 26 (0, 0)) (by (with_reducible repeat (first | refine blk_drewN ?_ _ | refine blk_drew ?_ | refine blk_alloc ?_ _)); exact BK296.out) hb); have n3_ := Aside0.mk (blk_below (g := gb303) (o := .cells #[.int .i64 t297, .int .i64 t298, .int .i64 t299, .slice Ao11 t300.length co11] 24 (0, 0)) (by (with_reducible repeat (first | refine blk_drewN ?_ _ | refine blk_drew ?_ | refine blk_alloc ?_ _)); exact BK303.out) hb); have n4_ := Aside0.mk (below_step (by repeat (first | (with_reducible first | exact HB.out | apply below_alloc | apply pw_below_drewN | apply below_drew1 | refine below_set ?_ GE296.out | refine below_set ?_ GE303.out) | exact HB.out)) hb); clear HO302; clear HO306; clear BK296; clear BK303; clear HB; have HO302 := n0_; have HO306 := n1_; have BK296 := n2_; have BK303 := n3_; have HB := n4_; clear n0_ n1_ n2_ n3_ n4_; (try clear hb); (try clear hb2); (try clear hk); (try clear hi)))
   go_meet
   case rel => exact ⟨_, (true), (by first | rfl | (simp; done) | (simp [*]; done)), H', ⟨by first | omega | exact Nat.le_refl _⟩, ⟨by (with_reducible repeat (first | apply Kd.R_alloc | apply Kd.R_drewN | apply Kd.R_drew)); exact HO306.out⟩, ⟨by (with_reducible repeat (first | apply Kd.V_alloc | apply Kd.V_drewN | apply Kd.V_drew)); exact Kd.V_mono HO302.out (fun _ hk => ⟨hk.2, ⟨hk.1.1, hk.1.2⟩⟩)⟩, ⟨by (with_reducible repeat (first | refine blk_drewN ?_ _ | refine blk_drew ?_ | refine blk_alloc ?_ _)); exact BK296.out⟩, ⟨by (with_reducible repeat (first | refine blk_drewN ?_ _ | refine blk_drew ?_ | refine blk_alloc ?_ _)); exact BK303.out⟩, ⟨by repeat (first | (with_reducible first | exact HB.out | apply below_alloc | apply pw_below_drewN | apply below_drew1 | refine below_set ?_ GE296.out | refine below_set ?_ GE303.out) | exact HB.out)⟩⟩
 case rest =>
  clear HC4
  try clear c1
  try clear c2
  try clear p2
  try clear c3
  try clear c8
  try clear c9
  try clear c14
  try clear c15
  try clear c15b0
  try clear c15b1
  try clear c16
  try clear c16b0
  try clear c17
  try clear c21
  try clear c21b0
  try clear c22
  try clear c26
  try clear c26b0
  try clear c27
  try clear c31
  try clear c35
  try clear hcz10_0
  try clear hcz10_1
  try clear hcz10_2
  try clear hcz10_3
  try clear hcz12_0
  try clear hcz12_1
  try clear hcz12_2
  try clear hcz12_3
  try clear hcz12_4
  try clear hcz12_5
  try clear hcz12_6
  try clear hcz12_7
  try clear hcz12_8
  try clear hcz12_9
  try clear hcz18_0
  try clear hcz18_1
  try clear hcz18_2
  try clear hcz18_3
  try clear hcz20_0
  try clear hcz20_1
  try clear hcz20_2
  try clear hcz20_3
  try clear hcz20_4
  try clear hcz20_5
  try clear hcz20_6
  try clear hcz20_7
  try clear hcz20_8
  try clear hcz20_9
  try clear hcz23_0
  try clear hcz23_1
  try clear hcz23_2
  try clear hcz23_3
  try clear hcz25_0
  try clear hcz25_1
  try clear hcz25_2
  try clear hcz25_3
  try clear hcz25_4
  try clear hcz25_5
  try clear hcz25_6
  try clear hcz25_7
  try clear hcz25_8
  try clear hcz25_9
  try clear hcz28_0
  try clear hcz28_1
  try clear hcz28_2
  try clear hcz28_3
  try clear hcz30_0
  try clear hcz30_1
  try clear hcz30_2
  try clear hcz30_3
  try clear hcz30_4
  try clear hcz30_5
  try clear hcz30_6
  try clear hcz30_7
  try clear hcz30_8
  try clear hcz30_9
  try clear hcz32_0
  try clear hcz32_1
  try clear hcz32_2
  try clear hcz32_3
  try clear hcz34_0
  try clear hcz34_1
  try clear hcz34_2
  try clear hcz34_3
  try clear hcz34_4
  try clear hcz34_5
  try clear hcz34_6
  try clear hcz34_7
  try clear hcz34_8
  try clear hcz34_9
  try clear hcz36_0
  try clear hcz36_1
  try clear hcz36_2
  try clear hcz36_3
  try clear hcz6_0
  try clear hcz6_1
  try clear hcz6_2
  try clear hcz6_3
  try clear hcz6_4
  try clear hcz6_5
  try clear hcz6_6
  try clear hcz6_7
  try clear hcz6_8
  try clear hcz6_9
  try clear hfz10_0
  try clear hfz10_1
  try clear hfz10_2
  try clear hfz10_3
  try clear hfz12_0
  try clear hfz12_1
  try clear hfz12_2
  try clear hfz12_3
  try clear hfz12_4
  try clear hfz12_5
  try clear hfz12_6
  try clear hfz12_7
  try clear hfz12_8
  try clear hfz12_9
  try clear hfz18_0
  try clear hfz18_1
  try clear hfz18_2
  try clear hfz18_3
  try clear hfz20_0
  try clear hfz20_1
  try clear hfz20_2
  try clear hfz20_3
  try clear hfz20_4
  try clear hfz20_5
  try clear hfz20_6
  try clear hfz20_7
  try clear hfz20_8
  try clear hfz20_9
  try clear hfz23_0
  try clear hfz23_1
  try clear hfz23_2
  try clear hfz23_3
  try clear hfz25_0
  try clear hfz25_1
  try clear hfz25_2
  try clear hfz25_3
  try clear hfz25_4
  try clear hfz25_5
  try clear hfz25_6
  try clear hfz25_7
  try clear hfz25_8
  try clear hfz25_9
  try clear hfz28_0
  try clear hfz28_1
  try clear hfz28_2
  try clear hfz28_3
  try clear hfz30_0
  try clear hfz30_1
  try clear hfz30_2
  try clear hfz30_3
  try clear hfz30_4
  try clear hfz30_5
  try clear hfz30_6
  try clear hfz30_7
  try clear hfz30_8
  try clear hfz30_9
  try clear hfz32_0
  try clear hfz32_1
  try clear hfz32_2
  try clear hfz32_3
  try clear hfz34_0
  try clear hfz34_1
  try clear hfz34_2
  try clear hfz34_3
  try clear hfz34_4
  try clear hfz34_5
  try clear hfz34_6
  try clear hfz34_7
  try clear hfz34_8
  try clear hfz34_9
  try clear hfz36_0
  try clear hfz36_1
  try clear hfz36_2
  try clear hfz36_3
  try clear hfz6_0
  try clear hfz6_1
  try clear hfz6_2
  try clear hfz6_3
  try clear hfz6_4
  try clear hfz6_5
  try clear hfz6_6
  try clear hfz6_7
  try clear hfz6_8
  try clear hfz6_9
  obtain ⟨kq, x46_3, rfl, HA, HJ3, HO_4, HO_304003, BK296, BK303, HB⟩ := hcut
  cases kq with
  | zero => exact absurd HA.out (by simp [bivouaclaw08_RaySeen.j0])
  | succ kj3 =>
   have H := HA.out
   clear HA
   simp only [bivouaclaw08_RaySeen.j0] at H
   by_cases c38 : x46_3 = true
   ·
    subst c38
    have H1 : (if (t304.length : Int) = 0 then (if t307 = 1 then ((bivouaclaw08_awake.f kj3).bind fun t309 => (some t309)) else (some false)) else (some false)) = some r := by rw [if_pos rfl] at H; exact H
    clear H
    have H := H1
    clear H1
    by_cases c39 : (t304.length : Int) = 0
    ·
     rw [if_pos c39] at H
     have c39b0 : ((t304.length : Int) == 0) = true := beq_iff_eq.mpr c39
     have c39b1 : ((t304.length : Int) != 0) = false := bne_eq_false_iff_eq.mpr c39
     clear c39
     by_cases c40 : t307 = 1
     ·
      rw [if_pos c40] at H
      have c40b0 : (t307 == 1) = true := beq_iff_eq.mpr c40
      have c40b1 : (t307 != 1) = false := bne_eq_false_iff_eq.mpr c40
      clear c40
      replace H := Option.bind_eq_some_iff.mp H
      obtain ⟨t309, A410, H⟩ := H
      replace H : (some t309) = some r := H
      have A41 := Aside0.mk A410
      clear A410
      obtain rfl := Option.some.inj H
      obtain ⟨Ao42, co42, eo42⟩ := Kd.R_slice HO_4.out
      subst eo42
      go_wp2_with (first | (go_at_call 11; (with_reducible refine (bivouaclaw08_awake.calls kj3  t309 _ A41.out).mono ?_); rintro e w43 ⟨rfl, hb⟩; have n0_ := Aside0.mk (Kd.R_below (by (with_reducible repeat (first | apply Kd.R_alloc | apply Kd.R_drewN | apply Kd.R_drew)); exact HO_4.out) hb); have n1_ := Aside0.mk (Kd.V_below (by (with_reducible repeat (first | apply Kd.V_alloc | apply Kd.V_drewN | apply Kd.V_drew)); exact HO_304003.out) hb); have n2_ := Aside0.mk (blk_below (g := gb296) (o := .cells #[.int .i64 a0_0, .int .i64 a0_1, .int .i64 a0_2, .slice A0_3 l0_3.length c0_3, .int .i64 a0_4, .int .i64 a0_5, .int .i64 a0_6, .int .i64 a0_7, .int .i64 a0_8, .int .i64 a0_9] 26 (0, 0)) (by (with_reducible repeat (first | refine blk_drewN ?_ _ | refine blk_drew ?_ | refine blk_alloc ?_ _)); exact BK296.out) hb); have n3_ := Aside0.mk (blk_below (g := gb303) (o := .cells #[.int .i64 t297, .int .i64 t298, .int .i64 t299, .slice Ao11 t300.length co11] 24 (0, 0)) (by (with_reducible repeat (first | refine blk_drewN ?_ _ | refine blk_drew ?_ | refine blk_alloc ?_ _)); exact BK303.out) hb); have n4_ := Aside0.mk (below_step (by repeat (first | (with_reducible first | exact HB.out | apply below_alloc | apply pw_below_drewN | apply below_drew1 | refine below_set ?_ GE296.out | refine below_set ?_ GE303.out) | exact HB.out)) hb); clear HO_4; clear HO_304003; clear BK296; clear BK303; clear HB; have HO_4 := n0_; have HO_304003 := n1_; have BK296 := n2_; have BK303 := n3_; have HB := n4_; clear n0_ n1_ n2_ n3_ n4_; (try clear hb); (try clear hb2); (try clear hk); (try clear hi)))
      go_ret
      exact ⟨by first | rfl | (simp [errW_none, errW_some] <;> rfl) | (simp [*, errW_none, errW_some] <;> rfl) | (rw [Int.tdiv_eq_ediv_of_nonneg (by assumption)]; rfl), by repeat (first | (with_reducible first | exact HB.out | apply below_alloc | apply pw_below_drewN | apply below_drew1 | refine below_set ?_ GE296.out | refine below_set ?_ GE303.out) | exact HB.out)⟩
     ·
      rw [if_neg c40] at H
      have c40b0 : (t307 == 1) = false := beq_eq_false_iff_ne.mpr c40
      have c40b1 : (t307 != 1) = true := bne_iff_ne.mpr c40
      obtain rfl := Option.some.inj H
      obtain ⟨Ao44, co44, eo44⟩ := Kd.R_slice HO_4.out
      subst eo44
      go_wp2
      go_ret
      exact ⟨by first | rfl | (simp [errW_none, errW_some] <;> rfl) | (simp [*, errW_none, errW_some] <;> rfl) | (rw [Int.tdiv_eq_ediv_of_nonneg (by assumption)]; rfl), by repeat (first | (with_reducible first | exact HB.out | apply below_alloc | apply pw_below_drewN | apply below_drew1 | refine below_set ?_ GE296.out | refine below_set ?_ GE303.out) | exact HB.out)⟩
    ·
     rw [if_neg c39] at H
     have c39b0 : ((t304.length : Int) == 0) = false := beq_eq_false_iff_ne.mpr c39
     have c39b1 : ((t304.length : Int) != 0) = true := bne_iff_ne.mpr c39
     have c39b2 : ¬ (t304 = []) := fun h_ => c39 (by rw [h_]; rfl)
     obtain rfl := Option.some.inj H
     obtain ⟨Ao45, co45, eo45⟩ := Kd.R_slice HO_4.out
     subst eo45
     go_wp2
     go_ret
     exact ⟨by first | rfl | (simp [errW_none, errW_some] <;> rfl) | (simp [*, errW_none, errW_some] <;> rfl) | (rw [Int.tdiv_eq_ediv_of_nonneg (by assumption)]; rfl), by repeat (first | (with_reducible first | exact HB.out | apply below_alloc | apply pw_below_drewN | apply below_drew1 | refine below_set ?_ GE296.out | refine below_set ?_ GE303.out) | exact HB.out)⟩
   ·
    replace c38 := Bool.eq_false_iff.mpr c38
    subst c38
    have H1 : ((bivouacref08_Is.f t297 t298 t299 t300 a0_4 a0_5).bind fun t310 => (if t310 = true then (if (t304.length : Int) = (wrap64 (t297 * t298)) then (bivouaclaw08_RaySeen.j1 kj3 t304 (t307 != 0) a0_0 a0_1 a0_2 l0_3 a0_4 a0_5 a0_6 a0_7 a0_8 a0_9 t297 t298 t299 t300) else (bivouaclaw08_RaySeen.j1 kj3 t304 true a0_0 a0_1 a0_2 l0_3 a0_4 a0_5 a0_6 a0_7 a0_8 a0_9 t297 t298 t299 t300)) else (if (t304.length : Int) = 0 then (if t307 = 4 then ((bivouaclaw08_awake.f kj3).bind fun t311 => (some t311)) else (some false)) else (some false)))) = some r := by rw [if_neg (show ¬ (false = true) by decide)] at H; exact H
    clear H
    have H := H1
    clear H1
    replace H := Option.bind_eq_some_iff.mp H
    obtain ⟨t310, A460, H⟩ := H
    replace H : (if t310 = true then (if (t304.length : Int) = (wrap64 (t297 * t298)) then (bivouaclaw08_RaySeen.j1 kj3 t304 (t307 != 0) a0_0 a0_1 a0_2 l0_3 a0_4 a0_5 a0_6 a0_7 a0_8 a0_9 t297 t298 t299 t300) else (bivouaclaw08_RaySeen.j1 kj3 t304 true a0_0 a0_1 a0_2 l0_3 a0_4 a0_5 a0_6 a0_7 a0_8 a0_9 t297 t298 t299 t300)) else (if (t304.length : Int) = 0 then (if t307 = 4 then ((bivouaclaw08_awake.f kj3).bind fun t311 => (some t311)) else (some false)) else (some false))) = some r := H
    have A46 := Aside0.mk A460
    clear A460
    by_cases c47 : t310 = true
    ·
     subst c47
     have H1 : (if (t304.length : Int) = (wrap64 (t297 * t298)) then (bivouaclaw08_RaySeen.j1 kj3 t304 (t307 != 0) a0_0 a0_1 a0_2 l0_3 a0_4 a0_5 a0_6 a0_7 a0_8 a0_9 t297 t298 t299 t300) else (bivouaclaw08_RaySeen.j1 kj3 t304 true a0_0 a0_1 a0_2 l0_3 a0_4 a0_5 a0_6 a0_7 a0_8 a0_9 t297 t298 t299 t300)) = some r := by rw [if_pos rfl] at H; exact H
     clear H
     have H := H1
     clear H1
     have HC48 := Aside0.mk H
     clear H
     have hnb49 := NB303_296.out
     have hnc49 := NB296_303.out
     have hcz50_0 : wc.cell? ⟨gb303, 0, none⟩ = some (.int .i64 t297) := (blk_cell BK303.out 0).trans rfl
     have hcz50_1 : wc.cell? ⟨gb303, 1, none⟩ = some (.int .i64 t298) := (blk_cell BK303.out 1).trans rfl
     have hcz50_2 : wc.cell? ⟨gb303, 2, none⟩ = some (.int .i64 t299) := (blk_cell BK303.out 2).trans rfl
     have hcz50_3 : wc.cell? ⟨gb303, 3, none⟩ = some (.slice Ao11 t300.length co11) := (blk_cell BK303.out 3).trans rfl
     have hfz50_0 := blk_frozen BK303.out 0
     have hfz50_1 := blk_frozen BK303.out 1
     have hfz50_2 := blk_frozen BK303.out 2
     have hfz50_3 := blk_frozen BK303.out 3
     have hcz51_0 : wc.cell? ⟨gb296, 0, none⟩ = some (.int .i64 a0_0) := (blk_cell BK296.out 0).trans rfl
     have hcz51_1 : wc.cell? ⟨gb296, 1, none⟩ = some (.int .i64 a0_1) := (blk_cell BK296.out 1).trans rfl
     have hcz51_2 : wc.cell? ⟨gb296, 2, none⟩ = some (.int .i64 a0_2) := (blk_cell BK296.out 2).trans rfl
     have hcz51_3 : wc.cell? ⟨gb296, 3, none⟩ = some (.slice A0_3 l0_3.length c0_3) := (blk_cell BK296.out 3).trans rfl
     have hcz51_4 : wc.cell? ⟨gb296, 4, none⟩ = some (.int .i64 a0_4) := (blk_cell BK296.out 4).trans rfl
     have hcz51_5 : wc.cell? ⟨gb296, 5, none⟩ = some (.int .i64 a0_5) := (blk_cell BK296.out 5).trans rfl
     have hcz51_6 : wc.cell? ⟨gb296, 6, none⟩ = some (.int .i64 a0_6) := (blk_cell BK296.out 6).trans rfl
     have hcz51_7 : wc.cell? ⟨gb296, 7, none⟩ = some (.int .i64 a0_7) := (blk_cell BK296.out 7).trans rfl
     have hcz51_8 : wc.cell? ⟨gb296, 8, none⟩ = some (.int .i64 a0_8) := (blk_cell BK296.out 8).trans rfl
     have hcz51_9 : wc.cell? ⟨gb296, 9, none⟩ = some (.int .i64 a0_9) := (blk_cell BK296.out 9).trans rfl
     have hfz51_0 := blk_frozen BK296.out 0
     have hfz51_1 := blk_frozen BK296.out 1
     have hfz51_2 := blk_frozen BK296.out 2
     have hfz51_3 := blk_frozen BK296.out 3
     have hfz51_4 := blk_frozen BK296.out 4
     have hfz51_5 := blk_frozen BK296.out 5
     have hfz51_6 := blk_frozen BK296.out 6
     have hfz51_7 := blk_frozen BK296.out 7
     have hfz51_8 := blk_frozen BK296.out 8
     have hfz51_9 := blk_frozen BK296.out 9
     go_upto_region 7 with (first | ((with_reducible refine gate_callee (f := 18) rfl ?_); refine goesL_ (some 62) rfl rfl Try.func18 (by kernel_rfl) rfl #[.agg #[.int .i64 t297, .int .i64 t298, .int .i64 t299, .slice Ao11 t300.length co11], .int .i64 a0_4, .int .i64 a0_5] rfl (by (try simp only [List.map_toArray, List.map_cons, List.map_nil]); first | done | rfl | (simp only [List.length_drop, List.length_take]; rfl)) ?_; (with_reducible refine (bivouacref08_Is.calls t297 t298 t299 _ _ t300 a0_4 a0_5 true _ ?side1 ?side2 A46.out).mono ?_); (case side1 => repeat (first | exact (Kd.V_reads' HO_304003.out).2.2 | (with_reducible refine Kd.C_alloc ?_ _) | (with_reducible refine Kd.C_drewN ?_ _) | (with_reducible refine Kd.C_drew ?_))); (case side2 => exact (Kd.V_reads' HO_304003.out).2.1); rintro e w52 ⟨rfl, hb⟩; refine ⟨_, rfl, ?_⟩; have n0_ := Aside0.mk (Kd.R_below (by (with_reducible repeat (first | apply Kd.R_alloc | apply Kd.R_drewN | apply Kd.R_drew)); exact HO_4.out) hb); have n1_ := Aside0.mk (Kd.V_below (by (with_reducible repeat (first | apply Kd.V_alloc | apply Kd.V_drewN | apply Kd.V_drew)); exact HO_304003.out) hb); have n2_ := Aside0.mk (blk_below (g := gb296) (o := .cells #[.int .i64 a0_0, .int .i64 a0_1, .int .i64 a0_2, .slice A0_3 l0_3.length c0_3, .int .i64 a0_4, .int .i64 a0_5, .int .i64 a0_6, .int .i64 a0_7, .int .i64 a0_8, .int .i64 a0_9] 26 (0, 0)) (by (with_reducible repeat (first | refine blk_drewN ?_ _ | refine blk_drew ?_ | refine blk_alloc ?_ _)); exact BK296.out) hb); have n3_ := Aside0.mk (blk_below (g := gb303) (o := .cells #[.int .i64 t297, .int .i64 t298, .int .i64 t299, .slice Ao11 t300.length co11] 24 (0, 0)) (by (with_reducible repeat (first | refine blk_drewN ?_ _ | refine blk_drew ?_ | refine blk_alloc ?_ _)); exact BK303.out) hb); have n4_ := Aside0.mk (below_step (by repeat (first | (with_reducible first | exact HB.out | apply below_alloc | apply pw_below_drewN | apply below_drew1 | refine below_set ?_ GE296.out | refine below_set ?_ GE303.out) | exact HB.out)) hb); clear HO_4; clear HO_304003; clear BK296; clear BK303; clear HB; have HO_4 := n0_; have HO_304003 := n1_; have BK296 := n2_; have BK303 := n3_; have HB := n4_; clear n0_ n1_ n2_ n3_ n4_; (try clear hb); (try clear hb2); (try clear hk); (try clear hi)))
     (try simp only [Act.put, List.setIfInBounds_toArray, List.set_cons_zero, List.set_cons_succ])
     go_cut [85] (fun v85 wc => ∃ (kq : Nat) (x85_47 : Bool), v85 = .bool x85_47 ∧ Aside0 (bivouaclaw08_RaySeen.j1 kq t304 x85_47 a0_0 a0_1 a0_2 l0_3 a0_4 a0_5 a0_6 a0_7 a0_8 a0_9 t297 t298 t299 t300 = some r) ∧ Aside0 (kq ≤ kj3) ∧ Aside0 (Kd.R Kd.bool 4 wc w.heap.size (fun _ => True) v305 t304) ∧ Aside0 (Kd.V (Kd.int .u8) 5 wc w.heap.size (fun k_ => some k_ ≠ (v305 : Value).ownBlock ∧ k_ ≠ gb296 ∧ k_ ≠ gb303) (.slice Ao11 t300.length co11) t300) ∧ Aside0 (wc.heap[gb296]? = some (.cells #[.int .i64 a0_0, .int .i64 a0_1, .int .i64 a0_2, (.slice A0_3 l0_3.length c0_3), .int .i64 a0_4, .int .i64 a0_5, .int .i64 a0_6, .int .i64 a0_7, .int .i64 a0_8, .int .i64 a0_9] 26 (0, 0))) ∧ Aside0 (wc.heap[gb303]? = some (.cells #[.int .i64 t297, .int .i64 t298, .int .i64 t299, (.slice Ao11 t300.length co11)] 24 (0, 0))) ∧ Aside0 (Below w.heap.size w wc))
     case first =>
      have H := HC48.out
      clear HC48
      by_cases c53 : (t304.length : Int) = (wrap64 (t297 * t298))
      ·
       rw [if_pos c53] at H
       have c53b0 : ((t304.length : Int) == (wrap64 (t297 * t298))) = true := beq_iff_eq.mpr c53
       have c53b1 : ((t304.length : Int) != (wrap64 (t297 * t298))) = false := bne_eq_false_iff_eq.mpr c53
       clear c53
       (first | rw [c53b0] | (simp only [i64_w, i32_w]; rw [c53b0]) | skip)
       have H' := Aside0.mk H
       clear H
       obtain ⟨Ao54, co54, eo54⟩ := Kd.R_slice HO_4.out
       subst eo54
       have hnb55 := NB303_296.out
       have hnc55 := NB296_303.out
       have hcz56_0 : w52.cell? ⟨gb303, 0, none⟩ = some (.int .i64 t297) := (blk_cell BK303.out 0).trans rfl
       have hcz56_1 : w52.cell? ⟨gb303, 1, none⟩ = some (.int .i64 t298) := (blk_cell BK303.out 1).trans rfl
       have hcz56_2 : w52.cell? ⟨gb303, 2, none⟩ = some (.int .i64 t299) := (blk_cell BK303.out 2).trans rfl
       have hcz56_3 : w52.cell? ⟨gb303, 3, none⟩ = some (.slice Ao11 t300.length co11) := (blk_cell BK303.out 3).trans rfl
       have hfz56_0 := blk_frozen BK303.out 0
       have hfz56_1 := blk_frozen BK303.out 1
       have hfz56_2 := blk_frozen BK303.out 2
       have hfz56_3 := blk_frozen BK303.out 3
       go_wp2
       go_meet
       case rel => exact ⟨_, ((t307 != 0)), (by first | rfl | (simp; done) | (simp [*]; done)), H', ⟨by have := HJ3.out; first | omega | exact Nat.le_refl _⟩, ⟨by (with_reducible repeat (first | apply Kd.R_alloc | apply Kd.R_drewN | apply Kd.R_drew)); exact HO_4.out⟩, ⟨by (with_reducible repeat (first | apply Kd.V_alloc | apply Kd.V_drewN | apply Kd.V_drew)); exact HO_304003.out⟩, ⟨by (with_reducible repeat (first | refine blk_drewN ?_ _ | refine blk_drew ?_ | refine blk_alloc ?_ _)); exact BK296.out⟩, ⟨by (with_reducible repeat (first | refine blk_drewN ?_ _ | refine blk_drew ?_ | refine blk_alloc ?_ _)); exact BK303.out⟩, ⟨by repeat (first | (with_reducible first | exact HB.out | apply below_alloc | apply pw_below_drewN | apply below_drew1 | refine below_set ?_ GE296.out | refine below_set ?_ GE303.out) | exact HB.out)⟩⟩
      ·
       rw [if_neg c53] at H
       have c53b0 : ((t304.length : Int) == (wrap64 (t297 * t298))) = false := beq_eq_false_iff_ne.mpr c53
       have c53b1 : ((t304.length : Int) != (wrap64 (t297 * t298))) = true := bne_iff_ne.mpr c53
       (first | rw [c53b0] | (simp only [i64_w, i32_w]; rw [c53b0]) | skip)
       have H' := Aside0.mk H
       clear H
       obtain ⟨Ao57, co57, eo57⟩ := Kd.R_slice HO_4.out
       subst eo57
       have hnb58 := NB303_296.out
       have hnc58 := NB296_303.out
       have hcz59_0 : w52.cell? ⟨gb303, 0, none⟩ = some (.int .i64 t297) := (blk_cell BK303.out 0).trans rfl
       have hcz59_1 : w52.cell? ⟨gb303, 1, none⟩ = some (.int .i64 t298) := (blk_cell BK303.out 1).trans rfl
       have hcz59_2 : w52.cell? ⟨gb303, 2, none⟩ = some (.int .i64 t299) := (blk_cell BK303.out 2).trans rfl
       have hcz59_3 : w52.cell? ⟨gb303, 3, none⟩ = some (.slice Ao11 t300.length co11) := (blk_cell BK303.out 3).trans rfl
       have hfz59_0 := blk_frozen BK303.out 0
       have hfz59_1 := blk_frozen BK303.out 1
       have hfz59_2 := blk_frozen BK303.out 2
       have hfz59_3 := blk_frozen BK303.out 3
       go_wp2
       go_meet
       case rel => exact ⟨_, (true), (by first | rfl | (simp; done) | (simp [*]; done)), H', ⟨by have := HJ3.out; first | omega | exact Nat.le_refl _⟩, ⟨by (with_reducible repeat (first | apply Kd.R_alloc | apply Kd.R_drewN | apply Kd.R_drew)); exact HO_4.out⟩, ⟨by (with_reducible repeat (first | apply Kd.V_alloc | apply Kd.V_drewN | apply Kd.V_drew)); exact HO_304003.out⟩, ⟨by (with_reducible repeat (first | refine blk_drewN ?_ _ | refine blk_drew ?_ | refine blk_alloc ?_ _)); exact BK296.out⟩, ⟨by (with_reducible repeat (first | refine blk_drewN ?_ _ | refine blk_drew ?_ | refine blk_alloc ?_ _)); exact BK303.out⟩, ⟨by repeat (first | (with_reducible first | exact HB.out | apply below_alloc | apply pw_below_drewN | apply below_drew1 | refine below_set ?_ GE296.out | refine below_set ?_ GE303.out) | exact HB.out)⟩⟩
     case rest =>
      clear HC48
      try clear c1
      try clear c2
      try clear p2
      try clear c3
      try clear c4
      try clear c5
      try clear p6
      try clear c8
      try clear c9
      try clear c14
      try clear c15
      try clear c15b0
      try clear c15b1
      try clear c16
      try clear c16b0
      try clear c17
      try clear c18
      try clear c21
      try clear c21b0
      try clear c22
      try clear c26
      try clear c26b0
      try clear c27
      try clear c31
      try clear c35
      try clear c38
      try clear c39
      try clear c39b0
      try clear c39b1
      try clear c39b2
      try clear c40
      try clear c40b0
      try clear c40b1
      try clear c47
      try clear c49
      try clear c53
      try clear c53b0
      try clear c53b1
      try clear c55
      try clear c58
      try clear hcz10_0
      try clear hcz10_1
      try clear hcz10_2
      try clear hcz10_3
      try clear hcz12_0
      try clear hcz12_1
      try clear hcz12_2
      try clear hcz12_3
      try clear hcz12_4
      try clear hcz12_5
      try clear hcz12_6
      try clear hcz12_7
      try clear hcz12_8
      try clear hcz12_9
      try clear hcz18_0
      try clear hcz18_1
      try clear hcz18_2
      try clear hcz18_3
      try clear hcz20_0
      try clear hcz20_1
      try clear hcz20_2
      try clear hcz20_3
      try clear hcz20_4
      try clear hcz20_5
      try clear hcz20_6
      try clear hcz20_7
      try clear hcz20_8
      try clear hcz20_9
      try clear hcz23_0
      try clear hcz23_1
      try clear hcz23_2
      try clear hcz23_3
      try clear hcz25_0
      try clear hcz25_1
      try clear hcz25_2
      try clear hcz25_3
      try clear hcz25_4
      try clear hcz25_5
      try clear hcz25_6
      try clear hcz25_7
      try clear hcz25_8
      try clear hcz25_9
      try clear hcz28_0
      try clear hcz28_1
      try clear hcz28_2
      try clear hcz28_3
      try clear hcz30_0
      try clear hcz30_1
      try clear hcz30_2
      try clear hcz30_3
      try clear hcz30_4
      try clear hcz30_5
      try clear hcz30_6
      try clear hcz30_7
      try clear hcz30_8
      try clear hcz30_9
      try clear hcz32_0
      try clear hcz32_1
      try clear hcz32_2
      try clear hcz32_3
      try clear hcz34_0
      try clear hcz34_1
      try clear hcz34_2
      try clear hcz34_3
      try clear hcz34_4
      try clear hcz34_5
      try clear hcz34_6
      try clear hcz34_7
      try clear hcz34_8
      try clear hcz34_9
      try clear hcz36_0
      try clear hcz36_1
      try clear hcz36_2
      try clear hcz36_3
      try clear hcz50_0
      try clear hcz50_1
      try clear hcz50_2
      try clear hcz50_3
      try clear hcz51_0
      try clear hcz51_1
      try clear hcz51_2
      try clear hcz51_3
      try clear hcz51_4
      try clear hcz51_5
      try clear hcz51_6
      try clear hcz51_7
      try clear hcz51_8
      try clear hcz51_9
      try clear hcz56_0
      try clear hcz56_1
      try clear hcz56_2
      try clear hcz56_3
      try clear hcz59_0
      try clear hcz59_1
      try clear hcz59_2
      try clear hcz59_3
      try clear hcz6_0
      try clear hcz6_1
      try clear hcz6_2
      try clear hcz6_3
      try clear hcz6_4
      try clear hcz6_5
      try clear hcz6_6
      try clear hcz6_7
      try clear hcz6_8
      try clear hcz6_9
      try clear hfz10_0
      try clear hfz10_1
      try clear hfz10_2
      try clear hfz10_3
      try clear hfz12_0
      try clear hfz12_1
      try clear hfz12_2
      try clear hfz12_3
      try clear hfz12_4
      try clear hfz12_5
      try clear hfz12_6
      try clear hfz12_7
      try clear hfz12_8
      try clear hfz12_9
      try clear hfz18_0
      try clear hfz18_1
      try clear hfz18_2
      try clear hfz18_3
      try clear hfz20_0
      try clear hfz20_1
      try clear hfz20_2
      try clear hfz20_3
      try clear hfz20_4
      try clear hfz20_5
      try clear hfz20_6
      try clear hfz20_7
      try clear hfz20_8
      try clear hfz20_9
      try clear hfz23_0
      try clear hfz23_1
      try clear hfz23_2
      try clear hfz23_3
      try clear hfz25_0
      try clear hfz25_1
      try clear hfz25_2
      try clear hfz25_3
      try clear hfz25_4
      try clear hfz25_5
      try clear hfz25_6
      try clear hfz25_7
      try clear hfz25_8
      try clear hfz25_9
      try clear hfz28_0
      try clear hfz28_1
      try clear hfz28_2
      try clear hfz28_3
      try clear hfz30_0
      try clear hfz30_1
      try clear hfz30_2
      try clear hfz30_3
      try clear hfz30_4
      try clear hfz30_5
      try clear hfz30_6
      try clear hfz30_7
      try clear hfz30_8
      try clear hfz30_9
      try clear hfz32_0
      try clear hfz32_1
      try clear hfz32_2
      try clear hfz32_3
      try clear hfz34_0
      try clear hfz34_1
      try clear hfz34_2
      try clear hfz34_3
      try clear hfz34_4
      try clear hfz34_5
      try clear hfz34_6
      try clear hfz34_7
      try clear hfz34_8
      try clear hfz34_9
      try clear hfz36_0
      try clear hfz36_1
      try clear hfz36_2
      try clear hfz36_3
      try clear hfz50_0
      try clear hfz50_1
      try clear hfz50_2
      try clear hfz50_3
      try clear hfz51_0
      try clear hfz51_1
      try clear hfz51_2
      try clear hfz51_3
      try clear hfz51_4
      try clear hfz51_5
      try clear hfz51_6
      try clear hfz51_7
      try clear hfz51_8
      try clear hfz51_9
      try clear hfz56_0
      try clear hfz56_1
      try clear hfz56_2
      try clear hfz56_3
      try clear hfz59_0
      try clear hfz59_1
      try clear hfz59_2
      try clear hfz59_3
      try clear hfz6_0
      try clear hfz6_1
      try clear hfz6_2
      try clear hfz6_3
      try clear hfz6_4
      try clear hfz6_5
      try clear hfz6_6
      try clear hfz6_7
      try clear hfz6_8
      try clear hfz6_9
      try clear p2
      obtain ⟨kq, x85_47, rfl, HA, HJ47, HO_4, HO_304003, BK296, BK303, HB⟩ := hcut
      cases kq with
      | zero => exact absurd HA.out (by simp [bivouaclaw08_RaySeen.j1])
      | succ kj47 =>
       have H := HA.out
       clear HA
       simp only [bivouaclaw08_RaySeen.j1] at H
       by_cases c60 : x85_47 = true
       ·
        subst c60
        have H1 : (some false) = some r := by rw [if_pos rfl] at H; exact H
        clear H
        have H := H1
        clear H1
        obtain rfl := Option.some.inj H
        go_wp2
        go_ret
        exact ⟨by first | rfl | (simp [errW_none, errW_some] <;> rfl) | (simp [*, errW_none, errW_some] <;> rfl) | (rw [Int.tdiv_eq_ediv_of_nonneg (by assumption)]; rfl), by repeat (first | (with_reducible first | exact HB.out | apply below_alloc | apply pw_below_drewN | apply below_drew1 | refine below_set ?_ GE296.out | refine below_set ?_ GE303.out) | exact HB.out)⟩
       ·
        replace c60 := Bool.eq_false_iff.mpr c60
        subst c60
        have H1 : (bivouaclaw08_RaySeen.l0 kj47 t304 0 a0_0 a0_1 a0_2 l0_3 a0_4 a0_5 a0_6 a0_7 a0_8 a0_9 t297 t298 t299 t300) = some r := by rw [if_neg (show ¬ (false = true) by decide)] at H; exact H
        clear H
        have H := H1
        clear H1
        have H' := Aside0.mk H
        clear H
        go_wp2
        go_loopg [6] kj47 (fun kq v6 w' => ∃ (x6_3 : Int), v6 = .int .i64 x6_3 ∧ Aside0 (bivouaclaw08_RaySeen.l0 kq t304 x6_3 a0_0 a0_1 a0_2 l0_3 a0_4 a0_5 a0_6 a0_7 a0_8 a0_9 t297 t298 t299 t300 = some r) ∧ Aside0 (kq ≤ kj47) ∧ Aside0 (Kd.R Kd.bool 4 w' w.heap.size (fun _ => True) v305 t304) ∧ Aside0 (Kd.V (Kd.int .u8) 5 w' w.heap.size (fun k_ => some k_ ≠ (v305 : Value).ownBlock ∧ k_ ≠ gb296 ∧ k_ ≠ gb303) (.slice Ao11 t300.length co11) t300) ∧ Aside0 (w'.heap[gb296]? = some (.cells #[.int .i64 a0_0, .int .i64 a0_1, .int .i64 a0_2, (.slice A0_3 l0_3.length c0_3), .int .i64 a0_4, .int .i64 a0_5, .int .i64 a0_6, .int .i64 a0_7, .int .i64 a0_8, .int .i64 a0_9] 26 (0, 0))) ∧ Aside0 (w'.heap[gb303]? = some (.cells #[.int .i64 t297, .int .i64 t298, .int .i64 t299, (.slice Ao11 t300.length co11)] 24 (0, 0))) ∧ Aside0 (Below w.heap.size w w'))
        case atStart => exact ⟨(0), (by first | rfl | (simp; done) | (simp [*]; done)), H', ⟨Nat.le_refl _⟩, ⟨by (with_reducible repeat (first | apply Kd.R_alloc | apply Kd.R_drewN | apply Kd.R_drew)); exact HO_4.out⟩, ⟨by (with_reducible repeat (first | apply Kd.V_alloc | apply Kd.V_drewN | apply Kd.V_drew)); exact HO_304003.out⟩, ⟨by (with_reducible repeat (first | refine blk_drewN ?_ _ | refine blk_drew ?_ | refine blk_alloc ?_ _)); exact BK296.out⟩, ⟨by (with_reducible repeat (first | refine blk_drewN ?_ _ | refine blk_drew ?_ | refine blk_alloc ?_ _)); exact BK303.out⟩, ⟨by repeat (first | (with_reducible first | exact HB.out | apply below_alloc | apply pw_below_drewN | apply below_drew1 | refine below_set ?_ GE296.out | refine below_set ?_ GE303.out) | exact HB.out)⟩⟩
        case round =>
         clear H'
         try clear c1
         try clear c2
         try clear p2
         try clear c3
         try clear c4
         try clear c5
         try clear c6
         try clear p6
         try clear c8
         try clear c9
         try clear c14
         try clear c15
         try clear c15b0
         try clear c15b1
         try clear c16
         try clear c16b0
         try clear c17
         try clear c18
         try clear c21
         try clear c21b0
         try clear c22
         try clear c26
         try clear c26b0
         try clear c27
         try clear c31
         try clear c35
         try clear c38
         try clear c39
         try clear c39b0
         try clear c39b1
         try clear c39b2
         try clear c40
         try clear c40b0
         try clear c40b1
         try clear c47
         try clear c49
         try clear c53
         try clear c53b0
         try clear c53b1
         try clear c55
         try clear c58
         try clear c60
         try clear hcz10_0
         try clear hcz10_1
         try clear hcz10_2
         try clear hcz10_3
         try clear hcz12_0
         try clear hcz12_1
         try clear hcz12_2
         try clear hcz12_3
         try clear hcz12_4
         try clear hcz12_5
         try clear hcz12_6
         try clear hcz12_7
         try clear hcz12_8
         try clear hcz12_9
         try clear hcz18_0
         try clear hcz18_1
         try clear hcz18_2
         try clear hcz18_3
         try clear hcz20_0
         try clear hcz20_1
         try clear hcz20_2
         try clear hcz20_3
         try clear hcz20_4
         try clear hcz20_5
         try clear hcz20_6
         try clear hcz20_7
         try clear hcz20_8
         try clear hcz20_9
         try clear hcz23_0
         try clear hcz23_1
         try clear hcz23_2
         try clear hcz23_3
         try clear hcz25_0
         try clear hcz25_1
         try clear hcz25_2
         try clear hcz25_3
         try clear hcz25_4
         try clear hcz25_5
         try clear hcz25_6
         try clear hcz25_7
         try clear hcz25_8
         try clear hcz25_9
         try clear hcz28_0
         try clear hcz28_1
         try clear hcz28_2
         try clear hcz28_3
         try clear hcz30_0
         try clear hcz30_1
         try clear hcz30_2
         try clear hcz30_3
         try clear hcz30_4
         try clear hcz30_5
         try clear hcz30_6
         try clear hcz30_7
         try clear hcz30_8
         try clear hcz30_9
         try clear hcz32_0
         try clear hcz32_1
         try clear hcz32_2
         try clear hcz32_3
         try clear hcz34_0
         try clear hcz34_1
         try clear hcz34_2
         try clear hcz34_3
         try clear hcz34_4
         try clear hcz34_5
         try clear hcz34_6
         try clear hcz34_7
         try clear hcz34_8
         try clear hcz34_9
         try clear hcz36_0
         try clear hcz36_1
         try clear hcz36_2
         try clear hcz36_3
         try clear hcz50_0
         try clear hcz50_1
         try clear hcz50_2
         try clear hcz50_3
         try clear hcz51_0
         try clear hcz51_1
         try clear hcz51_2
         try clear hcz51_3
         try clear hcz51_4
         try clear hcz51_5
         try clear hcz51_6
         try clear hcz51_7
         try clear hcz51_8
         try clear hcz51_9
         try clear hcz56_0
         try clear hcz56_1
         try clear hcz56_2
         try clear hcz56_3
         try clear hcz59_0
         try clear hcz59_1
         try clear hcz59_2
         try clear hcz59_3
         try clear hcz6_0
         try clear hcz6_1
         try clear hcz6_2
         try clear hcz6_3
         try clear hcz6_4
         try clear hcz6_5
         try clear hcz6_6
         try clear hcz6_7
         try clear hcz6_8
         try clear hcz6_9
         try clear hfz10_0
         try clear hfz10_1
         try clear hfz10_2
         try clear hfz10_3
         try clear hfz12_0
         try clear hfz12_1
         try clear hfz12_2
         try clear hfz12_3
         try clear hfz12_4
         try clear hfz12_5
         try clear hfz12_6
         try clear hfz12_7
         try clear hfz12_8
         try clear hfz12_9
         try clear hfz18_0
         try clear hfz18_1
         try clear hfz18_2
         try clear hfz18_3
         try clear hfz20_0
         try clear hfz20_1
         try clear hfz20_2
         try clear hfz20_3
         try clear hfz20_4
         try clear hfz20_5
         try clear hfz20_6
         try clear hfz20_7
         try clear hfz20_8
         try clear hfz20_9
         try clear hfz23_0
         try clear hfz23_1
         try clear hfz23_2
         try clear hfz23_3
         try clear hfz25_0
         try clear hfz25_1
         try clear hfz25_2
         try clear hfz25_3
         try clear hfz25_4
         try clear hfz25_5
         try clear hfz25_6
         try clear hfz25_7
         try clear hfz25_8
         try clear hfz25_9
         try clear hfz28_0
         try clear hfz28_1
         try clear hfz28_2
         try clear hfz28_3
         try clear hfz30_0
         try clear hfz30_1
         try clear hfz30_2
         try clear hfz30_3
         try clear hfz30_4
         try clear hfz30_5
         try clear hfz30_6
         try clear hfz30_7
         try clear hfz30_8
         try clear hfz30_9
         try clear hfz32_0
         try clear hfz32_1
         try clear hfz32_2
         try clear hfz32_3
         try clear hfz34_0
         try clear hfz34_1
         try clear hfz34_2
         try clear hfz34_3
         try clear hfz34_4
         try clear hfz34_5
         try clear hfz34_6
         try clear hfz34_7
         try clear hfz34_8
         try clear hfz34_9
         try clear hfz36_0
         try clear hfz36_1
         try clear hfz36_2
         try clear hfz36_3
         try clear hfz50_0
         try clear hfz50_1
         try clear hfz50_2
         try clear hfz50_3
         try clear hfz51_0
         try clear hfz51_1
         try clear hfz51_2
         try clear hfz51_3
         try clear hfz51_4
         try clear hfz51_5
         try clear hfz51_6
         try clear hfz51_7
         try clear hfz51_8
         try clear hfz51_9
         try clear hfz56_0
         try clear hfz56_1
         try clear hfz56_2
         try clear hfz56_3
         try clear hfz59_0
         try clear hfz59_1
         try clear hfz59_2
         try clear hfz59_3
         try clear hfz6_0
         try clear hfz6_1
         try clear hfz6_2
         try clear hfz6_3
         try clear hfz6_4
         try clear hfz6_5
         try clear hfz6_6
         try clear hfz6_7
         try clear hfz6_8
         try clear hfz6_9
         try clear p2
         try clear p6
         obtain ⟨x6_3, rfl, HA, HK3, HO_4, HO_304003, BK296, BK303, HB⟩ := hrel
         cases gk with
         | zero => exact absurd HA.out (by simp [bivouaclaw08_RaySeen.l0])
         | succ k3 =>
          have H := HA.out
          clear HA
          simp only [bivouaclaw08_RaySeen.l0] at H
          by_cases c61 : x6_3 < (t304.length : Int)
          ·
           rw [if_pos c61] at H
           have c61b0 : decide (x6_3 < (t304.length : Int)) = true := decide_eq_true c61
           clear c61
           by_cases c62 : 0 ≤ x6_3
           ·
            rw [if_pos c62] at H
            have c62b0 : decide (0 ≤ x6_3) = true := decide_eq_true c62
            clear c62
            by_cases c63 : t297 = 0
            ·
             rw [if_pos c63] at H
             exact absurd H (by simp)
            ·
             rw [if_neg c63] at H
             have c63b0 : (t297 == 0) = false := beq_eq_false_iff_ne.mpr c63
             have c63b1 : (t297 != 0) = true := bne_iff_ne.mpr c63
             replace H := Option.bind_eq_some_iff.mp H
             obtain ⟨t313, A640, H⟩ := H
             replace H : (if ((rdOf false t304 x6_3) != t313) = true then (some false) else (bivouaclaw08_RaySeen.l0 k3 t304 (wrap64 (x6_3 + 1)) a0_0 a0_1 a0_2 l0_3 a0_4 a0_5 a0_6 a0_7 a0_8 a0_9 t297 t298 t299 t300)) = some r := H
             have A64 := Aside0.mk A640
             clear A640
             by_cases c65 : ((rdOf false t304 x6_3) != t313) = true
             ·
              rw [if_pos c65] at H
              have c65b0 : ((rdOf false t304 x6_3) != t313) = true := c65
              (try (have c65b1 : decide ((rdOf false t304 x6_3) = t313) = false := by simpa using c65))
              (try (have c65b2 : ((rdOf false t304 x6_3) == t313) = false := by simpa using c65))
              (try (have c65b3 : ¬ ((rdOf false t304 x6_3) = t313) := by simpa using c65))
              clear c65
              obtain rfl := Option.some.inj H
              obtain ⟨Ao66, co66, eo66⟩ := Kd.R_slice HO_4.out
              subst eo66
              try go_wp2
              have n0_ := Aside0.mk (Kd.R_drew HO_4.out)
              have n1_ := Aside0.mk (Kd.V_drew HO_304003.out)
              have n2_ := Aside0.mk (blk_drew BK296.out)
              have n3_ := Aside0.mk (blk_drew BK303.out)
              have n4_ := Aside0.mk (below_drew1 HB.out)
              clear HO_4
              clear HO_304003
              clear BK296
              clear BK303
              clear HB
              have HO_4 := n0_
              have HO_304003 := n1_
              have BK296 := n2_
              have BK303 := n3_
              have HB := n4_
              clear n0_ n1_ n2_ n3_ n4_
              have p312 : 0 ≤ (x6_3 : Int) := of_decide_eq_true (by first | (with_reducible assumption) | assumption)
              have q312 : x6_3 < (t304.length : Int) := of_decide_eq_true (by first | (with_reducible assumption) | assumption)
              obtain ⟨ad312, e312, hx312_0⟩ := Kd.at_bool (Kd.R_reads' HO_4.out).2.2 x6_3 p312 q312
              cases e312
              replace p312 := eq_true p312
              replace q312 := eq_true q312
              refine start_ (n := 23) (S := fun w' => w'.cell? ⟨gb303, 0, none⟩ = some (.int .i64 t297) ∧ w'.cell? ⟨gb303, 1, none⟩ = some (.int .i64 t298) ∧ w'.cell? ⟨gb303, 2, none⟩ = some (.int .i64 t299) ∧ w'.cell? ⟨gb303, 3, none⟩ = some (.slice Ao11 t300.length co11) ∧ w'.cell? ⟨gb296, 0, none⟩ = some (.int .i64 a0_0) ∧ w'.cell? ⟨gb296, 1, none⟩ = some (.int .i64 a0_1) ∧ w'.cell? ⟨gb296, 2, none⟩ = some (.int .i64 a0_2) ∧ w'.cell? ⟨gb296, 3, none⟩ = some (.slice A0_3 l0_3.length c0_3) ∧ w'.cell? ⟨gb296, 4, none⟩ = some (.int .i64 a0_4) ∧ w'.cell? ⟨gb296, 5, none⟩ = some (.int .i64 a0_5) ∧ w'.cell? ⟨gb296, 6, none⟩ = some (.int .i64 a0_6) ∧ w'.cell? ⟨gb296, 7, none⟩ = some (.int .i64 a0_7) ∧ w'.cell? ⟨gb296, 8, none⟩ = some (.int .i64 a0_8) ∧ w'.cell? ⟨gb296, 9, none⟩ = some (.int .i64 a0_9) ∧ w'.cell? (ad312.add (x6_3).toNat) = some (.bool (rdOf false t304 x6_3))) (ds := []) #[false, false, false, false, false, false, false, false, false, false, false, false, false, false, false, false, false, false, false, false, false, false, false] (by kernel_rfl) rfl rfl ⟨(blk_cell BK303.out 0).trans rfl, (blk_cell BK303.out 1).trans rfl, (blk_cell BK303.out 2).trans rfl, (blk_cell BK303.out 3).trans rfl, (blk_cell BK296.out 0).trans rfl, (blk_cell BK296.out 1).trans rfl, (blk_cell BK296.out 2).trans rfl, (blk_cell BK296.out 3).trans rfl, (blk_cell BK296.out 4).trans rfl, (blk_cell BK296.out 5).trans rfl, (blk_cell BK296.out 6).trans rfl, (blk_cell BK296.out 7).trans rfl, (blk_cell BK296.out 8).trans rfl, (blk_cell BK296.out 9).trans rfl, hx312_0⟩ (fun hHeld => ?_); refine with_tabW bivouaclaw08_RaySeen.tab12 bivouaclaw08_RaySeen.bits12 (fun HT_ HW_ => ?_)
              generalize wr.drew = w67 at HO_4 HO_304003 BK296 BK303 HB hx312_0 hHeld ⊢
              refine pure_ (i := 0) (N := some 92) (v := ?_) (a' := ?_) #[true, false, false, false, false, false, false, false, false, false, false, false, false, false, false, false, false, false, false, false, false, false, false] rfl rfl (any_of HT_.out (by kernel_rfl)) (fun _ _ _ h => h) (Or.inl ⟨by rfl, ?_⟩) ?_ ?_
              rotate_left
              ·
               intro w'
               go_simp
               with_reducible rfl
              rotate_left
              ·
               simp only [Act.put, List.setIfInBounds_toArray, List.set_cons_zero, List.set_cons_succ, i64_w, i32_w]
               rfl
              refine pure_ (i := 1) (N := some 93) (v := ?_) (a' := ?_) #[true, true, false, false, false, false, false, false, false, false, false, false, false, false, false, false, false, false, false, false, false, false, false] rfl rfl (any_of HT_.out (by kernel_rfl)) (fun _ _ _ h => h) (Or.inl ⟨by rfl, ?_⟩) ?_ ?_
              rotate_left
              ·
               intro w'
               go_simp
               with_reducible rfl
              rotate_left
              ·
               simp only [Act.put, List.setIfInBounds_toArray, List.set_cons_zero, List.set_cons_succ, i64_w, i32_w]
               rfl
              refine pure_ (i := 2) (N := some 94) (v := ?_) (a' := ?_) #[true, true, true, false, false, false, false, false, false, false, false, false, false, false, false, false, false, false, false, false, false, false, false] rfl rfl (any_of HT_.out (by kernel_rfl)) (fun _ _ _ h => h) (Or.inl ⟨by rfl, ?_⟩) ?_ ?_
              rotate_left
              ·
               intro w'
               go_simp
               with_reducible rfl
              rotate_left
              ·
               simp only [Act.put, List.setIfInBounds_toArray, List.set_cons_zero, List.set_cons_succ, i64_w, i32_w]
               rfl
              refine pure_ (i := 5) (N := some 97) (v := ?_) (a' := ?_) #[true, true, true, false, false, true, false, false, false, false, false, false, false, false, false, false, false, false, false, false, false, false, false] rfl rfl (any_of HT_.out (by kernel_rfl)) (fun _ _ _ h => h) (Or.inl ⟨by rfl, ?_⟩) ?_ ?_
              rotate_left
              ·
               intro w'
               go_simp
               with_reducible rfl
              rotate_left
              ·
               simp only [Act.put, List.setIfInBounds_toArray, List.set_cons_zero, List.set_cons_succ, i64_w, i32_w]
               rfl
              refine pure_ (i := 7) (N := some 99) (v := ?_) (a' := ?_) #[true, true, true, false, false, true, false, true, false, false, false, false, false, false, false, false, false, false, false, false, false, false, false] rfl rfl (any_of HT_.out (by kernel_rfl)) (fun _ _ _ h => h) (Or.inl ⟨by rfl, ?_⟩) ?_ ?_
              rotate_left
              ·
               intro w'
               go_simp
               with_reducible rfl
              rotate_left
              ·
               simp only [Act.put, List.setIfInBounds_toArray, List.set_cons_zero, List.set_cons_succ, i64_w, i32_w]
               rfl
              refine pure_ (i := 9) (N := some 101) (v := ?_) (a' := ?_) #[true, true, true, false, false, true, false, true, false, true, false, false, false, false, false, false, false, false, false, false, false, false, false] rfl rfl (any_of HT_.out (by kernel_rfl)) (fun _ _ _ h => h) (Or.inl ⟨by rfl, ?_⟩) ?_ ?_
              rotate_left
              ·
               intro w'
               go_simp
               with_reducible rfl
              rotate_left
              ·
               simp only [Act.put, List.setIfInBounds_toArray, List.set_cons_zero, List.set_cons_succ, i64_w, i32_w]
               rfl
              refine pure_ (i := 11) (N := some 103) (v := ?_) (a' := ?_) #[true, true, true, false, false, true, false, true, false, true, false, true, false, false, false, false, false, false, false, false, false, false, false] rfl rfl (any_of HT_.out (by kernel_rfl)) (fun _ _ _ h => h) (Or.inl ⟨by rfl, ?_⟩) ?_ ?_
              rotate_left
              ·
               intro w'
               go_simp
               with_reducible rfl
              rotate_left
              ·
               simp only [Act.put, List.setIfInBounds_toArray, List.set_cons_zero, List.set_cons_succ, i64_w, i32_w]
               rfl
              refine pure_ (i := 13) (N := some 105) (v := ?_) (a' := ?_) #[true, true, true, false, false, true, false, true, false, true, false, true, false, true, false, false, false, false, false, false, false, false, false] rfl rfl (any_of HT_.out (by kernel_rfl)) (fun _ _ _ h => h) (Or.inl ⟨by rfl, ?_⟩) ?_ ?_
              rotate_left
              ·
               intro w'
               go_simp
               with_reducible rfl
              rotate_left
              ·
               simp only [Act.put, List.setIfInBounds_toArray, List.set_cons_zero, List.set_cons_succ, i64_w, i32_w]
               rfl
              refine pure_ (i := 14) (N := some 106) (v := ?_) (a' := ?_) #[true, true, true, false, false, true, false, true, false, true, false, true, false, true, true, false, false, false, false, false, false, false, false] rfl rfl (any_of HT_.out (by kernel_rfl)) (fun _ _ _ h => h) (Or.inl ⟨by rfl, ?_⟩) ?_ ?_
              rotate_left
              ·
               intro w'
               go_simp
               with_reducible rfl
              rotate_left
              ·
               simp only [Act.put, List.setIfInBounds_toArray, List.set_cons_zero, List.set_cons_succ, i64_w, i32_w]
               rfl
              refine pure_ (i := 17) (N := some 109) (v := ?_) (a' := ?_) #[true, true, true, false, false, true, false, true, false, true, false, true, false, true, true, false, false, true, false, false, false, false, false] rfl rfl (any_of HT_.out (by kernel_rfl)) (fun _ _ _ h => h) (Or.inl ⟨by rfl, ?_⟩) ?_ ?_
              rotate_left
              ·
               intro w'
               go_simp
               with_reducible rfl
              rotate_left
              ·
               simp only [Act.put, List.setIfInBounds_toArray, List.set_cons_zero, List.set_cons_succ, i64_w, i32_w]
               rfl
              refine pure_ (i := 18) (N := some 110) (v := ?_) (a' := ?_) #[true, true, true, false, false, true, false, true, false, true, false, true, false, true, true, false, false, true, true, false, false, false, false] rfl rfl (any_of HT_.out (by kernel_rfl)) (fun _ _ _ h => h) (Or.inl ⟨by rfl, ?_⟩) ?_ ?_
              rotate_left
              ·
               intro w'
               go_simp
               with_reducible rfl
              rotate_left
              ·
               simp only [Act.put, List.setIfInBounds_toArray, List.set_cons_zero, List.set_cons_succ, i64_w, i32_w]
               rfl
              refine take_ (i := 3) (N := some 95) (v := ?_) (a' := ?_) #[true, true, true, true, false, true, false, true, false, true, false, true, false, true, true, false, false, true, true, false, false, false, false] rfl rfl (take_ofW HT_.out HW_.out (by kernel_rfl)) (fun _ _ _ h => h) (Or.inl ⟨by rfl, ?_⟩) hHeld ?_ ?_
              rotate_left
              ·
               rintro w' ⟨s0, s1, s2, s3, s4, s5, s6, s7, s8, s9, s10, s11, s12, s13, s14⟩
               go_simp
               with_reducible rfl
              rotate_left
              ·
               simp only [Act.put, List.setIfInBounds_toArray, List.set_cons_zero, List.set_cons_succ, i64_w, i32_w]
               rfl
              refine take_ (i := 4) (N := some 96) (v := ?_) (a' := ?_) #[true, true, true, true, true, true, false, true, false, true, false, true, false, true, true, false, false, true, true, false, false, false, false] rfl rfl (take_ofW HT_.out HW_.out (by kernel_rfl)) (fun _ _ _ h => h) (Or.inl ⟨by rfl, ?_⟩) hHeld ?_ ?_
              rotate_left
              ·
               rintro w' ⟨s0, s1, s2, s3, s4, s5, s6, s7, s8, s9, s10, s11, s12, s13, s14⟩
               go_simp
               with_reducible rfl
              rotate_left
              ·
               simp only [Act.put, List.setIfInBounds_toArray, List.set_cons_zero, List.set_cons_succ, i64_w, i32_w]
               rfl
              refine take_ (i := 6) (N := some 98) (v := ?_) (a' := ?_) #[true, true, true, true, true, true, true, true, false, true, false, true, false, true, true, false, false, true, true, false, false, false, false] rfl rfl (take_ofW HT_.out HW_.out (by kernel_rfl)) (fun _ _ _ h => h) (Or.inl ⟨by rfl, ?_⟩) hHeld ?_ ?_
              rotate_left
              ·
               rintro w' ⟨s0, s1, s2, s3, s4, s5, s6, s7, s8, s9, s10, s11, s12, s13, s14⟩
               go_simp
               with_reducible rfl
              rotate_left
              ·
               simp only [Act.put, List.setIfInBounds_toArray, List.set_cons_zero, List.set_cons_succ, i64_w, i32_w]
               rfl
              refine take_ (i := 8) (N := some 100) (v := ?_) (a' := ?_) #[true, true, true, true, true, true, true, true, true, true, false, true, false, true, true, false, false, true, true, false, false, false, false] rfl rfl (take_ofW HT_.out HW_.out (by kernel_rfl)) (fun _ _ _ h => h) (Or.inl ⟨by rfl, ?_⟩) hHeld ?_ ?_
              rotate_left
              ·
               rintro w' ⟨s0, s1, s2, s3, s4, s5, s6, s7, s8, s9, s10, s11, s12, s13, s14⟩
               go_simp
               with_reducible rfl
              rotate_left
              ·
               simp only [Act.put, List.setIfInBounds_toArray, List.set_cons_zero, List.set_cons_succ, i64_w, i32_w]
               rfl
              refine take_ (i := 10) (N := some 102) (v := ?_) (a' := ?_) #[true, true, true, true, true, true, true, true, true, true, true, true, false, true, true, false, false, true, true, false, false, false, false] rfl rfl (take_ofW HT_.out HW_.out (by kernel_rfl)) (fun _ _ _ h => h) (Or.inl ⟨by rfl, ?_⟩) hHeld ?_ ?_
              rotate_left
              ·
               rintro w' ⟨s0, s1, s2, s3, s4, s5, s6, s7, s8, s9, s10, s11, s12, s13, s14⟩
               go_simp
               with_reducible rfl
              rotate_left
              ·
               simp only [Act.put, List.setIfInBounds_toArray, List.set_cons_zero, List.set_cons_succ, i64_w, i32_w]
               rfl
              refine take_ (i := 12) (N := some 104) (v := ?_) (a' := ?_) #[true, true, true, true, true, true, true, true, true, true, true, true, true, true, true, false, false, true, true, false, false, false, false] rfl rfl (take_ofW HT_.out HW_.out (by kernel_rfl)) (fun _ _ _ h => h) (Or.inl ⟨by rfl, ?_⟩) hHeld ?_ ?_
              rotate_left
              ·
               rintro w' ⟨s0, s1, s2, s3, s4, s5, s6, s7, s8, s9, s10, s11, s12, s13, s14⟩
               go_simp
               with_reducible rfl
              rotate_left
              ·
               simp only [Act.put, List.setIfInBounds_toArray, List.set_cons_zero, List.set_cons_succ, i64_w, i32_w]
               rfl
              refine take_ (i := 15) (N := some 107) (v := ?_) (a' := ?_) #[true, true, true, true, true, true, true, true, true, true, true, true, true, true, true, true, false, true, true, false, false, false, false] rfl rfl (take_ofW HT_.out HW_.out (by kernel_rfl)) (fun _ _ _ h => h) (Or.inl ⟨by rfl, ?_⟩) hHeld ?_ ?_
              rotate_left
              ·
               rintro w' ⟨s0, s1, s2, s3, s4, s5, s6, s7, s8, s9, s10, s11, s12, s13, s14⟩
               go_simp
               with_reducible rfl
              rotate_left
              ·
               simp only [Act.put, List.setIfInBounds_toArray, List.set_cons_zero, List.set_cons_succ, i64_w, i32_w]
               rfl
              refine pure_ (i := 16) (N := some 108) (v := ?_) (a' := ?_) #[true, true, true, true, true, true, true, true, true, true, true, true, true, true, true, true, true, true, true, false, false, false, false] rfl rfl (any_of HT_.out (by kernel_rfl)) (fun _ _ _ h => h) (Or.inl ⟨by rfl, ?_⟩) ?_ ?_
              rotate_left
              ·
               intro w'
               go_simp
               with_reducible rfl
              rotate_left
              ·
               simp only [Act.put, List.setIfInBounds_toArray, List.set_cons_zero, List.set_cons_succ, i64_w, i32_w]
               rfl
              refine take_ (i := 19) (N := some 111) (v := ?_) (a' := ?_) #[true, true, true, true, true, true, true, true, true, true, true, true, true, true, true, true, true, true, true, true, false, false, false] rfl rfl (take_ofW HT_.out HW_.out (by kernel_rfl)) (fun _ _ _ h => h) (Or.inl ⟨by rfl, ?_⟩) hHeld ?_ ?_
              rotate_left
              ·
               rintro w' ⟨s0, s1, s2, s3, s4, s5, s6, s7, s8, s9, s10, s11, s12, s13, s14⟩
               go_simp
               with_reducible rfl
              rotate_left
              ·
               simp only [Act.put, List.setIfInBounds_toArray, List.set_cons_zero, List.set_cons_succ, i64_w, i32_w]
               rfl
              refine pure_ (i := 20) (N := some 112) (v := ?_) (a' := ?_) #[true, true, true, true, true, true, true, true, true, true, true, true, true, true, true, true, true, true, true, true, true, false, false] rfl rfl (any_of HT_.out (by kernel_rfl)) (fun _ _ _ h => h) (Or.inl ⟨by rfl, ?_⟩) ?_ ?_
              rotate_left
              ·
               intro w'
               go_simp
               with_reducible rfl
              rotate_left
              ·
               simp only [Act.put, List.setIfInBounds_toArray, List.set_cons_zero, List.set_cons_succ, i64_w, i32_w]
               rfl
              refine one_ (i := 21) (N := some 113) #[true, true, true, true, true, true, true, true, true, true, true, true, true, true, true, true, true, true, true, true, true, true, false] rfl rfl (one_of HT_.out (by kernel_rfl)) (by decide) (fun K hK => ?_)
              refine goes_ Try.func23 (by kernel_rfl) rfl #[.agg #[.int .i64 t297, .int .i64 t298, .int .i64 t299, .slice Ao11 t300.length co11], .int .i64 a0_4, .int .i64 a0_5, .int .i64 a0_8, .int .i64 a0_9, .int .i64 (Int.tmod x6_3 t297), .int .i64 (wrap64 (Int.tdiv x6_3 t297))] (by rfl) rfl rfl (by (try simp only [List.map_toArray, List.map_cons, List.map_nil]); first | done | rfl | (simp only [List.length_drop, List.length_take]; rfl)) ?_
              with_reducible refine (bivouacref08_Seen.calls k3 t297 t298 t299 _ _ t300 a0_4 a0_5 a0_8 a0_9 (Int.tmod x6_3 t297) (wrap64 (Int.tdiv x6_3 t297)) t313 _ ?side1 ?side2 A64.out).mono ?_
              (case side1 => repeat (first | exact (Kd.V_reads' HO_304003.out).2.2 | (with_reducible refine Kd.C_alloc ?_ _) | (with_reducible refine Kd.C_drewN ?_ _) | (with_reducible refine Kd.C_drew ?_)))
              (case side2 => exact (Kd.V_reads' HO_304003.out).2.1)
              rintro e w68 ⟨rfl, hb⟩
              have HS14_ := (hb.cell (World.block_lt_of_cell? _ _ (hHeld.2.2.2.2.2.2.2.2.2.2.2.2.2.2))).trans (hHeld.2.2.2.2.2.2.2.2.2.2.2.2.2.2)
              refine ⟨_, rfl, ?_⟩
              have n0_ := Aside0.mk (Kd.R_below (by (with_reducible repeat (first | apply Kd.R_alloc | apply Kd.R_drewN | apply Kd.R_drew)); exact HO_4.out) hb)
              have n1_ := Aside0.mk (Kd.V_below (by (with_reducible repeat (first | apply Kd.V_alloc | apply Kd.V_drewN | apply Kd.V_drew)); exact HO_304003.out) hb)
              have n2_ := Aside0.mk (blk_below (g := gb296) (o := .cells #[.int .i64 a0_0, .int .i64 a0_1, .int .i64 a0_2, .slice A0_3 l0_3.length c0_3, .int .i64 a0_4, .int .i64 a0_5, .int .i64 a0_6, .int .i64 a0_7, .int .i64 a0_8, .int .i64 a0_9] 26 (0, 0)) (by (with_reducible repeat (first | refine blk_drewN ?_ _ | refine blk_drew ?_ | refine blk_alloc ?_ _)); exact BK296.out) hb)
              have n3_ := Aside0.mk (blk_below (g := gb303) (o := .cells #[.int .i64 t297, .int .i64 t298, .int .i64 t299, .slice Ao11 t300.length co11] 24 (0, 0)) (by (with_reducible repeat (first | refine blk_drewN ?_ _ | refine blk_drew ?_ | refine blk_alloc ?_ _)); exact BK303.out) hb)
              have n4_ := Aside0.mk (below_step (by repeat (first | (with_reducible first | exact HB.out | apply below_alloc | apply pw_below_drewN | apply below_drew1 | refine below_set ?_ GE296.out | refine below_set ?_ GE303.out) | exact HB.out)) hb)
              clear HO_4
              clear HO_304003
              clear BK296
              clear BK303
              clear HB
              have HO_4 := n0_
              have HO_304003 := n1_
              have BK296 := n2_
              have BK303 := n3_
              have HB := n4_
              clear n0_ n1_ n2_ n3_ n4_
              (try clear hb)
              (try clear hb2)
              (try clear hk)
              (try clear hi)
              refine hK.out _ _ ⟨(blk_cell BK303.out 0).trans rfl, (blk_cell BK303.out 1).trans rfl, (blk_cell BK303.out 2).trans rfl, (blk_cell BK303.out 3).trans rfl, (blk_cell BK296.out 0).trans rfl, (blk_cell BK296.out 1).trans rfl, (blk_cell BK296.out 2).trans rfl, (blk_cell BK296.out 3).trans rfl, (blk_cell BK296.out 4).trans rfl, (blk_cell BK296.out 5).trans rfl, (blk_cell BK296.out 6).trans rfl, (blk_cell BK296.out 7).trans rfl, (blk_cell BK296.out 8).trans rfl, (blk_cell BK296.out 9).trans rfl, HS14_⟩ (fun hHeld => ?_)
              clear hK K
              refine norm_ (a' := ?_) ?_ ?_
              rotate_left
              ·
               show Act.put _ (some 113) _ = _
               simp only [Act.put, List.setIfInBounds_toArray, List.set_cons_zero, List.set_cons_succ, i64_w, i32_w]
               rfl
              refine pure_ (i := 22) (N := some 114) (v := ?_) (a' := ?_) #[true, true, true, true, true, true, true, true, true, true, true, true, true, true, true, true, true, true, true, true, true, true, true] rfl rfl (any_of HT_.out (by kernel_rfl)) (fun _ _ _ h => h) (Or.inl ⟨by rfl, ?_⟩) ?_ ?_
              rotate_left
              ·
               intro w'
               go_simp
               with_reducible rfl
              rotate_left
              ·
               simp only [Act.put, List.setIfInBounds_toArray, List.set_cons_zero, List.set_cons_succ, i64_w, i32_w]
               rfl
              refine done_ (done_of HT_.out (by kernel_rfl)) ?_
              try go_wp2
              go_ret
              exact ⟨by first | rfl | (simp [errW_none, errW_some] <;> rfl) | (simp [*, errW_none, errW_some] <;> rfl) | (rw [Int.tdiv_eq_ediv_of_nonneg (by assumption)]; rfl), by repeat (first | (with_reducible first | exact HB.out | apply below_alloc | apply pw_below_drewN | apply below_drew1 | refine below_set ?_ GE296.out | refine below_set ?_ GE303.out) | exact HB.out)⟩
             ·
              rw [if_neg c65] at H
              have c65b0 : ((rdOf false t304 x6_3) != t313) = false := by simpa using c65
              (try (have c65b1 : decide ((rdOf false t304 x6_3) = t313) = true := by simpa using c65))
              (try (have c65b2 : ((rdOf false t304 x6_3) == t313) = true := by simpa using c65))
              clear c65
              have H' := Aside0.mk H
              clear H
              obtain ⟨Ao69, co69, eo69⟩ := Kd.R_slice HO_4.out
              subst eo69
              try go_wp2
              have n0_ := Aside0.mk (Kd.R_drew HO_4.out)
              have n1_ := Aside0.mk (Kd.V_drew HO_304003.out)
              have n2_ := Aside0.mk (blk_drew BK296.out)
              have n3_ := Aside0.mk (blk_drew BK303.out)
              have n4_ := Aside0.mk (below_drew1 HB.out)
              clear HO_4
              clear HO_304003
              clear BK296
              clear BK303
              clear HB
              have HO_4 := n0_
              have HO_304003 := n1_
              have BK296 := n2_
              have BK303 := n3_
              have HB := n4_
              clear n0_ n1_ n2_ n3_ n4_
              have p312 : 0 ≤ (x6_3 : Int) := of_decide_eq_true (by first | (with_reducible assumption) | assumption)
              have q312 : x6_3 < (t304.length : Int) := of_decide_eq_true (by first | (with_reducible assumption) | assumption)
              obtain ⟨ad312, e312, hx312_0⟩ := Kd.at_bool (Kd.R_reads' HO_4.out).2.2 x6_3 p312 q312
              cases e312
              replace p312 := eq_true p312
              replace q312 := eq_true q312
              refine start_ (n := 23) (S := fun w' => w'.cell? ⟨gb303, 0, none⟩ = some (.int .i64 t297) ∧ w'.cell? ⟨gb303, 1, none⟩ = some (.int .i64 t298) ∧ w'.cell? ⟨gb303, 2, none⟩ = some (.int .i64 t299) ∧ w'.cell? ⟨gb303, 3, none⟩ = some (.slice Ao11 t300.length co11) ∧ w'.cell? ⟨gb296, 0, none⟩ = some (.int .i64 a0_0) ∧ w'.cell? ⟨gb296, 1, none⟩ = some (.int .i64 a0_1) ∧ w'.cell? ⟨gb296, 2, none⟩ = some (.int .i64 a0_2) ∧ w'.cell? ⟨gb296, 3, none⟩ = some (.slice A0_3 l0_3.length c0_3) ∧ w'.cell? ⟨gb296, 4, none⟩ = some (.int .i64 a0_4) ∧ w'.cell? ⟨gb296, 5, none⟩ = some (.int .i64 a0_5) ∧ w'.cell? ⟨gb296, 6, none⟩ = some (.int .i64 a0_6) ∧ w'.cell? ⟨gb296, 7, none⟩ = some (.int .i64 a0_7) ∧ w'.cell? ⟨gb296, 8, none⟩ = some (.int .i64 a0_8) ∧ w'.cell? ⟨gb296, 9, none⟩ = some (.int .i64 a0_9) ∧ w'.cell? (ad312.add (x6_3).toNat) = some (.bool (rdOf false t304 x6_3))) (ds := []) #[false, false, false, false, false, false, false, false, false, false, false, false, false, false, false, false, false, false, false, false, false, false, false] (by kernel_rfl) rfl rfl ⟨(blk_cell BK303.out 0).trans rfl, (blk_cell BK303.out 1).trans rfl, (blk_cell BK303.out 2).trans rfl, (blk_cell BK303.out 3).trans rfl, (blk_cell BK296.out 0).trans rfl, (blk_cell BK296.out 1).trans rfl, (blk_cell BK296.out 2).trans rfl, (blk_cell BK296.out 3).trans rfl, (blk_cell BK296.out 4).trans rfl, (blk_cell BK296.out 5).trans rfl, (blk_cell BK296.out 6).trans rfl, (blk_cell BK296.out 7).trans rfl, (blk_cell BK296.out 8).trans rfl, (blk_cell BK296.out 9).trans rfl, hx312_0⟩ (fun hHeld => ?_); refine with_tabW bivouaclaw08_RaySeen.tab12 bivouaclaw08_RaySeen.bits12 (fun HT_ HW_ => ?_)
              generalize wr.drew = w70 at HO_4 HO_304003 BK296 BK303 HB hx312_0 hHeld ⊢
              refine pure_ (i := 0) (N := some 92) (v := ?_) (a' := ?_) #[true, false, false, false, false, false, false, false, false, false, false, false, false, false, false, false, false, false, false, false, false, false, false] rfl rfl (any_of HT_.out (by kernel_rfl)) (fun _ _ _ h => h) (Or.inl ⟨by rfl, ?_⟩) ?_ ?_
              rotate_left
              ·
               intro w'
               go_simp
               with_reducible rfl
              rotate_left
              ·
               simp only [Act.put, List.setIfInBounds_toArray, List.set_cons_zero, List.set_cons_succ, i64_w, i32_w]
               rfl
              refine pure_ (i := 1) (N := some 93) (v := ?_) (a' := ?_) #[true, true, false, false, false, false, false, false, false, false, false, false, false, false, false, false, false, false, false, false, false, false, false] rfl rfl (any_of HT_.out (by kernel_rfl)) (fun _ _ _ h => h) (Or.inl ⟨by rfl, ?_⟩) ?_ ?_
              rotate_left
              ·
               intro w'
               go_simp
               with_reducible rfl
              rotate_left
              ·
               simp only [Act.put, List.setIfInBounds_toArray, List.set_cons_zero, List.set_cons_succ, i64_w, i32_w]
               rfl
              refine pure_ (i := 2) (N := some 94) (v := ?_) (a' := ?_) #[true, true, true, false, false, false, false, false, false, false, false, false, false, false, false, false, false, false, false, false, false, false, false] rfl rfl (any_of HT_.out (by kernel_rfl)) (fun _ _ _ h => h) (Or.inl ⟨by rfl, ?_⟩) ?_ ?_
              rotate_left
              ·
               intro w'
               go_simp
               with_reducible rfl
              rotate_left
              ·
               simp only [Act.put, List.setIfInBounds_toArray, List.set_cons_zero, List.set_cons_succ, i64_w, i32_w]
               rfl
              refine pure_ (i := 5) (N := some 97) (v := ?_) (a' := ?_) #[true, true, true, false, false, true, false, false, false, false, false, false, false, false, false, false, false, false, false, false, false, false, false] rfl rfl (any_of HT_.out (by kernel_rfl)) (fun _ _ _ h => h) (Or.inl ⟨by rfl, ?_⟩) ?_ ?_
              rotate_left
              ·
               intro w'
               go_simp
               with_reducible rfl
              rotate_left
              ·
               simp only [Act.put, List.setIfInBounds_toArray, List.set_cons_zero, List.set_cons_succ, i64_w, i32_w]
               rfl
              refine pure_ (i := 7) (N := some 99) (v := ?_) (a' := ?_) #[true, true, true, false, false, true, false, true, false, false, false, false, false, false, false, false, false, false, false, false, false, false, false] rfl rfl (any_of HT_.out (by kernel_rfl)) (fun _ _ _ h => h) (Or.inl ⟨by rfl, ?_⟩) ?_ ?_
              rotate_left
              ·
               intro w'
               go_simp
               with_reducible rfl
              rotate_left
              ·
               simp only [Act.put, List.setIfInBounds_toArray, List.set_cons_zero, List.set_cons_succ, i64_w, i32_w]
               rfl
              refine pure_ (i := 9) (N := some 101) (v := ?_) (a' := ?_) #[true, true, true, false, false, true, false, true, false, true, false, false, false, false, false, false, false, false, false, false, false, false, false] rfl rfl (any_of HT_.out (by kernel_rfl)) (fun _ _ _ h => h) (Or.inl ⟨by rfl, ?_⟩) ?_ ?_
              rotate_left
              ·
               intro w'
               go_simp
               with_reducible rfl
              rotate_left
              ·
               simp only [Act.put, List.setIfInBounds_toArray, List.set_cons_zero, List.set_cons_succ, i64_w, i32_w]
               rfl
              refine pure_ (i := 11) (N := some 103) (v := ?_) (a' := ?_) #[true, true, true, false, false, true, false, true, false, true, false, true, false, false, false, false, false, false, false, false, false, false, false] rfl rfl (any_of HT_.out (by kernel_rfl)) (fun _ _ _ h => h) (Or.inl ⟨by rfl, ?_⟩) ?_ ?_
              rotate_left
              ·
               intro w'
               go_simp
               with_reducible rfl
              rotate_left
              ·
               simp only [Act.put, List.setIfInBounds_toArray, List.set_cons_zero, List.set_cons_succ, i64_w, i32_w]
               rfl
              refine pure_ (i := 13) (N := some 105) (v := ?_) (a' := ?_) #[true, true, true, false, false, true, false, true, false, true, false, true, false, true, false, false, false, false, false, false, false, false, false] rfl rfl (any_of HT_.out (by kernel_rfl)) (fun _ _ _ h => h) (Or.inl ⟨by rfl, ?_⟩) ?_ ?_
              rotate_left
              ·
               intro w'
               go_simp
               with_reducible rfl
              rotate_left
              ·
               simp only [Act.put, List.setIfInBounds_toArray, List.set_cons_zero, List.set_cons_succ, i64_w, i32_w]
               rfl
              refine pure_ (i := 14) (N := some 106) (v := ?_) (a' := ?_) #[true, true, true, false, false, true, false, true, false, true, false, true, false, true, true, false, false, false, false, false, false, false, false] rfl rfl (any_of HT_.out (by kernel_rfl)) (fun _ _ _ h => h) (Or.inl ⟨by rfl, ?_⟩) ?_ ?_
              rotate_left
              ·
               intro w'
               go_simp
               with_reducible rfl
              rotate_left
              ·
               simp only [Act.put, List.setIfInBounds_toArray, List.set_cons_zero, List.set_cons_succ, i64_w, i32_w]
               rfl
              refine pure_ (i := 17) (N := some 109) (v := ?_) (a' := ?_) #[true, true, true, false, false, true, false, true, false, true, false, true, false, true, true, false, false, true, false, false, false, false, false] rfl rfl (any_of HT_.out (by kernel_rfl)) (fun _ _ _ h => h) (Or.inl ⟨by rfl, ?_⟩) ?_ ?_
              rotate_left
              ·
               intro w'
               go_simp
               with_reducible rfl
              rotate_left
              ·
               simp only [Act.put, List.setIfInBounds_toArray, List.set_cons_zero, List.set_cons_succ, i64_w, i32_w]
               rfl
              refine pure_ (i := 18) (N := some 110) (v := ?_) (a' := ?_) #[true, true, true, false, false, true, false, true, false, true, false, true, false, true, true, false, false, true, true, false, false, false, false] rfl rfl (any_of HT_.out (by kernel_rfl)) (fun _ _ _ h => h) (Or.inl ⟨by rfl, ?_⟩) ?_ ?_
              rotate_left
              ·
               intro w'
               go_simp
               with_reducible rfl
              rotate_left
              ·
               simp only [Act.put, List.setIfInBounds_toArray, List.set_cons_zero, List.set_cons_succ, i64_w, i32_w]
               rfl
              refine take_ (i := 3) (N := some 95) (v := ?_) (a' := ?_) #[true, true, true, true, false, true, false, true, false, true, false, true, false, true, true, false, false, true, true, false, false, false, false] rfl rfl (take_ofW HT_.out HW_.out (by kernel_rfl)) (fun _ _ _ h => h) (Or.inl ⟨by rfl, ?_⟩) hHeld ?_ ?_
              rotate_left
              ·
               rintro w' ⟨s0, s1, s2, s3, s4, s5, s6, s7, s8, s9, s10, s11, s12, s13, s14⟩
               go_simp
               with_reducible rfl
              rotate_left
              ·
               simp only [Act.put, List.setIfInBounds_toArray, List.set_cons_zero, List.set_cons_succ, i64_w, i32_w]
               rfl
              refine take_ (i := 4) (N := some 96) (v := ?_) (a' := ?_) #[true, true, true, true, true, true, false, true, false, true, false, true, false, true, true, false, false, true, true, false, false, false, false] rfl rfl (take_ofW HT_.out HW_.out (by kernel_rfl)) (fun _ _ _ h => h) (Or.inl ⟨by rfl, ?_⟩) hHeld ?_ ?_
              rotate_left
              ·
               rintro w' ⟨s0, s1, s2, s3, s4, s5, s6, s7, s8, s9, s10, s11, s12, s13, s14⟩
               go_simp
               with_reducible rfl
              rotate_left
              ·
               simp only [Act.put, List.setIfInBounds_toArray, List.set_cons_zero, List.set_cons_succ, i64_w, i32_w]
               rfl
              refine take_ (i := 6) (N := some 98) (v := ?_) (a' := ?_) #[true, true, true, true, true, true, true, true, false, true, false, true, false, true, true, false, false, true, true, false, false, false, false] rfl rfl (take_ofW HT_.out HW_.out (by kernel_rfl)) (fun _ _ _ h => h) (Or.inl ⟨by rfl, ?_⟩) hHeld ?_ ?_
              rotate_left
              ·
               rintro w' ⟨s0, s1, s2, s3, s4, s5, s6, s7, s8, s9, s10, s11, s12, s13, s14⟩
               go_simp
               with_reducible rfl
              rotate_left
              ·
               simp only [Act.put, List.setIfInBounds_toArray, List.set_cons_zero, List.set_cons_succ, i64_w, i32_w]
               rfl
              refine take_ (i := 8) (N := some 100) (v := ?_) (a' := ?_) #[true, true, true, true, true, true, true, true, true, true, false, true, false, true, true, false, false, true, true, false, false, false, false] rfl rfl (take_ofW HT_.out HW_.out (by kernel_rfl)) (fun _ _ _ h => h) (Or.inl ⟨by rfl, ?_⟩) hHeld ?_ ?_
              rotate_left
              ·
               rintro w' ⟨s0, s1, s2, s3, s4, s5, s6, s7, s8, s9, s10, s11, s12, s13, s14⟩
               go_simp
               with_reducible rfl
              rotate_left
              ·
               simp only [Act.put, List.setIfInBounds_toArray, List.set_cons_zero, List.set_cons_succ, i64_w, i32_w]
               rfl
              refine take_ (i := 10) (N := some 102) (v := ?_) (a' := ?_) #[true, true, true, true, true, true, true, true, true, true, true, true, false, true, true, false, false, true, true, false, false, false, false] rfl rfl (take_ofW HT_.out HW_.out (by kernel_rfl)) (fun _ _ _ h => h) (Or.inl ⟨by rfl, ?_⟩) hHeld ?_ ?_
              rotate_left
              ·
               rintro w' ⟨s0, s1, s2, s3, s4, s5, s6, s7, s8, s9, s10, s11, s12, s13, s14⟩
               go_simp
               with_reducible rfl
              rotate_left
              ·
               simp only [Act.put, List.setIfInBounds_toArray, List.set_cons_zero, List.set_cons_succ, i64_w, i32_w]
               rfl
              refine take_ (i := 12) (N := some 104) (v := ?_) (a' := ?_) #[true, true, true, true, true, true, true, true, true, true, true, true, true, true, true, false, false, true, true, false, false, false, false] rfl rfl (take_ofW HT_.out HW_.out (by kernel_rfl)) (fun _ _ _ h => h) (Or.inl ⟨by rfl, ?_⟩) hHeld ?_ ?_
              rotate_left
              ·
               rintro w' ⟨s0, s1, s2, s3, s4, s5, s6, s7, s8, s9, s10, s11, s12, s13, s14⟩
               go_simp
               with_reducible rfl
              rotate_left
              ·
               simp only [Act.put, List.setIfInBounds_toArray, List.set_cons_zero, List.set_cons_succ, i64_w, i32_w]
               rfl
              refine take_ (i := 15) (N := some 107) (v := ?_) (a' := ?_) #[true, true, true, true, true, true, true, true, true, true, true, true, true, true, true, true, false, true, true, false, false, false, false] rfl rfl (take_ofW HT_.out HW_.out (by kernel_rfl)) (fun _ _ _ h => h) (Or.inl ⟨by rfl, ?_⟩) hHeld ?_ ?_
              rotate_left
              ·
               rintro w' ⟨s0, s1, s2, s3, s4, s5, s6, s7, s8, s9, s10, s11, s12, s13, s14⟩
               go_simp
               with_reducible rfl
              rotate_left
              ·
               simp only [Act.put, List.setIfInBounds_toArray, List.set_cons_zero, List.set_cons_succ, i64_w, i32_w]
               rfl
              refine pure_ (i := 16) (N := some 108) (v := ?_) (a' := ?_) #[true, true, true, true, true, true, true, true, true, true, true, true, true, true, true, true, true, true, true, false, false, false, false] rfl rfl (any_of HT_.out (by kernel_rfl)) (fun _ _ _ h => h) (Or.inl ⟨by rfl, ?_⟩) ?_ ?_
              rotate_left
              ·
               intro w'
               go_simp
               with_reducible rfl
              rotate_left
              ·
               simp only [Act.put, List.setIfInBounds_toArray, List.set_cons_zero, List.set_cons_succ, i64_w, i32_w]
               rfl
              refine take_ (i := 19) (N := some 111) (v := ?_) (a' := ?_) #[true, true, true, true, true, true, true, true, true, true, true, true, true, true, true, true, true, true, true, true, false, false, false] rfl rfl (take_ofW HT_.out HW_.out (by kernel_rfl)) (fun _ _ _ h => h) (Or.inl ⟨by rfl, ?_⟩) hHeld ?_ ?_
              rotate_left
              ·
               rintro w' ⟨s0, s1, s2, s3, s4, s5, s6, s7, s8, s9, s10, s11, s12, s13, s14⟩
               go_simp
               with_reducible rfl
              rotate_left
              ·
               simp only [Act.put, List.setIfInBounds_toArray, List.set_cons_zero, List.set_cons_succ, i64_w, i32_w]
               rfl
              refine pure_ (i := 20) (N := some 112) (v := ?_) (a' := ?_) #[true, true, true, true, true, true, true, true, true, true, true, true, true, true, true, true, true, true, true, true, true, false, false] rfl rfl (any_of HT_.out (by kernel_rfl)) (fun _ _ _ h => h) (Or.inl ⟨by rfl, ?_⟩) ?_ ?_
              rotate_left
              ·
               intro w'
               go_simp
               with_reducible rfl
              rotate_left
              ·
               simp only [Act.put, List.setIfInBounds_toArray, List.set_cons_zero, List.set_cons_succ, i64_w, i32_w]
               rfl
              refine one_ (i := 21) (N := some 113) #[true, true, true, true, true, true, true, true, true, true, true, true, true, true, true, true, true, true, true, true, true, true, false] rfl rfl (one_of HT_.out (by kernel_rfl)) (by decide) (fun K hK => ?_)
              refine goes_ Try.func23 (by kernel_rfl) rfl #[.agg #[.int .i64 t297, .int .i64 t298, .int .i64 t299, .slice Ao11 t300.length co11], .int .i64 a0_4, .int .i64 a0_5, .int .i64 a0_8, .int .i64 a0_9, .int .i64 (Int.tmod x6_3 t297), .int .i64 (wrap64 (Int.tdiv x6_3 t297))] (by rfl) rfl rfl (by (try simp only [List.map_toArray, List.map_cons, List.map_nil]); first | done | rfl | (simp only [List.length_drop, List.length_take]; rfl)) ?_
              with_reducible refine (bivouacref08_Seen.calls k3 t297 t298 t299 _ _ t300 a0_4 a0_5 a0_8 a0_9 (Int.tmod x6_3 t297) (wrap64 (Int.tdiv x6_3 t297)) t313 _ ?side1 ?side2 A64.out).mono ?_
              (case side1 => repeat (first | exact (Kd.V_reads' HO_304003.out).2.2 | (with_reducible refine Kd.C_alloc ?_ _) | (with_reducible refine Kd.C_drewN ?_ _) | (with_reducible refine Kd.C_drew ?_)))
              (case side2 => exact (Kd.V_reads' HO_304003.out).2.1)
              rintro e w71 ⟨rfl, hb⟩
              have HS14_ := (hb.cell (World.block_lt_of_cell? _ _ (hHeld.2.2.2.2.2.2.2.2.2.2.2.2.2.2))).trans (hHeld.2.2.2.2.2.2.2.2.2.2.2.2.2.2)
              refine ⟨_, rfl, ?_⟩
              have n0_ := Aside0.mk (Kd.R_below (by (with_reducible repeat (first | apply Kd.R_alloc | apply Kd.R_drewN | apply Kd.R_drew)); exact HO_4.out) hb)
              have n1_ := Aside0.mk (Kd.V_below (by (with_reducible repeat (first | apply Kd.V_alloc | apply Kd.V_drewN | apply Kd.V_drew)); exact HO_304003.out) hb)
              have n2_ := Aside0.mk (blk_below (g := gb296) (o := .cells #[.int .i64 a0_0, .int .i64 a0_1, .int .i64 a0_2, .slice A0_3 l0_3.length c0_3, .int .i64 a0_4, .int .i64 a0_5, .int .i64 a0_6, .int .i64 a0_7, .int .i64 a0_8, .int .i64 a0_9] 26 (0, 0)) (by (with_reducible repeat (first | refine blk_drewN ?_ _ | refine blk_drew ?_ | refine blk_alloc ?_ _)); exact BK296.out) hb)
              have n3_ := Aside0.mk (blk_below (g := gb303) (o := .cells #[.int .i64 t297, .int .i64 t298, .int .i64 t299, .slice Ao11 t300.length co11] 24 (0, 0)) (by (with_reducible repeat (first | refine blk_drewN ?_ _ | refine blk_drew ?_ | refine blk_alloc ?_ _)); exact BK303.out) hb)
              have n4_ := Aside0.mk (below_step (by repeat (first | (with_reducible first | exact HB.out | apply below_alloc | apply pw_below_drewN | apply below_drew1 | refine below_set ?_ GE296.out | refine below_set ?_ GE303.out) | exact HB.out)) hb)
              clear HO_4
              clear HO_304003
              clear BK296
              clear BK303
              clear HB
              have HO_4 := n0_
              have HO_304003 := n1_
              have BK296 := n2_
              have BK303 := n3_
              have HB := n4_
              clear n0_ n1_ n2_ n3_ n4_
              (try clear hb)
              (try clear hb2)
              (try clear hk)
              (try clear hi)
              refine hK.out _ _ ⟨(blk_cell BK303.out 0).trans rfl, (blk_cell BK303.out 1).trans rfl, (blk_cell BK303.out 2).trans rfl, (blk_cell BK303.out 3).trans rfl, (blk_cell BK296.out 0).trans rfl, (blk_cell BK296.out 1).trans rfl, (blk_cell BK296.out 2).trans rfl, (blk_cell BK296.out 3).trans rfl, (blk_cell BK296.out 4).trans rfl, (blk_cell BK296.out 5).trans rfl, (blk_cell BK296.out 6).trans rfl, (blk_cell BK296.out 7).trans rfl, (blk_cell BK296.out 8).trans rfl, (blk_cell BK296.out 9).trans rfl, HS14_⟩ (fun hHeld => ?_)
              clear hK K
              refine norm_ (a' := ?_) ?_ ?_
              rotate_left
              ·
               show Act.put _ (some 113) _ = _
               simp only [Act.put, List.setIfInBounds_toArray, List.set_cons_zero, List.set_cons_succ, i64_w, i32_w]
               rfl
              refine pure_ (i := 22) (N := some 114) (v := ?_) (a' := ?_) #[true, true, true, true, true, true, true, true, true, true, true, true, true, true, true, true, true, true, true, true, true, true, true] rfl rfl (any_of HT_.out (by kernel_rfl)) (fun _ _ _ h => h) (Or.inl ⟨by rfl, ?_⟩) ?_ ?_
              rotate_left
              ·
               intro w'
               go_simp
               with_reducible rfl
              rotate_left
              ·
               simp only [Act.put, List.setIfInBounds_toArray, List.set_cons_zero, List.set_cons_succ, i64_w, i32_w]
               rfl
              refine done_ (done_of HT_.out (by kernel_rfl)) ?_
              try go_wp2
              go_roundg k3
              case measure => have := HJ3.out; have := HJ47.out; have := HK3.out; omega
              case rel => exact ⟨(wrap64 (x6_3 + 1)), (by first | rfl | (simp; done) | (simp [*]; done)), H', ⟨by have := HJ3.out; have := HJ47.out; have := HK3.out; omega⟩, ⟨by (with_reducible repeat (first | apply Kd.R_alloc | apply Kd.R_drewN | apply Kd.R_drew)); exact HO_4.out⟩, ⟨by (with_reducible repeat (first | apply Kd.V_alloc | apply Kd.V_drewN | apply Kd.V_drew)); exact HO_304003.out⟩, ⟨by (with_reducible repeat (first | refine blk_drewN ?_ _ | refine blk_drew ?_ | refine blk_alloc ?_ _)); exact BK296.out⟩, ⟨by (with_reducible repeat (first | refine blk_drewN ?_ _ | refine blk_drew ?_ | refine blk_alloc ?_ _)); exact BK303.out⟩, ⟨by repeat (first | (with_reducible first | exact HB.out | apply below_alloc | apply pw_below_drewN | apply below_drew1 | refine below_set ?_ GE296.out | refine below_set ?_ GE303.out) | exact HB.out)⟩⟩
           ·
            rw [if_neg c62] at H
            exact absurd H (by simp)
          ·
           rw [if_neg c61] at H
           have c61b0 : decide (x6_3 < (t304.length : Int)) = false := decide_eq_false c61
           clear c61
           replace H := Option.bind_eq_some_iff.mp H
           obtain ⟨t314, A720, H⟩ := H
           replace H : (some t314) = some r := H
           have A72 := Aside0.mk A720
           clear A720
           obtain rfl := Option.some.inj H
           obtain ⟨Ao73, co73, eo73⟩ := Kd.R_slice HO_4.out
           subst eo73
           go_wp2_with (first | ((with_reducible refine gate_callee (f := 11) rfl ?_); refine goesL_ (some 115) rfl rfl Try.func11 (by kernel_rfl) rfl #[] rfl (by (try simp only [List.map_toArray, List.map_cons, List.map_nil]); first | done | rfl | (simp only [List.length_drop, List.length_take]; rfl)) ?_; (with_reducible refine (bivouaclaw08_awake.calls k3  t314 _ A72.out).mono ?_); rintro e w74 ⟨rfl, hb⟩; refine ⟨_, rfl, ?_⟩; have n0_ := Aside0.mk (Kd.R_below (by (with_reducible repeat (first | apply Kd.R_alloc | apply Kd.R_drewN | apply Kd.R_drew)); exact HO_4.out) hb); have n1_ := Aside0.mk (Kd.V_below (by (with_reducible repeat (first | apply Kd.V_alloc | apply Kd.V_drewN | apply Kd.V_drew)); exact HO_304003.out) hb); have n2_ := Aside0.mk (blk_below (g := gb296) (o := .cells #[.int .i64 a0_0, .int .i64 a0_1, .int .i64 a0_2, .slice A0_3 l0_3.length c0_3, .int .i64 a0_4, .int .i64 a0_5, .int .i64 a0_6, .int .i64 a0_7, .int .i64 a0_8, .int .i64 a0_9] 26 (0, 0)) (by (with_reducible repeat (first | refine blk_drewN ?_ _ | refine blk_drew ?_ | refine blk_alloc ?_ _)); exact BK296.out) hb); have n3_ := Aside0.mk (blk_below (g := gb303) (o := .cells #[.int .i64 t297, .int .i64 t298, .int .i64 t299, .slice Ao11 t300.length co11] 24 (0, 0)) (by (with_reducible repeat (first | refine blk_drewN ?_ _ | refine blk_drew ?_ | refine blk_alloc ?_ _)); exact BK303.out) hb); have n4_ := Aside0.mk (below_step (by repeat (first | (with_reducible first | exact HB.out | apply below_alloc | apply pw_below_drewN | apply below_drew1 | refine below_set ?_ GE296.out | refine below_set ?_ GE303.out) | exact HB.out)) hb); clear HO_4; clear HO_304003; clear BK296; clear BK303; clear HB; have HO_4 := n0_; have HO_304003 := n1_; have BK296 := n2_; have BK303 := n3_; have HB := n4_; clear n0_ n1_ n2_ n3_ n4_; (try clear hb); (try clear hb2); (try clear hk); (try clear hi)))
           go_ret
           exact ⟨by first | rfl | (simp [errW_none, errW_some] <;> rfl) | (simp [*, errW_none, errW_some] <;> rfl) | (rw [Int.tdiv_eq_ediv_of_nonneg (by assumption)]; rfl), by repeat (first | (with_reducible first | exact HB.out | apply below_alloc | apply pw_below_drewN | apply below_drew1 | refine below_set ?_ GE296.out | refine below_set ?_ GE303.out) | exact HB.out)⟩
    ·
     replace c47 := Bool.eq_false_iff.mpr c47
     subst c47
     have H1 : (if (t304.length : Int) = 0 then (if t307 = 4 then ((bivouaclaw08_awake.f kj3).bind fun t311 => (some t311)) else (some false)) else (some false)) = some r := by rw [if_neg (show ¬ (false = true) by decide)] at H; exact H
     clear H
     have H := H1
     clear H1
     by_cases c75 : (t304.length : Int) = 0
     ·
      rw [if_pos c75] at H
      have c75b0 : ((t304.length : Int) == 0) = true := beq_iff_eq.mpr c75
      have c75b1 : ((t304.length : Int) != 0) = false := bne_eq_false_iff_eq.mpr c75
      clear c75
      by_cases c76 : t307 = 4
      ·
       rw [if_pos c76] at H
       have c76b0 : (t307 == 4) = true := beq_iff_eq.mpr c76
       have c76b1 : (t307 != 4) = false := bne_eq_false_iff_eq.mpr c76
       clear c76
       replace H := Option.bind_eq_some_iff.mp H
       obtain ⟨t311, A770, H⟩ := H
       replace H : (some t311) = some r := H
       have A77 := Aside0.mk A770
       clear A770
       obtain rfl := Option.some.inj H
       have hnb78 := NB303_296.out
       have hnc78 := NB296_303.out
       have hcz79_0 : wc.cell? ⟨gb303, 0, none⟩ = some (.int .i64 t297) := (blk_cell BK303.out 0).trans rfl
       have hcz79_1 : wc.cell? ⟨gb303, 1, none⟩ = some (.int .i64 t298) := (blk_cell BK303.out 1).trans rfl
       have hcz79_2 : wc.cell? ⟨gb303, 2, none⟩ = some (.int .i64 t299) := (blk_cell BK303.out 2).trans rfl
       have hcz79_3 : wc.cell? ⟨gb303, 3, none⟩ = some (.slice Ao11 t300.length co11) := (blk_cell BK303.out 3).trans rfl
       have hfz79_0 := blk_frozen BK303.out 0
       have hfz79_1 := blk_frozen BK303.out 1
       have hfz79_2 := blk_frozen BK303.out 2
       have hfz79_3 := blk_frozen BK303.out 3
       have hcz80_0 : wc.cell? ⟨gb296, 0, none⟩ = some (.int .i64 a0_0) := (blk_cell BK296.out 0).trans rfl
       have hcz80_1 : wc.cell? ⟨gb296, 1, none⟩ = some (.int .i64 a0_1) := (blk_cell BK296.out 1).trans rfl
       have hcz80_2 : wc.cell? ⟨gb296, 2, none⟩ = some (.int .i64 a0_2) := (blk_cell BK296.out 2).trans rfl
       have hcz80_3 : wc.cell? ⟨gb296, 3, none⟩ = some (.slice A0_3 l0_3.length c0_3) := (blk_cell BK296.out 3).trans rfl
       have hcz80_4 : wc.cell? ⟨gb296, 4, none⟩ = some (.int .i64 a0_4) := (blk_cell BK296.out 4).trans rfl
       have hcz80_5 : wc.cell? ⟨gb296, 5, none⟩ = some (.int .i64 a0_5) := (blk_cell BK296.out 5).trans rfl
       have hcz80_6 : wc.cell? ⟨gb296, 6, none⟩ = some (.int .i64 a0_6) := (blk_cell BK296.out 6).trans rfl
       have hcz80_7 : wc.cell? ⟨gb296, 7, none⟩ = some (.int .i64 a0_7) := (blk_cell BK296.out 7).trans rfl
       have hcz80_8 : wc.cell? ⟨gb296, 8, none⟩ = some (.int .i64 a0_8) := (blk_cell BK296.out 8).trans rfl
       have hcz80_9 : wc.cell? ⟨gb296, 9, none⟩ = some (.int .i64 a0_9) := (blk_cell BK296.out 9).trans rfl
       have hfz80_0 := blk_frozen BK296.out 0
       have hfz80_1 := blk_frozen BK296.out 1
       have hfz80_2 := blk_frozen BK296.out 2
       have hfz80_3 := blk_frozen BK296.out 3
       have hfz80_4 := blk_frozen BK296.out 4
       have hfz80_5 := blk_frozen BK296.out 5
       have hfz80_6 := blk_frozen BK296.out 6
       have hfz80_7 := blk_frozen BK296.out 7
       have hfz80_8 := blk_frozen BK296.out 8
       have hfz80_9 := blk_frozen BK296.out 9
       go_wp2_with (first | ((with_reducible refine gate_callee (f := 18) rfl ?_); refine goesL_ (some 62) rfl rfl Try.func18 (by kernel_rfl) rfl #[.agg #[.int .i64 t297, .int .i64 t298, .int .i64 t299, .slice Ao11 t300.length co11], .int .i64 a0_4, .int .i64 a0_5] rfl (by (try simp only [List.map_toArray, List.map_cons, List.map_nil]); first | done | rfl | (simp only [List.length_drop, List.length_take]; rfl)) ?_; (with_reducible refine (bivouacref08_Is.calls t297 t298 t299 _ _ t300 a0_4 a0_5 false _ ?side1 ?side2 A46.out).mono ?_); (case side1 => repeat (first | exact (Kd.V_reads' HO_304003.out).2.2 | (with_reducible refine Kd.C_alloc ?_ _) | (with_reducible refine Kd.C_drewN ?_ _) | (with_reducible refine Kd.C_drew ?_))); (case side2 => exact (Kd.V_reads' HO_304003.out).2.1); rintro e w81 ⟨rfl, hb⟩; refine ⟨_, rfl, ?_⟩; have n0_ := Aside0.mk (Kd.R_below (by (with_reducible repeat (first | apply Kd.R_alloc | apply Kd.R_drewN | apply Kd.R_drew)); exact HO_4.out) hb); have n1_ := Aside0.mk (Kd.V_below (by (with_reducible repeat (first | apply Kd.V_alloc | apply Kd.V_drewN | apply Kd.V_drew)); exact HO_304003.out) hb); have n2_ := Aside0.mk (blk_below (g := gb296) (o := .cells #[.int .i64 a0_0, .int .i64 a0_1, .int .i64 a0_2, .slice A0_3 l0_3.length c0_3, .int .i64 a0_4, .int .i64 a0_5, .int .i64 a0_6, .int .i64 a0_7, .int .i64 a0_8, .int .i64 a0_9] 26 (0, 0)) (by (with_reducible repeat (first | refine blk_drewN ?_ _ | refine blk_drew ?_ | refine blk_alloc ?_ _)); exact BK296.out) hb); have n3_ := Aside0.mk (blk_below (g := gb303) (o := .cells #[.int .i64 t297, .int .i64 t298, .int .i64 t299, .slice Ao11 t300.length co11] 24 (0, 0)) (by (with_reducible repeat (first | refine blk_drewN ?_ _ | refine blk_drew ?_ | refine blk_alloc ?_ _)); exact BK303.out) hb); have n4_ := Aside0.mk (below_step (by repeat (first | (with_reducible first | exact HB.out | apply below_alloc | apply pw_below_drewN | apply below_drew1 | refine below_set ?_ GE296.out | refine below_set ?_ GE303.out) | exact HB.out)) hb); clear HO_4; clear HO_304003; clear BK296; clear BK303; clear HB; have HO_4 := n0_; have HO_304003 := n1_; have BK296 := n2_; have BK303 := n3_; have HB := n4_; clear n0_ n1_ n2_ n3_ n4_; (try clear hb); (try clear hb2); (try clear hk); (try clear hi); obtain ⟨Ao82, co82, eo82⟩ := Kd.R_slice HO_4.out; subst eo82) | (go_at_call 11; (with_reducible refine (bivouaclaw08_awake.calls kj3  t311 _ A77.out).mono ?_); rintro e w83 ⟨rfl, hb⟩; have n0_ := Aside0.mk (Kd.R_below (by (with_reducible repeat (first | apply Kd.R_alloc | apply Kd.R_drewN | apply Kd.R_drew)); exact HO_4.out) hb); have n1_ := Aside0.mk (Kd.V_below (by (with_reducible repeat (first | apply Kd.V_alloc | apply Kd.V_drewN | apply Kd.V_drew)); exact HO_304003.out) hb); have n2_ := Aside0.mk (blk_below (g := gb296) (o := .cells #[.int .i64 a0_0, .int .i64 a0_1, .int .i64 a0_2, .slice A0_3 l0_3.length c0_3, .int .i64 a0_4, .int .i64 a0_5, .int .i64 a0_6, .int .i64 a0_7, .int .i64 a0_8, .int .i64 a0_9] 26 (0, 0)) (by (with_reducible repeat (first | refine blk_drewN ?_ _ | refine blk_drew ?_ | refine blk_alloc ?_ _)); exact BK296.out) hb); have n3_ := Aside0.mk (blk_below (g := gb303) (o := .cells #[.int .i64 t297, .int .i64 t298, .int .i64 t299, .slice Ao11 t300.length co11] 24 (0, 0)) (by (with_reducible repeat (first | refine blk_drewN ?_ _ | refine blk_drew ?_ | refine blk_alloc ?_ _)); exact BK303.out) hb); have n4_ := Aside0.mk (below_step (by repeat (first | (with_reducible first | exact HB.out | apply below_alloc | apply pw_below_drewN | apply below_drew1 | refine below_set ?_ GE296.out | refine below_set ?_ GE303.out) | exact HB.out)) hb); clear HO_4; clear HO_304003; clear BK296; clear BK303; clear HB; have HO_4 := n0_; have HO_304003 := n1_; have BK296 := n2_; have BK303 := n3_; have HB := n4_; clear n0_ n1_ n2_ n3_ n4_; (try clear hb); (try clear hb2); (try clear hk); (try clear hi)))
       go_ret
       exact ⟨by first | rfl | (simp [errW_none, errW_some] <;> rfl) | (simp [*, errW_none, errW_some] <;> rfl) | (rw [Int.tdiv_eq_ediv_of_nonneg (by assumption)]; rfl), by repeat (first | (with_reducible first | exact HB.out | apply below_alloc | apply pw_below_drewN | apply below_drew1 | refine below_set ?_ GE296.out | refine below_set ?_ GE303.out) | exact HB.out)⟩
      ·
       rw [if_neg c76] at H
       have c76b0 : (t307 == 4) = false := beq_eq_false_iff_ne.mpr c76
       have c76b1 : (t307 != 4) = true := bne_iff_ne.mpr c76
       obtain rfl := Option.some.inj H
       have hnb84 := NB303_296.out
       have hnc84 := NB296_303.out
       have hcz85_0 : wc.cell? ⟨gb303, 0, none⟩ = some (.int .i64 t297) := (blk_cell BK303.out 0).trans rfl
       have hcz85_1 : wc.cell? ⟨gb303, 1, none⟩ = some (.int .i64 t298) := (blk_cell BK303.out 1).trans rfl
       have hcz85_2 : wc.cell? ⟨gb303, 2, none⟩ = some (.int .i64 t299) := (blk_cell BK303.out 2).trans rfl
       have hcz85_3 : wc.cell? ⟨gb303, 3, none⟩ = some (.slice Ao11 t300.length co11) := (blk_cell BK303.out 3).trans rfl
       have hfz85_0 := blk_frozen BK303.out 0
       have hfz85_1 := blk_frozen BK303.out 1
       have hfz85_2 := blk_frozen BK303.out 2
       have hfz85_3 := blk_frozen BK303.out 3
       have hcz86_0 : wc.cell? ⟨gb296, 0, none⟩ = some (.int .i64 a0_0) := (blk_cell BK296.out 0).trans rfl
       have hcz86_1 : wc.cell? ⟨gb296, 1, none⟩ = some (.int .i64 a0_1) := (blk_cell BK296.out 1).trans rfl
       have hcz86_2 : wc.cell? ⟨gb296, 2, none⟩ = some (.int .i64 a0_2) := (blk_cell BK296.out 2).trans rfl
       have hcz86_3 : wc.cell? ⟨gb296, 3, none⟩ = some (.slice A0_3 l0_3.length c0_3) := (blk_cell BK296.out 3).trans rfl
       have hcz86_4 : wc.cell? ⟨gb296, 4, none⟩ = some (.int .i64 a0_4) := (blk_cell BK296.out 4).trans rfl
       have hcz86_5 : wc.cell? ⟨gb296, 5, none⟩ = some (.int .i64 a0_5) := (blk_cell BK296.out 5).trans rfl
       have hcz86_6 : wc.cell? ⟨gb296, 6, none⟩ = some (.int .i64 a0_6) := (blk_cell BK296.out 6).trans rfl
       have hcz86_7 : wc.cell? ⟨gb296, 7, none⟩ = some (.int .i64 a0_7) := (blk_cell BK296.out 7).trans rfl
       have hcz86_8 : wc.cell? ⟨gb296, 8, none⟩ = some (.int .i64 a0_8) := (blk_cell BK296.out 8).trans rfl
       have hcz86_9 : wc.cell? ⟨gb296, 9, none⟩ = some (.int .i64 a0_9) := (blk_cell BK296.out 9).trans rfl
       have hfz86_0 := blk_frozen BK296.out 0
       have hfz86_1 := blk_frozen BK296.out 1
       have hfz86_2 := blk_frozen BK296.out 2
       have hfz86_3 := blk_frozen BK296.out 3
       have hfz86_4 := blk_frozen BK296.out 4
       have hfz86_5 := blk_frozen BK296.out 5
       have hfz86_6 := blk_frozen BK296.out 6
       have hfz86_7 := blk_frozen BK296.out 7
       have hfz86_8 := blk_frozen BK296.out 8
       have hfz86_9 := blk_frozen BK296.out 9
       go_wp2_with (first | ((with_reducible refine gate_callee (f := 18) rfl ?_); refine goesL_ (some 62) rfl rfl Try.func18 (by kernel_rfl) rfl #[.agg #[.int .i64 t297, .int .i64 t298, .int .i64 t299, .slice Ao11 t300.length co11], .int .i64 a0_4, .int .i64 a0_5] rfl (by (try simp only [List.map_toArray, List.map_cons, List.map_nil]); first | done | rfl | (simp only [List.length_drop, List.length_take]; rfl)) ?_; (with_reducible refine (bivouacref08_Is.calls t297 t298 t299 _ _ t300 a0_4 a0_5 false _ ?side1 ?side2 A46.out).mono ?_); (case side1 => repeat (first | exact (Kd.V_reads' HO_304003.out).2.2 | (with_reducible refine Kd.C_alloc ?_ _) | (with_reducible refine Kd.C_drewN ?_ _) | (with_reducible refine Kd.C_drew ?_))); (case side2 => exact (Kd.V_reads' HO_304003.out).2.1); rintro e w87 ⟨rfl, hb⟩; refine ⟨_, rfl, ?_⟩; have n0_ := Aside0.mk (Kd.R_below (by (with_reducible repeat (first | apply Kd.R_alloc | apply Kd.R_drewN | apply Kd.R_drew)); exact HO_4.out) hb); have n1_ := Aside0.mk (Kd.V_below (by (with_reducible repeat (first | apply Kd.V_alloc | apply Kd.V_drewN | apply Kd.V_drew)); exact HO_304003.out) hb); have n2_ := Aside0.mk (blk_below (g := gb296) (o := .cells #[.int .i64 a0_0, .int .i64 a0_1, .int .i64 a0_2, .slice A0_3 l0_3.length c0_3, .int .i64 a0_4, .int .i64 a0_5, .int .i64 a0_6, .int .i64 a0_7, .int .i64 a0_8, .int .i64 a0_9] 26 (0, 0)) (by (with_reducible repeat (first | refine blk_drewN ?_ _ | refine blk_drew ?_ | refine blk_alloc ?_ _)); exact BK296.out) hb); have n3_ := Aside0.mk (blk_below (g := gb303) (o := .cells #[.int .i64 t297, .int .i64 t298, .int .i64 t299, .slice Ao11 t300.length co11] 24 (0, 0)) (by (with_reducible repeat (first | refine blk_drewN ?_ _ | refine blk_drew ?_ | refine blk_alloc ?_ _)); exact BK303.out) hb); have n4_ := Aside0.mk (below_step (by repeat (first | (with_reducible first | exact HB.out | apply below_alloc | apply pw_below_drewN | apply below_drew1 | refine below_set ?_ GE296.out | refine below_set ?_ GE303.out) | exact HB.out)) hb); clear HO_4; clear HO_304003; clear BK296; clear BK303; clear HB; have HO_4 := n0_; have HO_304003 := n1_; have BK296 := n2_; have BK303 := n3_; have HB := n4_; clear n0_ n1_ n2_ n3_ n4_; (try clear hb); (try clear hb2); (try clear hk); (try clear hi); obtain ⟨Ao88, co88, eo88⟩ := Kd.R_slice HO_4.out; subst eo88))
       go_ret
       exact ⟨by first | rfl | (simp [errW_none, errW_some] <;> rfl) | (simp [*, errW_none, errW_some] <;> rfl) | (rw [Int.tdiv_eq_ediv_of_nonneg (by assumption)]; rfl), by repeat (first | (with_reducible first | exact HB.out | apply below_alloc | apply pw_below_drewN | apply below_drew1 | refine below_set ?_ GE296.out | refine below_set ?_ GE303.out) | exact HB.out)⟩
     ·
      rw [if_neg c75] at H
      have c75b0 : ((t304.length : Int) == 0) = false := beq_eq_false_iff_ne.mpr c75
      have c75b1 : ((t304.length : Int) != 0) = true := bne_iff_ne.mpr c75
      have c75b2 : ¬ (t304 = []) := fun h_ => c75 (by rw [h_]; rfl)
      obtain rfl := Option.some.inj H
      have hnb89 := NB303_296.out
      have hnc89 := NB296_303.out
      have hcz90_0 : wc.cell? ⟨gb303, 0, none⟩ = some (.int .i64 t297) := (blk_cell BK303.out 0).trans rfl
      have hcz90_1 : wc.cell? ⟨gb303, 1, none⟩ = some (.int .i64 t298) := (blk_cell BK303.out 1).trans rfl
      have hcz90_2 : wc.cell? ⟨gb303, 2, none⟩ = some (.int .i64 t299) := (blk_cell BK303.out 2).trans rfl
      have hcz90_3 : wc.cell? ⟨gb303, 3, none⟩ = some (.slice Ao11 t300.length co11) := (blk_cell BK303.out 3).trans rfl
      have hfz90_0 := blk_frozen BK303.out 0
      have hfz90_1 := blk_frozen BK303.out 1
      have hfz90_2 := blk_frozen BK303.out 2
      have hfz90_3 := blk_frozen BK303.out 3
      have hcz91_0 : wc.cell? ⟨gb296, 0, none⟩ = some (.int .i64 a0_0) := (blk_cell BK296.out 0).trans rfl
      have hcz91_1 : wc.cell? ⟨gb296, 1, none⟩ = some (.int .i64 a0_1) := (blk_cell BK296.out 1).trans rfl
      have hcz91_2 : wc.cell? ⟨gb296, 2, none⟩ = some (.int .i64 a0_2) := (blk_cell BK296.out 2).trans rfl
      have hcz91_3 : wc.cell? ⟨gb296, 3, none⟩ = some (.slice A0_3 l0_3.length c0_3) := (blk_cell BK296.out 3).trans rfl
      have hcz91_4 : wc.cell? ⟨gb296, 4, none⟩ = some (.int .i64 a0_4) := (blk_cell BK296.out 4).trans rfl
      have hcz91_5 : wc.cell? ⟨gb296, 5, none⟩ = some (.int .i64 a0_5) := (blk_cell BK296.out 5).trans rfl
      have hcz91_6 : wc.cell? ⟨gb296, 6, none⟩ = some (.int .i64 a0_6) := (blk_cell BK296.out 6).trans rfl
      have hcz91_7 : wc.cell? ⟨gb296, 7, none⟩ = some (.int .i64 a0_7) := (blk_cell BK296.out 7).trans rfl
      have hcz91_8 : wc.cell? ⟨gb296, 8, none⟩ = some (.int .i64 a0_8) := (blk_cell BK296.out 8).trans rfl
      have hcz91_9 : wc.cell? ⟨gb296, 9, none⟩ = some (.int .i64 a0_9) := (blk_cell BK296.out 9).trans rfl
      have hfz91_0 := blk_frozen BK296.out 0
      have hfz91_1 := blk_frozen BK296.out 1
      have hfz91_2 := blk_frozen BK296.out 2
      have hfz91_3 := blk_frozen BK296.out 3
      have hfz91_4 := blk_frozen BK296.out 4
      have hfz91_5 := blk_frozen BK296.out 5
      have hfz91_6 := blk_frozen BK296.out 6
      have hfz91_7 := blk_frozen BK296.out 7
      have hfz91_8 := blk_frozen BK296.out 8
      have hfz91_9 := blk_frozen BK296.out 9
      go_wp2_with (first | ((with_reducible refine gate_callee (f := 18) rfl ?_); refine goesL_ (some 62) rfl rfl Try.func18 (by kernel_rfl) rfl #[.agg #[.int .i64 t297, .int .i64 t298, .int .i64 t299, .slice Ao11 t300.length co11], .int .i64 a0_4, .int .i64 a0_5] rfl (by (try simp only [List.map_toArray, List.map_cons, List.map_nil]); first | done | rfl | (simp only [List.length_drop, List.length_take]; rfl)) ?_; (with_reducible refine (bivouacref08_Is.calls t297 t298 t299 _ _ t300 a0_4 a0_5 false _ ?side1 ?side2 A46.out).mono ?_); (case side1 => repeat (first | exact (Kd.V_reads' HO_304003.out).2.2 | (with_reducible refine Kd.C_alloc ?_ _) | (with_reducible refine Kd.C_drewN ?_ _) | (with_reducible refine Kd.C_drew ?_))); (case side2 => exact (Kd.V_reads' HO_304003.out).2.1); rintro e w92 ⟨rfl, hb⟩; refine ⟨_, rfl, ?_⟩; have n0_ := Aside0.mk (Kd.R_below (by (with_reducible repeat (first | apply Kd.R_alloc | apply Kd.R_drewN | apply Kd.R_drew)); exact HO_4.out) hb); have n1_ := Aside0.mk (Kd.V_below (by (with_reducible repeat (first | apply Kd.V_alloc | apply Kd.V_drewN | apply Kd.V_drew)); exact HO_304003.out) hb); have n2_ := Aside0.mk (blk_below (g := gb296) (o := .cells #[.int .i64 a0_0, .int .i64 a0_1, .int .i64 a0_2, .slice A0_3 l0_3.length c0_3, .int .i64 a0_4, .int .i64 a0_5, .int .i64 a0_6, .int .i64 a0_7, .int .i64 a0_8, .int .i64 a0_9] 26 (0, 0)) (by (with_reducible repeat (first | refine blk_drewN ?_ _ | refine blk_drew ?_ | refine blk_alloc ?_ _)); exact BK296.out) hb); have n3_ := Aside0.mk (blk_below (g := gb303) (o := .cells #[.int .i64 t297, .int .i64 t298, .int .i64 t299, .slice Ao11 t300.length co11] 24 (0, 0)) (by (with_reducible repeat (first | refine blk_drewN ?_ _ | refine blk_drew ?_ | refine blk_alloc ?_ _)); exact BK303.out) hb); have n4_ := Aside0.mk (below_step (by repeat (first | (with_reducible first | exact HB.out | apply below_alloc | apply pw_below_drewN | apply below_drew1 | refine below_set ?_ GE296.out | refine below_set ?_ GE303.out) | exact HB.out)) hb); clear HO_4; clear HO_304003; clear BK296; clear BK303; clear HB; have HO_4 := n0_; have HO_304003 := n1_; have BK296 := n2_; have BK303 := n3_; have HB := n4_; clear n0_ n1_ n2_ n3_ n4_; (try clear hb); (try clear hb2); (try clear hk); (try clear hi); obtain ⟨Ao93, co93, eo93⟩ := Kd.R_slice HO_4.out; subst eo93))
      go_ret
      exact ⟨by first | rfl | (simp [errW_none, errW_some] <;> rfl) | (simp [*, errW_none, errW_some] <;> rfl) | (rw [Int.tdiv_eq_ediv_of_nonneg (by assumption)]; rfl), by repeat (first | (with_reducible first | exact HB.out | apply below_alloc | apply pw_below_drewN | apply below_drew1 | refine below_set ?_ GE296.out | refine below_set ?_ GE303.out) | exact HB.out)⟩

/-- THE ONE PURE STATEMENT of bivouaclaw08_RaySeen. -/
def bivouaclaw08_RaySeen.Pure : Prop := ∀ (a0_0 : Int) (a0_1 : Int) (a0_2 : Int) (l0_3 : List Int) (a0_4 : Int) (a0_5 : Int) (a0_6 : Int) (a0_7 : Int) (a0_8 : Int) (a0_9 : Int), (Lit.int .i64 a0_0).wf = true → (Lit.int .i64 a0_1).wf = true → (Lit.int .i64 a0_2).wf = true → l0_3.length ≤ maxLen → (∀ x ∈ l0_3, (Lit.int .u8 x).wf = true) → (Lit.int .i64 a0_4).wf = true → (Lit.int .i64 a0_5).wf = true → (Lit.int .i64 a0_6).wf = true → (Lit.int .i64 a0_7).wf = true → (Lit.int .i64 a0_8).wf = true → (Lit.int .i64 a0_9).wf = true → ∃ k, bivouaclaw08_RaySeen.f k a0_0 a0_1 a0_2 l0_3 a0_4 a0_5 a0_6 a0_7 a0_8 a0_9 = some true
theorem bivouaclaw08_RaySeen.walked : True := trivial

end Go.Proofs.Ytincnaejgimlbaa.PA
