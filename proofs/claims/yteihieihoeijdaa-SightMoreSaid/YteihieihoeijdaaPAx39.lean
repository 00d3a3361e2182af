-- WRITTEN BY A PROGRAM OF THIS SESSION (a turned copy of the kit's printer), for this claim. Nothing here is trusted: Lean checks it.
import Derived.Test.YteihieihoeijdaaPAx0
import Derived.Test.YteihieihoeijdaaPAx30
import Derived.Test.YteihieihoeijdaaGAbivouaclaw21few
import Derived.Test.YteihieihoeijdaaGAsightView
namespace Go.Proofs.Yteihieihoeijdaa.PA
open Go.RowKit Go.Proofs.YteihieihoeijdaaW.PrintWords Go.Proofs.YteihieihoeijdaaW.PrintLast Go.Proofs.YteihieihoeijdaaW.PrintMore
attribute [local go_sem] max2_int min2_int max_two min_two max_three min_three max_four min_four   -- for this text's walks alone
set_option linter.unusedVariables false
set_option linter.unusedSimpArgs false

/-! ### bivouaclaw21_SightMore: function 4 -/
mutual
def bivouaclaw21_SightMore.j0 : Nat → List Int → Int → List Int → Int → Bool → Int → Int → Int → List Int → List (S27) → Int → Int → Int → Int → Int → Int → Int → Int → Int → Int → Option (Bool)
 | 0, _, _, _, _, _, _, _, _, _, _, _, _, _, _, _, _, _, _, _, _ => none
 | k + 1, x3, x4, x5, x6, x41, x326000, x326001, x326002, x326003, x326004, x326005, x326006, x326007, x326008, x326009, x326010, x326011, x326012, x326013, x326014 => if x41 = true then (if x4 = 0 then (if x6 = 0 then ((bivouaclaw21_awake.f k).bind fun t365 => (some t365)) else (if (x5.length : Int) = 0 then ((bivouaclaw21_awake.f k).bind fun t366 => (some t366)) else (none))) else (if (x3.length : Int) = 0 then (if x6 = 0 then ((bivouaclaw21_awake.f k).bind fun t367 => (some t367)) else (if (x5.length : Int) = 0 then ((bivouaclaw21_awake.f k).bind fun t368 => (some t368)) else (none))) else (none))) else (if (x3.length : Int) = (x5.length : Int) then (bivouaclaw21_SightMore.l0 k x3 x5 0 x326000 x326001 x326002 x326003 x326004 x326005 x326006 x326007 x326008 x326009 x326010 x326011 x326012 x326013 x326014) else (none))
def bivouaclaw21_SightMore.l0 : Nat → List Int → List Int → Int → Int → Int → Int → List Int → List (S27) → Int → Int → Int → Int → Int → Int → Int → Int → Int → Int → Option (Bool)
 | 0, _, _, _, _, _, _, _, _, _, _, _, _, _, _, _, _, _, _ => none
 | k + 1, x3, x5, x7, x326000, x326001, x326002, x326003, x326004, x326005, x326006, x326007, x326008, x326009, x326010, x326011, x326012, x326013, x326014 => if x7 < (x3.length : Int) then (if x326007 = x326005 then (if 0 ≤ x7 then (if x7 < (x5.length : Int) then (if (rd x5 x7) < (rd x3 x7) then (bivouaclaw21_SightMore.j2 k x3 x5 x7 true x326000 x326001 x326002 x326003 x326004 x326005 x326006 x326007 x326008 x326009 x326010 x326011 x326012 x326013 x326014) else (bivouaclaw21_SightMore.j2 k x3 x5 x7 false x326000 x326001 x326002 x326003 x326004 x326005 x326006 x326007 x326008 x326009 x326010 x326011 x326012 x326013 x326014)) else (none)) else (none)) else (if 0 ≤ x7 then (if x7 < (x5.length : Int) then (if (rd x5 x7) > (rd x3 x7) then (bivouaclaw21_SightMore.j2 k x3 x5 x7 true x326000 x326001 x326002 x326003 x326004 x326005 x326006 x326007 x326008 x326009 x326010 x326011 x326012 x326013 x326014) else (bivouaclaw21_SightMore.j2 k x3 x5 x7 (((rd x3 x7) == 2) != ((rd x5 x7) == 2)) x326000 x326001 x326002 x326003 x326004 x326005 x326006 x326007 x326008 x326009 x326010 x326011 x326012 x326013 x326014)) else (none)) else (none))) else ((bivouaclaw21_awake.f k).bind fun t369 => (some t369))
def bivouaclaw21_SightMore.j2 : Nat → List Int → List Int → Int → Bool → Int → Int → Int → List Int → List (S27) → Int → Int → Int → Int → Int → Int → Int → Int → Int → Int → Option (Bool)
 | 0, _, _, _, _, _, _, _, _, _, _, _, _, _, _, _, _, _, _, _ => none
 | k + 1, x3, x5, x7, x120, x326000, x326001, x326002, x326003, x326004, x326005, x326006, x326007, x326008, x326009, x326010, x326011, x326012, x326013, x326014 => if x120 = true then (none) else (bivouaclaw21_SightMore.l0 k x3 x5 (wrap64 (x7 + 1)) x326000 x326001 x326002 x326003 x326004 x326005 x326006 x326007 x326008 x326009 x326010 x326011 x326012 x326013 x326014)
end
def bivouaclaw21_SightMore.f (k : Nat) (a0_0 : Int) (a0_1 : Int) (a0_2 : Int) (l0_3 : List Int) (l0_4 : List (S27)) (a0_5 : Int) (a0_6 : Int) (a0_7 : Int) (a0_8 : Int) (a0_9 : Int) (a0_10 : Int) (a0_11 : Int) (a0_12 : Int) (a0_13 : Int) (a0_14 : Int) : Option (Bool) := (bivouaclaw21_few.f a0_0 a0_1 a0_2 l0_3 l0_4 a0_5 a0_6 a0_7 a0_8 a0_9 a0_10 a0_11 a0_12 a0_13 a0_14).bind fun bt326 => ((sight_View.f k bt326.1 bt326.2.1 bt326.2.2.1 bt326.2.2.2.1 bt326.2.2.2.2.1 bt326.2.2.2.2.2.1).bind fun bt345 => ((some (([] : List (S27)) : List (S27))).bind fun y349 => (if y349.length + bt326.2.2.2.2.1.length < 2199023255552 then ((some (y349 ++ bt326.2.2.2.2.1 : List (S27))).bind fun y352 => ((some (([(⟨bt326.2.2.2.2.2.2.2.1, bt326.2.2.2.2.2.2.2.2.1, bt326.2.2.2.2.2.2.2.2.2.1, bt326.2.2.2.2.2.2.2.2.2.2.1, bt326.2.2.2.2.2.2.2.2.2.2.2.1, bt326.2.2.2.2.2.2.2.2.2.2.2.2.1, bt326.2.2.2.2.2.2.2.2.2.2.2.2.2.1, bt326.2.2.2.2.2.2.2.2.2.2.2.2.2.2⟩ : S27)] : List (S27)) : List (S27))).bind fun y355 => (if y352.length + y355.length < 2199023255552 then ((sight_View.f k bt326.1 bt326.2.1 bt326.2.2.1 bt326.2.2.2.1 (y352 ++ y355) bt326.2.2.2.2.2.1).bind fun bt361 => (if bt345.2 = 0 then (bivouaclaw21_SightMore.j0 k bt345.1 bt345.2 bt361.1 bt361.2 (bt361.2 != 0) bt326.1 bt326.2.1 bt326.2.2.1 bt326.2.2.2.1 bt326.2.2.2.2.1 bt326.2.2.2.2.2.1 bt326.2.2.2.2.2.2.1 bt326.2.2.2.2.2.2.2.1 bt326.2.2.2.2.2.2.2.2.1 bt326.2.2.2.2.2.2.2.2.2.1 bt326.2.2.2.2.2.2.2.2.2.2.1 bt326.2.2.2.2.2.2.2.2.2.2.2.1 bt326.2.2.2.2.2.2.2.2.2.2.2.2.1 bt326.2.2.2.2.2.2.2.2.2.2.2.2.2.1 bt326.2.2.2.2.2.2.2.2.2.2.2.2.2.2) else (bivouaclaw21_SightMore.j0 k bt345.1 bt345.2 bt361.1 bt361.2 true bt326.1 bt326.2.1 bt326.2.2.1 bt326.2.2.2.1 bt326.2.2.2.2.1 bt326.2.2.2.2.2.1 bt326.2.2.2.2.2.2.1 bt326.2.2.2.2.2.2.2.1 bt326.2.2.2.2.2.2.2.2.1 bt326.2.2.2.2.2.2.2.2.2.1 bt326.2.2.2.2.2.2.2.2.2.2.1 bt326.2.2.2.2.2.2.2.2.2.2.2.1 bt326.2.2.2.2.2.2.2.2.2.2.2.2.1 bt326.2.2.2.2.2.2.2.2.2.2.2.2.2.1 bt326.2.2.2.2.2.2.2.2.2.2.2.2.2.2))) else (none)))) else (none))))
theorem bivouaclaw21_SightMore.mono_l : ∀ k, (∀ y0 y1 y2 y3 y4 y5 y6 y7 y8 y9 y10 y11 y12 y13 y14 y15 y16 y17 y18 y19, LeO (bivouaclaw21_SightMore.j0 k y0 y1 y2 y3 y4 y5 y6 y7 y8 y9 y10 y11 y12 y13 y14 y15 y16 y17 y18 y19) (bivouaclaw21_SightMore.j0 (k + 1) y0 y1 y2 y3 y4 y5 y6 y7 y8 y9 y10 y11 y12 y13 y14 y15 y16 y17 y18 y19)) ∧ (∀ y0 y1 y2 y3 y4 y5 y6 y7 y8 y9 y10 y11 y12 y13 y14 y15 y16 y17, LeO (bivouaclaw21_SightMore.l0 k y0 y1 y2 y3 y4 y5 y6 y7 y8 y9 y10 y11 y12 y13 y14 y15 y16 y17) (bivouaclaw21_SightMore.l0 (k + 1) y0 y1 y2 y3 y4 y5 y6 y7 y8 y9 y10 y11 y12 y13 y14 y15 y16 y17)) ∧ (∀ y0 y1 y2 y3 y4 y5 y6 y7 y8 y9 y10 y11 y12 y13 y14 y15 y16 y17 y18, LeO (bivouaclaw21_SightMore.j2 k y0 y1 y2 y3 y4 y5 y6 y7 y8 y9 y10 y11 y12 y13 y14 y15 y16 y17 y18) (bivouaclaw21_SightMore.j2 (k + 1) y0 y1 y2 y3 y4 y5 y6 y7 y8 y9 y10 y11 y12 y13 y14 y15 y16 y17 y18))
 | 0 => ⟨fun _ _ _ _ _ _ _ _ _ _ _ _ _ _ _ _ _ _ _ _ r h => by simp [bivouaclaw21_SightMore.j0] at h, fun _ _ _ _ _ _ _ _ _ _ _ _ _ _ _ _ _ _ r h => by simp [bivouaclaw21_SightMore.l0] at h, fun _ _ _ _ _ _ _ _ _ _ _ _ _ _ _ _ _ _ _ r h => by simp [bivouaclaw21_SightMore.j2] at h⟩
 | k + 1 => by
  obtain ⟨ih0, ih1, ih2⟩ := bivouaclaw21_SightMore.mono_l k
  refine ⟨?_, ?_, ?_⟩
  ·
   intro y0 y1 y2 y3 y4 y5 y6 y7 y8 y9 y10 y11 y12 y13 y14 y15 y16 y17 y18 y19
   unfold bivouaclaw21_SightMore.j0
   repeat' first
   | (with_reducible exact ih0 _ _ _ _ _ _ _ _ _ _ _ _ _ _ _ _ _ _ _ _)
   | (with_reducible exact ih1 _ _ _ _ _ _ _ _ _ _ _ _ _ _ _ _ _ _)
   | (with_reducible exact ih2 _ _ _ _ _ _ _ _ _ _ _ _ _ _ _ _ _ _ _)
   | (with_reducible exact bivouaclaw21_awake.mono _)
   | (with_reducible exact sight_View.mono _ _ _ _ _ _ _)
   | (with_reducible exact LeO.refl _)
   | (with_reducible exact LeO.none _)
   | (with_reducible refine LeO.ite ?_ ?_)
   | (with_reducible refine LeO.bind ?_ (fun _ => ?_))
   | exact ih0 _ _ _ _ _ _ _ _ _ _ _ _ _ _ _ _ _ _ _ _
   | exact ih1 _ _ _ _ _ _ _ _ _ _ _ _ _ _ _ _ _ _
   | exact ih2 _ _ _ _ _ _ _ _ _ _ _ _ _ _ _ _ _ _ _
   | exact bivouaclaw21_awake.mono _
   | exact sight_View.mono _ _ _ _ _ _ _
   | exact LeO.none _
   | refine LeO.ite ?_ ?_
   | refine LeO.bind ?_ (fun _ => ?_)
  ·
   intro y0 y1 y2 y3 y4 y5 y6 y7 y8 y9 y10 y11 y12 y13 y14 y15 y16 y17
   unfold bivouaclaw21_SightMore.l0
   repeat' first
   | (with_reducible exact ih0 _ _ _ _ _ _ _ _ _ _ _ _ _ _ _ _ _ _ _ _)
   | (with_reducible exact ih1 _ _ _ _ _ _ _ _ _ _ _ _ _ _ _ _ _ _)
   | (with_reducible exact ih2 _ _ _ _ _ _ _ _ _ _ _ _ _ _ _ _ _ _ _)
   | (with_reducible exact bivouaclaw21_awake.mono _)
   | (with_reducible exact sight_View.mono _ _ _ _ _ _ _)
   | (with_reducible exact LeO.refl _)
   | (with_reducible exact LeO.none _)
   | (with_reducible refine LeO.ite ?_ ?_)
   | (with_reducible refine LeO.bind ?_ (fun _ => ?_))
   | exact ih0 _ _ _ _ _ _ _ _ _ _ _ _ _ _ _ _ _ _ _ _
   | exact ih1 _ _ _ _ _ _ _ _ _ _ _ _ _ _ _ _ _ _
   | exact ih2 _ _ _ _ _ _ _ _ _ _ _ _ _ _ _ _ _ _ _
   | exact bivouaclaw21_awake.mono _
   | exact sight_View.mono _ _ _ _ _ _ _
   | exact LeO.none _
   | refine LeO.ite ?_ ?_
   | refine LeO.bind ?_ (fun _ => ?_)
  ·
   intro y0 y1 y2 y3 y4 y5 y6 y7 y8 y9 y10 y11 y12 y13 y14 y15 y16 y17 y18
   unfold bivouaclaw21_SightMore.j2
   repeat' first
   | (with_reducible exact ih0 _ _ _ _ _ _ _ _ _ _ _ _ _ _ _ _ _ _ _ _)
   | (with_reducible exact ih1 _ _ _ _ _ _ _ _ _ _ _ _ _ _ _ _ _ _)
   | (with_reducible exact ih2 _ _ _ _ _ _ _ _ _ _ _ _ _ _ _ _ _ _ _)
   | (with_reducible exact bivouaclaw21_awake.mono _)
   | (with_reducible exact sight_View.mono _ _ _ _ _ _ _)
   | (with_reducible exact LeO.refl _)
   | (with_reducible exact LeO.none _)
   | (with_reducible refine LeO.ite ?_ ?_)
   | (with_reducible refine LeO.bind ?_ (fun _ => ?_))
   | exact ih0 _ _ _ _ _ _ _ _ _ _ _ _ _ _ _ _ _ _ _ _
   | exact ih1 _ _ _ _ _ _ _ _ _ _ _ _ _ _ _ _ _ _
   | exact ih2 _ _ _ _ _ _ _ _ _ _ _ _ _ _ _ _ _ _ _
   | exact bivouaclaw21_awake.mono _
   | exact sight_View.mono _ _ _ _ _ _ _
   | exact LeO.none _
   | refine LeO.ite ?_ ?_
   | refine LeO.bind ?_ (fun _ => ?_)
theorem bivouaclaw21_SightMore.mono : ∀ a0 a1 a2 a3 a4 a5 a6 a7 a8 a9 a10 a11 a12 a13 a14 k, LeO (bivouaclaw21_SightMore.f k a0 a1 a2 a3 a4 a5 a6 a7 a8 a9 a10 a11 a12 a13 a14) (bivouaclaw21_SightMore.f (k + 1) a0 a1 a2 a3 a4 a5 a6 a7 a8 a9 a10 a11 a12 a13 a14) := by
 intro a0 a1 a2 a3 a4 a5 a6 a7 a8 a9 a10 a11 a12 a13 a14 k
 obtain ⟨ih0, ih1, ih2⟩ := bivouaclaw21_SightMore.mono_l k
 unfold bivouaclaw21_SightMore.f
 repeat' first
   | (with_reducible exact ih0 _ _ _ _ _ _ _ _ _ _ _ _ _ _ _ _ _ _ _ _)
   | (with_reducible exact ih1 _ _ _ _ _ _ _ _ _ _ _ _ _ _ _ _ _ _)
   | (with_reducible exact ih2 _ _ _ _ _ _ _ _ _ _ _ _ _ _ _ _ _ _ _)
   | (with_reducible exact bivouaclaw21_awake.mono _)
   | (with_reducible exact sight_View.mono _ _ _ _ _ _ _)
   | (with_reducible exact LeO.refl _)
   | (with_reducible exact LeO.none _)
   | (with_reducible refine LeO.ite ?_ ?_)
   | (with_reducible refine LeO.bind ?_ (fun _ => ?_))
   | exact ih0 _ _ _ _ _ _ _ _ _ _ _ _ _ _ _ _ _ _ _ _
   | exact ih1 _ _ _ _ _ _ _ _ _ _ _ _ _ _ _ _ _ _
   | exact ih2 _ _ _ _ _ _ _ _ _ _ _ _ _ _ _ _ _ _ _
   | exact bivouaclaw21_awake.mono _
   | exact sight_View.mono _ _ _ _ _ _ _
   | exact LeO.none _
   | refine LeO.ite ?_ ?_
   | refine LeO.bind ?_ (fun _ => ?_)
def bivouaclaw21_SightMore.T3 : Bool × List (List Nat × List Nat) := (true, [([], []), ([0], [0]), ([], []), ([], []), ([3], [3]), ([2, 4], [2, 4]), ([], []), ([6], [6]), ([7], [7]), ([5, 8, 5], [5, 8]), ([], []), ([10], [10]), ([1, 9, 11, 9], [1, 9, 11]), ([12], [12]), ([13], [13]), ([13], [13]), ([14, 12, 0, 1, 2, 3, 4, 5, 6, 7, 8, 9, 10, 11, 12, 13, 14], [14]), ([15, 16, 0, 1, 2, 3, 4, 5, 6, 7, 8, 9, 10, 11, 12, 13, 14, 15, 16], [15])])
def bivouaclaw21_SightMore.B3 : List Nat := [0, 1, 0, 0, 8, 28, 0, 64, 192, 508, 0, 1024, 4095, 8191, 16383, 16383, 32767, 131071]
theorem bivouaclaw21_SightMore.tab3 : rtab .any (opsOf Try.f4 3) = bivouaclaw21_SightMore.T3 := by kernel_rfl
theorem bivouaclaw21_SightMore.bits3 : waitsOk bivouaclaw21_SightMore.T3.2 bivouaclaw21_SightMore.B3 = true := by kernel_rfl
def bivouaclaw21_SightMore.T11 : Bool × List (List Nat × List Nat) := (true, [([], []), ([0], [0]), ([1], [1]), ([], []), ([3], [3]), ([2, 4], [2, 4]), ([5], [5]), ([6], [6]), ([6], [6]), ([7, 8, 6], [6, 7, 8]), ([9, 6], [6, 9]), ([6], [6]), ([6], [6]), ([11, 12, 6], [6, 11, 12]), ([13, 6], [6, 13]), ([10, 14, 6], [6, 10, 14]), ([6, 15], [6, 15]), ([16, 6], [16]), ([17], [17]), ([18, 17], [17, 18]), ([19, 17], [17, 19]), ([17], [17]), ([21, 17], [17, 21]), ([20, 22, 17], [17, 20, 22]), ([23, 17, 17], [17, 23]), ([24], [24]), ([24], [24]), ([25, 26, 24], [24, 25, 26]), ([27, 24], [24, 27]), ([24], [24]), ([24], [24]), ([29, 30, 24], [24, 29, 30]), ([31, 24], [24, 31]), ([28, 32, 24], [24, 28, 32]), ([33, 24, 24], [24, 33]), ([34], [34]), ([34], [34]), ([35, 36, 34], [34, 35, 36]), ([37, 34], [34, 37]), ([38, 34], [34, 38]), ([34], [34]), ([34], [34]), ([40, 41, 34], [34, 40, 41]), ([42, 34], [34, 42]), ([43, 34], [34, 43]), ([39, 44, 34], [34, 39, 44]), ([34, 45, 24], [24, 34, 45]), ([24, 46, 17], [17, 24, 46]), ([17, 47], [17, 47])])
def bivouaclaw21_SightMore.B11 : List Nat := [0, 1, 3, 0, 8, 31, 63, 127, 127, 511, 1023, 127, 127, 6271, 14463, 32767, 65535, 131071, 262143, 524287, 1048575, 262143, 2359295, 8388607, 16777215, 33554431, 33554431, 134217727, 268435455, 33554431, 33554431, 1644167167, 3791650815, 8589934591, 17179869183, 34359738367, 34359738367, 137438953471, 274877906943, 549755813887, 34359738367, 34359738367, 3332894621695, 7730941132799, 16527034155007, 35184372088831, 70368744177663, 140737488355327, 281474976710655]
theorem bivouaclaw21_SightMore.tab11 : rtab .any (opsOf Try.f4 11) = bivouaclaw21_SightMore.T11 := by kernel_rfl
theorem bivouaclaw21_SightMore.bits11 : waitsOk bivouaclaw21_SightMore.T11.2 bivouaclaw21_SightMore.B11 = true := by kernel_rfl
set_option maxHeartbeats 8000000 in
set_option maxRecDepth 100000 in
theorem bivouaclaw21_SightMore.calls (k : Nat) (a0_0 : Int) (a0_1 : Int) (a0_2 : Int) (A0_3 : Option Addr) (c0_3 : Nat) (l0_3 : List Int) (A0_4 : Option Addr) (c0_4 : Nat) (l0_4 : List (S27)) (a0_5 : Int) (a0_6 : Int) (a0_7 : Int) (a0_8 : Int) (a0_9 : Int) (a0_10 : Int) (a0_11 : Int) (a0_12 : Int) (a0_13 : Int) (a0_14 : Int) (r : Bool) (w : World) (hr0_3 : Kd.C (Kd.int .u8) w A0_3 l0_3.length l0_3) (hc0_3 : l0_3.length ≤ c0_3) (hr0_4 : Kd.C k27 w A0_4 l0_4.length l0_4) (hc0_4 : l0_4.length ≤ c0_4) (h : bivouaclaw21_SightMore.f k a0_0 a0_1 a0_2 l0_3 l0_4 a0_5 a0_6 a0_7 a0_8 a0_9 a0_10 a0_11 a0_12 a0_13 a0_14 = some r) :
  Calls Try.prog 4 #[.agg #[.int .i64 a0_0, .int .i64 a0_1, .int .i64 a0_2, .slice A0_3 l0_3.length c0_3, .slice A0_4 l0_4.length c0_4, .int .i64 a0_5, .int .i64 a0_6, .int .i64 a0_7, .int .i64 a0_8, .int .i64 a0_9, .int .i64 a0_10, .int .i64 a0_11, .int .i64 a0_12, .int .i64 a0_13, .int .i64 a0_14]] w fun e w' => e = .returned (.bool r) ∧ Below w.heap.size w w' := by
 have hu29 := Try.underlying29
 have hu24 := Try.underlying24
 have hu27 := Try.underlying27
 have HR0_3 := Aside0.mk hr0_3
 have HC0_3 := Aside0.mk hc0_3
 clear hr0_3 hc0_3
 have HR0_4 := Aside0.mk hr0_4
 have HC0_4 := Aside0.mk hc0_4
 clear hr0_4 hc0_4
 have HB := Aside0.mk (Below.refl w.heap.size w)
 have H : ((bivouaclaw21_few.f a0_0 a0_1 a0_2 l0_3 l0_4 a0_5 a0_6 a0_7 a0_8 a0_9 a0_10 a0_11 a0_12 a0_13 a0_14).bind fun bt326 => ((sight_View.f k bt326.1 bt326.2.1 bt326.2.2.1 bt326.2.2.2.1 bt326.2.2.2.2.1 bt326.2.2.2.2.2.1).bind fun bt345 => ((some (([] : List (S27)) : List (S27))).bind fun y349 => (if y349.length + bt326.2.2.2.2.1.length < 2199023255552 then ((some (y349 ++ bt326.2.2.2.2.1 : List (S27))).bind fun y352 => ((some (([(⟨bt326.2.2.2.2.2.2.2.1, bt326.2.2.2.2.2.2.2.2.1, bt326.2.2.2.2.2.2.2.2.2.1, bt326.2.2.2.2.2.2.2.2.2.2.1, bt326.2.2.2.2.2.2.2.2.2.2.2.1, bt326.2.2.2.2.2.2.2.2.2.2.2.2.1, bt326.2.2.2.2.2.2.2.2.2.2.2.2.2.1, bt326.2.2.2.2.2.2.2.2.2.2.2.2.2.2⟩ : S27)] : List (S27)) : List (S27))).bind fun y355 => (if y352.length + y355.length < 2199023255552 then ((sight_View.f k bt326.1 bt326.2.1 bt326.2.2.1 bt326.2.2.2.1 (y352 ++ y355) bt326.2.2.2.2.2.1).bind fun bt361 => (if bt345.2 = 0 then (bivouaclaw21_SightMore.j0 k bt345.1 bt345.2 bt361.1 bt361.2 (bt361.2 != 0) bt326.1 bt326.2.1 bt326.2.2.1 bt326.2.2.2.1 bt326.2.2.2.2.1 bt326.2.2.2.2.2.1 bt326.2.2.2.2.2.2.1 bt326.2.2.2.2.2.2.2.1 bt326.2.2.2.2.2.2.2.2.1 bt326.2.2.2.2.2.2.2.2.2.1 bt326.2.2.2.2.2.2.2.2.2.2.1 bt326.2.2.2.2.2.2.2.2.2.2.2.1 bt326.2.2.2.2.2.2.2.2.2.2.2.2.1 bt326.2.2.2.2.2.2.2.2.2.2.2.2.2.1 bt326.2.2.2.2.2.2.2.2.2.2.2.2.2.2) else (bivouaclaw21_SightMore.j0 k bt345.1 bt345.2 bt361.1 bt361.2 true bt326.1 bt326.2.1 bt326.2.2.1 bt326.2.2.2.1 bt326.2.2.2.2.1 bt326.2.2.2.2.2.1 bt326.2.2.2.2.2.2.1 bt326.2.2.2.2.2.2.2.1 bt326.2.2.2.2.2.2.2.2.1 bt326.2.2.2.2.2.2.2.2.2.1 bt326.2.2.2.2.2.2.2.2.2.2.1 bt326.2.2.2.2.2.2.2.2.2.2.2.1 bt326.2.2.2.2.2.2.2.2.2.2.2.2.1 bt326.2.2.2.2.2.2.2.2.2.2.2.2.2.1 bt326.2.2.2.2.2.2.2.2.2.2.2.2.2.2))) else (none)))) else (none))))) = some r := h
 clear h
 replace H := Option.bind_eq_some_iff.mp H
 obtain ⟨⟨t326, t327, t328, t329, t332, t335, t336, t337, t338, t339, t340, t341, t342, t343, t344⟩, A20, H⟩ := H
 replace H : ((sight_View.f k t326 t327 t328 t329 t332 t335).bind fun bt345 => ((some (([] : List (S27)) : List (S27))).bind fun y349 => (if y349.length + t332.length < 2199023255552 then ((some (y349 ++ t332 : List (S27))).bind fun y352 => ((some (([(⟨t337, t338, t339, t340, t341, t342, t343, t344⟩ : S27)] : List (S27)) : List (S27))).bind fun y355 => (if y352.length + y355.length < 2199023255552 then ((sight_View.f k t326 t327 t328 t329 (y352 ++ y355) t335).bind fun bt361 => (if bt345.2 = 0 then (bivouaclaw21_SightMore.j0 k bt345.1 bt345.2 bt361.1 bt361.2 (bt361.2 != 0) t326 t327 t328 t329 t332 t335 t336 t337 t338 t339 t340 t341 t342 t343 t344) else (bivouaclaw21_SightMore.j0 k bt345.1 bt345.2 bt361.1 bt361.2 true t326 t327 t328 t329 t332 t335 t336 t337 t338 t339 t340 t341 t342 t343 t344))) else (none)))) else (none)))) = some r := H
 have A2 := Aside0.mk A20
 clear A20
 replace H := Option.bind_eq_some_iff.mp H
 obtain ⟨⟨t345, t348⟩, A30, H⟩ := H
 replace H : ((some (([] : List (S27)) : List (S27))).bind fun y349 => (if y349.length + t332.length < 2199023255552 then ((some (y349 ++ t332 : List (S27))).bind fun y352 => ((some (([(⟨t337, t338, t339, t340, t341, t342, t343, t344⟩ : S27)] : List (S27)) : List (S27))).bind fun y355 => (if y352.length + y355.length < 2199023255552 then ((sight_View.f k t326 t327 t328 t329 (y352 ++ y355) t335).bind fun bt361 => (if t348 = 0 then (bivouaclaw21_SightMore.j0 k t345 t348 bt361.1 bt361.2 (bt361.2 != 0) t326 t327 t328 t329 t332 t335 t336 t337 t338 t339 t340 t341 t342 t343 t344) else (bivouaclaw21_SightMore.j0 k t345 t348 bt361.1 bt361.2 true t326 t327 t328 t329 t332 t335 t336 t337 t338 t339 t340 t341 t342 t343 t344))) else (none)))) else (none))) = some r := H
 have A3 := Aside0.mk A30
 clear A30
 obtain ⟨y349, hy349⟩ : ∃ y_ : List (S27), y_ = (([] : List (S27))) := ⟨_, rfl⟩
 replace H : (if y349.length + t332.length < 2199023255552 then ((some (y349 ++ t332 : List (S27))).bind fun y352 => ((some (([(⟨t337, t338, t339, t340, t341, t342, t343, t344⟩ : S27)] : List (S27)) : List (S27))).bind fun y355 => (if y352.length + y355.length < 2199023255552 then ((sight_View.f k t326 t327 t328 t329 (y352 ++ y355) t335).bind fun bt361 => (if t348 = 0 then (bivouaclaw21_SightMore.j0 k t345 t348 bt361.1 bt361.2 (bt361.2 != 0) t326 t327 t328 t329 t332 t335 t336 t337 t338 t339 t340 t341 t342 t343 t344) else (bivouaclaw21_SightMore.j0 k t345 t348 bt361.1 bt361.2 true t326 t327 t328 t329 t332 t335 t336 t337 t338 t339 t340 t341 t342 t343 t344))) else (none)))) else (none)) = some r := by first | (rw [hy349]; with_reducible exact H) | (have H2_ := (Option.bind_some _ _).symm.trans H; rw [hy349]; with_reducible exact H2_) | (have H2_ := (Option.bind_some _ _).symm.trans H; with_reducible exact H2_) | with_reducible exact H | (rw [hy349]; exact H) | exact H
 have Ny349 := Aside0.mk hy349
 clear hy349
 by_cases c4 : y349.length + t332.length < 2199023255552
 ·
  rw [if_pos c4] at H
  have LMc4 := Aside0.mk c4
  clear c4
  obtain ⟨y352, hy352⟩ : ∃ y_ : List (S27), y_ = (y349 ++ t332) := ⟨_, rfl⟩
  replace H : ((some (([(⟨t337, t338, t339, t340, t341, t342, t343, t344⟩ : S27)] : List (S27)) : List (S27))).bind fun y355 => (if y352.length + y355.length < 2199023255552 then ((sight_View.f k t326 t327 t328 t329 (y352 ++ y355) t335).bind fun bt361 => (if t348 = 0 then (bivouaclaw21_SightMore.j0 k t345 t348 bt361.1 bt361.2 (bt361.2 != 0) t326 t327 t328 t329 t332 t335 t336 t337 t338 t339 t340 t341 t342 t343 t344) else (bivouaclaw21_SightMore.j0 k t345 t348 bt361.1 bt361.2 true t326 t327 t328 t329 t332 t335 t336 t337 t338 t339 t340 t341 t342 t343 t344))) else (none))) = some r := by first | (rw [hy352]; with_reducible exact H) | (have H2_ := (Option.bind_some _ _).symm.trans H; rw [hy352]; with_reducible exact H2_) | (have H2_ := (Option.bind_some _ _).symm.trans H; with_reducible exact H2_) | with_reducible exact H | (rw [hy352]; exact H) | exact H
  have Ny352 := Aside0.mk hy352
  clear hy352
  obtain ⟨y355, hy355⟩ : ∃ y_ : List (S27), y_ = (([(⟨t337, t338, t339, t340, t341, t342, t343, t344⟩ : S27)] : List (S27))) := ⟨_, rfl⟩
  replace H : (if y352.length + y355.length < 2199023255552 then ((sight_View.f k t326 t327 t328 t329 (y352 ++ y355) t335).bind fun bt361 => (if t348 = 0 then (bivouaclaw21_SightMore.j0 k t345 t348 bt361.1 bt361.2 (bt361.2 != 0) t326 t327 t328 t329 t332 t335 t336 t337 t338 t339 t340 t341 t342 t343 t344) else (bivouaclaw21_SightMore.j0 k t345 t348 bt361.1 bt361.2 true t326 t327 t328 t329 t332 t335 t336 t337 t338 t339 t340 t341 t342 t343 t344))) else (none)) = some r := by first | (rw [hy355]; with_reducible exact H) | (have H2_ := (Option.bind_some _ _).symm.trans H; rw [hy355]; with_reducible exact H2_) | (have H2_ := (Option.bind_some _ _).symm.trans H; with_reducible exact H2_) | with_reducible exact H | (rw [hy355]; exact H) | exact H
  have Ny355 := Aside0.mk hy355
  clear hy355
  by_cases c5 : y352.length + y355.length < 2199023255552
  ·
   rw [if_pos c5] at H
   have LMc5 := Aside0.mk c5
   clear c5
   obtain ⟨y358, hy358⟩ : ∃ y_ : List (S27), y_ = (y352 ++ y355) := ⟨_, rfl⟩
   replace H : ((sight_View.f k t326 t327 t328 t329 y358 t335).bind fun bt361 => (if t348 = 0 then (bivouaclaw21_SightMore.j0 k t345 t348 bt361.1 bt361.2 (bt361.2 != 0) t326 t327 t328 t329 t332 t335 t336 t337 t338 t339 t340 t341 t342 t343 t344) else (bivouaclaw21_SightMore.j0 k t345 t348 bt361.1 bt361.2 true t326 t327 t328 t329 t332 t335 t336 t337 t338 t339 t340 t341 t342 t343 t344))) = some r := by first | (rw [hy358]; with_reducible exact H) | (have H2_ := (Option.bind_some _ _).symm.trans H; rw [hy358]; with_reducible exact H2_) | (have H2_ := (Option.bind_some _ _).symm.trans H; with_reducible exact H2_) | with_reducible exact H | (rw [hy358]; exact H) | exact H
   have Ny358 := Aside0.mk hy358
   clear hy358
   replace H := Option.bind_eq_some_iff.mp H
   obtain ⟨⟨t361, t364⟩, A60, H⟩ := H
   replace H : (if t348 = 0 then (bivouaclaw21_SightMore.j0 k t345 t348 t361 t364 (t364 != 0) t326 t327 t328 t329 t332 t335 t336 t337 t338 t339 t340 t341 t342 t343 t344) else (bivouaclaw21_SightMore.j0 k t345 t348 t361 t364 true t326 t327 t328 t329 t332 t335 t336 t337 t338 t339 t340 t341 t342 t343 t344)) = some r := H
   have A6 := Aside0.mk A60
   clear A60
   have HC7 := Aside0.mk H
   clear H
   go_enter Try.func4, Try.ntmps4
   try go_wp2_with (first | ((with_reducible refine gate_dst (N := 1) rfl ?_); (try (refine gate_guard (by rfl) ?_; dsimp only)); refine box_event ?hg (N := 1) ?hd (cs := #[.int .i64 a0_0, .int .i64 a0_1, .int .i64 a0_2, .slice A0_3 l0_3.length c0_3, .slice A0_4 l0_4.length c0_4, .int .i64 a0_5, .int .i64 a0_6, .int .i64 a0_7, .int .i64 a0_8, .int .i64 a0_9, .int .i64 a0_10, .int .i64 a0_11, .int .i64 a0_12, .int .i64 a0_13, .int .i64 a0_14]) (t := 29) ?hr ?_; (case hd => rfl); (case hg => rfl); (case hr => first | (go_simp; done) | (go_simp; rfl)); intro gb325 hg w8 hbox hb; have n0_ := Aside0.mk (below_step (by repeat (first | (with_reducible first | exact HB.out | apply below_alloc | apply pw_below_drewN | apply below_drew1) | exact HB.out)) hb); have n1_ := Aside0.mk (hbox); have n2_ := Aside0.mk ((by rw [hg]; exact (below_size (by repeat (first | (with_reducible first | exact HB.out | apply below_alloc | apply pw_below_drewN | apply below_drew1) | exact HB.out))) : w.heap.size ≤ gb325)); have n3_ := Aside0.mk ((by rw [hg]; exact (below_size (by repeat (first | (with_reducible first | exact HB.out | apply below_alloc | apply pw_below_drewN | apply below_drew1) | exact HB.out))) : w.heap.size ≤ gb325)); clear HB; have HB := n0_; have BK325 := n1_; have GW325 := n2_; have GE325 := n3_; clear n0_ n1_ n2_ n3_; clear hb hbox hg; have hcz9_0 : w8.cell? ⟨gb325, 0, none⟩ = some (.int .i64 a0_0) := (blk_cell BK325.out 0).trans rfl; have hcz9_1 : w8.cell? ⟨gb325, 1, none⟩ = some (.int .i64 a0_1) := (blk_cell BK325.out 1).trans rfl; have hcz9_2 : w8.cell? ⟨gb325, 2, none⟩ = some (.int .i64 a0_2) := (blk_cell BK325.out 2).trans rfl; have hcz9_3 : w8.cell? ⟨gb325, 3, none⟩ = some (.slice A0_3 l0_3.length c0_3) := (blk_cell BK325.out 3).trans rfl; have hcz9_4 : w8.cell? ⟨gb325, 4, none⟩ = some (.slice A0_4 l0_4.length c0_4) := (blk_cell BK325.out 4).trans rfl; have hcz9_5 : w8.cell? ⟨gb325, 5, none⟩ = some (.int .i64 a0_5) := (blk_cell BK325.out 5).trans rfl; have hcz9_6 : w8.cell? ⟨gb325, 6, none⟩ = some (.int .i64 a0_6) := (blk_cell BK325.out 6).trans rfl; have hcz9_7 : w8.cell? ⟨gb325, 7, none⟩ = some (.int .i64 a0_7) := (blk_cell BK325.out 7).trans rfl; have hcz9_8 : w8.cell? ⟨gb325, 8, none⟩ = some (.int .i64 a0_8) := (blk_cell BK325.out 8).trans rfl; have hcz9_9 : w8.cell? ⟨gb325, 9, none⟩ = some (.int .i64 a0_9) := (blk_cell BK325.out 9).trans rfl; have hcz9_10 : w8.cell? ⟨gb325, 10, none⟩ = some (.int .i64 a0_10) := (blk_cell BK325.out 10).trans rfl; have hcz9_11 : w8.cell? ⟨gb325, 11, none⟩ = some (.int .i64 a0_11) := (blk_cell BK325.out 11).trans rfl; have hcz9_12 : w8.cell? ⟨gb325, 12, none⟩ = some (.int .i64 a0_12) := (blk_cell BK325.out 12).trans rfl; have hcz9_13 : w8.cell? ⟨gb325, 13, none⟩ = some (.int .i64 a0_13) := (blk_cell BK325.out 13).trans rfl; have hcz9_14 : w8.cell? ⟨gb325, 14, none⟩ = some (.int .i64 a0_14) := (blk_cell BK325.out 14).trans rfl; have hfz9_0 := blk_frozen BK325.out 0; have hfz9_1 := blk_frozen BK325.out 1; have hfz9_2 := blk_frozen BK325.out 2; have hfz9_3 := blk_frozen BK325.out 3; have hfz9_4 := blk_frozen BK325.out 4; have hfz9_5 := blk_frozen BK325.out 5; have hfz9_6 := blk_frozen BK325.out 6; have hfz9_7 := blk_frozen BK325.out 7; have hfz9_8 := blk_frozen BK325.out 8; have hfz9_9 := blk_frozen BK325.out 9; have hfz9_10 := blk_frozen BK325.out 10; have hfz9_11 := blk_frozen BK325.out 11; have hfz9_12 := blk_frozen BK325.out 12; have hfz9_13 := blk_frozen BK325.out 13; have hfz9_14 := blk_frozen BK325.out 14) | ((with_reducible refine gate_callee (f := 8) rfl ?_); refine goesL_ (some 9) rfl rfl Try.func8 (by kernel_rfl) rfl #[.agg #[.int .i64 a0_0, .int .i64 a0_1, .int .i64 a0_2, .slice A0_3 l0_3.length c0_3, .slice A0_4 l0_4.length c0_4, .int .i64 a0_5, .int .i64 a0_6, .int .i64 a0_7, .int .i64 a0_8, .int .i64 a0_9, .int .i64 a0_10, .int .i64 a0_11, .int .i64 a0_12, .int .i64 a0_13, .int .i64 a0_14]] rfl (by (try simp only [List.map_toArray, List.map_cons, List.map_nil]); first | done | rfl | (simp only [List.length_drop, List.length_take]; rfl)) ?_; (with_reducible refine (bivouaclaw21_few.calls a0_0 a0_1 a0_2 (fun k_ => k_ < w.heap.size) _ _ l0_3 (fun k_ => k_ < w.heap.size) _ _ l0_4 a0_5 a0_6 a0_7 a0_8 a0_9 a0_10 a0_11 a0_12 a0_13 a0_14 t326 t327 t328 t329 t332 t335 t336 t337 t338 t339 t340 t341 t342 t343 t344 _ ?side1 ?side2 A2.out).mono ?_); (case side1 => exact Kd.V_mk HC0_3.out (Kd.F_below (Kd.C_F (Kd.heap_int .u8) HR0_3.out) (by repeat (first | (with_reducible first | exact HB.out | apply below_alloc | apply pw_below_drewN | apply below_drew1 | refine below_set ?_ GE325.out) | exact HB.out)))); (case side2 => exact Kd.V_mk HC0_4.out (Kd.F_below (Kd.C_F k27_heap HR0_4.out) (by repeat (first | (with_reducible first | exact HB.out | apply below_alloc | apply pw_below_drewN | apply below_drew1 | refine below_set ?_ GE325.out) | exact HB.out)))); rintro e w10 ⟨v330, v333, rfl, ho0, ho1, hb⟩; refine ⟨_, rfl, ?_⟩; have n0_ := Aside0.mk (Kd.V_lower (Kd.V_mono (ok' := fun k_ => k_ ≠ gb325) ho0 (fun k_ hk_ => Or.elim hk_ (fun hs_ => Or.elim hs_ (fun hs_ => fun e_ => Nat.not_le.2 hs_ (by rw [e_]; exact GW325.out)) (fun hs_ => fun e_ => Nat.not_le.2 hs_ (by rw [e_]; exact GW325.out))) (fun hn_ => (Kd.freshB (g := gb325) (o := .cells #[.int .i64 a0_0, .int .i64 a0_1, .int .i64 a0_2, .slice A0_3 l0_3.length c0_3, .slice A0_4 l0_4.length c0_4, .int .i64 a0_5, .int .i64 a0_6, .int .i64 a0_7, .int .i64 a0_8, .int .i64 a0_9, .int .i64 a0_10, .int .i64 a0_11, .int .i64 a0_12, .int .i64 a0_13, .int .i64 a0_14] 29 (0, 0)) (by (with_reducible repeat (first | refine blk_drewN ?_ _ | refine blk_drew ?_ | refine blk_alloc ?_ _)); exact BK325.out) k_ hn_)))) (below_size (by repeat (first | (with_reducible first | exact HB.out | apply below_alloc | apply pw_below_drewN | apply below_drew1 | refine below_set ?_ GE325.out) | exact HB.out)))); have n1_ := Aside0.mk (Kd.V_lower (Kd.V_mono (ok' := fun k_ => k_ ≠ gb325) ho1 (fun k_ hk_ => Or.elim hk_ (fun hs_ => Or.elim hs_ (fun hs_ => fun e_ => Nat.not_le.2 hs_ (by rw [e_]; exact GW325.out)) (fun hs_ => fun e_ => Nat.not_le.2 hs_ (by rw [e_]; exact GW325.out))) (fun hn_ => (Kd.freshB (g := gb325) (o := .cells #[.int .i64 a0_0, .int .i64 a0_1, .int .i64 a0_2, .slice A0_3 l0_3.length c0_3, .slice A0_4 l0_4.length c0_4, .int .i64 a0_5, .int .i64 a0_6, .int .i64 a0_7, .int .i64 a0_8, .int .i64 a0_9, .int .i64 a0_10, .int .i64 a0_11, .int .i64 a0_12, .int .i64 a0_13, .int .i64 a0_14] 29 (0, 0)) (by (with_reducible repeat (first | refine blk_drewN ?_ _ | refine blk_drew ?_ | refine blk_alloc ?_ _)); exact BK325.out) k_ hn_)))) (below_size (by repeat (first | (with_reducible first | exact HB.out | apply below_alloc | apply pw_below_drewN | apply below_drew1 | refine below_set ?_ GE325.out) | exact HB.out)))); have n2_ := Aside0.mk (blk_below (g := gb325) (o := .cells #[.int .i64 a0_0, .int .i64 a0_1, .int .i64 a0_2, .slice A0_3 l0_3.length c0_3, .slice A0_4 l0_4.length c0_4, .int .i64 a0_5, .int .i64 a0_6, .int .i64 a0_7, .int .i64 a0_8, .int .i64 a0_9, .int .i64 a0_10, .int .i64 a0_11, .int .i64 a0_12, .int .i64 a0_13, .int .i64 a0_14] 29 (0, 0)) (by (with_reducible repeat (first | refine blk_drewN ?_ _ | refine blk_drew ?_ | refine blk_alloc ?_ _)); exact BK325.out) hb); have n3_ := Aside0.mk (below_step (by repeat (first | (with_reducible first | exact HB.out | apply below_alloc | apply pw_below_drewN | apply below_drew1 | refine below_set ?_ GE325.out) | exact HB.out)) hb); clear BK325; clear HB; have HO331 := n0_; have HO334 := n1_; have BK325 := n2_; have HB := n3_; clear n0_ n1_ n2_ n3_; (try clear hb); (try clear hb2); (try clear hk); (try clear hi); (try clear ho0); (try clear ho1); have hcz11_0 : w10.cell? ⟨gb325, 0, none⟩ = some (.int .i64 a0_0) := (blk_cell BK325.out 0).trans rfl; have hcz11_1 : w10.cell? ⟨gb325, 1, none⟩ = some (.int .i64 a0_1) := (blk_cell BK325.out 1).trans rfl; have hcz11_2 : w10.cell? ⟨gb325, 2, none⟩ = some (.int .i64 a0_2) := (blk_cell BK325.out 2).trans rfl; have hcz11_3 : w10.cell? ⟨gb325, 3, none⟩ = some (.slice A0_3 l0_3.length c0_3) := (blk_cell BK325.out 3).trans rfl; have hcz11_4 : w10.cell? ⟨gb325, 4, none⟩ = some (.slice A0_4 l0_4.length c0_4) := (blk_cell BK325.out 4).trans rfl; have hcz11_5 : w10.cell? ⟨gb325, 5, none⟩ = some (.int .i64 a0_5) := (blk_cell BK325.out 5).trans rfl; have hcz11_6 : w10.cell? ⟨gb325, 6, none⟩ = some (.int .i64 a0_6) := (blk_cell BK325.out 6).trans rfl; have hcz11_7 : w10.cell? ⟨gb325, 7, none⟩ = some (.int .i64 a0_7) := (blk_cell BK325.out 7).trans rfl; have hcz11_8 : w10.cell? ⟨gb325, 8, none⟩ = some (.int .i64 a0_8) := (blk_cell BK325.out 8).trans rfl; have hcz11_9 : w10.cell? ⟨gb325, 9, none⟩ = some (.int .i64 a0_9) := (blk_cell BK325.out 9).trans rfl; have hcz11_10 : w10.cell? ⟨gb325, 10, none⟩ = some (.int .i64 a0_10) := (blk_cell BK325.out 10).trans rfl; have hcz11_11 : w10.cell? ⟨gb325, 11, none⟩ = some (.int .i64 a0_11) := (blk_cell BK325.out 11).trans rfl; have hcz11_12 : w10.cell? ⟨gb325, 12, none⟩ = some (.int .i64 a0_12) := (blk_cell BK325.out 12).trans rfl; have hcz11_13 : w10.cell? ⟨gb325, 13, none⟩ = some (.int .i64 a0_13) := (blk_cell BK325.out 13).trans rfl; have hcz11_14 : w10.cell? ⟨gb325, 14, none⟩ = some (.int .i64 a0_14) := (blk_cell BK325.out 14).trans rfl; have hfz11_0 := blk_frozen BK325.out 0; have hfz11_1 := blk_frozen BK325.out 1; have hfz11_2 := blk_frozen BK325.out 2; have hfz11_3 := blk_frozen BK325.out 3; have hfz11_4 := blk_frozen BK325.out 4; have hfz11_5 := blk_frozen BK325.out 5; have hfz11_6 := blk_frozen BK325.out 6; have hfz11_7 := blk_frozen BK325.out 7; have hfz11_8 := blk_frozen BK325.out 8; have hfz11_9 := blk_frozen BK325.out 9; have hfz11_10 := blk_frozen BK325.out 10; have hfz11_11 := blk_frozen BK325.out 11; have hfz11_12 := blk_frozen BK325.out 12; have hfz11_13 := blk_frozen BK325.out 13; have hfz11_14 := blk_frozen BK325.out 14; obtain ⟨Ao12, co12, eo12⟩ := Kd.V_slice HO331.out; subst eo12; obtain ⟨Ao13, co13, eo13⟩ := Kd.V_slice HO334.out; subst eo13) | ((with_reducible refine gate_callee (f := 9) rfl ?_); refine goesL_ (some 17) rfl rfl Try.func9 (by kernel_rfl) rfl #[.agg #[.int .i64 t326, .int .i64 t327, .int .i64 t328, .slice Ao12 t329.length co12], .slice Ao13 t332.length co13, .int .i64 t335] rfl (by (try simp only [List.map_toArray, List.map_cons, List.map_nil]); first | done | rfl | (simp only [List.length_drop, List.length_take]; rfl)) ?_; (with_reducible refine (sight_View.calls k t326 t327 t328 _ _ t329 _ _ t332 t335 t345 t348 _ ?side1 ?side2 ?side3 ?side4 A3.out).mono ?_); (case side1 => refine (Kd.V_reads' (e := 5) (base := w.heap.size) (ok := fun k_ => k_ ≠ gb325) (n := t329.length) (c := co12) ?_).2.2; exact (by (with_reducible repeat (first | apply Kd.V_alloc | apply Kd.V_drewN | apply Kd.V_drew)); exact (Kd.V_mono (Kd.V_far (p := ⟨gb325, 14, none⟩) (Kd.V_far (p := ⟨gb325, 13, none⟩) (Kd.V_far (p := ⟨gb325, 12, none⟩) (Kd.V_far (p := ⟨gb325, 11, none⟩) (Kd.V_far (p := ⟨gb325, 10, none⟩) (Kd.V_far (p := ⟨gb325, 9, none⟩) (Kd.V_far (p := ⟨gb325, 8, none⟩) (Kd.V_far (p := ⟨gb325, 7, none⟩) (Kd.V_far (p := ⟨gb325, 6, none⟩) (Kd.V_far (p := ⟨gb325, 5, none⟩) (Kd.V_far (p := ⟨gb325, 4, none⟩) (Kd.V_far (p := ⟨gb325, 3, none⟩) (Kd.V_far (p := ⟨gb325, 2, none⟩) (Kd.V_far (p := ⟨gb325, 1, none⟩) (Kd.V_far (p := ⟨gb325, 0, none⟩) (Kd.V_mono HO331.out (fun k_ hk => (⟨hk, hk⟩ : _ ∧ k_ ≠ gb325))) (fun _ hk => hk.2) (.int .i64 t326)) (fun _ hk => hk.2) (.int .i64 t327)) (fun _ hk => hk.2) (.int .i64 t328)) (fun _ hk => hk.2) (.slice Ao12 t329.length co12)) (fun _ hk => hk.2) (.slice Ao13 t332.length co13)) (fun _ hk => hk.2) (.int .i64 t335)) (fun _ hk => hk.2) (.int .i64 t336)) (fun _ hk => hk.2) (.int .i64 t337)) (fun _ hk => hk.2) (.int .i64 t338)) (fun _ hk => hk.2) (.int .i64 t339)) (fun _ hk => hk.2) (.int .i64 t340)) (fun _ hk => hk.2) (.int .i64 t341)) (fun _ hk => hk.2) (.int .i64 t342)) (fun _ hk => hk.2) (.int .i64 t343)) (fun _ hk => hk.2) (.int .i64 t344)) (fun _ h_ => h_.1)))); (case side2 => exact (Kd.V_reads' HO331.out).2.1); (case side3 => refine (Kd.V_reads' (e := 27) (base := w.heap.size) (ok := fun k_ => k_ ≠ gb325) (n := t332.length) (c := co13) ?_).2.2; exact (by (with_reducible repeat (first | apply Kd.V_alloc | apply Kd.V_drewN | apply Kd.V_drew)); exact (Kd.V_mono (Kd.V_far (p := ⟨gb325, 14, none⟩) (Kd.V_far (p := ⟨gb325, 13, none⟩) (Kd.V_far (p := ⟨gb325, 12, none⟩) (Kd.V_far (p := ⟨gb325, 11, none⟩) (Kd.V_far (p := ⟨gb325, 10, none⟩) (Kd.V_far (p := ⟨gb325, 9, none⟩) (Kd.V_far (p := ⟨gb325, 8, none⟩) (Kd.V_far (p := ⟨gb325, 7, none⟩) (Kd.V_far (p := ⟨gb325, 6, none⟩) (Kd.V_far (p := ⟨gb325, 5, none⟩) (Kd.V_far (p := ⟨gb325, 4, none⟩) (Kd.V_far (p := ⟨gb325, 3, none⟩) (Kd.V_far (p := ⟨gb325, 2, none⟩) (Kd.V_far (p := ⟨gb325, 1, none⟩) (Kd.V_far (p := ⟨gb325, 0, none⟩) (Kd.V_mono HO334.out (fun k_ hk => (⟨hk, hk⟩ : _ ∧ k_ ≠ gb325))) (fun _ hk => hk.2) (.int .i64 t326)) (fun _ hk => hk.2) (.int .i64 t327)) (fun _ hk => hk.2) (.int .i64 t328)) (fun _ hk => hk.2) (.slice Ao12 t329.length co12)) (fun _ hk => hk.2) (.slice Ao13 t332.length co13)) (fun _ hk => hk.2) (.int .i64 t335)) (fun _ hk => hk.2) (.int .i64 t336)) (fun _ hk => hk.2) (.int .i64 t337)) (fun _ hk => hk.2) (.int .i64 t338)) (fun _ hk => hk.2) (.int .i64 t339)) (fun _ hk => hk.2) (.int .i64 t340)) (fun _ hk => hk.2) (.int .i64 t341)) (fun _ hk => hk.2) (.int .i64 t342)) (fun _ hk => hk.2) (.int .i64 t343)) (fun _ hk => hk.2) (.int .i64 t344)) (fun _ h_ => h_.1)))); (case side4 => exact (Kd.V_reads' HO334.out).2.1); rintro e w14 ⟨v346, rfl, ho0, hb⟩; refine ⟨_, rfl, ?_⟩; have n0_ := Aside0.mk (Kd.V_elder' (by (with_reducible repeat (first | apply Kd.V_alloc | apply Kd.V_drewN | apply Kd.V_drew)); exact (Kd.V_mono (Kd.V_far (p := ⟨gb325, 14, none⟩) (Kd.V_far (p := ⟨gb325, 13, none⟩) (Kd.V_far (p := ⟨gb325, 12, none⟩) (Kd.V_far (p := ⟨gb325, 11, none⟩) (Kd.V_far (p := ⟨gb325, 10, none⟩) (Kd.V_far (p := ⟨gb325, 9, none⟩) (Kd.V_far (p := ⟨gb325, 8, none⟩) (Kd.V_far (p := ⟨gb325, 7, none⟩) (Kd.V_far (p := ⟨gb325, 6, none⟩) (Kd.V_far (p := ⟨gb325, 5, none⟩) (Kd.V_far (p := ⟨gb325, 4, none⟩) (Kd.V_far (p := ⟨gb325, 3, none⟩) (Kd.V_far (p := ⟨gb325, 2, none⟩) (Kd.V_far (p := ⟨gb325, 1, none⟩) (Kd.V_far (p := ⟨gb325, 0, none⟩) (Kd.V_mono HO331.out (fun k_ hk => (⟨hk, hk⟩ : _ ∧ k_ ≠ gb325))) (fun _ hk => hk.2) (.int .i64 t326)) (fun _ hk => hk.2) (.int .i64 t327)) (fun _ hk => hk.2) (.int .i64 t328)) (fun _ hk => hk.2) (.slice Ao12 t329.length co12)) (fun _ hk => hk.2) (.slice Ao13 t332.length co13)) (fun _ hk => hk.2) (.int .i64 t335)) (fun _ hk => hk.2) (.int .i64 t336)) (fun _ hk => hk.2) (.int .i64 t337)) (fun _ hk => hk.2) (.int .i64 t338)) (fun _ hk => hk.2) (.int .i64 t339)) (fun _ hk => hk.2) (.int .i64 t340)) (fun _ hk => hk.2) (.int .i64 t341)) (fun _ hk => hk.2) (.int .i64 t342)) (fun _ hk => hk.2) (.int .i64 t343)) (fun _ hk => hk.2) (.int .i64 t344)) (fun _ h_ => h_.1))) (Kd.R_base ho0) hb); have n1_ := Aside0.mk (Kd.V_elder' (by (with_reducible repeat (first | apply Kd.V_alloc | apply Kd.V_drewN | apply Kd.V_drew)); exact (Kd.V_mono (Kd.V_far (p := ⟨gb325, 14, none⟩) (Kd.V_far (p := ⟨gb325, 13, none⟩) (Kd.V_far (p := ⟨gb325, 12, none⟩) (Kd.V_far (p := ⟨gb325, 11, none⟩) (Kd.V_far (p := ⟨gb325, 10, none⟩) (Kd.V_far (p := ⟨gb325, 9, none⟩) (Kd.V_far (p := ⟨gb325, 8, none⟩) (Kd.V_far (p := ⟨gb325, 7, none⟩) (Kd.V_far (p := ⟨gb325, 6, none⟩) (Kd.V_far (p := ⟨gb325, 5, none⟩) (Kd.V_far (p := ⟨gb325, 4, none⟩) (Kd.V_far (p := ⟨gb325, 3, none⟩) (Kd.V_far (p := ⟨gb325, 2, none⟩) (Kd.V_far (p := ⟨gb325, 1, none⟩) (Kd.V_far (p := ⟨gb325, 0, none⟩) (Kd.V_mono HO334.out (fun k_ hk => (⟨hk, hk⟩ : _ ∧ k_ ≠ gb325))) (fun _ hk => hk.2) (.int .i64 t326)) (fun _ hk => hk.2) (.int .i64 t327)) (fun _ hk => hk.2) (.int .i64 t328)) (fun _ hk => hk.2) (.slice Ao12 t329.length co12)) (fun _ hk => hk.2) (.slice Ao13 t332.length co13)) (fun _ hk => hk.2) (.int .i64 t335)) (fun _ hk => hk.2) (.int .i64 t336)) (fun _ hk => hk.2) (.int .i64 t337)) (fun _ hk => hk.2) (.int .i64 t338)) (fun _ hk => hk.2) (.int .i64 t339)) (fun _ hk => hk.2) (.int .i64 t340)) (fun _ hk => hk.2) (.int .i64 t341)) (fun _ hk => hk.2) (.int .i64 t342)) (fun _ hk => hk.2) (.int .i64 t343)) (fun _ hk => hk.2) (.int .i64 t344)) (fun _ h_ => h_.1))) (Kd.R_base ho0) hb); have n2_ := Aside0.mk (Kd.R_lower ho0 (below_size (by repeat (first | (with_reducible first | exact HB.out | apply below_alloc | apply pw_below_drewN | apply below_drew1 | refine below_set ?_ GE325.out) | exact HB.out)))); have n3_ := Aside0.mk (blk_below (g := gb325) (o := .cells #[.int .i64 t326, .int .i64 t327, .int .i64 t328, .slice Ao12 t329.length co12, .slice Ao13 t332.length co13, .int .i64 t335, .int .i64 t336, .int .i64 t337, .int .i64 t338, .int .i64 t339, .int .i64 t340, .int .i64 t341, .int .i64 t342, .int .i64 t343, .int .i64 t344] 29 (0, 0)) (by (with_reducible repeat (first | refine blk_drewN ?_ _ | refine blk_drew ?_ | refine blk_alloc ?_ _)); refine blk_put (cs := #[.int .i64 t326, .int .i64 t327, .int .i64 t328, .slice Ao12 t329.length co12, .slice Ao13 t332.length co13, .int .i64 t335, .int .i64 t336, .int .i64 t337, .int .i64 t338, .int .i64 t339, .int .i64 t340, .int .i64 t341, .int .i64 t342, .int .i64 t343, .int .i64 a0_14]) ?_ 14 _ rfl; (with_reducible repeat (first | refine blk_drewN ?_ _ | refine blk_drew ?_ | refine blk_alloc ?_ _)); refine blk_put (cs := #[.int .i64 t326, .int .i64 t327, .int .i64 t328, .slice Ao12 t329.length co12, .slice Ao13 t332.length co13, .int .i64 t335, .int .i64 t336, .int .i64 t337, .int .i64 t338, .int .i64 t339, .int .i64 t340, .int .i64 t341, .int .i64 t342, .int .i64 a0_13, .int .i64 a0_14]) ?_ 13 _ rfl; (with_reducible repeat (first | refine blk_drewN ?_ _ | refine blk_drew ?_ | refine blk_alloc ?_ _)); refine blk_put (cs := #[.int .i64 t326, .int .i64 t327, .int .i64 t328, .slice Ao12 t329.length co12, .slice Ao13 t332.length co13, .int .i64 t335, .int .i64 t336, .int .i64 t337, .int .i64 t338, .int .i64 t339, .int .i64 t340, .int .i64 t341, .int .i64 a0_12, .int .i64 a0_13, .int .i64 a0_14]) ?_ 12 _ rfl; (with_reducible repeat (first | refine blk_drewN ?_ _ | refine blk_drew ?_ | refine blk_alloc ?_ _)); refine blk_put (cs := #[.int .i64 t326, .int .i64 t327, .int .i64 t328, .slice Ao12 t329.length co12, .slice Ao13 t332.length co13, .int .i64 t335, .int .i64 t336, .int .i64 t337, .int .i64 t338, .int .i64 t339, .int .i64 t340, .int .i64 a0_11, .int .i64 a0_12, .int .i64 a0_13, .int .i64 a0_14]) ?_ 11 _ rfl; (with_reducible repeat (first | refine blk_drewN ?_ _ | refine blk_drew ?_ | refine blk_alloc ?_ _)); refine blk_put (cs := #[.int .i64 t326, .int .i64 t327, .int .i64 t328, .slice Ao12 t329.length co12, .slice Ao13 t332.length co13, .int .i64 t335, .int .i64 t336, .int .i64 t337, .int .i64 t338, .int .i64 t339, .int .i64 a0_10, .int .i64 a0_11, .int .i64 a0_12, .int .i64 a0_13, .int .i64 a0_14]) ?_ 10 _ rfl; (with_reducible repeat (first | refine blk_drewN ?_ _ | refine blk_drew ?_ | refine blk_alloc ?_ _)); refine blk_put (cs := #[.int .i64 t326, .int .i64 t327, .int .i64 t328, .slice Ao12 t329.length co12, .slice Ao13 t332.length co13, .int .i64 t335, .int .i64 t336, .int .i64 t337, .int .i64 t338, .int .i64 a0_9, .int .i64 a0_10, .int .i64 a0_11, .int .i64 a0_12, .int .i64 a0_13, .int .i64 a0_14]) ?_ 9 _ rfl; (with_reducible repeat (first | refine blk_drewN ?_ _ | refine blk_drew ?_ | refine blk_alloc ?_ _)); refine blk_put (cs := #[.int .i64 t326, .int .i64 t327, .int .i64 t328, .slice Ao12 t329.length co12, .slice Ao13 t332.length co13, .int .i64 t335, .int .i64 t336, .int .i64 t337, .int .i64 a0_8, .int .i64 a0_9, .int .i64 a0_10, .int .i64 a0_11, .int .i64 a0_12, .int .i64 a0_13, .int .i64 a0_14]) ?_ 8 _ rfl; (with_reducible repeat (first | refine blk_drewN ?_ _ | refine blk_drew ?_ | refine blk_alloc ?_ _)); refine blk_put (cs := #[.int .i64 t326, .int .i64 t327, .int .i64 t328, .slice Ao12 t329.length co12, .slice Ao13 t332.length co13, .int .i64 t335, .int .i64 t336, .int .i64 a0_7, .int .i64 a0_8, .int .i64 a0_9, .int .i64 a0_10, .int .i64 a0_11, .int .i64 a0_12, .int .i64 a0_13, .int .i64 a0_14]) ?_ 7 _ rfl; (with_reducible repeat (first | refine blk_drewN ?_ _ | refine blk_drew ?_ | refine blk_alloc ?_ _)); refine blk_put (cs := #[.int .i64 t326, .int .i64 t327, .int .i64 t328, .slice Ao12 t329.length co12, .slice Ao13 t332.length co13, .int .i64 t335, .int .i64 a0_6, .int .i64 a0_7, .int .i64 a0_8, .int .i64 a0_9, .int .i64 a0_10, .int .i64 a0_11, .int .i64 a0_12, .int .i64 a0_13, .int .i64 a0_14]) ?_ 6 _ rfl; (with_reducible repeat (first | refine blk_drewN ?_ _ | refine blk_drew ?_ | refine blk_alloc ?_ _)); refine blk_put (cs := #[.int .i64 t326, .int .i64 t327, .int .i64 t328, .slice Ao12 t329.length co12, .slice Ao13 t332.length co13, .int .i64 a0_5, .int .i64 a0_6, .int .i64 a0_7, .int .i64 a0_8, .int .i64 a0_9, .int .i64 a0_10, .int .i64 a0_11, .int .i64 a0_12, .int .i64 a0_13, .int .i64 a0_14]) ?_ 5 _ rfl; (with_reducible repeat (first | refine blk_drewN ?_ _ | refine blk_drew ?_ | refine blk_alloc ?_ _)); refine blk_put (cs := #[.int .i64 t326, .int .i64 t327, .int .i64 t328, .slice Ao12 t329.length co12, .slice A0_4 l0_4.length c0_4, .int .i64 a0_5, .int .i64 a0_6, .int .i64 a0_7, .int .i64 a0_8, .int .i64 a0_9, .int .i64 a0_10, .int .i64 a0_11, .int .i64 a0_12, .int .i64 a0_13, .int .i64 a0_14]) ?_ 4 _ rfl; (with_reducible repeat (first | refine blk_drewN ?_ _ | refine blk_drew ?_ | refine blk_alloc ?_ _)); refine blk_put (cs := #[.int .i64 t326, .int .i64 t327, .int .i64 t328, .slice A0_3 l0_3.length c0_3, .slice A0_4 l0_4.length c0_4, .int .i64 a0_5, .int .i64 a0_6, .int .i64 a0_7, .int .i64 a0_8, .int .i64 a0_9, .int .i64 a0_10, .int .i64 a0_11, .int .i64 a0_12, .int .i64 a0_13, .int .i64 a0_14]) ?_ 3 _ rfl; (with_reducible repeat (first | refine blk_drewN ?_ _ | refine blk_drew ?_ | refine blk_alloc ?_ _)); refine blk_put (cs := #[.int .i64 t326, .int .i64 t327, .int .i64 a0_2, .slice A0_3 l0_3.length c0_3, .slice A0_4 l0_4.length c0_4, .int .i64 a0_5, .int .i64 a0_6, .int .i64 a0_7, .int .i64 a0_8, .int .i64 a0_9, .int .i64 a0_10, .int .i64 a0_11, .int .i64 a0_12, .int .i64 a0_13, .int .i64 a0_14]) ?_ 2 _ rfl; (with_reducible repeat (first | refine blk_drewN ?_ _ | refine blk_drew ?_ | refine blk_alloc ?_ _)); refine blk_put (cs := #[.int .i64 t326, .int .i64 a0_1, .int .i64 a0_2, .slice A0_3 l0_3.length c0_3, .slice A0_4 l0_4.length c0_4, .int .i64 a0_5, .int .i64 a0_6, .int .i64 a0_7, .int .i64 a0_8, .int .i64 a0_9, .int .i64 a0_10, .int .i64 a0_11, .int .i64 a0_12, .int .i64 a0_13, .int .i64 a0_14]) ?_ 1 _ rfl; (with_reducible repeat (first | refine blk_drewN ?_ _ | refine blk_drew ?_ | refine blk_alloc ?_ _)); refine blk_put (cs := #[.int .i64 a0_0, .int .i64 a0_1, .int .i64 a0_2, .slice A0_3 l0_3.length c0_3, .slice A0_4 l0_4.length c0_4, .int .i64 a0_5, .int .i64 a0_6, .int .i64 a0_7, .int .i64 a0_8, .int .i64 a0_9, .int .i64 a0_10, .int .i64 a0_11, .int .i64 a0_12, .int .i64 a0_13, .int .i64 a0_14]) ?_ 0 _ rfl; (with_reducible repeat (first | refine blk_drewN ?_ _ | refine blk_drew ?_ | refine blk_alloc ?_ _)); exact BK325.out) hb); have n4_ := Aside0.mk (below_step (by repeat (first | (with_reducible first | exact HB.out | apply below_alloc | apply pw_below_drewN | apply below_drew1 | refine below_set ?_ GE325.out) | exact HB.out)) hb); clear HO331; clear HO334; clear BK325; clear HB; have HO331 := n0_; have HO334 := n1_; have HO347 := n2_; have BK325 := n3_; have HB := n4_; clear n0_ n1_ n2_ n3_ n4_; (try clear hb); (try clear hb2); (try clear hk); (try clear hi); (try clear ho0)))
   have n0_ := Aside0.mk (Kd.V_drew HO331.out)
   have n1_ := Aside0.mk (Kd.V_drew HO334.out)
   have n2_ := Aside0.mk (Kd.R_drew HO347.out)
   have n3_ := Aside0.mk (blk_drew BK325.out)
   have n4_ := Aside0.mk (below_drew1 HB.out)
   clear HO331
   clear HO334
   clear HO347
   clear BK325
   clear HB
   have HO331 := n0_
   have HO334 := n1_
   have HO347 := n2_
   have BK325 := n3_
   have HB := n4_
   clear n0_ n1_ n2_ n3_ n4_
   refine start_ (n := 18) (S := fun w' => w'.cell? ⟨gb325, 0, none⟩ = some (.int .i64 t326) ∧ w'.cell? ⟨gb325, 1, none⟩ = some (.int .i64 t327) ∧ w'.cell? ⟨gb325, 2, none⟩ = some (.int .i64 t328) ∧ w'.cell? ⟨gb325, 3, none⟩ = some (.slice Ao12 t329.length co12) ∧ w'.cell? ⟨gb325, 4, none⟩ = some (.slice Ao13 t332.length co13) ∧ w'.cell? ⟨gb325, 5, none⟩ = some (.int .i64 t335) ∧ w'.cell? ⟨gb325, 6, none⟩ = some (.int .i64 t336) ∧ w'.cell? ⟨gb325, 7, none⟩ = some (.int .i64 t337) ∧ w'.cell? ⟨gb325, 8, none⟩ = some (.int .i64 t338) ∧ w'.cell? ⟨gb325, 9, none⟩ = some (.int .i64 t339) ∧ w'.cell? ⟨gb325, 10, none⟩ = some (.int .i64 t340) ∧ w'.cell? ⟨gb325, 11, none⟩ = some (.int .i64 t341) ∧ w'.cell? ⟨gb325, 12, none⟩ = some (.int .i64 t342) ∧ w'.cell? ⟨gb325, 13, none⟩ = some (.int .i64 t343) ∧ w'.cell? ⟨gb325, 14, none⟩ = some (.int .i64 t344)) (ds := []) (bA 18 0) (by kernel_rfl) rfl rfl ⟨(blk_cell BK325.out 0).trans rfl, (blk_cell BK325.out 1).trans rfl, (blk_cell BK325.out 2).trans rfl, (blk_cell BK325.out 3).trans rfl, (blk_cell BK325.out 4).trans rfl, (blk_cell BK325.out 5).trans rfl, (blk_cell BK325.out 6).trans rfl, (blk_cell BK325.out 7).trans rfl, (blk_cell BK325.out 8).trans rfl, (blk_cell BK325.out 9).trans rfl, (blk_cell BK325.out 10).trans rfl, (blk_cell BK325.out 11).trans rfl, (blk_cell BK325.out 12).trans rfl, (blk_cell BK325.out 13).trans rfl, (blk_cell BK325.out 14).trans rfl⟩ (fun hHeld => ?_); refine with_tabW bivouaclaw21_SightMore.tab3 bivouaclaw21_SightMore.bits3 (fun HT_ HW_ => ?_)
   generalize w14.drew = w15 at HO331 HO334 HO347 BK325 HB hHeld ⊢
   refine pure_ (i := 0) (N := some 21) (v := ?_) (a' := ?_) (bA 18 1) rfl rfl (any_of HT_.out (by kernel_rfl)) (fun _ _ _ h => h) (Or.inl ⟨by rfl, ?_⟩) ?_ ?_
   rotate_left
   ·
    intro w'
    go_simp
    with_reducible rfl
   rotate_left
   ·
    simp only [Act.put, sA, sB, sC, i64_w, i32_w]
    rfl
   refine pure_ (i := 3) (N := some 24) (v := ?_) (a' := ?_) (bA 18 9) rfl rfl (any_of HT_.out (by kernel_rfl)) (fun _ _ _ h => h) (Or.inl ⟨by rfl, ?_⟩) ?_ ?_
   rotate_left
   ·
    intro w'
    go_simp
    with_reducible rfl
   rotate_left
   ·
    simp only [Act.put, sA, sB, sC, i64_w, i32_w]
    rfl
   refine pure_ (i := 6) (N := some 27) (v := ?_) (a' := ?_) (bA 18 73) rfl rfl (any_of HT_.out (by kernel_rfl)) (fun _ _ _ h => h) (Or.inl ⟨by rfl, ?_⟩) ?_ ?_
   rotate_left
   ·
    intro w'
    go_simp
    with_reducible rfl
   rotate_left
   ·
    simp only [Act.put, sA, sB, sC, i64_w, i32_w]
    rfl
   refine pure_ (i := 10) (N := some 31) (v := ?_) (a' := ?_) (bA 18 1097) rfl rfl (any_of HT_.out (by kernel_rfl)) (fun _ _ _ h => h) (Or.inl ⟨by rfl, ?_⟩) ?_ ?_
   rotate_left
   ·
    intro w'
    go_simp
    with_reducible rfl
   rotate_left
   ·
    simp only [Act.put, sA, sB, sC, i64_w, i32_w]
    rfl
   refine take_ (i := 1) (N := some 22) (v := ?_) (a' := ?_) (bA 18 1099) rfl rfl (take_ofW HT_.out HW_.out (by kernel_rfl)) (fun _ _ _ h => h) (Or.inl ⟨by rfl, ?_⟩) hHeld ?_ ?_
   rotate_left
   ·
    rintro w' ⟨s0, s1, s2, s3, s4, s5, s6, s7, s8, s9, s10, s11, s12, s13, s14⟩
    go_simp
    with_reducible rfl
   rotate_left
   ·
    simp only [Act.put, sA, sB, sC, i64_w, i32_w]
    rfl
   refine take_ (i := 4) (N := some 25) (v := ?_) (a' := ?_) (bA 18 1115) rfl rfl (take_ofW HT_.out HW_.out (by kernel_rfl)) (fun _ _ _ h => h) (Or.inl ⟨by rfl, ?_⟩) hHeld ?_ ?_
   rotate_left
   ·
    rintro w' ⟨s0, s1, s2, s3, s4, s5, s6, s7, s8, s9, s10, s11, s12, s13, s14⟩
    go_simp
    with_reducible rfl
   rotate_left
   ·
    simp only [Act.put, sA, sB, sC, i64_w, i32_w]
    rfl
   refine take_ (i := 7) (N := some 28) (v := ?_) (a' := ?_) (bA 18 1243) rfl rfl (take_ofW HT_.out HW_.out (by kernel_rfl)) (fun _ _ _ h => h) (Or.inl ⟨by rfl, ?_⟩) hHeld ?_ ?_
   rotate_left
   ·
    rintro w' ⟨s0, s1, s2, s3, s4, s5, s6, s7, s8, s9, s10, s11, s12, s13, s14⟩
    go_simp
    with_reducible rfl
   rotate_left
   ·
    simp only [Act.put, sA, sB, sC, i64_w, i32_w]
    rfl
   refine take_ (i := 11) (N := some 32) (v := ?_) (a' := ?_) (bA 18 3291) rfl rfl (take_ofW HT_.out HW_.out (by kernel_rfl)) (fun _ _ _ h => h) (Or.inl ⟨by rfl, ?_⟩) hHeld ?_ ?_
   rotate_left
   ·
    rintro w' ⟨s0, s1, s2, s3, s4, s5, s6, s7, s8, s9, s10, s11, s12, s13, s14⟩
    go_simp
    with_reducible rfl
   rotate_left
   ·
    simp only [Act.put, sA, sB, sC, i64_w, i32_w]
    rfl
   refine join_ (σ := Value × Value × Value) 7 #[true, true, true, true, true, true, true, true, true, false, true, true, false, false, false, false, false, false] (fun s_ => [(23, s_.1), (26, s_.2.1), (29, s_.2.2)]) (fun s_ w' => (w'.cell? ⟨gb325, 0, none⟩ = some (.int .i64 t326) ∧ w'.cell? ⟨gb325, 1, none⟩ = some (.int .i64 t327) ∧ w'.cell? ⟨gb325, 2, none⟩ = some (.int .i64 t328) ∧ w'.cell? ⟨gb325, 3, none⟩ = some (.slice Ao12 t329.length co12) ∧ w'.cell? ⟨gb325, 4, none⟩ = some (.slice Ao13 t332.length co13) ∧ w'.cell? ⟨gb325, 5, none⟩ = some (.int .i64 t335) ∧ w'.cell? ⟨gb325, 6, none⟩ = some (.int .i64 t336) ∧ w'.cell? ⟨gb325, 7, none⟩ = some (.int .i64 t337) ∧ w'.cell? ⟨gb325, 8, none⟩ = some (.int .i64 t338) ∧ w'.cell? ⟨gb325, 9, none⟩ = some (.int .i64 t339) ∧ w'.cell? ⟨gb325, 10, none⟩ = some (.int .i64 t340) ∧ w'.cell? ⟨gb325, 11, none⟩ = some (.int .i64 t341) ∧ w'.cell? ⟨gb325, 12, none⟩ = some (.int .i64 t342) ∧ w'.cell? ⟨gb325, 13, none⟩ = some (.int .i64 t343) ∧ w'.cell? ⟨gb325, 14, none⟩ = some (.int .i64 t344)) ∧ (Kd.V (Kd.int .u8) 5 w' w.heap.size (fun k_ => some k_ ≠ (v346 : Value).ownBlock ∧ some k_ ≠ (s_.2.1 : Value).ownBlock ∧ some k_ ≠ (s_.2.2 : Value).ownBlock ∧ k_ ≠ gb325) (.slice Ao12 t329.length co12) t329) ∧ (Kd.V k27 27 w' w.heap.size (fun k_ => some k_ ≠ (v346 : Value).ownBlock ∧ some k_ ≠ (s_.2.1 : Value).ownBlock ∧ some k_ ≠ (s_.2.2 : Value).ownBlock ∧ k_ ≠ gb325) (.slice Ao13 t332.length co13) t332) ∧ (Kd.R (Kd.int .i64) 3 w' w.heap.size (fun _ => True) v346 t345) ∧ (Kd.R k27 27 w' w.heap.size (fun k_ => some k_ ≠ (s_.2.2 : Value).ownBlock) s_.2.1 y352) ∧ (Kd.R k27 27 w' w.heap.size (fun k_ => some k_ ≠ (s_.2.1 : Value).ownBlock) s_.2.2 y355) ∧ (w'.heap[gb325]? = some (.cells #[.int .i64 t326, .int .i64 t327, .int .i64 t328, .slice Ao12 t329.length co12, .slice Ao13 t332.length co13, .int .i64 t335, .int .i64 t336, .int .i64 t337, .int .i64 t338, .int .i64 t339, .int .i64 t340, .int .i64 t341, .int .i64 t342, .int .i64 t343, .int .i64 t344] 29 (0, 0))) ∧ (Below w.heap.size w w')) ?_ ?_
   rotate_left
   ·
    intro hCont
    refine two_ (i := 2) (j := 8) (Ni := some 23) (Nj := some 29) (bA 18 3295) #[true, true, false, true, true, false, true, true, true, false, true, true, false, false, false, false, false, false] rfl rfl rfl rfl (two_of HT_.out (by kernel_rfl)) (by decide) (by decide) (fun K hK => ?_) (fun K hK => ?_)
    ·
     skip
     refine Kd.R_lit_step k27 _ 27 ?hg (N := 23) ?hd (xs := ([] : List (S27))) (inner := []) (ok := fun _ => True) (okp := fun _ => True) ?hr ?hp (fun _ hk => hk) trivial (Below.refl _ _) (Nat.le_refl _) (by simp) ?_; (case hd => rfl); (case hg => rfl); (case hr => first | (go_simp; done) | (go_simp; rfl)); (case hp => exact (Reps.none _ _))
     intro v350 w16 ho17 hb hg_ hnew_
     clear hg_ hnew_
     (first | rw [← Ny349.out] at ho17 | (simp only [Int.reduceToNat] at ho17; rw [← Ny349.out] at ho17))
     have n0_ := Aside0.mk (Kd.V_elder' (by (with_reducible repeat (first | apply Kd.V_alloc | apply Kd.V_drewN | apply Kd.V_drew)); exact HO331.out) (Kd.R_base ho17) hb)
     have n1_ := Aside0.mk (Kd.V_elder' (by (with_reducible repeat (first | apply Kd.V_alloc | apply Kd.V_drewN | apply Kd.V_drew)); exact HO334.out) (Kd.R_base ho17) hb)
     have n2_ := Aside0.mk (Kd.R_below (by (with_reducible repeat (first | apply Kd.R_alloc | apply Kd.R_drewN | apply Kd.R_drew)); exact HO347.out) hb)
     have n3_ := Aside0.mk (Kd.R_lower ho17 (below_size (by repeat (first | (with_reducible first | exact HB.out | apply below_alloc | apply pw_below_drewN | apply below_drew1 | refine below_set ?_ GE325.out) | exact HB.out))))
     have n4_ := Aside0.mk (blk_below (g := gb325) (o := .cells #[.int .i64 t326, .int .i64 t327, .int .i64 t328, .slice Ao12 t329.length co12, .slice Ao13 t332.length co13, .int .i64 t335, .int .i64 t336, .int .i64 t337, .int .i64 t338, .int .i64 t339, .int .i64 t340, .int .i64 t341, .int .i64 t342, .int .i64 t343, .int .i64 t344] 29 (0, 0)) (by (with_reducible repeat (first | refine blk_drewN ?_ _ | refine blk_drew ?_ | refine blk_alloc ?_ _)); exact BK325.out) hb)
     have n5_ := Aside0.mk (below_step (by repeat (first | (with_reducible first | exact HB.out | apply below_alloc | apply pw_below_drewN | apply below_drew1 | refine below_set ?_ GE325.out) | exact HB.out)) hb)
     clear HO331
     clear HO334
     clear HO347
     clear BK325
     clear HB
     have HO331 := n0_
     have HO334 := n1_
     have HO347 := n2_
     have HO351 := n3_
     have BK325 := n4_
     have HB := n5_
     clear n0_ n1_ n2_ n3_ n4_ n5_
     clear hb ho17
     refine hK.out _ _ ⟨(blk_cell BK325.out 0).trans rfl, (blk_cell BK325.out 1).trans rfl, (blk_cell BK325.out 2).trans rfl, (blk_cell BK325.out 3).trans rfl, (blk_cell BK325.out 4).trans rfl, (blk_cell BK325.out 5).trans rfl, (blk_cell BK325.out 6).trans rfl, (blk_cell BK325.out 7).trans rfl, (blk_cell BK325.out 8).trans rfl, (blk_cell BK325.out 9).trans rfl, (blk_cell BK325.out 10).trans rfl, (blk_cell BK325.out 11).trans rfl, (blk_cell BK325.out 12).trans rfl, (blk_cell BK325.out 13).trans rfl, (blk_cell BK325.out 14).trans rfl⟩ (fun hHeld => ?_)
     clear hK K
     refine norm_ (a' := ?_) ?_ ?_
     rotate_left
     ·
      show Act.put _ (some 23) _ = _
      simp only [Act.put, sA, sB, sC, i64_w, i32_w]
      rfl
     refine two_ (i := 5) (j := 8) (Ni := some 26) (Nj := some 29) (bA 18 3327) #[true, true, true, true, true, false, true, true, true, false, true, true, false, false, false, false, false, false] rfl rfl rfl rfl (two_of HT_.out (by kernel_rfl)) (by decide) (by decide) (fun K hK => ?_) (fun K hK => ?_)
     ·
      skip
      refine Kd.R_append_rows_step k27 (w0 := w) w.heap.size (by rfl) (.tmp 23) (.tmp 25) 25 27 (.agg #[(.int .i64 0), (.int .i64 0), (.int .i64 0), (.int .i64 0), (.int .i64 0), (.int .i64 0), (.int .i64 0), (.int .i64 0)]) 64 rfl Try.underlying25 info27 rfl (by decide) (by omega) v350 y349 t332 _ _ _ (fun _ => True) (fun _ => False) rfl rfl ?aO ?aR (fun _ _ h => h) (fun _ h => h.elim) ?aF ?aB ?aS ?aL ?_
      (case aR => repeat (first | exact (Kd.V_reads' HO334.out).2.2 | (with_reducible refine Kd.C_alloc ?_ _) | (with_reducible refine Kd.C_drewN ?_ _) | (with_reducible refine Kd.C_drew ?_)))
      (case aB => exact (by repeat (first | (with_reducible first | exact HB.out | apply below_alloc | apply pw_below_drewN | apply below_drew1 | refine below_set ?_ GE325.out) | exact HB.out)))
      (case aF => exact (fun _ _ => trivial))
      (case aO => exact (by (with_reducible repeat (first | apply Kd.R_alloc | apply Kd.R_drewN | apply Kd.R_drew)); exact HO351.out))
      (case aS => exact (below_size (by repeat (first | (with_reducible first | exact HB.out | apply below_alloc | apply pw_below_drewN | apply below_drew1 | refine below_set ?_ GE325.out) | exact HB.out))))
      (case aL => have := LMc4.out; omega)
      intro v353 w18 ho hb hg hat
      rw [← Ny352.out] at ho
      have n0_ := Aside0.mk (blk_grown (g := gb325) (o := .cells #[.int .i64 t326, .int .i64 t327, .int .i64 t328, .slice Ao12 t329.length co12, .slice Ao13 t332.length co13, .int .i64 t335, .int .i64 t336, .int .i64 t337, .int .i64 t338, .int .i64 t339, .int .i64 t340, .int .i64 t341, .int .i64 t342, .int .i64 t343, .int .i64 t344] 29 (0, 0)) (by (with_reducible repeat (first | refine blk_drewN ?_ _ | refine blk_drew ?_ | refine blk_alloc ?_ _)); exact BK325.out) hg (Kd.R_ne HO351.out BK325.out (by decide)))
      have n1_ := Aside0.mk (Kd.V_afterv (ok := (fun k_ => some k_ ≠ (v346 : Value).ownBlock ∧ k_ ≠ gb325)) (by (with_reducible repeat (first | apply Kd.V_alloc | apply Kd.V_drewN | apply Kd.V_drew)); exact Kd.V_mono HO331.out (fun _ hk => ⟨⟨hk.1.2, hk.1.1⟩, hk.2⟩)) hg hat)
      have n2_ := Aside0.mk (Kd.V_afterv (ok := (fun k_ => some k_ ≠ (v346 : Value).ownBlock ∧ k_ ≠ gb325)) (by (with_reducible repeat (first | apply Kd.V_alloc | apply Kd.V_drewN | apply Kd.V_drew)); exact Kd.V_mono HO334.out (fun _ hk => ⟨⟨hk.1.2, hk.1.1⟩, hk.2⟩)) hg hat)
      have n3_ := Aside0.mk (Kd.R_over' (by (with_reducible repeat (first | apply Kd.R_alloc | apply Kd.R_drewN | apply Kd.R_drew)); exact HO347.out) (Kd.R_typed (by (with_reducible repeat (first | apply Kd.R_alloc | apply Kd.R_drewN | apply Kd.R_drew)); exact HO351.out)) (by decide) hg)
      have n4_ := Aside0.mk (hb)
      have n5_ := Aside0.mk (ho)
      clear BK325
      clear HO331
      clear HO334
      clear HO347
      clear HB
      clear HO351
      have BK325 := n0_
      have HO331 := n1_
      have HO334 := n2_
      have HO347 := n3_
      have HB := n4_
      have HO354 := n5_
      clear n0_ n1_ n2_ n3_ n4_ n5_
      clear ho hb hg hat
      refine hK.out _ _ ⟨(blk_cell BK325.out 0).trans rfl, (blk_cell BK325.out 1).trans rfl, (blk_cell BK325.out 2).trans rfl, (blk_cell BK325.out 3).trans rfl, (blk_cell BK325.out 4).trans rfl, (blk_cell BK325.out 5).trans rfl, (blk_cell BK325.out 6).trans rfl, (blk_cell BK325.out 7).trans rfl, (blk_cell BK325.out 8).trans rfl, (blk_cell BK325.out 9).trans rfl, (blk_cell BK325.out 10).trans rfl, (blk_cell BK325.out 11).trans rfl, (blk_cell BK325.out 12).trans rfl, (blk_cell BK325.out 13).trans rfl, (blk_cell BK325.out 14).trans rfl⟩ (fun hHeld => ?_)
      clear hK K
      refine norm_ (a' := ?_) ?_ ?_
      rotate_left
      ·
       show Act.put _ (some 26) _ = _
       simp only [Act.put, sA, sB, sC, i64_w, i32_w]
       rfl
      refine one_ (i := 8) (N := some 29) (bA 18 3583) rfl rfl (one_of HT_.out (by kernel_rfl)) (by decide) (fun K hK => ?_)
      refine Kd.R_lit_step k27 _ 27 ?hg (N := 29) ?hd (xs := ([(⟨t337, t338, t339, t340, t341, t342, t343, t344⟩ : S27)] : List (S27))) (inner := [.int .i64 t337, .int .i64 t338, .int .i64 t339, .int .i64 t340, .int .i64 t341, .int .i64 t342, .int .i64 t343, .int .i64 t344]) (ok := fun _ => True) (okp := fun _ => True) ?hr ?hp (fun _ hk => hk) trivial (Below.refl _ _) (Nat.le_refl _) (by simp) ?_; (case hd => rfl); (case hg => rfl); (case hr => first | (go_simp; done) | (go_simp; rfl)); (case hp => exact (Reps.c8 (show Kd.M k27 _ _ _ (⟨t337, t338, t339, t340, t341, t342, t343, t344⟩ : S27) [.int .i64 t337, .int .i64 t338, .int .i64 t339, .int .i64 t340, .int .i64 t341, .int .i64 t342, .int .i64 t343, .int .i64 t344] from (k27_mkM _ _ _ (⟨t337, t338, t339, t340, t341, t342, t343, t344⟩ : S27) )) (Reps.none _ _)))
      intro v356 w19 ho20 hb hg_ hnew_
      clear hg_ hnew_
      (first | rw [← Ny355.out] at ho20 | (simp only [Int.reduceToNat] at ho20; rw [← Ny355.out] at ho20))
      have n0_ := Aside0.mk (Kd.V_elder' (by (with_reducible repeat (first | apply Kd.V_alloc | apply Kd.V_drewN | apply Kd.V_drew)); exact HO331.out) (Kd.R_base ho20) hb)
      have n1_ := Aside0.mk (Kd.V_elder' (by (with_reducible repeat (first | apply Kd.V_alloc | apply Kd.V_drewN | apply Kd.V_drew)); exact HO334.out) (Kd.R_base ho20) hb)
      have n2_ := Aside0.mk (Kd.R_below (by (with_reducible repeat (first | apply Kd.R_alloc | apply Kd.R_drewN | apply Kd.R_drew)); exact HO347.out) hb)
      have n3_ := Aside0.mk (Kd.R_elder' (by (with_reducible repeat (first | apply Kd.R_alloc | apply Kd.R_drewN | apply Kd.R_drew)); exact HO354.out) (Kd.R_base ho20) hb)
      have n4_ := Aside0.mk (Kd.R_lower (Kd.R_new' ho20 (Kd.R_lt (by (with_reducible repeat (first | apply Kd.R_alloc | apply Kd.R_drewN | apply Kd.R_drew)); exact HO354.out))) (below_size (by repeat (first | (with_reducible first | exact HB.out | apply below_alloc | apply pw_below_drewN | apply below_drew1 | refine below_set ?_ GE325.out) | exact HB.out))))
      have n5_ := Aside0.mk (blk_below (g := gb325) (o := .cells #[.int .i64 t326, .int .i64 t327, .int .i64 t328, .slice Ao12 t329.length co12, .slice Ao13 t332.length co13, .int .i64 t335, .int .i64 t336, .int .i64 t337, .int .i64 t338, .int .i64 t339, .int .i64 t340, .int .i64 t341, .int .i64 t342, .int .i64 t343, .int .i64 t344] 29 (0, 0)) (by (with_reducible repeat (first | refine blk_drewN ?_ _ | refine blk_drew ?_ | refine blk_alloc ?_ _)); exact BK325.out) hb)
      have n6_ := Aside0.mk (below_step (by repeat (first | (with_reducible first | exact HB.out | apply below_alloc | apply pw_below_drewN | apply below_drew1 | refine below_set ?_ GE325.out) | exact HB.out)) hb)
      clear HO331
      clear HO334
      clear HO347
      clear HO354
      clear BK325
      clear HB
      have HO331 := n0_
      have HO334 := n1_
      have HO347 := n2_
      have HO354 := n3_
      have HO357 := n4_
      have BK325 := n5_
      have HB := n6_
      clear n0_ n1_ n2_ n3_ n4_ n5_ n6_
      clear hb ho20
      refine hK.out _ _ ⟨(blk_cell BK325.out 0).trans rfl, (blk_cell BK325.out 1).trans rfl, (blk_cell BK325.out 2).trans rfl, (blk_cell BK325.out 3).trans rfl, (blk_cell BK325.out 4).trans rfl, (blk_cell BK325.out 5).trans rfl, (blk_cell BK325.out 6).trans rfl, (blk_cell BK325.out 7).trans rfl, (blk_cell BK325.out 8).trans rfl, (blk_cell BK325.out 9).trans rfl, (blk_cell BK325.out 10).trans rfl, (blk_cell BK325.out 11).trans rfl, (blk_cell BK325.out 12).trans rfl, (blk_cell BK325.out 13).trans rfl, (blk_cell BK325.out 14).trans rfl⟩ (fun hHeld => ?_)
      clear hK K
      refine norm_ (a' := ?_) ?_ ?_
      rotate_left
      ·
       show Act.put _ (some 29) _ = _
       simp only [Act.put, sA, sB, sC, i64_w, i32_w]
       rfl
      exact norm_ (by simp only [putAll, Act.put, List.setIfInBounds_toArray, List.set_cons_zero, List.set_cons_succ]) (hCont (v350, v353, v356) _ ⟨hHeld, (by (with_reducible repeat (first | apply Kd.V_alloc | apply Kd.V_drewN | apply Kd.V_drew)); exact Kd.V_mono HO331.out (fun _ hk => ⟨hk.1.1.1, ⟨hk.1.2, ⟨hk.2, hk.1.1.2⟩⟩⟩)), (by (with_reducible repeat (first | apply Kd.V_alloc | apply Kd.V_drewN | apply Kd.V_drew)); exact Kd.V_mono HO334.out (fun _ hk => ⟨hk.1.1.1, ⟨hk.1.2, ⟨hk.2, hk.1.1.2⟩⟩⟩)), (by (with_reducible repeat (first | apply Kd.R_alloc | apply Kd.R_drewN | apply Kd.R_drew)); exact HO347.out), (by (with_reducible repeat (first | apply Kd.R_alloc | apply Kd.R_drewN | apply Kd.R_drew)); exact Kd.R_mono HO354.out (fun _ hk => hk.2)), (by (with_reducible repeat (first | apply Kd.R_alloc | apply Kd.R_drewN | apply Kd.R_drew)); exact Kd.R_mono HO357.out (fun _ hk => hk.2)), (by (with_reducible repeat (first | refine blk_drewN ?_ _ | refine blk_drew ?_ | refine blk_alloc ?_ _)); exact BK325.out), (by repeat (first | (with_reducible first | exact HB.out | apply below_alloc | apply pw_below_drewN | apply below_drew1 | refine below_set ?_ GE325.out) | exact HB.out))⟩)
     ·
      skip
      refine Kd.R_lit_step k27 _ 27 ?hg (N := 29) ?hd (xs := ([(⟨t337, t338, t339, t340, t341, t342, t343, t344⟩ : S27)] : List (S27))) (inner := [.int .i64 t337, .int .i64 t338, .int .i64 t339, .int .i64 t340, .int .i64 t341, .int .i64 t342, .int .i64 t343, .int .i64 t344]) (ok := fun _ => True) (okp := fun _ => True) ?hr ?hp (fun _ hk => hk) trivial (Below.refl _ _) (Nat.le_refl _) (by simp) ?_; (case hd => rfl); (case hg => rfl); (case hr => first | (go_simp; done) | (go_simp; rfl)); (case hp => exact (Reps.c8 (show Kd.M k27 _ _ _ (⟨t337, t338, t339, t340, t341, t342, t343, t344⟩ : S27) [.int .i64 t337, .int .i64 t338, .int .i64 t339, .int .i64 t340, .int .i64 t341, .int .i64 t342, .int .i64 t343, .int .i64 t344] from (k27_mkM _ _ _ (⟨t337, t338, t339, t340, t341, t342, t343, t344⟩ : S27) )) (Reps.none _ _)))
      intro v356 w18 ho19 hb hg_ hnew_
      clear hg_ hnew_
      (first | rw [← Ny355.out] at ho19 | (simp only [Int.reduceToNat] at ho19; rw [← Ny355.out] at ho19))
      have n0_ := Aside0.mk (Kd.V_elder' (by (with_reducible repeat (first | apply Kd.V_alloc | apply Kd.V_drewN | apply Kd.V_drew)); exact HO331.out) (Kd.R_base ho19) hb)
      have n1_ := Aside0.mk (Kd.V_elder' (by (with_reducible repeat (first | apply Kd.V_alloc | apply Kd.V_drewN | apply Kd.V_drew)); exact HO334.out) (Kd.R_base ho19) hb)
      have n2_ := Aside0.mk (Kd.R_below (by (with_reducible repeat (first | apply Kd.R_alloc | apply Kd.R_drewN | apply Kd.R_drew)); exact HO347.out) hb)
      have n3_ := Aside0.mk (Kd.R_elder' (by (with_reducible repeat (first | apply Kd.R_alloc | apply Kd.R_drewN | apply Kd.R_drew)); exact HO351.out) (Kd.R_base ho19) hb)
      have n4_ := Aside0.mk (Kd.R_lower (Kd.R_new' ho19 (Kd.R_lt (by (with_reducible repeat (first | apply Kd.R_alloc | apply Kd.R_drewN | apply Kd.R_drew)); exact HO351.out))) (below_size (by repeat (first | (with_reducible first | exact HB.out | apply below_alloc | apply pw_below_drewN | apply below_drew1 | refine below_set ?_ GE325.out) | exact HB.out))))
      have n5_ := Aside0.mk (blk_below (g := gb325) (o := .cells #[.int .i64 t326, .int .i64 t327, .int .i64 t328, .slice Ao12 t329.length co12, .slice Ao13 t332.length co13, .int .i64 t335, .int .i64 t336, .int .i64 t337, .int .i64 t338, .int .i64 t339, .int .i64 t340, .int .i64 t341, .int .i64 t342, .int .i64 t343, .int .i64 t344] 29 (0, 0)) (by (with_reducible repeat (first | refine blk_drewN ?_ _ | refine blk_drew ?_ | refine blk_alloc ?_ _)); exact BK325.out) hb)
      have n6_ := Aside0.mk (below_step (by repeat (first | (with_reducible first | exact HB.out | apply below_alloc | apply pw_below_drewN | apply below_drew1 | refine below_set ?_ GE325.out) | exact HB.out)) hb)
      clear HO331
      clear HO334
      clear HO347
      clear HO351
      clear BK325
      clear HB
      have HO331 := n0_
      have HO334 := n1_
      have HO347 := n2_
      have HO351 := n3_
      have HO357 := n4_
      have BK325 := n5_
      have HB := n6_
      clear n0_ n1_ n2_ n3_ n4_ n5_ n6_
      clear hb ho19
      refine hK.out _ _ ⟨(blk_cell BK325.out 0).trans rfl, (blk_cell BK325.out 1).trans rfl, (blk_cell BK325.out 2).trans rfl, (blk_cell BK325.out 3).trans rfl, (blk_cell BK325.out 4).trans rfl, (blk_cell BK325.out 5).trans rfl, (blk_cell BK325.out 6).trans rfl, (blk_cell BK325.out 7).trans rfl, (blk_cell BK325.out 8).trans rfl, (blk_cell BK325.out 9).trans rfl, (blk_cell BK325.out 10).trans rfl, (blk_cell BK325.out 11).trans rfl, (blk_cell BK325.out 12).trans rfl, (blk_cell BK325.out 13).trans rfl, (blk_cell BK325.out 14).trans rfl⟩ (fun hHeld => ?_)
      clear hK K
      refine norm_ (a' := ?_) ?_ ?_
      rotate_left
      ·
       show Act.put _ (some 29) _ = _
       simp only [Act.put, sA, sB, sC, i64_w, i32_w]
       rfl
      refine one_ (i := 5) (N := some 26) (bA 18 3583) rfl rfl (one_of HT_.out (by kernel_rfl)) (by decide) (fun K hK => ?_)
      refine Kd.R_append_rows_step k27 (w0 := w) w.heap.size (by rfl) (.tmp 23) (.tmp 25) 25 27 (.agg #[(.int .i64 0), (.int .i64 0), (.int .i64 0), (.int .i64 0), (.int .i64 0), (.int .i64 0), (.int .i64 0), (.int .i64 0)]) 64 rfl Try.underlying25 info27 rfl (by decide) (by omega) v350 y349 t332 _ _ _ (fun k_ => some k_ ≠ (v356 : Value).ownBlock) (fun _ => False) rfl rfl ?aO ?aR (fun _ _ h => h) (fun _ h => h.elim) ?aF ?aB ?aS ?aL ?_
      (case aR => repeat (first | exact (Kd.V_reads' HO334.out).2.2 | (with_reducible refine Kd.C_alloc ?_ _) | (with_reducible refine Kd.C_drewN ?_ _) | (with_reducible refine Kd.C_drew ?_)))
      (case aB => exact (by repeat (first | (with_reducible first | exact HB.out | apply below_alloc | apply pw_below_drewN | apply below_drew1 | refine below_set ?_ GE325.out) | exact HB.out)))
      (case aF => exact (fun k_ hk => Kd.fresh' (Kd.R_lt (by (with_reducible repeat (first | apply Kd.R_alloc | apply Kd.R_drewN | apply Kd.R_drew)); exact HO357.out)) k_ hk))
      (case aO => exact (by (with_reducible repeat (first | apply Kd.R_alloc | apply Kd.R_drewN | apply Kd.R_drew)); exact Kd.R_mono HO351.out (fun _ hk => hk.2)))
      (case aS => exact (below_size (by repeat (first | (with_reducible first | exact HB.out | apply below_alloc | apply pw_below_drewN | apply below_drew1 | refine below_set ?_ GE325.out) | exact HB.out))))
      (case aL => have := LMc4.out; omega)
      intro v353 w20 ho hb hg hat
      rw [← Ny352.out] at ho
      have n0_ := Aside0.mk (blk_grown (g := gb325) (o := .cells #[.int .i64 t326, .int .i64 t327, .int .i64 t328, .slice Ao12 t329.length co12, .slice Ao13 t332.length co13, .int .i64 t335, .int .i64 t336, .int .i64 t337, .int .i64 t338, .int .i64 t339, .int .i64 t340, .int .i64 t341, .int .i64 t342, .int .i64 t343, .int .i64 t344] 29 (0, 0)) (by (with_reducible repeat (first | refine blk_drewN ?_ _ | refine blk_drew ?_ | refine blk_alloc ?_ _)); exact BK325.out) hg (Kd.R_ne HO351.out BK325.out (by decide)))
      have n1_ := Aside0.mk (Kd.V_afterv (ok := (fun k_ => some k_ ≠ (v346 : Value).ownBlock ∧ some k_ ≠ (v356 : Value).ownBlock ∧ k_ ≠ gb325)) (by (with_reducible repeat (first | apply Kd.V_alloc | apply Kd.V_drewN | apply Kd.V_drew)); exact Kd.V_mono HO331.out (fun _ hk => ⟨⟨hk.1.1.2, ⟨hk.2, hk.1.1.1⟩⟩, hk.1.2⟩)) hg hat)
      have n2_ := Aside0.mk (Kd.V_afterv (ok := (fun k_ => some k_ ≠ (v346 : Value).ownBlock ∧ some k_ ≠ (v356 : Value).ownBlock ∧ k_ ≠ gb325)) (by (with_reducible repeat (first | apply Kd.V_alloc | apply Kd.V_drewN | apply Kd.V_drew)); exact Kd.V_mono HO334.out (fun _ hk => ⟨⟨hk.1.1.2, ⟨hk.2, hk.1.1.1⟩⟩, hk.1.2⟩)) hg hat)
      have n3_ := Aside0.mk (Kd.R_over' (by (with_reducible repeat (first | apply Kd.R_alloc | apply Kd.R_drewN | apply Kd.R_drew)); exact HO347.out) (Kd.R_typed (by (with_reducible repeat (first | apply Kd.R_alloc | apply Kd.R_drewN | apply Kd.R_drew)); exact HO351.out)) (by decide) hg)
      have n4_ := Aside0.mk (Kd.R_after (ok := (fun _ => True)) (by (with_reducible repeat (first | apply Kd.R_alloc | apply Kd.R_drewN | apply Kd.R_drew)); exact HO357.out) hg hat)
      have n5_ := Aside0.mk (hb)
      have n6_ := Aside0.mk (ho)
      clear BK325
      clear HO331
      clear HO334
      clear HO347
      clear HO357
      clear HB
      clear HO351
      have BK325 := n0_
      have HO331 := n1_
      have HO334 := n2_
      have HO347 := n3_
      have HO357 := n4_
      have HB := n5_
      have HO354 := n6_
      clear n0_ n1_ n2_ n3_ n4_ n5_ n6_
      clear ho hb hg hat
      refine hK.out _ _ ⟨(blk_cell BK325.out 0).trans rfl, (blk_cell BK325.out 1).trans rfl, (blk_cell BK325.out 2).trans rfl, (blk_cell BK325.out 3).trans rfl, (blk_cell BK325.out 4).trans rfl, (blk_cell BK325.out 5).trans rfl, (blk_cell BK325.out 6).trans rfl, (blk_cell BK325.out 7).trans rfl, (blk_cell BK325.out 8).trans rfl, (blk_cell BK325.out 9).trans rfl, (blk_cell BK325.out 10).trans rfl, (blk_cell BK325.out 11).trans rfl, (blk_cell BK325.out 12).trans rfl, (blk_cell BK325.out 13).trans rfl, (blk_cell BK325.out 14).trans rfl⟩ (fun hHeld => ?_)
      clear hK K
      refine norm_ (a' := ?_) ?_ ?_
      rotate_left
      ·
       show Act.put _ (some 26) _ = _
       simp only [Act.put, sA, sB, sC, i64_w, i32_w]
       rfl
      exact norm_ (by simp only [putAll, Act.put, List.setIfInBounds_toArray, List.set_cons_zero, List.set_cons_succ]) (hCont (v350, v353, v356) _ ⟨hHeld, (by (with_reducible repeat (first | apply Kd.V_alloc | apply Kd.V_drewN | apply Kd.V_drew)); exact Kd.V_mono HO331.out (fun _ hk => ⟨hk.1.1, ⟨hk.2, ⟨hk.1.2.1, hk.1.2.2⟩⟩⟩)), (by (with_reducible repeat (first | apply Kd.V_alloc | apply Kd.V_drewN | apply Kd.V_drew)); exact Kd.V_mono HO334.out (fun _ hk => ⟨hk.1.1, ⟨hk.2, ⟨hk.1.2.1, hk.1.2.2⟩⟩⟩)), (by (with_reducible repeat (first | apply Kd.R_alloc | apply Kd.R_drewN | apply Kd.R_drew)); exact HO347.out), (by (with_reducible repeat (first | apply Kd.R_alloc | apply Kd.R_drewN | apply Kd.R_drew)); exact HO354.out), (by (with_reducible repeat (first | apply Kd.R_alloc | apply Kd.R_drewN | apply Kd.R_drew)); exact Kd.R_mono HO357.out (fun _ hk => hk.2)), (by (with_reducible repeat (first | refine blk_drewN ?_ _ | refine blk_drew ?_ | refine blk_alloc ?_ _)); exact BK325.out), (by repeat (first | (with_reducible first | exact HB.out | apply below_alloc | apply pw_below_drewN | apply below_drew1 | refine below_set ?_ GE325.out) | exact HB.out))⟩)
    ·
     skip
     refine Kd.R_lit_step k27 _ 27 ?hg (N := 29) ?hd (xs := ([(⟨t337, t338, t339, t340, t341, t342, t343, t344⟩ : S27)] : List (S27))) (inner := [.int .i64 t337, .int .i64 t338, .int .i64 t339, .int .i64 t340, .int .i64 t341, .int .i64 t342, .int .i64 t343, .int .i64 t344]) (ok := fun _ => True) (okp := fun _ => True) ?hr ?hp (fun _ hk => hk) trivial (Below.refl _ _) (Nat.le_refl _) (by simp) ?_; (case hd => rfl); (case hg => rfl); (case hr => first | (go_simp; done) | (go_simp; rfl)); (case hp => exact (Reps.c8 (show Kd.M k27 _ _ _ (⟨t337, t338, t339, t340, t341, t342, t343, t344⟩ : S27) [.int .i64 t337, .int .i64 t338, .int .i64 t339, .int .i64 t340, .int .i64 t341, .int .i64 t342, .int .i64 t343, .int .i64 t344] from (k27_mkM _ _ _ (⟨t337, t338, t339, t340, t341, t342, t343, t344⟩ : S27) )) (Reps.none _ _)))
     intro v356 w16 ho17 hb hg_ hnew_
     clear hg_ hnew_
     (first | rw [← Ny355.out] at ho17 | (simp only [Int.reduceToNat] at ho17; rw [← Ny355.out] at ho17))
     have n0_ := Aside0.mk (Kd.V_elder' (by (with_reducible repeat (first | apply Kd.V_alloc | apply Kd.V_drewN | apply Kd.V_drew)); exact HO331.out) (Kd.R_base ho17) hb)
     have n1_ := Aside0.mk (Kd.V_elder' (by (with_reducible repeat (first | apply Kd.V_alloc | apply Kd.V_drewN | apply Kd.V_drew)); exact HO334.out) (Kd.R_base ho17) hb)
     have n2_ := Aside0.mk (Kd.R_below (by (with_reducible repeat (first | apply Kd.R_alloc | apply Kd.R_drewN | apply Kd.R_drew)); exact HO347.out) hb)
     have n3_ := Aside0.mk (Kd.R_lower ho17 (below_size (by repeat (first | (with_reducible first | exact HB.out | apply below_alloc | apply pw_below_drewN | apply below_drew1 | refine below_set ?_ GE325.out) | exact HB.out))))
     have n4_ := Aside0.mk (blk_below (g := gb325) (o := .cells #[.int .i64 t326, .int .i64 t327, .int .i64 t328, .slice Ao12 t329.length co12, .slice Ao13 t332.length co13, .int .i64 t335, .int .i64 t336, .int .i64 t337, .int .i64 t338, .int .i64 t339, .int .i64 t340, .int .i64 t341, .int .i64 t342, .int .i64 t343, .int .i64 t344] 29 (0, 0)) (by (with_reducible repeat (first | refine blk_drewN ?_ _ | refine blk_drew ?_ | refine blk_alloc ?_ _)); exact BK325.out) hb)
     have n5_ := Aside0.mk (below_step (by repeat (first | (with_reducible first | exact HB.out | apply below_alloc | apply pw_below_drewN | apply below_drew1 | refine below_set ?_ GE325.out) | exact HB.out)) hb)
     clear HO331
     clear HO334
     clear HO347
     clear BK325
     clear HB
     have HO331 := n0_
     have HO334 := n1_
     have HO347 := n2_
     have HO357 := n3_
     have BK325 := n4_
     have HB := n5_
     clear n0_ n1_ n2_ n3_ n4_ n5_
     clear hb ho17
     refine hK.out _ _ ⟨(blk_cell BK325.out 0).trans rfl, (blk_cell BK325.out 1).trans rfl, (blk_cell BK325.out 2).trans rfl, (blk_cell BK325.out 3).trans rfl, (blk_cell BK325.out 4).trans rfl, (blk_cell BK325.out 5).trans rfl, (blk_cell BK325.out 6).trans rfl, (blk_cell BK325.out 7).trans rfl, (blk_cell BK325.out 8).trans rfl, (blk_cell BK325.out 9).trans rfl, (blk_cell BK325.out 10).trans rfl, (blk_cell BK325.out 11).trans rfl, (blk_cell BK325.out 12).trans rfl, (blk_cell BK325.out 13).trans rfl, (blk_cell BK325.out 14).trans rfl⟩ (fun hHeld => ?_)
     clear hK K
     refine norm_ (a' := ?_) ?_ ?_
     rotate_left
     ·
      show Act.put _ (some 29) _ = _
      simp only [Act.put, sA, sB, sC, i64_w, i32_w]
      rfl
     refine one_ (i := 2) (N := some 23) (bA 18 3551) rfl rfl (one_of HT_.out (by kernel_rfl)) (by decide) (fun K hK => ?_)
     refine Kd.R_lit_step k27 _ 27 ?hg (N := 23) ?hd (xs := ([] : List (S27))) (inner := []) (ok := fun _ => True) (okp := fun _ => True) ?hr ?hp (fun _ hk => hk) trivial (Below.refl _ _) (Nat.le_refl _) (by simp) ?_; (case hd => rfl); (case hg => rfl); (case hr => first | (go_simp; done) | (go_simp; rfl)); (case hp => exact (Reps.none _ _))
     intro v350 w18 ho19 hb hg_ hnew_
     clear hg_ hnew_
     (first | rw [← Ny349.out] at ho19 | (simp only [Int.reduceToNat] at ho19; rw [← Ny349.out] at ho19))
     have n0_ := Aside0.mk (Kd.V_elder' (by (with_reducible repeat (first | apply Kd.V_alloc | apply Kd.V_drewN | apply Kd.V_drew)); exact HO331.out) (Kd.R_base ho19) hb)
     have n1_ := Aside0.mk (Kd.V_elder' (by (with_reducible repeat (first | apply Kd.V_alloc | apply Kd.V_drewN | apply Kd.V_drew)); exact HO334.out) (Kd.R_base ho19) hb)
     have n2_ := Aside0.mk (Kd.R_below (by (with_reducible repeat (first | apply Kd.R_alloc | apply Kd.R_drewN | apply Kd.R_drew)); exact HO347.out) hb)
     have n3_ := Aside0.mk (Kd.R_elder' (by (with_reducible repeat (first | apply Kd.R_alloc | apply Kd.R_drewN | apply Kd.R_drew)); exact HO357.out) (Kd.R_base ho19) hb)
     have n4_ := Aside0.mk (Kd.R_lower (Kd.R_new' ho19 (Kd.R_lt (by (with_reducible repeat (first | apply Kd.R_alloc | apply Kd.R_drewN | apply Kd.R_drew)); exact HO357.out))) (below_size (by repeat (first | (with_reducible first | exact HB.out | apply below_alloc | apply pw_below_drewN | apply below_drew1 | refine below_set ?_ GE325.out) | exact HB.out))))
     have n5_ := Aside0.mk (blk_below (g := gb325) (o := .cells #[.int .i64 t326, .int .i64 t327, .int .i64 t328, .slice Ao12 t329.length co12, .slice Ao13 t332.length co13, .int .i64 t335, .int .i64 t336, .int .i64 t337, .int .i64 t338, .int .i64 t339, .int .i64 t340, .int .i64 t341, .int .i64 t342, .int .i64 t343, .int .i64 t344] 29 (0, 0)) (by (with_reducible repeat (first | refine blk_drewN ?_ _ | refine blk_drew ?_ | refine blk_alloc ?_ _)); exact BK325.out) hb)
     have n6_ := Aside0.mk (below_step (by repeat (first | (with_reducible first | exact HB.out | apply below_alloc | apply pw_below_drewN | apply below_drew1 | refine below_set ?_ GE325.out) | exact HB.out)) hb)
     clear HO331
     clear HO334
     clear HO347
     clear HO357
     clear BK325
     clear HB
     have HO331 := n0_
     have HO334 := n1_
     have HO347 := n2_
     have HO357 := n3_
     have HO351 := n4_
     have BK325 := n5_
     have HB := n6_
     clear n0_ n1_ n2_ n3_ n4_ n5_ n6_
     clear hb ho19
     refine hK.out _ _ ⟨(blk_cell BK325.out 0).trans rfl, (blk_cell BK325.out 1).trans rfl, (blk_cell BK325.out 2).trans rfl, (blk_cell BK325.out 3).trans rfl, (blk_cell BK325.out 4).trans rfl, (blk_cell BK325.out 5).trans rfl, (blk_cell BK325.out 6).trans rfl, (blk_cell BK325.out 7).trans rfl, (blk_cell BK325.out 8).trans rfl, (blk_cell BK325.out 9).trans rfl, (blk_cell BK325.out 10).trans rfl, (blk_cell BK325.out 11).trans rfl, (blk_cell BK325.out 12).trans rfl, (blk_cell BK325.out 13).trans rfl, (blk_cell BK325.out 14).trans rfl⟩ (fun hHeld => ?_)
     clear hK K
     refine norm_ (a' := ?_) ?_ ?_
     rotate_left
     ·
      show Act.put _ (some 23) _ = _
      simp only [Act.put, sA, sB, sC, i64_w, i32_w]
      rfl
     refine one_ (i := 5) (N := some 26) (bA 18 3583) rfl rfl (one_of HT_.out (by kernel_rfl)) (by decide) (fun K hK => ?_)
     refine Kd.R_append_rows_step k27 (w0 := w) w.heap.size (by rfl) (.tmp 23) (.tmp 25) 25 27 (.agg #[(.int .i64 0), (.int .i64 0), (.int .i64 0), (.int .i64 0), (.int .i64 0), (.int .i64 0), (.int .i64 0), (.int .i64 0)]) 64 rfl Try.underlying25 info27 rfl (by decide) (by omega) v350 y349 t332 _ _ _ (fun k_ => some k_ ≠ (v356 : Value).ownBlock) (fun _ => False) rfl rfl ?aO ?aR (fun _ _ h => h) (fun _ h => h.elim) ?aF ?aB ?aS ?aL ?_
     (case aR => repeat (first | exact (Kd.V_reads' HO334.out).2.2 | (with_reducible refine Kd.C_alloc ?_ _) | (with_reducible refine Kd.C_drewN ?_ _) | (with_reducible refine Kd.C_drew ?_)))
     (case aB => exact (by repeat (first | (with_reducible first | exact HB.out | apply below_alloc | apply pw_below_drewN | apply below_drew1 | refine below_set ?_ GE325.out) | exact HB.out)))
     (case aF => exact (fun k_ hk => Kd.fresh' (Kd.R_lt (by (with_reducible repeat (first | apply Kd.R_alloc | apply Kd.R_drewN | apply Kd.R_drew)); exact HO357.out)) k_ hk))
     (case aO => exact (by (with_reducible repeat (first | apply Kd.R_alloc | apply Kd.R_drewN | apply Kd.R_drew)); exact Kd.R_mono HO351.out (fun _ hk => hk.2)))
     (case aS => exact (below_size (by repeat (first | (with_reducible first | exact HB.out | apply below_alloc | apply pw_below_drewN | apply below_drew1 | refine below_set ?_ GE325.out) | exact HB.out))))
     (case aL => have := LMc4.out; omega)
     intro v353 w20 ho hb hg hat
     rw [← Ny352.out] at ho
     have n0_ := Aside0.mk (blk_grown (g := gb325) (o := .cells #[.int .i64 t326, .int .i64 t327, .int .i64 t328, .slice Ao12 t329.length co12, .slice Ao13 t332.length co13, .int .i64 t335, .int .i64 t336, .int .i64 t337, .int .i64 t338, .int .i64 t339, .int .i64 t340, .int .i64 t341, .int .i64 t342, .int .i64 t343, .int .i64 t344] 29 (0, 0)) (by (with_reducible repeat (first | refine blk_drewN ?_ _ | refine blk_drew ?_ | refine blk_alloc ?_ _)); exact BK325.out) hg (Kd.R_ne HO351.out BK325.out (by decide)))
     have n1_ := Aside0.mk (Kd.V_afterv (ok := (fun k_ => some k_ ≠ (v346 : Value).ownBlock ∧ some k_ ≠ (v356 : Value).ownBlock ∧ k_ ≠ gb325)) (by (with_reducible repeat (first | apply Kd.V_alloc | apply Kd.V_drewN | apply Kd.V_drew)); exact Kd.V_mono HO331.out (fun _ hk => ⟨⟨hk.1.1.2, ⟨hk.1.2, hk.1.1.1⟩⟩, hk.2⟩)) hg hat)
     have n2_ := Aside0.mk (Kd.V_afterv (ok := (fun k_ => some k_ ≠ (v346 : Value).ownBlock ∧ some k_ ≠ (v356 : Value).ownBlock ∧ k_ ≠ gb325)) (by (with_reducible repeat (first | apply Kd.V_alloc | apply Kd.V_drewN | apply Kd.V_drew)); exact Kd.V_mono HO334.out (fun _ hk => ⟨⟨hk.1.1.2, ⟨hk.1.2, hk.1.1.1⟩⟩, hk.2⟩)) hg hat)
     have n3_ := Aside0.mk (Kd.R_over' (by (with_reducible repeat (first | apply Kd.R_alloc | apply Kd.R_drewN | apply Kd.R_drew)); exact HO347.out) (Kd.R_typed (by (with_reducible repeat (first | apply Kd.R_alloc | apply Kd.R_drewN | apply Kd.R_drew)); exact HO351.out)) (by decide) hg)
     have n4_ := Aside0.mk (Kd.R_after (ok := (fun _ => True)) (by (with_reducible repeat (first | apply Kd.R_alloc | apply Kd.R_drewN | apply Kd.R_drew)); exact HO357.out) hg hat)
     have n5_ := Aside0.mk (hb)
     have n6_ := Aside0.mk (ho)
     clear BK325
     clear HO331
     clear HO334
     clear HO347
     clear HO357
     clear HB
     clear HO351
     have BK325 := n0_
     have HO331 := n1_
     have HO334 := n2_
     have HO347 := n3_
     have HO357 := n4_
     have HB := n5_
     have HO354 := n6_
     clear n0_ n1_ n2_ n3_ n4_ n5_ n6_
     clear ho hb hg hat
     refine hK.out _ _ ⟨(blk_cell BK325.out 0).trans rfl, (blk_cell BK325.out 1).trans rfl, (blk_cell BK325.out 2).trans rfl, (blk_cell BK325.out 3).trans rfl, (blk_cell BK325.out 4).trans rfl, (blk_cell BK325.out 5).trans rfl, (blk_cell BK325.out 6).trans rfl, (blk_cell BK325.out 7).trans rfl, (blk_cell BK325.out 8).trans rfl, (blk_cell BK325.out 9).trans rfl, (blk_cell BK325.out 10).trans rfl, (blk_cell BK325.out 11).trans rfl, (blk_cell BK325.out 12).trans rfl, (blk_cell BK325.out 13).trans rfl, (blk_cell BK325.out 14).trans rfl⟩ (fun hHeld => ?_)
     clear hK K
     refine norm_ (a' := ?_) ?_ ?_
     rotate_left
     ·
      show Act.put _ (some 26) _ = _
      simp only [Act.put, sA, sB, sC, i64_w, i32_w]
      rfl
     exact norm_ (by simp only [putAll, Act.put, List.setIfInBounds_toArray, List.set_cons_zero, List.set_cons_succ]) (hCont (v350, v353, v356) _ ⟨hHeld, (by (with_reducible repeat (first | apply Kd.V_alloc | apply Kd.V_drewN | apply Kd.V_drew)); exact Kd.V_mono HO331.out (fun _ hk => ⟨hk.1.1, ⟨hk.2, ⟨hk.1.2.1, hk.1.2.2⟩⟩⟩)), (by (with_reducible repeat (first | apply Kd.V_alloc | apply Kd.V_drewN | apply Kd.V_drew)); exact Kd.V_mono HO334.out (fun _ hk => ⟨hk.1.1, ⟨hk.2, ⟨hk.1.2.1, hk.1.2.2⟩⟩⟩)), (by (with_reducible repeat (first | apply Kd.R_alloc | apply Kd.R_drewN | apply Kd.R_drew)); exact HO347.out), (by (with_reducible repeat (first | apply Kd.R_alloc | apply Kd.R_drewN | apply Kd.R_drew)); exact HO354.out), (by (with_reducible repeat (first | apply Kd.R_alloc | apply Kd.R_drewN | apply Kd.R_drew)); exact Kd.R_mono HO357.out (fun _ hk => hk.2)), (by (with_reducible repeat (first | refine blk_drewN ?_ _ | refine blk_drew ?_ | refine blk_alloc ?_ _)); exact BK325.out), (by repeat (first | (with_reducible first | exact HB.out | apply below_alloc | apply pw_below_drewN | apply below_drew1 | refine below_set ?_ GE325.out) | exact HB.out))⟩)
   rintro ⟨v350, v353, v356⟩ w21 ⟨hS_, h0_, h1_, h2_, h3_, h4_, h5_, h6_⟩
   have n0_ : Aside0 (Kd.V (Kd.int .u8) 5 w21 w.heap.size (fun k_ => some k_ ≠ (v346 : Value).ownBlock ∧ some k_ ≠ (v353 : Value).ownBlock ∧ some k_ ≠ (v356 : Value).ownBlock ∧ k_ ≠ gb325) (.slice Ao12 t329.length co12) t329) := ⟨h0_⟩
   have n1_ : Aside0 (Kd.V k27 27 w21 w.heap.size (fun k_ => some k_ ≠ (v346 : Value).ownBlock ∧ some k_ ≠ (v353 : Value).ownBlock ∧ some k_ ≠ (v356 : Value).ownBlock ∧ k_ ≠ gb325) (.slice Ao13 t332.length co13) t332) := ⟨h1_⟩
   have n2_ : Aside0 (Kd.R (Kd.int .i64) 3 w21 w.heap.size (fun _ => True) v346 t345) := ⟨h2_⟩
   have n3_ : Aside0 (Kd.R k27 27 w21 w.heap.size (fun k_ => some k_ ≠ (v356 : Value).ownBlock) v353 y352) := ⟨h3_⟩
   have n4_ : Aside0 (Kd.R k27 27 w21 w.heap.size (fun k_ => some k_ ≠ (v353 : Value).ownBlock) v356 y355) := ⟨h4_⟩
   have n5_ : Aside0 (w21.heap[gb325]? = some (.cells #[.int .i64 t326, .int .i64 t327, .int .i64 t328, .slice Ao12 t329.length co12, .slice Ao13 t332.length co13, .int .i64 t335, .int .i64 t336, .int .i64 t337, .int .i64 t338, .int .i64 t339, .int .i64 t340, .int .i64 t341, .int .i64 t342, .int .i64 t343, .int .i64 t344] 29 (0, 0))) := ⟨h5_⟩
   have n6_ : Aside0 (Below w.heap.size w w21) := ⟨h6_⟩
   clear HO331
   clear HO334
   clear HO347
   clear BK325
   clear HB
   clear h0_ h1_ h2_ h3_ h4_ h5_ h6_
   have HO331 := n0_
   have HO334 := n1_
   have HO347 := n2_
   have HO354 := n3_
   have HO357 := n4_
   have BK325 := n5_
   have HB := n6_
   clear n0_ n1_ n2_ n3_ n4_ n5_ n6_
   have hHeld : w21.cell? ⟨gb325, 0, none⟩ = some (.int .i64 t326) ∧ w21.cell? ⟨gb325, 1, none⟩ = some (.int .i64 t327) ∧ w21.cell? ⟨gb325, 2, none⟩ = some (.int .i64 t328) ∧ w21.cell? ⟨gb325, 3, none⟩ = some (.slice Ao12 t329.length co12) ∧ w21.cell? ⟨gb325, 4, none⟩ = some (.slice Ao13 t332.length co13) ∧ w21.cell? ⟨gb325, 5, none⟩ = some (.int .i64 t335) ∧ w21.cell? ⟨gb325, 6, none⟩ = some (.int .i64 t336) ∧ w21.cell? ⟨gb325, 7, none⟩ = some (.int .i64 t337) ∧ w21.cell? ⟨gb325, 8, none⟩ = some (.int .i64 t338) ∧ w21.cell? ⟨gb325, 9, none⟩ = some (.int .i64 t339) ∧ w21.cell? ⟨gb325, 10, none⟩ = some (.int .i64 t340) ∧ w21.cell? ⟨gb325, 11, none⟩ = some (.int .i64 t341) ∧ w21.cell? ⟨gb325, 12, none⟩ = some (.int .i64 t342) ∧ w21.cell? ⟨gb325, 13, none⟩ = some (.int .i64 t343) ∧ w21.cell? ⟨gb325, 14, none⟩ = some (.int .i64 t344) := hS_
   obtain ⟨Ao23, co23, eo23⟩ := Kd.R_slice HO357.out
   (first | subst eo23 | (injection eo23 with f1_ f2_ f3_; have f4_ := f1_.symm; have f5_ := f3_.symm; clear f1_ f2_ f3_; subst f4_; subst f5_))
   refine norm_ (a' := ?_) ?_ ?_
   rotate_left
   ·
    simp only [putAll, Act.put, List.setIfInBounds_toArray, List.set_cons_zero, List.set_cons_succ]
    rfl
   refine one_ (i := 9) (N := some 30) (bA 18 4095) rfl rfl (one_of HT_.out (by kernel_rfl)) (by decide) (fun K hK => ?_)
   refine Kd.R_append_rows_step k27 (w0 := w) w.heap.size (by rfl) (.tmp 26) (.tmp 29) 25 27 (.agg #[(.int .i64 0), (.int .i64 0), (.int .i64 0), (.int .i64 0), (.int .i64 0), (.int .i64 0), (.int .i64 0), (.int .i64 0)]) 64 rfl Try.underlying25 info27 rfl (by decide) (by omega) v353 y352 y355 _ _ _ (fun k_ => some k_ ≠ (.slice Ao23 y355.length co23 : Value).ownBlock) (fun _ => False) rfl rfl ?aO ?aR (fun _ _ h => h) (fun _ h => h.elim) ?aF ?aB ?aS ?aL ?_
   (case aR => repeat (first | exact (Kd.R_reads' HO357.out).2.2 | (with_reducible refine Kd.C_alloc ?_ _) | (with_reducible refine Kd.C_drewN ?_ _) | (with_reducible refine Kd.C_drew ?_)))
   (case aB => exact (by repeat (first | (with_reducible first | exact HB.out | apply below_alloc | apply pw_below_drewN | apply below_drew1 | refine below_set ?_ GE325.out) | exact HB.out)))
   (case aF => exact (fun k_ hk => Kd.fresh' (Kd.R_lt (by (with_reducible repeat (first | apply Kd.R_alloc | apply Kd.R_drewN | apply Kd.R_drew)); exact HO357.out)) k_ hk))
   (case aO => exact (by (with_reducible repeat (first | apply Kd.R_alloc | apply Kd.R_drewN | apply Kd.R_drew)); exact HO354.out))
   (case aS => exact (below_size (by repeat (first | (with_reducible first | exact HB.out | apply below_alloc | apply pw_below_drewN | apply below_drew1 | refine below_set ?_ GE325.out) | exact HB.out))))
   (case aL => have := LMc5.out; omega)
   intro v359 w22 ho hb hg hat
   rw [← Ny358.out] at ho
   have n0_ := Aside0.mk (blk_grown (g := gb325) (o := .cells #[.int .i64 t326, .int .i64 t327, .int .i64 t328, .slice Ao12 t329.length co12, .slice Ao13 t332.length co13, .int .i64 t335, .int .i64 t336, .int .i64 t337, .int .i64 t338, .int .i64 t339, .int .i64 t340, .int .i64 t341, .int .i64 t342, .int .i64 t343, .int .i64 t344] 29 (0, 0)) (by (with_reducible repeat (first | refine blk_drewN ?_ _ | refine blk_drew ?_ | refine blk_alloc ?_ _)); exact BK325.out) hg (Kd.R_ne HO354.out BK325.out (by decide)))
   have n1_ := Aside0.mk (Kd.V_afterv (ok := (fun k_ => some k_ ≠ (v346 : Value).ownBlock ∧ some k_ ≠ (.slice Ao23 y355.length co23 : Value).ownBlock ∧ k_ ≠ gb325)) (by (with_reducible repeat (first | apply Kd.V_alloc | apply Kd.V_drewN | apply Kd.V_drew)); exact Kd.V_mono HO331.out (fun _ hk => ⟨⟨hk.1, ⟨hk.2.2.1, hk.2.2.2⟩⟩, hk.2.1⟩)) hg hat)
   have n2_ := Aside0.mk (Kd.V_afterv (ok := (fun k_ => some k_ ≠ (v346 : Value).ownBlock ∧ some k_ ≠ (.slice Ao23 y355.length co23 : Value).ownBlock ∧ k_ ≠ gb325)) (by (with_reducible repeat (first | apply Kd.V_alloc | apply Kd.V_drewN | apply Kd.V_drew)); exact Kd.V_mono HO334.out (fun _ hk => ⟨⟨hk.1, ⟨hk.2.2.1, hk.2.2.2⟩⟩, hk.2.1⟩)) hg hat)
   have n3_ := Aside0.mk (Kd.R_over' (by (with_reducible repeat (first | apply Kd.R_alloc | apply Kd.R_drewN | apply Kd.R_drew)); exact HO347.out) (Kd.R_typed (by (with_reducible repeat (first | apply Kd.R_alloc | apply Kd.R_drewN | apply Kd.R_drew)); exact HO354.out)) (by decide) hg)
   have n4_ := Aside0.mk (Kd.R_after (ok := (fun _ => True)) (by (with_reducible repeat (first | apply Kd.R_alloc | apply Kd.R_drewN | apply Kd.R_drew)); exact Kd.R_mono HO357.out (fun _ hk => ⟨trivial, hk⟩)) hg hat)
   have n5_ := Aside0.mk (hb)
   have n6_ := Aside0.mk (ho)
   clear BK325
   clear HO331
   clear HO334
   clear HO347
   clear HO357
   clear HB
   clear HO354
   have BK325 := n0_
   have HO331 := n1_
   have HO334 := n2_
   have HO347 := n3_
   have HO357 := n4_
   have HB := n5_
   have HO360 := n6_
   clear n0_ n1_ n2_ n3_ n4_ n5_ n6_
   clear ho hb hg hat
   obtain ⟨Ao24, co24, eo24⟩ := Kd.R_slice HO360.out
   (first | subst eo24 | (injection eo24 with f1_ f2_ f3_; have f4_ := f1_.symm; have f5_ := f3_.symm; clear f1_ f2_ f3_; subst f4_; subst f5_))
   refine hK.out _ _ ⟨(blk_cell BK325.out 0).trans rfl, (blk_cell BK325.out 1).trans rfl, (blk_cell BK325.out 2).trans rfl, (blk_cell BK325.out 3).trans rfl, (blk_cell BK325.out 4).trans rfl, (blk_cell BK325.out 5).trans rfl, (blk_cell BK325.out 6).trans rfl, (blk_cell BK325.out 7).trans rfl, (blk_cell BK325.out 8).trans rfl, (blk_cell BK325.out 9).trans rfl, (blk_cell BK325.out 10).trans rfl, (blk_cell BK325.out 11).trans rfl, (blk_cell BK325.out 12).trans rfl, (blk_cell BK325.out 13).trans rfl, (blk_cell BK325.out 14).trans rfl⟩ (fun hHeld => ?_)
   clear hK K
   refine norm_ (a' := ?_) ?_ ?_
   rotate_left
   ·
    show Act.put _ (some 30) _ = _
    simp only [Act.put, sA, sB, sC, i64_w, i32_w]
    rfl
   refine one_ (i := 12) (N := some 33) (bA 18 8191) rfl rfl (one_of HT_.out (by kernel_rfl)) (by decide) (fun K hK => ?_)
   refine goes_ Try.func9 (by kernel_rfl) rfl #[.agg #[.int .i64 t326, .int .i64 t327, .int .i64 t328, .slice Ao12 t329.length co12], .slice Ao24 y358.length co24, .int .i64 t335] (by rfl) rfl rfl (by (try simp only [List.map_toArray, List.map_cons, List.map_nil]); first | done | rfl | (simp only [List.length_drop, List.length_take]; rfl)) ?_
   with_reducible refine (sight_View.calls k t326 t327 t328 _ _ t329 _ _ y358 t335 t361 t364 _ ?side1 ?side2 ?side3 ?side4 A6.out).mono ?_
   (case side1 => repeat (first | exact (Kd.V_reads' HO331.out).2.2 | (with_reducible refine Kd.C_alloc ?_ _) | (with_reducible refine Kd.C_drewN ?_ _) | (with_reducible refine Kd.C_drew ?_)))
   (case side2 => exact (Kd.V_reads' HO331.out).2.1)
   (case side3 => repeat (first | exact (Kd.R_reads' HO360.out).2.2 | (with_reducible refine Kd.C_alloc ?_ _) | (with_reducible refine Kd.C_drewN ?_ _) | (with_reducible refine Kd.C_drew ?_)))
   (case side4 => exact (Kd.R_reads' HO360.out).2.1)
   rintro e w25 ⟨v362, rfl, ho0, hb⟩
   refine ⟨_, rfl, ?_⟩
   have n0_ := Aside0.mk (Kd.V_elder' (by (with_reducible repeat (first | apply Kd.V_alloc | apply Kd.V_drewN | apply Kd.V_drew)); exact HO331.out) (Kd.R_base ho0) hb)
   have n1_ := Aside0.mk (Kd.V_elder' (by (with_reducible repeat (first | apply Kd.V_alloc | apply Kd.V_drewN | apply Kd.V_drew)); exact HO334.out) (Kd.R_base ho0) hb)
   have n2_ := Aside0.mk (Kd.R_elder' (by (with_reducible repeat (first | apply Kd.R_alloc | apply Kd.R_drewN | apply Kd.R_drew)); exact HO347.out) (Kd.R_base ho0) hb)
   have n3_ := Aside0.mk (Kd.R_below (by (with_reducible repeat (first | apply Kd.R_alloc | apply Kd.R_drewN | apply Kd.R_drew)); exact HO357.out) hb)
   have n4_ := Aside0.mk (Kd.R_below (by (with_reducible repeat (first | apply Kd.R_alloc | apply Kd.R_drewN | apply Kd.R_drew)); exact HO360.out) hb)
   have n5_ := Aside0.mk (Kd.R_lower (Kd.R_new' ho0 (Kd.R_lt (by (with_reducible repeat (first | apply Kd.R_alloc | apply Kd.R_drewN | apply Kd.R_drew)); exact HO347.out))) (below_size (by repeat (first | (with_reducible first | exact HB.out | apply below_alloc | apply pw_below_drewN | apply below_drew1 | refine below_set ?_ GE325.out) | exact HB.out))))
   have n6_ := Aside0.mk (blk_below (g := gb325) (o := .cells #[.int .i64 t326, .int .i64 t327, .int .i64 t328, .slice Ao12 t329.length co12, .slice Ao13 t332.length co13, .int .i64 t335, .int .i64 t336, .int .i64 t337, .int .i64 t338, .int .i64 t339, .int .i64 t340, .int .i64 t341, .int .i64 t342, .int .i64 t343, .int .i64 t344] 29 (0, 0)) (by (with_reducible repeat (first | refine blk_drewN ?_ _ | refine blk_drew ?_ | refine blk_alloc ?_ _)); exact BK325.out) hb)
   have n7_ := Aside0.mk (below_step (by repeat (first | (with_reducible first | exact HB.out | apply below_alloc | apply pw_below_drewN | apply below_drew1 | refine below_set ?_ GE325.out) | exact HB.out)) hb)
   clear HO331
   clear HO334
   clear HO347
   clear HO357
   clear HO360
   clear BK325
   clear HB
   have HO331 := n0_
   have HO334 := n1_
   have HO347 := n2_
   have HO357 := n3_
   have HO360 := n4_
   have HO363 := n5_
   have BK325 := n6_
   have HB := n7_
   clear n0_ n1_ n2_ n3_ n4_ n5_ n6_ n7_
   (try clear hb)
   (try clear hb2)
   (try clear hk)
   (try clear hi)
   (try clear ho0)
   refine hK.out _ _ ⟨(blk_cell BK325.out 0).trans rfl, (blk_cell BK325.out 1).trans rfl, (blk_cell BK325.out 2).trans rfl, (blk_cell BK325.out 3).trans rfl, (blk_cell BK325.out 4).trans rfl, (blk_cell BK325.out 5).trans rfl, (blk_cell BK325.out 6).trans rfl, (blk_cell BK325.out 7).trans rfl, (blk_cell BK325.out 8).trans rfl, (blk_cell BK325.out 9).trans rfl, (blk_cell BK325.out 10).trans rfl, (blk_cell BK325.out 11).trans rfl, (blk_cell BK325.out 12).trans rfl, (blk_cell BK325.out 13).trans rfl, (blk_cell BK325.out 14).trans rfl⟩ (fun hHeld => ?_)
   clear hK K
   refine norm_ (a' := ?_) ?_ ?_
   rotate_left
   ·
    show Act.put _ (some 33) _ = _
    simp only [Act.put, sA, sB, sC, i64_w, i32_w]
    rfl
   refine pure_ (i := 13) (N := some 20) (v := ?_) (a' := ?_) (bA 18 16383) rfl rfl (any_of HT_.out (by kernel_rfl)) (fun _ _ _ h => h) (Or.inl ⟨by rfl, ?_⟩) ?_ ?_
   rotate_left
   ·
    intro w'
    go_simp
    with_reducible rfl
   rotate_left
   ·
    simp only [Act.put, sA, sB, sC, i64_w, i32_w]
    rfl
   refine pure_ (i := 14) (N := some 34) (v := ?_) (a' := ?_) (bA 18 32767) rfl rfl (any_of HT_.out (by kernel_rfl)) (fun _ _ _ h => h) (Or.inl ⟨by rfl, ?_⟩) ?_ ?_
   rotate_left
   ·
    intro w'
    go_simp
    with_reducible rfl
   rotate_left
   ·
    simp only [Act.put, sA, sB, sC, i64_w, i32_w]
    rfl
   refine pure_ (i := 15) (N := some 35) (v := ?_) (a' := ?_) (bA 18 65535) rfl rfl (any_of HT_.out (by kernel_rfl)) (fun _ _ _ h => h) (Or.inl ⟨by rfl, ?_⟩) ?_ ?_
   rotate_left
   ·
    intro w'
    go_simp
    with_reducible rfl
   rotate_left
   ·
    simp only [Act.put, sA, sB, sC, i64_w, i32_w]
    rfl
   refine pure_ (i := 16) (N := some 5) (v := ?_) (a' := ?_) (bA 18 131071) rfl rfl (any_of HT_.out (by kernel_rfl)) (fun _ _ _ h => h) (Or.inl ⟨by rfl, ?_⟩) ?_ ?_
   rotate_left
   ·
    intro w'
    go_simp
    with_reducible rfl
   rotate_left
   ·
    simp only [Act.put, sA, sB, sC, i64_w, i32_w]
    rfl
   refine pure_ (i := 17) (N := some 6) (v := ?_) (a' := ?_) (bA 18 262143) rfl rfl (any_of HT_.out (by kernel_rfl)) (fun _ _ _ h => h) (Or.inl ⟨by rfl, ?_⟩) ?_ ?_
   rotate_left
   ·
    intro w'
    go_simp
    with_reducible rfl
   rotate_left
   ·
    simp only [Act.put, sA, sB, sC, i64_w, i32_w]
    rfl
   refine done_ (done_of HT_.out (by kernel_rfl)) ?_
   go_upto_region 4 with (fail)
   go_cut [41] (fun v41 wc => ∃ (kq : Nat) (x41_6 : Bool), v41 = .bool x41_6 ∧ Aside0 (bivouaclaw21_SightMore.j0 kq t345 t348 t361 t364 x41_6 t326 t327 t328 t329 t332 t335 t336 t337 t338 t339 t340 t341 t342 t343 t344 = some r) ∧ Aside0 (kq ≤ k) ∧ Aside0 (Kd.R (Kd.int .i64) 3 wc w.heap.size (fun k_ => some k_ ≠ (v362 : Value).ownBlock) v346 t345) ∧ Aside0 (Kd.R (Kd.int .i64) 3 wc w.heap.size (fun k_ => some k_ ≠ (v346 : Value).ownBlock) v362 t361) ∧ Aside0 (Kd.V (Kd.int .u8) 5 wc w.heap.size (fun k_ => some k_ ≠ (v346 : Value).ownBlock ∧ some k_ ≠ (v362 : Value).ownBlock ∧ k_ ≠ gb325) (.slice Ao12 t329.length co12) t329) ∧ Aside0 (Kd.V k27 27 wc w.heap.size (fun k_ => some k_ ≠ (v346 : Value).ownBlock ∧ some k_ ≠ (v362 : Value).ownBlock ∧ k_ ≠ gb325) (.slice Ao13 t332.length co13) t332) ∧ Aside0 (wc.heap[gb325]? = some (.cells #[.int .i64 t326, .int .i64 t327, .int .i64 t328, (.slice Ao12 t329.length co12), (.slice Ao13 t332.length co13), .int .i64 t335, .int .i64 t336, .int .i64 t337, .int .i64 t338, .int .i64 t339, .int .i64 t340, .int .i64 t341, .int .i64 t342, .int .i64 t343, .int .i64 t344] 29 (0, 0))) ∧ Aside0 (Below w.heap.size w wc))
   case first =>
    have H := HC7.out
    clear HC7
    by_cases c26 : t348 = 0
    ·
     rw [if_pos c26] at H
     have c26b0 : (t348 == 0) = true := beq_iff_eq.mpr c26
     have c26b1 : (t348 != 0) = false := bne_eq_false_iff_eq.mpr c26
     clear c26
     (first | rw [c26b0] | (simp only [i64_w, i32_w]; rw [c26b0]) | skip)
     have H' := Aside0.mk H
     clear H
     go_wp2
     go_meet
     case rel => exact ⟨_, ((t364 != 0)), (by first | rfl | (simp; done) | (simp [*]; done)), H', ⟨by first | omega | exact Nat.le_refl _⟩, ⟨by (with_reducible repeat (first | apply Kd.R_alloc | apply Kd.R_drewN | apply Kd.R_drew)); exact Kd.R_mono HO347.out (fun _ hk => hk.2)⟩, ⟨by (with_reducible repeat (first | apply Kd.R_alloc | apply Kd.R_drewN | apply Kd.R_drew)); exact Kd.R_mono HO363.out (fun _ hk => hk.2)⟩, ⟨by (with_reducible repeat (first | apply Kd.V_alloc | apply Kd.V_drewN | apply Kd.V_drew)); exact Kd.V_mono HO331.out (fun _ hk => ⟨hk.1.1.1, ⟨hk.2, hk.1.1.2.2⟩⟩)⟩, ⟨by (with_reducible repeat (first | apply Kd.V_alloc | apply Kd.V_drewN | apply Kd.V_drew)); exact Kd.V_mono HO334.out (fun _ hk => ⟨hk.1.1.1, ⟨hk.2, hk.1.1.2.2⟩⟩)⟩, ⟨by (with_reducible repeat (first | refine blk_drewN ?_ _ | refine blk_drew ?_ | refine blk_alloc ?_ _)); exact BK325.out⟩, ⟨by repeat (first | (with_reducible first | exact HB.out | apply below_alloc | apply pw_below_drewN | apply below_drew1 | refine below_set ?_ GE325.out) | exact HB.out)⟩⟩
    ·
     rw [if_neg c26] at H
     have c26b0 : (t348 == 0) = false := beq_eq_false_iff_ne.mpr c26
     have c26b1 : (t348 != 0) = true := bne_iff_ne.mpr c26
     (first | rw [c26b0] | (simp only [i64_w, i32_w]; rw [c26b0]) | skip)
     have H' := Aside0.mk H
     clear H
     go_wp2
     go_meet
     case rel => exact ⟨_, (true), (by first | rfl | (simp; done) | (simp [*]; done)), H', ⟨by first | omega | exact Nat.le_refl _⟩, ⟨by (with_reducible repeat (first | apply Kd.R_alloc | apply Kd.R_drewN | apply Kd.R_drew)); exact Kd.R_mono HO347.out (fun _ hk => hk.2)⟩, ⟨by (with_reducible repeat (first | apply Kd.R_alloc | apply Kd.R_drewN | apply Kd.R_drew)); exact Kd.R_mono HO363.out (fun _ hk => hk.2)⟩, ⟨by (with_reducible repeat (first | apply Kd.V_alloc | apply Kd.V_drewN | apply Kd.V_drew)); exact Kd.V_mono HO331.out (fun _ hk => ⟨hk.1.1.1, ⟨hk.2, hk.1.1.2.2⟩⟩)⟩, ⟨by (with_reducible repeat (first | apply Kd.V_alloc | apply Kd.V_drewN | apply Kd.V_drew)); exact Kd.V_mono HO334.out (fun _ hk => ⟨hk.1.1.1, ⟨hk.2, hk.1.1.2.2⟩⟩)⟩, ⟨by (with_reducible repeat (first | refine blk_drewN ?_ _ | refine blk_drew ?_ | refine blk_alloc ?_ _)); exact BK325.out⟩, ⟨by repeat (first | (with_reducible first | exact HB.out | apply below_alloc | apply pw_below_drewN | apply below_drew1 | refine below_set ?_ GE325.out) | exact HB.out)⟩⟩
   case rest =>
    clear HC7
    try clear c2
    try clear p2
    try clear c4
    try clear c5
    try clear c8
    try clear c9
    try clear c26
    try clear c26b0
    try clear c26b1
    try clear hcz11_0
    try clear hcz11_1
    try clear hcz11_10
    try clear hcz11_11
    try clear hcz11_12
    try clear hcz11_13
    try clear hcz11_14
    try clear hcz11_2
    try clear hcz11_3
    try clear hcz11_4
    try clear hcz11_5
    try clear hcz11_6
    try clear hcz11_7
    try clear hcz11_8
    try clear hcz11_9
    try clear hcz9_0
    try clear hcz9_1
    try clear hcz9_10
    try clear hcz9_11
    try clear hcz9_12
    try clear hcz9_13
    try clear hcz9_14
    try clear hcz9_2
    try clear hcz9_3
    try clear hcz9_4
    try clear hcz9_5
    try clear hcz9_6
    try clear hcz9_7
    try clear hcz9_8
    try clear hcz9_9
    try clear hfz11_0
    try clear hfz11_1
    try clear hfz11_10
    try clear hfz11_11
    try clear hfz11_12
    try clear hfz11_13
    try clear hfz11_14
    try clear hfz11_2
    try clear hfz11_3
    try clear hfz11_4
    try clear hfz11_5
    try clear hfz11_6
    try clear hfz11_7
    try clear hfz11_8
    try clear hfz11_9
    try clear hfz9_0
    try clear hfz9_1
    try clear hfz9_10
    try clear hfz9_11
    try clear hfz9_12
    try clear hfz9_13
    try clear hfz9_14
    try clear hfz9_2
    try clear hfz9_3
    try clear hfz9_4
    try clear hfz9_5
    try clear hfz9_6
    try clear hfz9_7
    try clear hfz9_8
    try clear hfz9_9
    obtain ⟨kq, x41_6, rfl, HA, HJ6, HO_3, HO_5, HO_326003, HO_326004, BK325, HB⟩ := hcut
    cases kq with
    | zero => exact absurd HA.out (by simp [bivouaclaw21_SightMore.j0])
    | succ kj6 =>
     have H := HA.out
     clear HA
     simp only [bivouaclaw21_SightMore.j0] at H
     by_cases c27 : x41_6 = true
     ·
      subst c27
      have H1 : (if t348 = 0 then (if t364 = 0 then ((bivouaclaw21_awake.f kj6).bind fun t365 => (some t365)) else (if (t361.length : Int) = 0 then ((bivouaclaw21_awake.f kj6).bind fun t366 => (some t366)) else (none))) else (if (t345.length : Int) = 0 then (if t364 = 0 then ((bivouaclaw21_awake.f kj6).bind fun t367 => (some t367)) else (if (t361.length : Int) = 0 then ((bivouaclaw21_awake.f kj6).bind fun t368 => (some t368)) else (none))) else (none))) = some r := by rw [if_pos rfl] at H; exact H
      clear H
      have H := H1
      clear H1
      by_cases c28 : t348 = 0
      ·
       rw [if_pos c28] at H
       have c28b0 : (t348 == 0) = true := beq_iff_eq.mpr c28
       have c28b1 : (t348 != 0) = false := bne_eq_false_iff_eq.mpr c28
       clear c28
       by_cases c29 : t364 = 0
       ·
        rw [if_pos c29] at H
        have c29b0 : (t364 == 0) = true := beq_iff_eq.mpr c29
        have c29b1 : (t364 != 0) = false := bne_eq_false_iff_eq.mpr c29
        clear c29
        replace H := Option.bind_eq_some_iff.mp H
        obtain ⟨t365, A300, H⟩ := H
        replace H : (some t365) = some r := H
        have A30 := Aside0.mk A300
        clear A300
        obtain rfl := Option.some.inj H
        go_wp2_with (first | (go_at_call 13; (with_reducible refine (bivouaclaw21_awake.calls kj6  t365 _ A30.out).mono ?_); rintro e w31 ⟨rfl, hb⟩; have n0_ := Aside0.mk (Kd.R_below (by (with_reducible repeat (first | apply Kd.R_alloc | apply Kd.R_drewN | apply Kd.R_drew)); exact HO_3.out) hb); have n1_ := Aside0.mk (Kd.R_below (by (with_reducible repeat (first | apply Kd.R_alloc | apply Kd.R_drewN | apply Kd.R_drew)); exact HO_5.out) hb); have n2_ := Aside0.mk (Kd.V_below (by (with_reducible repeat (first | apply Kd.V_alloc | apply Kd.V_drewN | apply Kd.V_drew)); exact HO_326003.out) hb); have n3_ := Aside0.mk (Kd.V_below (by (with_reducible repeat (first | apply Kd.V_alloc | apply Kd.V_drewN | apply Kd.V_drew)); exact HO_326004.out) hb); have n4_ := Aside0.mk (blk_below (g := gb325) (o := .cells #[.int .i64 t326, .int .i64 t327, .int .i64 t328, .slice Ao12 t329.length co12, .slice Ao13 t332.length co13, .int .i64 t335, .int .i64 t336, .int .i64 t337, .int .i64 t338, .int .i64 t339, .int .i64 t340, .int .i64 t341, .int .i64 t342, .int .i64 t343, .int .i64 t344] 29 (0, 0)) (by (with_reducible repeat (first | refine blk_drewN ?_ _ | refine blk_drew ?_ | refine blk_alloc ?_ _)); exact BK325.out) hb); have n5_ := Aside0.mk (below_step (by repeat (first | (with_reducible first | exact HB.out | apply below_alloc | apply pw_below_drewN | apply below_drew1 | refine below_set ?_ GE325.out) | exact HB.out)) hb); clear HO_3; clear HO_5; clear HO_326003; clear HO_326004; clear BK325; clear HB; have HO_3 := n0_; have HO_5 := n1_; have HO_326003 := n2_; have HO_326004 := n3_; have BK325 := n4_; have HB := n5_; clear n0_ n1_ n2_ n3_ n4_ n5_; (try clear hb); (try clear hb2); (try clear hk); (try clear hi)))
        go_ret
        exact ⟨by first | rfl | (simp [errW_none, errW_some] <;> rfl) | (simp [*, errW_none, errW_some] <;> rfl) | (rw [Int.tdiv_eq_ediv_of_nonneg (by assumption)]; rfl), by repeat (first | (with_reducible first | exact HB.out | apply below_alloc | apply pw_below_drewN | apply below_drew1 | refine below_set ?_ GE325.out) | exact HB.out)⟩
       ·
        rw [if_neg c29] at H
        have c29b0 : (t364 == 0) = false := beq_eq_false_iff_ne.mpr c29
        have c29b1 : (t364 != 0) = true := bne_iff_ne.mpr c29
        by_cases c32 : (t361.length : Int) = 0
        ·
         rw [if_pos c32] at H
         have c32b0 : ((t361.length : Int) == 0) = true := beq_iff_eq.mpr c32
         have c32b1 : ((t361.length : Int) != 0) = false := bne_eq_false_iff_eq.mpr c32
         clear c32
         replace H := Option.bind_eq_some_iff.mp H
         obtain ⟨t366, A330, H⟩ := H
         replace H : (some t366) = some r := H
         have A33 := Aside0.mk A330
         clear A330
         obtain rfl := Option.some.inj H
         obtain ⟨Ao34, co34, eo34⟩ := Kd.R_slice HO_5.out
         subst eo34
         go_wp2_with (first | (go_at_call 13; (with_reducible refine (bivouaclaw21_awake.calls kj6  t366 _ A33.out).mono ?_); rintro e w35 ⟨rfl, hb⟩; have n0_ := Aside0.mk (Kd.R_below (by (with_reducible repeat (first | apply Kd.R_alloc | apply Kd.R_drewN | apply Kd.R_drew)); exact HO_3.out) hb); have n1_ := Aside0.mk (Kd.R_below (by (with_reducible repeat (first | apply Kd.R_alloc | apply Kd.R_drewN | apply Kd.R_drew)); exact HO_5.out) hb); have n2_ := Aside0.mk (Kd.V_below (by (with_reducible repeat (first | apply Kd.V_alloc | apply Kd.V_drewN | apply Kd.V_drew)); exact HO_326003.out) hb); have n3_ := Aside0.mk (Kd.V_below (by (with_reducible repeat (first | apply Kd.V_alloc | apply Kd.V_drewN | apply Kd.V_drew)); exact HO_326004.out) hb); have n4_ := Aside0.mk (blk_below (g := gb325) (o := .cells #[.int .i64 t326, .int .i64 t327, .int .i64 t328, .slice Ao12 t329.length co12, .slice Ao13 t332.length co13, .int .i64 t335, .int .i64 t336, .int .i64 t337, .int .i64 t338, .int .i64 t339, .int .i64 t340, .int .i64 t341, .int .i64 t342, .int .i64 t343, .int .i64 t344] 29 (0, 0)) (by (with_reducible repeat (first | refine blk_drewN ?_ _ | refine blk_drew ?_ | refine blk_alloc ?_ _)); exact BK325.out) hb); have n5_ := Aside0.mk (below_step (by repeat (first | (with_reducible first | exact HB.out | apply below_alloc | apply pw_below_drewN | apply below_drew1 | refine below_set ?_ GE325.out) | exact HB.out)) hb); clear HO_3; clear HO_5; clear HO_326003; clear HO_326004; clear BK325; clear HB; have HO_3 := n0_; have HO_5 := n1_; have HO_326003 := n2_; have HO_326004 := n3_; have BK325 := n4_; have HB := n5_; clear n0_ n1_ n2_ n3_ n4_ n5_; (try clear hb); (try clear hb2); (try clear hk); (try clear hi)))
         go_ret
         exact ⟨by first | rfl | (simp [errW_none, errW_some] <;> rfl) | (simp [*, errW_none, errW_some] <;> rfl) | (rw [Int.tdiv_eq_ediv_of_nonneg (by assumption)]; rfl), by repeat (first | (with_reducible first | exact HB.out | apply below_alloc | apply pw_below_drewN | apply below_drew1 | refine below_set ?_ GE325.out) | exact HB.out)⟩
        ·
         rw [if_neg c32] at H
         exact absurd H (by simp)
      ·
       rw [if_neg c28] at H
       have c28b0 : (t348 == 0) = false := beq_eq_false_iff_ne.mpr c28
       have c28b1 : (t348 != 0) = true := bne_iff_ne.mpr c28
       by_cases c36 : (t345.length : Int) = 0
       ·
        rw [if_pos c36] at H
        have c36b0 : ((t345.length : Int) == 0) = true := beq_iff_eq.mpr c36
        have c36b1 : ((t345.length : Int) != 0) = false := bne_eq_false_iff_eq.mpr c36
        clear c36
        by_cases c37 : t364 = 0
        ·
         rw [if_pos c37] at H
         have c37b0 : (t364 == 0) = true := beq_iff_eq.mpr c37
         have c37b1 : (t364 != 0) = false := bne_eq_false_iff_eq.mpr c37
         clear c37
         replace H := Option.bind_eq_some_iff.mp H
         obtain ⟨t367, A380, H⟩ := H
         replace H : (some t367) = some r := H
         have A38 := Aside0.mk A380
         clear A380
         obtain rfl := Option.some.inj H
         obtain ⟨Ao39, co39, eo39⟩ := Kd.R_slice HO_3.out
         subst eo39
         go_wp2_with (first | (go_at_call 13; (with_reducible refine (bivouaclaw21_awake.calls kj6  t367 _ A38.out).mono ?_); rintro e w40 ⟨rfl, hb⟩; have n0_ := Aside0.mk (Kd.R_below (by (with_reducible repeat (first | apply Kd.R_alloc | apply Kd.R_drewN | apply Kd.R_drew)); exact HO_3.out) hb); have n1_ := Aside0.mk (Kd.R_below (by (with_reducible repeat (first | apply Kd.R_alloc | apply Kd.R_drewN | apply Kd.R_drew)); exact HO_5.out) hb); have n2_ := Aside0.mk (Kd.V_below (by (with_reducible repeat (first | apply Kd.V_alloc | apply Kd.V_drewN | apply Kd.V_drew)); exact HO_326003.out) hb); have n3_ := Aside0.mk (Kd.V_below (by (with_reducible repeat (first | apply Kd.V_alloc | apply Kd.V_drewN | apply Kd.V_drew)); exact HO_326004.out) hb); have n4_ := Aside0.mk (blk_below (g := gb325) (o := .cells #[.int .i64 t326, .int .i64 t327, .int .i64 t328, .slice Ao12 t329.length co12, .slice Ao13 t332.length co13, .int .i64 t335, .int .i64 t336, .int .i64 t337, .int .i64 t338, .int .i64 t339, .int .i64 t340, .int .i64 t341, .int .i64 t342, .int .i64 t343, .int .i64 t344] 29 (0, 0)) (by (with_reducible repeat (first | refine blk_drewN ?_ _ | refine blk_drew ?_ | refine blk_alloc ?_ _)); exact BK325.out) hb); have n5_ := Aside0.mk (below_step (by repeat (first | (with_reducible first | exact HB.out | apply below_alloc | apply pw_below_drewN | apply below_drew1 | refine below_set ?_ GE325.out) | exact HB.out)) hb); clear HO_3; clear HO_5; clear HO_326003; clear HO_326004; clear BK325; clear HB; have HO_3 := n0_; have HO_5 := n1_; have HO_326003 := n2_; have HO_326004 := n3_; have BK325 := n4_; have HB := n5_; clear n0_ n1_ n2_ n3_ n4_ n5_; (try clear hb); (try clear hb2); (try clear hk); (try clear hi)))
         go_ret
         exact ⟨by first | rfl | (simp [errW_none, errW_some] <;> rfl) | (simp [*, errW_none, errW_some] <;> rfl) | (rw [Int.tdiv_eq_ediv_of_nonneg (by assumption)]; rfl), by repeat (first | (with_reducible first | exact HB.out | apply below_alloc | apply pw_below_drewN | apply below_drew1 | refine below_set ?_ GE325.out) | exact HB.out)⟩
        ·
         rw [if_neg c37] at H
         have c37b0 : (t364 == 0) = false := beq_eq_false_iff_ne.mpr c37
         have c37b1 : (t364 != 0) = true := bne_iff_ne.mpr c37
         by_cases c41 : (t361.length : Int) = 0
         ·
          rw [if_pos c41] at H
          have c41b0 : ((t361.length : Int) == 0) = true := beq_iff_eq.mpr c41
          have c41b1 : ((t361.length : Int) != 0) = false := bne_eq_false_iff_eq.mpr c41
          clear c41
          replace H := Option.bind_eq_some_iff.mp H
          obtain ⟨t368, A420, H⟩ := H
          replace H : (some t368) = some r := H
          have A42 := Aside0.mk A420
          clear A420
          obtain rfl := Option.some.inj H
          obtain ⟨Ao43, co43, eo43⟩ := Kd.R_slice HO_3.out
          subst eo43
          obtain ⟨Ao44, co44, eo44⟩ := Kd.R_slice HO_5.out
          subst eo44
          go_wp2_with (first | (go_at_call 13; (with_reducible refine (bivouaclaw21_awake.calls kj6  t368 _ A42.out).mono ?_); rintro e w45 ⟨rfl, hb⟩; have n0_ := Aside0.mk (Kd.R_below (by (with_reducible repeat (first | apply Kd.R_alloc | apply Kd.R_drewN | apply Kd.R_drew)); exact HO_3.out) hb); have n1_ := Aside0.mk (Kd.R_below (by (with_reducible repeat (first | apply Kd.R_alloc | apply Kd.R_drewN | apply Kd.R_drew)); exact HO_5.out) hb); have n2_ := Aside0.mk (Kd.V_below (by (with_reducible repeat (first | apply Kd.V_alloc | apply Kd.V_drewN | apply Kd.V_drew)); exact HO_326003.out) hb); have n3_ := Aside0.mk (Kd.V_below (by (with_reducible repeat (first | apply Kd.V_alloc | apply Kd.V_drewN | apply Kd.V_drew)); exact HO_326004.out) hb); have n4_ := Aside0.mk (blk_below (g := gb325) (o := .cells #[.int .i64 t326, .int .i64 t327, .int .i64 t328, .slice Ao12 t329.length co12, .slice Ao13 t332.length co13, .int .i64 t335, .int .i64 t336, .int .i64 t337, .int .i64 t338, .int .i64 t339, .int .i64 t340, .int .i64 t341, .int .i64 t342, .int .i64 t343, .int .i64 t344] 29 (0, 0)) (by (with_reducible repeat (first | refine blk_drewN ?_ _ | refine blk_drew ?_ | refine blk_alloc ?_ _)); exact BK325.out) hb); have n5_ := Aside0.mk (below_step (by repeat (first | (with_reducible first | exact HB.out | apply below_alloc | apply pw_below_drewN | apply below_drew1 | refine below_set ?_ GE325.out) | exact HB.out)) hb); clear HO_3; clear HO_5; clear HO_326003; clear HO_326004; clear BK325; clear HB; have HO_3 := n0_; have HO_5 := n1_; have HO_326003 := n2_; have HO_326004 := n3_; have BK325 := n4_; have HB := n5_; clear n0_ n1_ n2_ n3_ n4_ n5_; (try clear hb); (try clear hb2); (try clear hk); (try clear hi)))
          go_ret
          exact ⟨by first | rfl | (simp [errW_none, errW_some] <;> rfl) | (simp [*, errW_none, errW_some] <;> rfl) | (rw [Int.tdiv_eq_ediv_of_nonneg (by assumption)]; rfl), by repeat (first | (with_reducible first | exact HB.out | apply below_alloc | apply pw_below_drewN | apply below_drew1 | refine below_set ?_ GE325.out) | exact HB.out)⟩
         ·
          rw [if_neg c41] at H
          exact absurd H (by simp)
       ·
        rw [if_neg c36] at H
        exact absurd H (by simp)
     ·
      replace c27 := Bool.eq_false_iff.mpr c27
      subst c27
      have H1 : (if (t345.length : Int) = (t361.length : Int) then (bivouaclaw21_SightMore.l0 kj6 t345 t361 0 t326 t327 t328 t329 t332 t335 t336 t337 t338 t339 t340 t341 t342 t343 t344) else (none)) = some r := by rw [if_neg (show ¬ (false = true) by decide)] at H; exact H
      clear H
      have H := H1
      clear H1
      by_cases c46 : (t345.length : Int) = (t361.length : Int)
      ·
       rw [if_pos c46] at H
       have c46b0 : ((t345.length : Int) == (t361.length : Int)) = true := beq_iff_eq.mpr c46
       have c46b1 : ((t345.length : Int) != (t361.length : Int)) = false := bne_eq_false_iff_eq.mpr c46
       have c46b2 : (t345.length == t361.length) = true := by first | simpa using c46 | (simp at c46 ⊢; omega)
       clear c46
       have H' := Aside0.mk H
       clear H
       obtain ⟨Ao47, co47, eo47⟩ := Kd.R_slice HO_3.out
       subst eo47
       obtain ⟨Ao48, co48, eo48⟩ := Kd.R_slice HO_5.out
       subst eo48
       go_wp2
       go_loopg [7] kj6 (fun kq v7 w' => ∃ (x7_2 : Int), v7 = .int .i64 x7_2 ∧ Aside0 (bivouaclaw21_SightMore.l0 kq t345 t361 x7_2 t326 t327 t328 t329 t332 t335 t336 t337 t338 t339 t340 t341 t342 t343 t344 = some r) ∧ Aside0 (kq ≤ kj6) ∧ Aside0 (Kd.R (Kd.int .i64) 3 w' w.heap.size (fun k_ => some k_ ≠ ((.slice Ao48 t361.length co48) : Value).ownBlock) (.slice Ao47 t345.length co47) t345) ∧ Aside0 (Kd.R (Kd.int .i64) 3 w' w.heap.size (fun k_ => some k_ ≠ ((.slice Ao47 t345.length co47) : Value).ownBlock) (.slice Ao48 t361.length co48) t361) ∧ Aside0 (Kd.V (Kd.int .u8) 5 w' w.heap.size (fun k_ => some k_ ≠ ((.slice Ao47 t345.length co47) : Value).ownBlock ∧ some k_ ≠ ((.slice Ao48 t361.length co48) : Value).ownBlock ∧ k_ ≠ gb325) (.slice Ao12 t329.length co12) t329) ∧ Aside0 (Kd.V k27 27 w' w.heap.size (fun k_ => some k_ ≠ ((.slice Ao47 t345.length co47) : Value).ownBlock ∧ some k_ ≠ ((.slice Ao48 t361.length co48) : Value).ownBlock ∧ k_ ≠ gb325) (.slice Ao13 t332.length co13) t332) ∧ Aside0 (w'.heap[gb325]? = some (.cells #[.int .i64 t326, .int .i64 t327, .int .i64 t328, (.slice Ao12 t329.length co12), (.slice Ao13 t332.length co13), .int .i64 t335, .int .i64 t336, .int .i64 t337, .int .i64 t338, .int .i64 t339, .int .i64 t340, .int .i64 t341, .int .i64 t342, .int .i64 t343, .int .i64 t344] 29 (0, 0))) ∧ Aside0 (Below w.heap.size w w'))
       case atStart => exact ⟨(0), (by first | rfl | (simp; done) | (simp [*]; done)), H', ⟨Nat.le_refl _⟩, ⟨by (with_reducible repeat (first | apply Kd.R_alloc | apply Kd.R_drewN | apply Kd.R_drew)); exact HO_3.out⟩, ⟨by (with_reducible repeat (first | apply Kd.R_alloc | apply Kd.R_drewN | apply Kd.R_drew)); exact HO_5.out⟩, ⟨by (with_reducible repeat (first | apply Kd.V_alloc | apply Kd.V_drewN | apply Kd.V_drew)); exact HO_326003.out⟩, ⟨by (with_reducible repeat (first | apply Kd.V_alloc | apply Kd.V_drewN | apply Kd.V_drew)); exact HO_326004.out⟩, ⟨by (with_reducible repeat (first | refine blk_drewN ?_ _ | refine blk_drew ?_ | refine blk_alloc ?_ _)); exact BK325.out⟩, ⟨by repeat (first | (with_reducible first | exact HB.out | apply below_alloc | apply pw_below_drewN | apply below_drew1 | refine below_set ?_ GE325.out) | exact HB.out)⟩⟩
       case round =>
        clear H'
        try clear c2
        try clear p2
        try clear c3
        try clear c4
        try clear c5
        try clear c8
        try clear c9
        try clear c26
        try clear c26b0
        try clear c26b1
        try clear c27
        try clear c28
        try clear c28b0
        try clear c28b1
        try clear c29
        try clear c29b0
        try clear c29b1
        try clear c32
        try clear c32b0
        try clear c32b1
        try clear c36
        try clear c36b0
        try clear c36b1
        try clear c37
        try clear c37b0
        try clear c37b1
        try clear c41
        try clear c41b0
        try clear c41b1
        try clear c46
        try clear c46b0
        try clear c46b1
        try clear c46b2
        try clear hcz11_0
        try clear hcz11_1
        try clear hcz11_10
        try clear hcz11_11
        try clear hcz11_12
        try clear hcz11_13
        try clear hcz11_14
        try clear hcz11_2
        try clear hcz11_3
        try clear hcz11_4
        try clear hcz11_5
        try clear hcz11_6
        try clear hcz11_7
        try clear hcz11_8
        try clear hcz11_9
        try clear hcz9_0
        try clear hcz9_1
        try clear hcz9_10
        try clear hcz9_11
        try clear hcz9_12
        try clear hcz9_13
        try clear hcz9_14
        try clear hcz9_2
        try clear hcz9_3
        try clear hcz9_4
        try clear hcz9_5
        try clear hcz9_6
        try clear hcz9_7
        try clear hcz9_8
        try clear hcz9_9
        try clear hfz11_0
        try clear hfz11_1
        try clear hfz11_10
        try clear hfz11_11
        try clear hfz11_12
        try clear hfz11_13
        try clear hfz11_14
        try clear hfz11_2
        try clear hfz11_3
        try clear hfz11_4
        try clear hfz11_5
        try clear hfz11_6
        try clear hfz11_7
        try clear hfz11_8
        try clear hfz11_9
        try clear hfz9_0
        try clear hfz9_1
        try clear hfz9_10
        try clear hfz9_11
        try clear hfz9_12
        try clear hfz9_13
        try clear hfz9_14
        try clear hfz9_2
        try clear hfz9_3
        try clear hfz9_4
        try clear hfz9_5
        try clear hfz9_6
        try clear hfz9_7
        try clear hfz9_8
        try clear hfz9_9
        try clear p2
        obtain ⟨x7_2, rfl, HA, HK2, HO_3, HO_5, HO_326003, HO_326004, BK325, HB⟩ := hrel
        cases gk with
        | zero => exact absurd HA.out (by simp [bivouaclaw21_SightMore.l0])
        | succ k2 =>
         have H := HA.out
         clear HA
         simp only [bivouaclaw21_SightMore.l0] at H
         by_cases c49 : x7_2 < (t345.length : Int)
         ·
          rw [if_pos c49] at H
          have c49b0 : decide (x7_2 < (t345.length : Int)) = true := decide_eq_true c49
          clear c49
          have HC50 := Aside0.mk H
          clear H
          go_upto_region 11 with (fail)
          go_cut [120] (fun v120 wc => ∃ (kq : Nat) (x120_49 : Bool), v120 = .bool x120_49 ∧ Aside0 (bivouaclaw21_SightMore.j2 kq t345 t361 x7_2 x120_49 t326 t327 t328 t329 t332 t335 t336 t337 t338 t339 t340 t341 t342 t343 t344 = some r) ∧ Aside0 (kq ≤ k2) ∧ Aside0 (Kd.R (Kd.int .i64) 3 wc w.heap.size (fun k_ => some k_ ≠ ((.slice Ao48 t361.length co48) : Value).ownBlock) (.slice Ao47 t345.length co47) t345) ∧ Aside0 (Kd.R (Kd.int .i64) 3 wc w.heap.size (fun k_ => some k_ ≠ ((.slice Ao47 t345.length co47) : Value).ownBlock) (.slice Ao48 t361.length co48) t361) ∧ Aside0 (Kd.V (Kd.int .u8) 5 wc w.heap.size (fun k_ => some k_ ≠ ((.slice Ao47 t345.length co47) : Value).ownBlock ∧ some k_ ≠ ((.slice Ao48 t361.length co48) : Value).ownBlock ∧ k_ ≠ gb325) (.slice Ao12 t329.length co12) t329) ∧ Aside0 (Kd.V k27 27 wc w.heap.size (fun k_ => some k_ ≠ ((.slice Ao47 t345.length co47) : Value).ownBlock ∧ some k_ ≠ ((.slice Ao48 t361.length co48) : Value).ownBlock ∧ k_ ≠ gb325) (.slice Ao13 t332.length co13) t332) ∧ Aside0 (wc.heap[gb325]? = some (.cells #[.int .i64 t326, .int .i64 t327, .int .i64 t328, (.slice Ao12 t329.length co12), (.slice Ao13 t332.length co13), .int .i64 t335, .int .i64 t336, .int .i64 t337, .int .i64 t338, .int .i64 t339, .int .i64 t340, .int .i64 t341, .int .i64 t342, .int .i64 t343, .int .i64 t344] 29 (0, 0))) ∧ Aside0 (Below w.heap.size w wc))
          case first =>
           have H := HC50.out
           clear HC50
           by_cases c51 : t337 = t335
           ·
            rw [if_pos c51] at H
            have c51b0 : (t337 == t335) = true := beq_iff_eq.mpr c51
            have c51b1 : (t337 != t335) = false := bne_eq_false_iff_eq.mpr c51
            clear c51
            (first | rw [c51b0] | (simp only [i64_w, i32_w]; rw [c51b0]) | skip)
            by_cases c52 : 0 ≤ x7_2
            ·
             rw [if_pos c52] at H
             have c52b0 : decide (0 ≤ x7_2) = true := decide_eq_true c52
             clear c52
             by_cases c53 : x7_2 < (t361.length : Int)
             ·
              rw [if_pos c53] at H
              have c53b0 : decide (x7_2 < (t361.length : Int)) = true := decide_eq_true c53
              clear c53
              by_cases c54 : (rd t361 x7_2) < (rd t345 x7_2)
              ·
               rw [if_pos c54] at H
               have c54b0 : decide ((rd t361 x7_2) < (rd t345 x7_2)) = true := decide_eq_true c54
               clear c54
               have H' := Aside0.mk H
               clear H
               try go_wp2
               have n0_ := Aside0.mk (Kd.R_drew HO_3.out)
               have n1_ := Aside0.mk (Kd.R_drew HO_5.out)
               have n2_ := Aside0.mk (Kd.V_drew HO_326003.out)
               have n3_ := Aside0.mk (Kd.V_drew HO_326004.out)
               have n4_ := Aside0.mk (blk_drew BK325.out)
               have n5_ := Aside0.mk (below_drew1 HB.out)
               clear HO_3
               clear HO_5
               clear HO_326003
               clear HO_326004
               clear BK325
               clear HB
               have HO_3 := n0_
               have HO_5 := n1_
               have HO_326003 := n2_
               have HO_326004 := n3_
               have BK325 := n4_
               have HB := n5_
               clear n0_ n1_ n2_ n3_ n4_ n5_
               have p370 : 0 ≤ (x7_2 : Int) := of_decide_eq_true (by first | (with_reducible assumption) | assumption)
               have q370 : x7_2 < (t361.length : Int) := of_decide_eq_true (by first | (with_reducible assumption) | assumption)
               obtain ⟨ad370, e370, hx370_0⟩ := Kd.at_int (Kd.R_reads' HO_5.out).2.2 x7_2 p370 q370
               cases e370
               replace p370 := eq_true p370
               replace q370 := eq_true q370
               have p371 : 0 ≤ (x7_2 : Int) := of_decide_eq_true (by first | (with_reducible assumption) | assumption)
               have q371 : x7_2 < (t345.length : Int) := of_decide_eq_true (by first | (with_reducible assumption) | assumption)
               obtain ⟨ad371, e371, hx371_0⟩ := Kd.at_int (Kd.R_reads' HO_3.out).2.2 x7_2 p371 q371
               cases e371
               replace p371 := eq_true p371
               replace q371 := eq_true q371
               refine start_ (n := 49) (S := fun w' => w'.cell? ⟨gb325, 0, none⟩ = some (.int .i64 t326) ∧ w'.cell? ⟨gb325, 1, none⟩ = some (.int .i64 t327) ∧ w'.cell? ⟨gb325, 2, none⟩ = some (.int .i64 t328) ∧ w'.cell? ⟨gb325, 3, none⟩ = some (.slice Ao12 t329.length co12) ∧ w'.cell? ⟨gb325, 4, none⟩ = some (.slice Ao13 t332.length co13) ∧ w'.cell? ⟨gb325, 5, none⟩ = some (.int .i64 t335) ∧ w'.cell? ⟨gb325, 6, none⟩ = some (.int .i64 t336) ∧ w'.cell? ⟨gb325, 7, none⟩ = some (.int .i64 t337) ∧ w'.cell? ⟨gb325, 8, none⟩ = some (.int .i64 t338) ∧ w'.cell? ⟨gb325, 9, none⟩ = some (.int .i64 t339) ∧ w'.cell? ⟨gb325, 10, none⟩ = some (.int .i64 t340) ∧ w'.cell? ⟨gb325, 11, none⟩ = some (.int .i64 t341) ∧ w'.cell? ⟨gb325, 12, none⟩ = some (.int .i64 t342) ∧ w'.cell? ⟨gb325, 13, none⟩ = some (.int .i64 t343) ∧ w'.cell? ⟨gb325, 14, none⟩ = some (.int .i64 t344) ∧ w'.cell? (ad370.add (x7_2).toNat) = some (.int .i64 (rd t361 x7_2)) ∧ w'.cell? (ad371.add (x7_2).toNat) = some (.int .i64 (rd t345 x7_2))) (ds := []) (bA 49 0) (by kernel_rfl) rfl rfl ⟨(blk_cell BK325.out 0).trans rfl, (blk_cell BK325.out 1).trans rfl, (blk_cell BK325.out 2).trans rfl, (blk_cell BK325.out 3).trans rfl, (blk_cell BK325.out 4).trans rfl, (blk_cell BK325.out 5).trans rfl, (blk_cell BK325.out 6).trans rfl, (blk_cell BK325.out 7).trans rfl, (blk_cell BK325.out 8).trans rfl, (blk_cell BK325.out 9).trans rfl, (blk_cell BK325.out 10).trans rfl, (blk_cell BK325.out 11).trans rfl, (blk_cell BK325.out 12).trans rfl, (blk_cell BK325.out 13).trans rfl, (blk_cell BK325.out 14).trans rfl, hx370_0, hx371_0⟩ (fun hHeld => ?_); refine with_tabW bivouaclaw21_SightMore.tab11 bivouaclaw21_SightMore.bits11 (fun HT_ HW_ => ?_)
               generalize wr.drew = w55 at HO_3 HO_5 HO_326003 HO_326004 BK325 HB hx370_0 hx371_0 hHeld ⊢
               refine pure_ (i := 0) (N := some 72) (v := ?_) (a' := ?_) (bA 49 1) rfl rfl (any_of HT_.out (by kernel_rfl)) (fun _ _ _ h => h) (Or.inl ⟨by rfl, ?_⟩) ?_ ?_
               rotate_left
               ·
                intro w'
                go_simp
                with_reducible rfl
               rotate_left
               ·
                simp only [Act.put, sA, sB, sC, i64_w, i32_w]
                rfl
               refine pure_ (i := 1) (N := some 73) (v := ?_) (a' := ?_) (bA 49 3) rfl rfl (any_of HT_.out (by kernel_rfl)) (fun _ _ _ h => h) (Or.inl ⟨by rfl, ?_⟩) ?_ ?_
               rotate_left
               ·
                intro w'
                go_simp
                with_reducible rfl
               rotate_left
               ·
                simp only [Act.put, sA, sB, sC, i64_w, i32_w]
                rfl
               refine pure_ (i := 3) (N := some 75) (v := ?_) (a' := ?_) (bA 49 11) rfl rfl (any_of HT_.out (by kernel_rfl)) (fun _ _ _ h => h) (Or.inl ⟨by rfl, ?_⟩) ?_ ?_
               rotate_left
               ·
                intro w'
                go_simp
                with_reducible rfl
               rotate_left
               ·
                simp only [Act.put, sA, sB, sC, i64_w, i32_w]
                rfl
               refine take_ (i := 2) (N := some 74) (v := ?_) (a' := ?_) (bA 49 15) rfl rfl (take_ofW HT_.out HW_.out (by kernel_rfl)) (fun _ _ _ h => h) (Or.inl ⟨by rfl, ?_⟩) hHeld ?_ ?_
               rotate_left
               ·
                rintro w' ⟨s0, s1, s2, s3, s4, s5, s6, s7, s8, s9, s10, s11, s12, s13, s14, s15, s16⟩
                go_simp
                with_reducible rfl
               rotate_left
               ·
                simp only [Act.put, sA, sB, sC, i64_w, i32_w]
                rfl
               refine take_ (i := 4) (N := some 76) (v := ?_) (a' := ?_) (bA 49 31) rfl rfl (take_ofW HT_.out HW_.out (by kernel_rfl)) (fun _ _ _ h => h) (Or.inl ⟨by rfl, ?_⟩) hHeld ?_ ?_
               rotate_left
               ·
                rintro w' ⟨s0, s1, s2, s3, s4, s5, s6, s7, s8, s9, s10, s11, s12, s13, s14, s15, s16⟩
                go_simp
                with_reducible rfl
               rotate_left
               ·
                simp only [Act.put, sA, sB, sC, i64_w, i32_w]
                rfl
               refine pure_ (i := 5) (N := some 77) (v := ?_) (a' := ?_) (bA 49 63) rfl rfl (any_of HT_.out (by kernel_rfl)) (fun _ _ _ h => h) (Or.inl ⟨by rfl, ?_⟩) ?_ ?_
               rotate_left
               ·
                intro w'
                go_simp
                with_reducible rfl
               rotate_left
               ·
                simp only [Act.put, sA, sB, sC, i64_w, i32_w]
                rfl
               refine pure_ (i := 6) (N := some 78) (v := ?_) (a' := ?_) (bA 49 127) rfl rfl (any_of HT_.out (by kernel_rfl)) (fun _ _ _ h => h) (Or.inl ⟨by rfl, ?_⟩) ?_ ?_
               rotate_left
               ·
                intro w'
                go_simp
                with_reducible rfl
               rotate_left
               ·
                simp only [Act.put, sA, sB, sC, i64_w, i32_w]
                rfl
               refine pure_ (i := 7) (N := some 79) (v := ?_) (a' := ?_) (bA 49 255) rfl rfl (any_of HT_.out (by kernel_rfl)) (fun _ _ _ h => h) (Or.inl ⟨by rfl, ?_⟩) ?_ ?_
               rotate_left
               ·
                intro w'
                go_simp
                with_reducible rfl
               rotate_left
               ·
                simp only [Act.put, sA, sB, sC, i64_w, i32_w]
                rfl
               refine pure_ (i := 8) (N := some 80) (v := ?_) (a' := ?_) (bA 49 511) rfl rfl (any_of HT_.out (by kernel_rfl)) (fun _ _ _ h => h) (Or.inl ⟨by rfl, ?_⟩) ?_ ?_
               rotate_left
               ·
                intro w'
                go_simp
                with_reducible rfl
               rotate_left
               ·
                simp only [Act.put, sA, sB, sC, i64_w, i32_w]
                rfl
               refine pure_ (i := 9) (N := some 81) (v := ?_) (a' := ?_) (bA 49 1023) rfl rfl (any_of HT_.out (by kernel_rfl)) (fun _ _ _ h => h) (Or.inl ⟨by rfl, ?_⟩) ?_ ?_
               rotate_left
               ·
                intro w'
                go_simp
                with_reducible rfl
               rotate_left
               ·
                simp only [Act.put, sA, sB, sC, i64_w, i32_w]
                rfl
               refine pure_ (i := 11) (N := some 83) (v := ?_) (a' := ?_) (bA 49 3071) rfl rfl (any_of HT_.out (by kernel_rfl)) (fun _ _ _ h => h) (Or.inl ⟨by rfl, ?_⟩) ?_ ?_
               rotate_left
               ·
                intro w'
                go_simp
                with_reducible rfl
               rotate_left
               ·
                simp only [Act.put, sA, sB, sC, i64_w, i32_w]
                rfl
               refine pure_ (i := 12) (N := some 84) (v := ?_) (a' := ?_) (bA 49 7167) rfl rfl (any_of HT_.out (by kernel_rfl)) (fun _ _ _ h => h) (Or.inl ⟨by rfl, ?_⟩) ?_ ?_
               rotate_left
               ·
                intro w'
                go_simp
                with_reducible rfl
               rotate_left
               ·
                simp only [Act.put, sA, sB, sC, i64_w, i32_w]
                rfl
               refine pure_ (i := 13) (N := some 85) (v := ?_) (a' := ?_) (bA 49 15359) rfl rfl (any_of HT_.out (by kernel_rfl)) (fun _ _ _ h => h) (Or.inl ⟨by rfl, ?_⟩) ?_ ?_
               rotate_left
               ·
                intro w'
                go_simp
                with_reducible rfl
               rotate_left
               ·
                simp only [Act.put, sA, sB, sC, i64_w, i32_w]
                rfl
               refine take_ (i := 10) (N := some 82) (v := ?_) (a' := ?_) (bA 49 16383) rfl rfl (take_ofW HT_.out HW_.out (by kernel_rfl)) (fun _ _ _ h => h) (Or.inl ⟨by rfl, ?_⟩) hHeld ?_ ?_
               rotate_left
               ·
                rintro w' ⟨s0, s1, s2, s3, s4, s5, s6, s7, s8, s9, s10, s11, s12, s13, s14, s15, s16⟩
                go_simp
                with_reducible rfl
               rotate_left
               ·
                simp only [Act.put, sA, sB, sC, i64_w, i32_w]
                rfl
               refine take_ (i := 14) (N := some 86) (v := ?_) (a' := ?_) (bA 49 32767) rfl rfl (take_ofW HT_.out HW_.out (by kernel_rfl)) (fun _ _ _ h => h) (Or.inl ⟨by rfl, ?_⟩) hHeld ?_ ?_
               rotate_left
               ·
                rintro w' ⟨s0, s1, s2, s3, s4, s5, s6, s7, s8, s9, s10, s11, s12, s13, s14, s15, s16⟩
                go_simp
                with_reducible rfl
               rotate_left
               ·
                simp only [Act.put, sA, sB, sC, i64_w, i32_w]
                rfl
               refine pure_ (i := 15) (N := some 87) (v := ?_) (a' := ?_) (bA 49 65535) rfl rfl (any_of HT_.out (by kernel_rfl)) (fun _ _ _ h => h) (Or.inl ⟨by rfl, ?_⟩) ?_ ?_
               rotate_left
               ·
                intro w'
                go_simp
                with_reducible rfl
               rotate_left
               ·
                simp only [Act.put, sA, sB, sC, i64_w, i32_w]
                rfl
               refine pure_ (i := 16) (N := some 88) (v := ?_) (a' := ?_) (bA 49 131071) rfl rfl (any_of HT_.out (by kernel_rfl)) (fun _ _ _ h => h) (Or.inl ⟨by rfl, ?_⟩) ?_ ?_
               rotate_left
               ·
                intro w'
                go_simp
                with_reducible rfl
               rotate_left
               ·
                simp only [Act.put, sA, sB, sC, i64_w, i32_w]
                rfl
               refine pure_ (i := 17) (N := some 89) (v := ?_) (a' := ?_) (bA 49 262143) rfl rfl (any_of HT_.out (by kernel_rfl)) (fun _ _ _ h => h) (Or.inl ⟨by rfl, ?_⟩) ?_ ?_
               rotate_left
               ·
                intro w'
                go_simp
                with_reducible rfl
               rotate_left
               ·
                simp only [Act.put, sA, sB, sC, i64_w, i32_w]
                rfl
               refine pure_ (i := 18) (N := some 90) (v := undef) (a' := ?_) (bA 49 524287) rfl rfl (any_of HT_.out (by kernel_rfl)) (fun _ _ _ h => h) (Or.inr ⟨by rfl, rfl⟩) ?_ ?_
               rotate_left
               ·
                simp only [Act.put, sA, sB, sC, i64_w, i32_w]
                rfl
               refine pure_ (i := 19) (N := some 91) (v := undef) (a' := ?_) (bA 49 1048575) rfl rfl (any_of HT_.out (by kernel_rfl)) (fun _ _ _ h => h) (Or.inr ⟨by rfl, rfl⟩) ?_ ?_
               rotate_left
               ·
                simp only [Act.put, sA, sB, sC, i64_w, i32_w]
                rfl
               refine pure_ (i := 20) (N := some 92) (v := undef) (a' := ?_) (bA 49 2097151) rfl rfl (any_of HT_.out (by kernel_rfl)) (fun _ _ _ h => h) (Or.inr ⟨by rfl, rfl⟩) ?_ ?_
               rotate_left
               ·
                simp only [Act.put, sA, sB, sC, i64_w, i32_w]
                rfl
               refine pure_ (i := 21) (N := some 93) (v := undef) (a' := ?_) (bA 49 4194303) rfl rfl (any_of HT_.out (by kernel_rfl)) (fun _ _ _ h => h) (Or.inr ⟨by rfl, rfl⟩) ?_ ?_
               rotate_left
               ·
                simp only [Act.put, sA, sB, sC, i64_w, i32_w]
                rfl
               refine pure_ (i := 22) (N := some 94) (v := undef) (a' := ?_) (bA 49 8388607) rfl rfl (any_of HT_.out (by kernel_rfl)) (fun _ _ _ h => h) (Or.inr ⟨by rfl, rfl⟩) ?_ ?_
               rotate_left
               ·
                simp only [Act.put, sA, sB, sC, i64_w, i32_w]
                rfl
               refine pure_ (i := 23) (N := some 95) (v := undef) (a' := ?_) (bA 49 16777215) rfl rfl (any_of HT_.out (by kernel_rfl)) (fun _ _ _ h => h) (Or.inr ⟨by rfl, rfl⟩) ?_ ?_
               rotate_left
               ·
                simp only [Act.put, sA, sB, sC, i64_w, i32_w]
                rfl
               refine pure_ (i := 24) (N := some 96) (v := undef) (a' := ?_) (bA 49 33554431) rfl rfl (any_of HT_.out (by kernel_rfl)) (fun _ _ _ h => h) (Or.inr ⟨by rfl, rfl⟩) ?_ ?_
               rotate_left
               ·
                simp only [Act.put, sA, sB, sC, i64_w, i32_w]
                rfl
               refine pure_ (i := 25) (N := some 97) (v := undef) (a' := ?_) (bA 49 67108863) rfl rfl (any_of HT_.out (by kernel_rfl)) (fun _ _ _ h => h) (Or.inr ⟨by rfl, rfl⟩) ?_ ?_
               rotate_left
               ·
                simp only [Act.put, sA, sB, sC, i64_w, i32_w]
                rfl
               refine pure_ (i := 26) (N := some 98) (v := undef) (a' := ?_) (bA 49 134217727) rfl rfl (any_of HT_.out (by kernel_rfl)) (fun _ _ _ h => h) (Or.inr ⟨by rfl, rfl⟩) ?_ ?_
               rotate_left
               ·
                simp only [Act.put, sA, sB, sC, i64_w, i32_w]
                rfl
               refine pure_ (i := 27) (N := some 99) (v := undef) (a' := ?_) (bA 49 268435455) rfl rfl (any_of HT_.out (by kernel_rfl)) (fun _ _ _ h => h) (Or.inr ⟨by rfl, rfl⟩) ?_ ?_
               rotate_left
               ·
                simp only [Act.put, sA, sB, sC, i64_w, i32_w]
                rfl
               refine pure_ (i := 28) (N := some 100) (v := undef) (a' := ?_) (bA 49 536870911) rfl rfl (any_of HT_.out (by kernel_rfl)) (fun _ _ _ h => h) (Or.inr ⟨by rfl, rfl⟩) ?_ ?_
               rotate_left
               ·
                simp only [Act.put, sA, sB, sC, i64_w, i32_w]
                rfl
               refine pure_ (i := 29) (N := some 101) (v := undef) (a' := ?_) (bA 49 1073741823) rfl rfl (any_of HT_.out (by kernel_rfl)) (fun _ _ _ h => h) (Or.inr ⟨by rfl, rfl⟩) ?_ ?_
               rotate_left
               ·
                simp only [Act.put, sA, sB, sC, i64_w, i32_w]
                rfl
               refine pure_ (i := 30) (N := some 102) (v := undef) (a' := ?_) (bA 49 2147483647) rfl rfl (any_of HT_.out (by kernel_rfl)) (fun _ _ _ h => h) (Or.inr ⟨by rfl, rfl⟩) ?_ ?_
               rotate_left
               ·
                simp only [Act.put, sA, sB, sC, i64_w, i32_w]
                rfl
               refine pure_ (i := 31) (N := some 103) (v := undef) (a' := ?_) (bA 49 4294967295) rfl rfl (any_of HT_.out (by kernel_rfl)) (fun _ _ _ h => h) (Or.inr ⟨by rfl, rfl⟩) ?_ ?_
               rotate_left
               ·
                simp only [Act.put, sA, sB, sC, i64_w, i32_w]
                rfl
               refine pure_ (i := 32) (N := some 104) (v := undef) (a' := ?_) (bA 49 8589934591) rfl rfl (any_of HT_.out (by kernel_rfl)) (fun _ _ _ h => h) (Or.inr ⟨by rfl, rfl⟩) ?_ ?_
               rotate_left
               ·
                simp only [Act.put, sA, sB, sC, i64_w, i32_w]
                rfl
               refine pure_ (i := 33) (N := some 105) (v := undef) (a' := ?_) (bA 49 17179869183) rfl rfl (any_of HT_.out (by kernel_rfl)) (fun _ _ _ h => h) (Or.inr ⟨by rfl, rfl⟩) ?_ ?_
               rotate_left
               ·
                simp only [Act.put, sA, sB, sC, i64_w, i32_w]
                rfl
               refine pure_ (i := 34) (N := some 106) (v := undef) (a' := ?_) (bA 49 34359738367) rfl rfl (any_of HT_.out (by kernel_rfl)) (fun _ _ _ h => h) (Or.inr ⟨by rfl, rfl⟩) ?_ ?_
               rotate_left
               ·
                simp only [Act.put, sA, sB, sC, i64_w, i32_w]
                rfl
               refine pure_ (i := 35) (N := some 107) (v := undef) (a' := ?_) (bA 49 68719476735) rfl rfl (any_of HT_.out (by kernel_rfl)) (fun _ _ _ h => h) (Or.inr ⟨by rfl, rfl⟩) ?_ ?_
               rotate_left
               ·
                simp only [Act.put, sA, sB, sC, i64_w, i32_w]
                rfl
               refine pure_ (i := 36) (N := some 108) (v := undef) (a' := ?_) (bA 49 137438953471) rfl rfl (any_of HT_.out (by kernel_rfl)) (fun _ _ _ h => h) (Or.inr ⟨by rfl, rfl⟩) ?_ ?_
               rotate_left
               ·
                simp only [Act.put, sA, sB, sC, i64_w, i32_w]
                rfl
               refine pure_ (i := 37) (N := some 109) (v := undef) (a' := ?_) (bA 49 274877906943) rfl rfl (any_of HT_.out (by kernel_rfl)) (fun _ _ _ h => h) (Or.inr ⟨by rfl, rfl⟩) ?_ ?_
               rotate_left
               ·
                simp only [Act.put, sA, sB, sC, i64_w, i32_w]
                rfl
               refine pure_ (i := 38) (N := some 110) (v := undef) (a' := ?_) (bA 49 549755813887) rfl rfl (any_of HT_.out (by kernel_rfl)) (fun _ _ _ h => h) (Or.inr ⟨by rfl, rfl⟩) ?_ ?_
               rotate_left
               ·
                simp only [Act.put, sA, sB, sC, i64_w, i32_w]
                rfl
               refine pure_ (i := 39) (N := some 111) (v := undef) (a' := ?_) (bA 49 1099511627775) rfl rfl (any_of HT_.out (by kernel_rfl)) (fun _ _ _ h => h) (Or.inr ⟨by rfl, rfl⟩) ?_ ?_
               rotate_left
               ·
                simp only [Act.put, sA, sB, sC, i64_w, i32_w]
                rfl
               refine pure_ (i := 40) (N := some 112) (v := undef) (a' := ?_) (bA 49 2199023255551) rfl rfl (any_of HT_.out (by kernel_rfl)) (fun _ _ _ h => h) (Or.inr ⟨by rfl, rfl⟩) ?_ ?_
               rotate_left
               ·
                simp only [Act.put, sA, sB, sC, i64_w, i32_w]
                rfl
               refine pure_ (i := 41) (N := some 113) (v := undef) (a' := ?_) (bA 49 4398046511103) rfl rfl (any_of HT_.out (by kernel_rfl)) (fun _ _ _ h => h) (Or.inr ⟨by rfl, rfl⟩) ?_ ?_
               rotate_left
               ·
                simp only [Act.put, sA, sB, sC, i64_w, i32_w]
                rfl
               refine pure_ (i := 42) (N := some 114) (v := undef) (a' := ?_) (bA 49 8796093022207) rfl rfl (any_of HT_.out (by kernel_rfl)) (fun _ _ _ h => h) (Or.inr ⟨by rfl, rfl⟩) ?_ ?_
               rotate_left
               ·
                simp only [Act.put, sA, sB, sC, i64_w, i32_w]
                rfl
               refine pure_ (i := 43) (N := some 115) (v := undef) (a' := ?_) (bA 49 17592186044415) rfl rfl (any_of HT_.out (by kernel_rfl)) (fun _ _ _ h => h) (Or.inr ⟨by rfl, rfl⟩) ?_ ?_
               rotate_left
               ·
                simp only [Act.put, sA, sB, sC, i64_w, i32_w]
                rfl
               refine pure_ (i := 44) (N := some 116) (v := undef) (a' := ?_) (bA 49 35184372088831) rfl rfl (any_of HT_.out (by kernel_rfl)) (fun _ _ _ h => h) (Or.inr ⟨by rfl, rfl⟩) ?_ ?_
               rotate_left
               ·
                simp only [Act.put, sA, sB, sC, i64_w, i32_w]
                rfl
               refine pure_ (i := 45) (N := some 117) (v := undef) (a' := ?_) (bA 49 70368744177663) rfl rfl (any_of HT_.out (by kernel_rfl)) (fun _ _ _ h => h) (Or.inr ⟨by rfl, rfl⟩) ?_ ?_
               rotate_left
               ·
                simp only [Act.put, sA, sB, sC, i64_w, i32_w]
                rfl
               refine pure_ (i := 46) (N := some 118) (v := undef) (a' := ?_) (bA 49 140737488355327) rfl rfl (any_of HT_.out (by kernel_rfl)) (fun _ _ _ h => h) (Or.inr ⟨by rfl, rfl⟩) ?_ ?_
               rotate_left
               ·
                simp only [Act.put, sA, sB, sC, i64_w, i32_w]
                rfl
               refine pure_ (i := 47) (N := some 119) (v := undef) (a' := ?_) (bA 49 281474976710655) rfl rfl (any_of HT_.out (by kernel_rfl)) (fun _ _ _ h => h) (Or.inr ⟨by rfl, rfl⟩) ?_ ?_
               rotate_left
               ·
                simp only [Act.put, sA, sB, sC, i64_w, i32_w]
                rfl
               refine pure_ (i := 48) (N := some 120) (v := ?_) (a' := ?_) (bA 49 562949953421311) rfl rfl (any_of HT_.out (by kernel_rfl)) (fun _ _ _ h => h) (Or.inl ⟨by rfl, ?_⟩) ?_ ?_
               rotate_left
               ·
                intro w'
                go_simp
                with_reducible rfl
               rotate_left
               ·
                simp only [Act.put, sA, sB, sC, i64_w, i32_w]
                rfl
               refine done_ (done_of HT_.out (by kernel_rfl)) ?_
               try go_wp2
               go_meet
               case rel => exact ⟨_, (true), (by first | rfl | (simp; done) | (simp [*]; done)), H', ⟨by have := HJ6.out; have := HK2.out; first | omega | exact Nat.le_refl _⟩, ⟨by (with_reducible repeat (first | apply Kd.R_alloc | apply Kd.R_drewN | apply Kd.R_drew)); exact HO_3.out⟩, ⟨by (with_reducible repeat (first | apply Kd.R_alloc | apply Kd.R_drewN | apply Kd.R_drew)); exact HO_5.out⟩, ⟨by (with_reducible repeat (first | apply Kd.V_alloc | apply Kd.V_drewN | apply Kd.V_drew)); exact HO_326003.out⟩, ⟨by (with_reducible repeat (first | apply Kd.V_alloc | apply Kd.V_drewN | apply Kd.V_drew)); exact HO_326004.out⟩, ⟨by (with_reducible repeat (first | refine blk_drewN ?_ _ | refine blk_drew ?_ | refine blk_alloc ?_ _)); exact BK325.out⟩, ⟨by repeat (first | (with_reducible first | exact HB.out | apply below_alloc | apply pw_below_drewN | apply below_drew1 | refine below_set ?_ GE325.out) | exact HB.out)⟩⟩
              ·
               rw [if_neg c54] at H
               have c54b0 : decide ((rd t361 x7_2) < (rd t345 x7_2)) = false := decide_eq_false c54
               clear c54
               have H' := Aside0.mk H
               clear H
               try go_wp2
               have n0_ := Aside0.mk (Kd.R_drew HO_3.out)
               have n1_ := Aside0.mk (Kd.R_drew HO_5.out)
               have n2_ := Aside0.mk (Kd.V_drew HO_326003.out)
               have n3_ := Aside0.mk (Kd.V_drew HO_326004.out)
               have n4_ := Aside0.mk (blk_drew BK325.out)
               have n5_ := Aside0.mk (below_drew1 HB.out)
               clear HO_3
               clear HO_5
               clear HO_326003
               clear HO_326004
               clear BK325
               clear HB
               have HO_3 := n0_
               have HO_5 := n1_
               have HO_326003 := n2_
               have HO_326004 := n3_
               have BK325 := n4_
               have HB := n5_
               clear n0_ n1_ n2_ n3_ n4_ n5_
               have p370 : 0 ≤ (x7_2 : Int) := of_decide_eq_true (by first | (with_reducible assumption) | assumption)
               have q370 : x7_2 < (t361.length : Int) := of_decide_eq_true (by first | (with_reducible assumption) | assumption)
               obtain ⟨ad370, e370, hx370_0⟩ := Kd.at_int (Kd.R_reads' HO_5.out).2.2 x7_2 p370 q370
               cases e370
               replace p370 := eq_true p370
               replace q370 := eq_true q370
               have p371 : 0 ≤ (x7_2 : Int) := of_decide_eq_true (by first | (with_reducible assumption) | assumption)
               have q371 : x7_2 < (t345.length : Int) := of_decide_eq_true (by first | (with_reducible assumption) | assumption)
               obtain ⟨ad371, e371, hx371_0⟩ := Kd.at_int (Kd.R_reads' HO_3.out).2.2 x7_2 p371 q371
               cases e371
               replace p371 := eq_true p371
               replace q371 := eq_true q371
               refine start_ (n := 49) (S := fun w' => w'.cell? ⟨gb325, 0, none⟩ = some (.int .i64 t326) ∧ w'.cell? ⟨gb325, 1, none⟩ = some (.int .i64 t327) ∧ w'.cell? ⟨gb325, 2, none⟩ = some (.int .i64 t328) ∧ w'.cell? ⟨gb325, 3, none⟩ = some (.slice Ao12 t329.length co12) ∧ w'.cell? ⟨gb325, 4, none⟩ = some (.slice Ao13 t332.length co13) ∧ w'.cell? ⟨gb325, 5, none⟩ = some (.int .i64 t335) ∧ w'.cell? ⟨gb325, 6, none⟩ = some (.int .i64 t336) ∧ w'.cell? ⟨gb325, 7, none⟩ = some (.int .i64 t337) ∧ w'.cell? ⟨gb325, 8, none⟩ = some (.int .i64 t338) ∧ w'.cell? ⟨gb325, 9, none⟩ = some (.int .i64 t339) ∧ w'.cell? ⟨gb325, 10, none⟩ = some (.int .i64 t340) ∧ w'.cell? ⟨gb325, 11, none⟩ = some (.int .i64 t341) ∧ w'.cell? ⟨gb325, 12, none⟩ = some (.int .i64 t342) ∧ w'.cell? ⟨gb325, 13, none⟩ = some (.int .i64 t343) ∧ w'.cell? ⟨gb325, 14, none⟩ = some (.int .i64 t344) ∧ w'.cell? (ad370.add (x7_2).toNat) = some (.int .i64 (rd t361 x7_2)) ∧ w'.cell? (ad371.add (x7_2).toNat) = some (.int .i64 (rd t345 x7_2))) (ds := []) (bA 49 0) (by kernel_rfl) rfl rfl ⟨(blk_cell BK325.out 0).trans rfl, (blk_cell BK325.out 1).trans rfl, (blk_cell BK325.out 2).trans rfl, (blk_cell BK325.out 3).trans rfl, (blk_cell BK325.out 4).trans rfl, (blk_cell BK325.out 5).trans rfl, (blk_cell BK325.out 6).trans rfl, (blk_cell BK325.out 7).trans rfl, (blk_cell BK325.out 8).trans rfl, (blk_cell BK325.out 9).trans rfl, (blk_cell BK325.out 10).trans rfl, (blk_cell BK325.out 11).trans rfl, (blk_cell BK325.out 12).trans rfl, (blk_cell BK325.out 13).trans rfl, (blk_cell BK325.out 14).trans rfl, hx370_0, hx371_0⟩ (fun hHeld => ?_); refine with_tabW bivouaclaw21_SightMore.tab11 bivouaclaw21_SightMore.bits11 (fun HT_ HW_ => ?_)
               generalize wr.drew = w56 at HO_3 HO_5 HO_326003 HO_326004 BK325 HB hx370_0 hx371_0 hHeld ⊢
               refine pure_ (i := 0) (N := some 72) (v := ?_) (a' := ?_) (bA 49 1) rfl rfl (any_of HT_.out (by kernel_rfl)) (fun _ _ _ h => h) (Or.inl ⟨by rfl, ?_⟩) ?_ ?_
               rotate_left
               ·
                intro w'
                go_simp
                with_reducible rfl
               rotate_left
               ·
                simp only [Act.put, sA, sB, sC, i64_w, i32_w]
                rfl
               refine pure_ (i := 1) (N := some 73) (v := ?_) (a' := ?_) (bA 49 3) rfl rfl (any_of HT_.out (by kernel_rfl)) (fun _ _ _ h => h) (Or.inl ⟨by rfl, ?_⟩) ?_ ?_
               rotate_left
               ·
                intro w'
                go_simp
                with_reducible rfl
               rotate_left
               ·
                simp only [Act.put, sA, sB, sC, i64_w, i32_w]
                rfl
               refine pure_ (i := 3) (N := some 75) (v := ?_) (a' := ?_) (bA 49 11) rfl rfl (any_of HT_.out (by kernel_rfl)) (fun _ _ _ h => h) (Or.inl ⟨by rfl, ?_⟩) ?_ ?_
               rotate_left
               ·
                intro w'
                go_simp
                with_reducible rfl
               rotate_left
               ·
                simp only [Act.put, sA, sB, sC, i64_w, i32_w]
                rfl
               refine take_ (i := 2) (N := some 74) (v := ?_) (a' := ?_) (bA 49 15) rfl rfl (take_ofW HT_.out HW_.out (by kernel_rfl)) (fun _ _ _ h => h) (Or.inl ⟨by rfl, ?_⟩) hHeld ?_ ?_
               rotate_left
               ·
                rintro w' ⟨s0, s1, s2, s3, s4, s5, s6, s7, s8, s9, s10, s11, s12, s13, s14, s15, s16⟩
                go_simp
                with_reducible rfl
               rotate_left
               ·
                simp only [Act.put, sA, sB, sC, i64_w, i32_w]
                rfl
               refine take_ (i := 4) (N := some 76) (v := ?_) (a' := ?_) (bA 49 31) rfl rfl (take_ofW HT_.out HW_.out (by kernel_rfl)) (fun _ _ _ h => h) (Or.inl ⟨by rfl, ?_⟩) hHeld ?_ ?_
               rotate_left
               ·
                rintro w' ⟨s0, s1, s2, s3, s4, s5, s6, s7, s8, s9, s10, s11, s12, s13, s14, s15, s16⟩
                go_simp
                with_reducible rfl
               rotate_left
               ·
                simp only [Act.put, sA, sB, sC, i64_w, i32_w]
                rfl
               refine pure_ (i := 5) (N := some 77) (v := ?_) (a' := ?_) (bA 49 63) rfl rfl (any_of HT_.out (by kernel_rfl)) (fun _ _ _ h => h) (Or.inl ⟨by rfl, ?_⟩) ?_ ?_
               rotate_left
               ·
                intro w'
                go_simp
                with_reducible rfl
               rotate_left
               ·
                simp only [Act.put, sA, sB, sC, i64_w, i32_w]
                rfl
               refine pure_ (i := 6) (N := some 78) (v := ?_) (a' := ?_) (bA 49 127) rfl rfl (any_of HT_.out (by kernel_rfl)) (fun _ _ _ h => h) (Or.inl ⟨by rfl, ?_⟩) ?_ ?_
               rotate_left
               ·
                intro w'
                go_simp
                with_reducible rfl
               rotate_left
               ·
                simp only [Act.put, sA, sB, sC, i64_w, i32_w]
                rfl
               refine pure_ (i := 7) (N := some 79) (v := ?_) (a' := ?_) (bA 49 255) rfl rfl (any_of HT_.out (by kernel_rfl)) (fun _ _ _ h => h) (Or.inl ⟨by rfl, ?_⟩) ?_ ?_
               rotate_left
               ·
                intro w'
                go_simp
                with_reducible rfl
               rotate_left
               ·
                simp only [Act.put, sA, sB, sC, i64_w, i32_w]
                rfl
               refine pure_ (i := 8) (N := some 80) (v := ?_) (a' := ?_) (bA 49 511) rfl rfl (any_of HT_.out (by kernel_rfl)) (fun _ _ _ h => h) (Or.inl ⟨by rfl, ?_⟩) ?_ ?_
               rotate_left
               ·
                intro w'
                go_simp
                with_reducible rfl
               rotate_left
               ·
                simp only [Act.put, sA, sB, sC, i64_w, i32_w]
                rfl
               refine pure_ (i := 9) (N := some 81) (v := ?_) (a' := ?_) (bA 49 1023) rfl rfl (any_of HT_.out (by kernel_rfl)) (fun _ _ _ h => h) (Or.inl ⟨by rfl, ?_⟩) ?_ ?_
               rotate_left
               ·
                intro w'
                go_simp
                with_reducible rfl
               rotate_left
               ·
                simp only [Act.put, sA, sB, sC, i64_w, i32_w]
                rfl
               refine pure_ (i := 11) (N := some 83) (v := ?_) (a' := ?_) (bA 49 3071) rfl rfl (any_of HT_.out (by kernel_rfl)) (fun _ _ _ h => h) (Or.inl ⟨by rfl, ?_⟩) ?_ ?_
               rotate_left
               ·
                intro w'
                go_simp
                with_reducible rfl
               rotate_left
               ·
                simp only [Act.put, sA, sB, sC, i64_w, i32_w]
                rfl
               refine pure_ (i := 12) (N := some 84) (v := ?_) (a' := ?_) (bA 49 7167) rfl rfl (any_of HT_.out (by kernel_rfl)) (fun _ _ _ h => h) (Or.inl ⟨by rfl, ?_⟩) ?_ ?_
               rotate_left
               ·
                intro w'
                go_simp
                with_reducible rfl
               rotate_left
               ·
                simp only [Act.put, sA, sB, sC, i64_w, i32_w]
                rfl
               refine pure_ (i := 13) (N := some 85) (v := ?_) (a' := ?_) (bA 49 15359) rfl rfl (any_of HT_.out (by kernel_rfl)) (fun _ _ _ h => h) (Or.inl ⟨by rfl, ?_⟩) ?_ ?_
               rotate_left
               ·
                intro w'
                go_simp
                with_reducible rfl
               rotate_left
               ·
                simp only [Act.put, sA, sB, sC, i64_w, i32_w]
                rfl
               refine take_ (i := 10) (N := some 82) (v := ?_) (a' := ?_) (bA 49 16383) rfl rfl (take_ofW HT_.out HW_.out (by kernel_rfl)) (fun _ _ _ h => h) (Or.inl ⟨by rfl, ?_⟩) hHeld ?_ ?_
               rotate_left
               ·
                rintro w' ⟨s0, s1, s2, s3, s4, s5, s6, s7, s8, s9, s10, s11, s12, s13, s14, s15, s16⟩
                go_simp
                with_reducible rfl
               rotate_left
               ·
                simp only [Act.put, sA, sB, sC, i64_w, i32_w]
                rfl
               refine take_ (i := 14) (N := some 86) (v := ?_) (a' := ?_) (bA 49 32767) rfl rfl (take_ofW HT_.out HW_.out (by kernel_rfl)) (fun _ _ _ h => h) (Or.inl ⟨by rfl, ?_⟩) hHeld ?_ ?_
               rotate_left
               ·
                rintro w' ⟨s0, s1, s2, s3, s4, s5, s6, s7, s8, s9, s10, s11, s12, s13, s14, s15, s16⟩
                go_simp
                with_reducible rfl
               rotate_left
               ·
                simp only [Act.put, sA, sB, sC, i64_w, i32_w]
                rfl
               refine pure_ (i := 15) (N := some 87) (v := ?_) (a' := ?_) (bA 49 65535) rfl rfl (any_of HT_.out (by kernel_rfl)) (fun _ _ _ h => h) (Or.inl ⟨by rfl, ?_⟩) ?_ ?_
               rotate_left
               ·
                intro w'
                go_simp
                with_reducible rfl
               rotate_left
               ·
                simp only [Act.put, sA, sB, sC, i64_w, i32_w]
                rfl
               refine pure_ (i := 16) (N := some 88) (v := ?_) (a' := ?_) (bA 49 131071) rfl rfl (any_of HT_.out (by kernel_rfl)) (fun _ _ _ h => h) (Or.inl ⟨by rfl, ?_⟩) ?_ ?_
               rotate_left
               ·
                intro w'
                go_simp
                with_reducible rfl
               rotate_left
               ·
                simp only [Act.put, sA, sB, sC, i64_w, i32_w]
                rfl
               refine pure_ (i := 17) (N := some 89) (v := ?_) (a' := ?_) (bA 49 262143) rfl rfl (any_of HT_.out (by kernel_rfl)) (fun _ _ _ h => h) (Or.inl ⟨by rfl, ?_⟩) ?_ ?_
               rotate_left
               ·
                intro w'
                go_simp
                with_reducible rfl
               rotate_left
               ·
                simp only [Act.put, sA, sB, sC, i64_w, i32_w]
                rfl
               refine pure_ (i := 18) (N := some 90) (v := ?_) (a' := ?_) (bA 49 524287) rfl rfl (any_of HT_.out (by kernel_rfl)) (fun _ _ _ h => h) (Or.inl ⟨by rfl, ?_⟩) ?_ ?_
               rotate_left
               ·
                intro w'
                go_simp
                with_reducible rfl
               rotate_left
               ·
                simp only [Act.put, sA, sB, sC, i64_w, i32_w]
                rfl
               refine pure_ (i := 19) (N := some 91) (v := ?_) (a' := ?_) (bA 49 1048575) rfl rfl (any_of HT_.out (by kernel_rfl)) (fun _ _ _ h => h) (Or.inl ⟨by rfl, ?_⟩) ?_ ?_
               rotate_left
               ·
                intro w'
                go_simp
                with_reducible rfl
               rotate_left
               ·
                simp only [Act.put, sA, sB, sC, i64_w, i32_w]
                rfl
               refine pure_ (i := 21) (N := some 93) (v := ?_) (a' := ?_) (bA 49 3145727) rfl rfl (any_of HT_.out (by kernel_rfl)) (fun _ _ _ h => h) (Or.inl ⟨by rfl, ?_⟩) ?_ ?_
               rotate_left
               ·
                intro w'
                go_simp
                with_reducible rfl
               rotate_left
               ·
                simp only [Act.put, sA, sB, sC, i64_w, i32_w]
                rfl
               refine take_ (i := 20) (N := some 92) (v := ?_) (a' := ?_) (bA 49 4194303) rfl rfl (take_ofW HT_.out HW_.out (by kernel_rfl)) (fun _ _ _ h => h) (Or.inl ⟨by rfl, ?_⟩) hHeld ?_ ?_
               rotate_left
               ·
                rintro w' ⟨s0, s1, s2, s3, s4, s5, s6, s7, s8, s9, s10, s11, s12, s13, s14, s15, s16⟩
                go_simp
                with_reducible rfl
               rotate_left
               ·
                simp only [Act.put, sA, sB, sC, i64_w, i32_w]
                rfl
               refine take_ (i := 22) (N := some 94) (v := ?_) (a' := ?_) (bA 49 8388607) rfl rfl (take_ofW HT_.out HW_.out (by kernel_rfl)) (fun _ _ _ h => h) (Or.inl ⟨by rfl, ?_⟩) hHeld ?_ ?_
               rotate_left
               ·
                rintro w' ⟨s0, s1, s2, s3, s4, s5, s6, s7, s8, s9, s10, s11, s12, s13, s14, s15, s16⟩
                go_simp
                with_reducible rfl
               rotate_left
               ·
                simp only [Act.put, sA, sB, sC, i64_w, i32_w]
                rfl
               refine pure_ (i := 23) (N := some 95) (v := ?_) (a' := ?_) (bA 49 16777215) rfl rfl (any_of HT_.out (by kernel_rfl)) (fun _ _ _ h => h) (Or.inl ⟨by rfl, ?_⟩) ?_ ?_
               rotate_left
               ·
                intro w'
                go_simp
                with_reducible rfl
               rotate_left
               ·
                simp only [Act.put, sA, sB, sC, i64_w, i32_w]
                rfl
               refine pure_ (i := 24) (N := some 96) (v := ?_) (a' := ?_) (bA 49 33554431) rfl rfl (any_of HT_.out (by kernel_rfl)) (fun _ _ _ h => h) (Or.inl ⟨by rfl, ?_⟩) ?_ ?_
               rotate_left
               ·
                intro w'
                go_simp
                with_reducible rfl
               rotate_left
               ·
                simp only [Act.put, sA, sB, sC, i64_w, i32_w]
                rfl
               refine pure_ (i := 25) (N := some 97) (v := undef) (a' := ?_) (bA 49 67108863) rfl rfl (any_of HT_.out (by kernel_rfl)) (fun _ _ _ h => h) (Or.inr ⟨by rfl, rfl⟩) ?_ ?_
               rotate_left
               ·
                simp only [Act.put, sA, sB, sC, i64_w, i32_w]
                rfl
               refine pure_ (i := 26) (N := some 98) (v := undef) (a' := ?_) (bA 49 134217727) rfl rfl (any_of HT_.out (by kernel_rfl)) (fun _ _ _ h => h) (Or.inr ⟨by rfl, rfl⟩) ?_ ?_
               rotate_left
               ·
                simp only [Act.put, sA, sB, sC, i64_w, i32_w]
                rfl
               refine pure_ (i := 27) (N := some 99) (v := undef) (a' := ?_) (bA 49 268435455) rfl rfl (any_of HT_.out (by kernel_rfl)) (fun _ _ _ h => h) (Or.inr ⟨by rfl, rfl⟩) ?_ ?_
               rotate_left
               ·
                simp only [Act.put, sA, sB, sC, i64_w, i32_w]
                rfl
               refine pure_ (i := 28) (N := some 100) (v := undef) (a' := ?_) (bA 49 536870911) rfl rfl (any_of HT_.out (by kernel_rfl)) (fun _ _ _ h => h) (Or.inr ⟨by rfl, rfl⟩) ?_ ?_
               rotate_left
               ·
                simp only [Act.put, sA, sB, sC, i64_w, i32_w]
                rfl
               refine pure_ (i := 29) (N := some 101) (v := undef) (a' := ?_) (bA 49 1073741823) rfl rfl (any_of HT_.out (by kernel_rfl)) (fun _ _ _ h => h) (Or.inr ⟨by rfl, rfl⟩) ?_ ?_
               rotate_left
               ·
                simp only [Act.put, sA, sB, sC, i64_w, i32_w]
                rfl
               refine pure_ (i := 30) (N := some 102) (v := undef) (a' := ?_) (bA 49 2147483647) rfl rfl (any_of HT_.out (by kernel_rfl)) (fun _ _ _ h => h) (Or.inr ⟨by rfl, rfl⟩) ?_ ?_
               rotate_left
               ·
                simp only [Act.put, sA, sB, sC, i64_w, i32_w]
                rfl
               refine pure_ (i := 31) (N := some 103) (v := undef) (a' := ?_) (bA 49 4294967295) rfl rfl (any_of HT_.out (by kernel_rfl)) (fun _ _ _ h => h) (Or.inr ⟨by rfl, rfl⟩) ?_ ?_
               rotate_left
               ·
                simp only [Act.put, sA, sB, sC, i64_w, i32_w]
                rfl
               refine pure_ (i := 32) (N := some 104) (v := undef) (a' := ?_) (bA 49 8589934591) rfl rfl (any_of HT_.out (by kernel_rfl)) (fun _ _ _ h => h) (Or.inr ⟨by rfl, rfl⟩) ?_ ?_
               rotate_left
               ·
                simp only [Act.put, sA, sB, sC, i64_w, i32_w]
                rfl
               refine pure_ (i := 33) (N := some 105) (v := undef) (a' := ?_) (bA 49 17179869183) rfl rfl (any_of HT_.out (by kernel_rfl)) (fun _ _ _ h => h) (Or.inr ⟨by rfl, rfl⟩) ?_ ?_
               rotate_left
               ·
                simp only [Act.put, sA, sB, sC, i64_w, i32_w]
                rfl
               refine pure_ (i := 34) (N := some 106) (v := undef) (a' := ?_) (bA 49 34359738367) rfl rfl (any_of HT_.out (by kernel_rfl)) (fun _ _ _ h => h) (Or.inr ⟨by rfl, rfl⟩) ?_ ?_
               rotate_left
               ·
                simp only [Act.put, sA, sB, sC, i64_w, i32_w]
                rfl
               refine pure_ (i := 35) (N := some 107) (v := undef) (a' := ?_) (bA 49 68719476735) rfl rfl (any_of HT_.out (by kernel_rfl)) (fun _ _ _ h => h) (Or.inr ⟨by rfl, rfl⟩) ?_ ?_
               rotate_left
               ·
                simp only [Act.put, sA, sB, sC, i64_w, i32_w]
                rfl
               refine pure_ (i := 36) (N := some 108) (v := undef) (a' := ?_) (bA 49 137438953471) rfl rfl (any_of HT_.out (by kernel_rfl)) (fun _ _ _ h => h) (Or.inr ⟨by rfl, rfl⟩) ?_ ?_
               rotate_left
               ·
                simp only [Act.put, sA, sB, sC, i64_w, i32_w]
                rfl
               refine pure_ (i := 37) (N := some 109) (v := undef) (a' := ?_) (bA 49 274877906943) rfl rfl (any_of HT_.out (by kernel_rfl)) (fun _ _ _ h => h) (Or.inr ⟨by rfl, rfl⟩) ?_ ?_
               rotate_left
               ·
                simp only [Act.put, sA, sB, sC, i64_w, i32_w]
                rfl
               refine pure_ (i := 38) (N := some 110) (v := undef) (a' := ?_) (bA 49 549755813887) rfl rfl (any_of HT_.out (by kernel_rfl)) (fun _ _ _ h => h) (Or.inr ⟨by rfl, rfl⟩) ?_ ?_
               rotate_left
               ·
                simp only [Act.put, sA, sB, sC, i64_w, i32_w]
                rfl
               refine pure_ (i := 39) (N := some 111) (v := undef) (a' := ?_) (bA 49 1099511627775) rfl rfl (any_of HT_.out (by kernel_rfl)) (fun _ _ _ h => h) (Or.inr ⟨by rfl, rfl⟩) ?_ ?_
               rotate_left
               ·
                simp only [Act.put, sA, sB, sC, i64_w, i32_w]
                rfl
               refine pure_ (i := 40) (N := some 112) (v := undef) (a' := ?_) (bA 49 2199023255551) rfl rfl (any_of HT_.out (by kernel_rfl)) (fun _ _ _ h => h) (Or.inr ⟨by rfl, rfl⟩) ?_ ?_
               rotate_left
               ·
                simp only [Act.put, sA, sB, sC, i64_w, i32_w]
                rfl
               refine pure_ (i := 41) (N := some 113) (v := undef) (a' := ?_) (bA 49 4398046511103) rfl rfl (any_of HT_.out (by kernel_rfl)) (fun _ _ _ h => h) (Or.inr ⟨by rfl, rfl⟩) ?_ ?_
               rotate_left
               ·
                simp only [Act.put, sA, sB, sC, i64_w, i32_w]
                rfl
               refine pure_ (i := 42) (N := some 114) (v := undef) (a' := ?_) (bA 49 8796093022207) rfl rfl (any_of HT_.out (by kernel_rfl)) (fun _ _ _ h => h) (Or.inr ⟨by rfl, rfl⟩) ?_ ?_
               rotate_left
               ·
                simp only [Act.put, sA, sB, sC, i64_w, i32_w]
                rfl
               refine pure_ (i := 43) (N := some 115) (v := undef) (a' := ?_) (bA 49 17592186044415) rfl rfl (any_of HT_.out (by kernel_rfl)) (fun _ _ _ h => h) (Or.inr ⟨by rfl, rfl⟩) ?_ ?_
               rotate_left
               ·
                simp only [Act.put, sA, sB, sC, i64_w, i32_w]
                rfl
               refine pure_ (i := 44) (N := some 116) (v := undef) (a' := ?_) (bA 49 35184372088831) rfl rfl (any_of HT_.out (by kernel_rfl)) (fun _ _ _ h => h) (Or.inr ⟨by rfl, rfl⟩) ?_ ?_
               rotate_left
               ·
                simp only [Act.put, sA, sB, sC, i64_w, i32_w]
                rfl
               refine pure_ (i := 45) (N := some 117) (v := undef) (a' := ?_) (bA 49 70368744177663) rfl rfl (any_of HT_.out (by kernel_rfl)) (fun _ _ _ h => h) (Or.inr ⟨by rfl, rfl⟩) ?_ ?_
               rotate_left
               ·
                simp only [Act.put, sA, sB, sC, i64_w, i32_w]
                rfl
               refine pure_ (i := 46) (N := some 118) (v := undef) (a' := ?_) (bA 49 140737488355327) rfl rfl (any_of HT_.out (by kernel_rfl)) (fun _ _ _ h => h) (Or.inr ⟨by rfl, rfl⟩) ?_ ?_
               rotate_left
               ·
                simp only [Act.put, sA, sB, sC, i64_w, i32_w]
                rfl
               refine pure_ (i := 47) (N := some 119) (v := ?_) (a' := ?_) (bA 49 281474976710655) rfl rfl (any_of HT_.out (by kernel_rfl)) (fun _ _ _ h => h) (Or.inl ⟨by rfl, ?_⟩) ?_ ?_
               rotate_left
               ·
                intro w'
                go_simp
                with_reducible rfl
               rotate_left
               ·
                simp only [Act.put, sA, sB, sC, i64_w, i32_w]
                rfl
               refine pure_ (i := 48) (N := some 120) (v := ?_) (a' := ?_) (bA 49 562949953421311) rfl rfl (any_of HT_.out (by kernel_rfl)) (fun _ _ _ h => h) (Or.inl ⟨by rfl, ?_⟩) ?_ ?_
               rotate_left
               ·
                intro w'
                go_simp
                with_reducible rfl
               rotate_left
               ·
                simp only [Act.put, sA, sB, sC, i64_w, i32_w]
                rfl
               refine done_ (done_of HT_.out (by kernel_rfl)) ?_
               try go_wp2
               go_meet
               case rel => exact ⟨_, (false), (by first | rfl | (simp; done) | (simp [*]; done)), H', ⟨by have := HJ6.out; have := HK2.out; first | omega | exact Nat.le_refl _⟩, ⟨by (with_reducible repeat (first | apply Kd.R_alloc | apply Kd.R_drewN | apply Kd.R_drew)); exact HO_3.out⟩, ⟨by (with_reducible repeat (first | apply Kd.R_alloc | apply Kd.R_drewN | apply Kd.R_drew)); exact HO_5.out⟩, ⟨by (with_reducible repeat (first | apply Kd.V_alloc | apply Kd.V_drewN | apply Kd.V_drew)); exact HO_326003.out⟩, ⟨by (with_reducible repeat (first | apply Kd.V_alloc | apply Kd.V_drewN | apply Kd.V_drew)); exact HO_326004.out⟩, ⟨by (with_reducible repeat (first | refine blk_drewN ?_ _ | refine blk_drew ?_ | refine blk_alloc ?_ _)); exact BK325.out⟩, ⟨by repeat (first | (with_reducible first | exact HB.out | apply below_alloc | apply pw_below_drewN | apply below_drew1 | refine below_set ?_ GE325.out) | exact HB.out)⟩⟩
             ·
              rw [if_neg c53] at H
              exact absurd H (by simp)
            ·
             rw [if_neg c52] at H
             exact absurd H (by simp)
           ·
            rw [if_neg c51] at H
            have c51b0 : (t337 == t335) = false := beq_eq_false_iff_ne.mpr c51
            have c51b1 : (t337 != t335) = true := bne_iff_ne.mpr c51
            (first | rw [c51b0] | (simp only [i64_w, i32_w]; rw [c51b0]) | skip)
            by_cases c57 : 0 ≤ x7_2
            ·
             rw [if_pos c57] at H
             have c57b0 : decide (0 ≤ x7_2) = true := decide_eq_true c57
             clear c57
             by_cases c58 : x7_2 < (t361.length : Int)
             ·
              rw [if_pos c58] at H
              have c58b0 : decide (x7_2 < (t361.length : Int)) = true := decide_eq_true c58
              clear c58
              by_cases c59 : (rd t361 x7_2) > (rd t345 x7_2)
              ·
               rw [if_pos c59] at H
               have c59b0 : decide ((rd t345 x7_2) < (rd t361 x7_2)) = true := decide_eq_true c59
               clear c59
               have H' := Aside0.mk H
               clear H
               try go_wp2
               have n0_ := Aside0.mk (Kd.R_drew HO_3.out)
               have n1_ := Aside0.mk (Kd.R_drew HO_5.out)
               have n2_ := Aside0.mk (Kd.V_drew HO_326003.out)
               have n3_ := Aside0.mk (Kd.V_drew HO_326004.out)
               have n4_ := Aside0.mk (blk_drew BK325.out)
               have n5_ := Aside0.mk (below_drew1 HB.out)
               clear HO_3
               clear HO_5
               clear HO_326003
               clear HO_326004
               clear BK325
               clear HB
               have HO_3 := n0_
               have HO_5 := n1_
               have HO_326003 := n2_
               have HO_326004 := n3_
               have BK325 := n4_
               have HB := n5_
               clear n0_ n1_ n2_ n3_ n4_ n5_
               have p372 : 0 ≤ (x7_2 : Int) := of_decide_eq_true (by first | (with_reducible assumption) | assumption)
               have q372 : x7_2 < (t361.length : Int) := of_decide_eq_true (by first | (with_reducible assumption) | assumption)
               obtain ⟨ad372, e372, hx372_0⟩ := Kd.at_int (Kd.R_reads' HO_5.out).2.2 x7_2 p372 q372
               cases e372
               replace p372 := eq_true p372
               replace q372 := eq_true q372
               have p373 : 0 ≤ (x7_2 : Int) := of_decide_eq_true (by first | (with_reducible assumption) | assumption)
               have q373 : x7_2 < (t345.length : Int) := of_decide_eq_true (by first | (with_reducible assumption) | assumption)
               obtain ⟨ad373, e373, hx373_0⟩ := Kd.at_int (Kd.R_reads' HO_3.out).2.2 x7_2 p373 q373
               cases e373
               replace p373 := eq_true p373
               replace q373 := eq_true q373
               refine start_ (n := 49) (S := fun w' => w'.cell? ⟨gb325, 0, none⟩ = some (.int .i64 t326) ∧ w'.cell? ⟨gb325, 1, none⟩ = some (.int .i64 t327) ∧ w'.cell? ⟨gb325, 2, none⟩ = some (.int .i64 t328) ∧ w'.cell? ⟨gb325, 3, none⟩ = some (.slice Ao12 t329.length co12) ∧ w'.cell? ⟨gb325, 4, none⟩ = some (.slice Ao13 t332.length co13) ∧ w'.cell? ⟨gb325, 5, none⟩ = some (.int .i64 t335) ∧ w'.cell? ⟨gb325, 6, none⟩ = some (.int .i64 t336) ∧ w'.cell? ⟨gb325, 7, none⟩ = some (.int .i64 t337) ∧ w'.cell? ⟨gb325, 8, none⟩ = some (.int .i64 t338) ∧ w'.cell? ⟨gb325, 9, none⟩ = some (.int .i64 t339) ∧ w'.cell? ⟨gb325, 10, none⟩ = some (.int .i64 t340) ∧ w'.cell? ⟨gb325, 11, none⟩ = some (.int .i64 t341) ∧ w'.cell? ⟨gb325, 12, none⟩ = some (.int .i64 t342) ∧ w'.cell? ⟨gb325, 13, none⟩ = some (.int .i64 t343) ∧ w'.cell? ⟨gb325, 14, none⟩ = some (.int .i64 t344) ∧ w'.cell? (ad372.add (x7_2).toNat) = some (.int .i64 (rd t361 x7_2)) ∧ w'.cell? (ad373.add (x7_2).toNat) = some (.int .i64 (rd t345 x7_2))) (ds := []) (bA 49 0) (by kernel_rfl) rfl rfl ⟨(blk_cell BK325.out 0).trans rfl, (blk_cell BK325.out 1).trans rfl, (blk_cell BK325.out 2).trans rfl, (blk_cell BK325.out 3).trans rfl, (blk_cell BK325.out 4).trans rfl, (blk_cell BK325.out 5).trans rfl, (blk_cell BK325.out 6).trans rfl, (blk_cell BK325.out 7).trans rfl, (blk_cell BK325.out 8).trans rfl, (blk_cell BK325.out 9).trans rfl, (blk_cell BK325.out 10).trans rfl, (blk_cell BK325.out 11).trans rfl, (blk_cell BK325.out 12).trans rfl, (blk_cell BK325.out 13).trans rfl, (blk_cell BK325.out 14).trans rfl, hx372_0, hx373_0⟩ (fun hHeld => ?_); refine with_tabW bivouaclaw21_SightMore.tab11 bivouaclaw21_SightMore.bits11 (fun HT_ HW_ => ?_)
               generalize wr.drew = w60 at HO_3 HO_5 HO_326003 HO_326004 BK325 HB hx372_0 hx373_0 hHeld ⊢
               refine pure_ (i := 0) (N := some 72) (v := ?_) (a' := ?_) (bA 49 1) rfl rfl (any_of HT_.out (by kernel_rfl)) (fun _ _ _ h => h) (Or.inl ⟨by rfl, ?_⟩) ?_ ?_
               rotate_left
               ·
                intro w'
                go_simp
                with_reducible rfl
               rotate_left
               ·
                simp only [Act.put, sA, sB, sC, i64_w, i32_w]
                rfl
               refine pure_ (i := 1) (N := some 73) (v := ?_) (a' := ?_) (bA 49 3) rfl rfl (any_of HT_.out (by kernel_rfl)) (fun _ _ _ h => h) (Or.inl ⟨by rfl, ?_⟩) ?_ ?_
               rotate_left
               ·
                intro w'
                go_simp
                with_reducible rfl
               rotate_left
               ·
                simp only [Act.put, sA, sB, sC, i64_w, i32_w]
                rfl
               refine pure_ (i := 3) (N := some 75) (v := ?_) (a' := ?_) (bA 49 11) rfl rfl (any_of HT_.out (by kernel_rfl)) (fun _ _ _ h => h) (Or.inl ⟨by rfl, ?_⟩) ?_ ?_
               rotate_left
               ·
                intro w'
                go_simp
                with_reducible rfl
               rotate_left
               ·
                simp only [Act.put, sA, sB, sC, i64_w, i32_w]
                rfl
               refine take_ (i := 2) (N := some 74) (v := ?_) (a' := ?_) (bA 49 15) rfl rfl (take_ofW HT_.out HW_.out (by kernel_rfl)) (fun _ _ _ h => h) (Or.inl ⟨by rfl, ?_⟩) hHeld ?_ ?_
               rotate_left
               ·
                rintro w' ⟨s0, s1, s2, s3, s4, s5, s6, s7, s8, s9, s10, s11, s12, s13, s14, s15, s16⟩
                go_simp
                with_reducible rfl
               rotate_left
               ·
                simp only [Act.put, sA, sB, sC, i64_w, i32_w]
                rfl
               refine take_ (i := 4) (N := some 76) (v := ?_) (a' := ?_) (bA 49 31) rfl rfl (take_ofW HT_.out HW_.out (by kernel_rfl)) (fun _ _ _ h => h) (Or.inl ⟨by rfl, ?_⟩) hHeld ?_ ?_
               rotate_left
               ·
                rintro w' ⟨s0, s1, s2, s3, s4, s5, s6, s7, s8, s9, s10, s11, s12, s13, s14, s15, s16⟩
                go_simp
                with_reducible rfl
               rotate_left
               ·
                simp only [Act.put, sA, sB, sC, i64_w, i32_w]
                rfl
               refine pure_ (i := 5) (N := some 77) (v := ?_) (a' := ?_) (bA 49 63) rfl rfl (any_of HT_.out (by kernel_rfl)) (fun _ _ _ h => h) (Or.inl ⟨by rfl, ?_⟩) ?_ ?_
               rotate_left
               ·
                intro w'
                go_simp
                with_reducible rfl
               rotate_left
               ·
                simp only [Act.put, sA, sB, sC, i64_w, i32_w]
                rfl
               refine pure_ (i := 6) (N := some 78) (v := ?_) (a' := ?_) (bA 49 127) rfl rfl (any_of HT_.out (by kernel_rfl)) (fun _ _ _ h => h) (Or.inl ⟨by rfl, ?_⟩) ?_ ?_
               rotate_left
               ·
                intro w'
                go_simp
                with_reducible rfl
               rotate_left
               ·
                simp only [Act.put, sA, sB, sC, i64_w, i32_w]
                rfl
               refine pure_ (i := 7) (N := some 79) (v := undef) (a' := ?_) (bA 49 255) rfl rfl (any_of HT_.out (by kernel_rfl)) (fun _ _ _ h => h) (Or.inr ⟨by rfl, rfl⟩) ?_ ?_
               rotate_left
               ·
                simp only [Act.put, sA, sB, sC, i64_w, i32_w]
                rfl
               refine pure_ (i := 8) (N := some 80) (v := undef) (a' := ?_) (bA 49 511) rfl rfl (any_of HT_.out (by kernel_rfl)) (fun _ _ _ h => h) (Or.inr ⟨by rfl, rfl⟩) ?_ ?_
               rotate_left
               ·
                simp only [Act.put, sA, sB, sC, i64_w, i32_w]
                rfl
               refine pure_ (i := 9) (N := some 81) (v := undef) (a' := ?_) (bA 49 1023) rfl rfl (any_of HT_.out (by kernel_rfl)) (fun _ _ _ h => h) (Or.inr ⟨by rfl, rfl⟩) ?_ ?_
               rotate_left
               ·
                simp only [Act.put, sA, sB, sC, i64_w, i32_w]
                rfl
               refine pure_ (i := 10) (N := some 82) (v := undef) (a' := ?_) (bA 49 2047) rfl rfl (any_of HT_.out (by kernel_rfl)) (fun _ _ _ h => h) (Or.inr ⟨by rfl, rfl⟩) ?_ ?_
               rotate_left
               ·
                simp only [Act.put, sA, sB, sC, i64_w, i32_w]
                rfl
               refine pure_ (i := 11) (N := some 83) (v := undef) (a' := ?_) (bA 49 4095) rfl rfl (any_of HT_.out (by kernel_rfl)) (fun _ _ _ h => h) (Or.inr ⟨by rfl, rfl⟩) ?_ ?_
               rotate_left
               ·
                simp only [Act.put, sA, sB, sC, i64_w, i32_w]
                rfl
               refine pure_ (i := 12) (N := some 84) (v := undef) (a' := ?_) (bA 49 8191) rfl rfl (any_of HT_.out (by kernel_rfl)) (fun _ _ _ h => h) (Or.inr ⟨by rfl, rfl⟩) ?_ ?_
               rotate_left
               ·
                simp only [Act.put, sA, sB, sC, i64_w, i32_w]
                rfl
               refine pure_ (i := 13) (N := some 85) (v := undef) (a' := ?_) (bA 49 16383) rfl rfl (any_of HT_.out (by kernel_rfl)) (fun _ _ _ h => h) (Or.inr ⟨by rfl, rfl⟩) ?_ ?_
               rotate_left
               ·
                simp only [Act.put, sA, sB, sC, i64_w, i32_w]
                rfl
               refine pure_ (i := 14) (N := some 86) (v := undef) (a' := ?_) (bA 49 32767) rfl rfl (any_of HT_.out (by kernel_rfl)) (fun _ _ _ h => h) (Or.inr ⟨by rfl, rfl⟩) ?_ ?_
               rotate_left
               ·
                simp only [Act.put, sA, sB, sC, i64_w, i32_w]
                rfl
               refine pure_ (i := 15) (N := some 87) (v := undef) (a' := ?_) (bA 49 65535) rfl rfl (any_of HT_.out (by kernel_rfl)) (fun _ _ _ h => h) (Or.inr ⟨by rfl, rfl⟩) ?_ ?_
               rotate_left
               ·
                simp only [Act.put, sA, sB, sC, i64_w, i32_w]
                rfl
               refine pure_ (i := 16) (N := some 88) (v := ?_) (a' := ?_) (bA 49 131071) rfl rfl (any_of HT_.out (by kernel_rfl)) (fun _ _ _ h => h) (Or.inl ⟨by rfl, ?_⟩) ?_ ?_
               rotate_left
               ·
                intro w'
                go_simp
                with_reducible rfl
               rotate_left
               ·
                simp only [Act.put, sA, sB, sC, i64_w, i32_w]
                rfl
               refine pure_ (i := 17) (N := some 89) (v := ?_) (a' := ?_) (bA 49 262143) rfl rfl (any_of HT_.out (by kernel_rfl)) (fun _ _ _ h => h) (Or.inl ⟨by rfl, ?_⟩) ?_ ?_
               rotate_left
               ·
                intro w'
                go_simp
                with_reducible rfl
               rotate_left
               ·
                simp only [Act.put, sA, sB, sC, i64_w, i32_w]
                rfl
               refine pure_ (i := 18) (N := some 90) (v := ?_) (a' := ?_) (bA 49 524287) rfl rfl (any_of HT_.out (by kernel_rfl)) (fun _ _ _ h => h) (Or.inl ⟨by rfl, ?_⟩) ?_ ?_
               rotate_left
               ·
                intro w'
                go_simp
                with_reducible rfl
               rotate_left
               ·
                simp only [Act.put, sA, sB, sC, i64_w, i32_w]
                rfl
               refine pure_ (i := 19) (N := some 91) (v := ?_) (a' := ?_) (bA 49 1048575) rfl rfl (any_of HT_.out (by kernel_rfl)) (fun _ _ _ h => h) (Or.inl ⟨by rfl, ?_⟩) ?_ ?_
               rotate_left
               ·
                intro w'
                go_simp
                with_reducible rfl
               rotate_left
               ·
                simp only [Act.put, sA, sB, sC, i64_w, i32_w]
                rfl
               refine pure_ (i := 21) (N := some 93) (v := ?_) (a' := ?_) (bA 49 3145727) rfl rfl (any_of HT_.out (by kernel_rfl)) (fun _ _ _ h => h) (Or.inl ⟨by rfl, ?_⟩) ?_ ?_
               rotate_left
               ·
                intro w'
                go_simp
                with_reducible rfl
               rotate_left
               ·
                simp only [Act.put, sA, sB, sC, i64_w, i32_w]
                rfl
               refine take_ (i := 20) (N := some 92) (v := ?_) (a' := ?_) (bA 49 4194303) rfl rfl (take_ofW HT_.out HW_.out (by kernel_rfl)) (fun _ _ _ h => h) (Or.inl ⟨by rfl, ?_⟩) hHeld ?_ ?_
               rotate_left
               ·
                rintro w' ⟨s0, s1, s2, s3, s4, s5, s6, s7, s8, s9, s10, s11, s12, s13, s14, s15, s16⟩
                go_simp
                with_reducible rfl
               rotate_left
               ·
                simp only [Act.put, sA, sB, sC, i64_w, i32_w]
                rfl
               refine take_ (i := 22) (N := some 94) (v := ?_) (a' := ?_) (bA 49 8388607) rfl rfl (take_ofW HT_.out HW_.out (by kernel_rfl)) (fun _ _ _ h => h) (Or.inl ⟨by rfl, ?_⟩) hHeld ?_ ?_
               rotate_left
               ·
                rintro w' ⟨s0, s1, s2, s3, s4, s5, s6, s7, s8, s9, s10, s11, s12, s13, s14, s15, s16⟩
                go_simp
                with_reducible rfl
               rotate_left
               ·
                simp only [Act.put, sA, sB, sC, i64_w, i32_w]
                rfl
               refine pure_ (i := 23) (N := some 95) (v := ?_) (a' := ?_) (bA 49 16777215) rfl rfl (any_of HT_.out (by kernel_rfl)) (fun _ _ _ h => h) (Or.inl ⟨by rfl, ?_⟩) ?_ ?_
               rotate_left
               ·
                intro w'
                go_simp
                with_reducible rfl
               rotate_left
               ·
                simp only [Act.put, sA, sB, sC, i64_w, i32_w]
                rfl
               refine pure_ (i := 24) (N := some 96) (v := ?_) (a' := ?_) (bA 49 33554431) rfl rfl (any_of HT_.out (by kernel_rfl)) (fun _ _ _ h => h) (Or.inl ⟨by rfl, ?_⟩) ?_ ?_
               rotate_left
               ·
                intro w'
                go_simp
                with_reducible rfl
               rotate_left
               ·
                simp only [Act.put, sA, sB, sC, i64_w, i32_w]
                rfl
               refine pure_ (i := 25) (N := some 97) (v := ?_) (a' := ?_) (bA 49 67108863) rfl rfl (any_of HT_.out (by kernel_rfl)) (fun _ _ _ h => h) (Or.inl ⟨by rfl, ?_⟩) ?_ ?_
               rotate_left
               ·
                intro w'
                go_simp
                with_reducible rfl
               rotate_left
               ·
                simp only [Act.put, sA, sB, sC, i64_w, i32_w]
                rfl
               refine pure_ (i := 26) (N := some 98) (v := ?_) (a' := ?_) (bA 49 134217727) rfl rfl (any_of HT_.out (by kernel_rfl)) (fun _ _ _ h => h) (Or.inl ⟨by rfl, ?_⟩) ?_ ?_
               rotate_left
               ·
                intro w'
                go_simp
                with_reducible rfl
               rotate_left
               ·
                simp only [Act.put, sA, sB, sC, i64_w, i32_w]
                rfl
               refine pure_ (i := 27) (N := some 99) (v := ?_) (a' := ?_) (bA 49 268435455) rfl rfl (any_of HT_.out (by kernel_rfl)) (fun _ _ _ h => h) (Or.inl ⟨by rfl, ?_⟩) ?_ ?_
               rotate_left
               ·
                intro w'
                go_simp
                with_reducible rfl
               rotate_left
               ·
                simp only [Act.put, sA, sB, sC, i64_w, i32_w]
                rfl
               refine pure_ (i := 29) (N := some 101) (v := ?_) (a' := ?_) (bA 49 805306367) rfl rfl (any_of HT_.out (by kernel_rfl)) (fun _ _ _ h => h) (Or.inl ⟨by rfl, ?_⟩) ?_ ?_
               rotate_left
               ·
                intro w'
                go_simp
                with_reducible rfl
               rotate_left
               ·
                simp only [Act.put, sA, sB, sC, i64_w, i32_w]
                rfl
               refine pure_ (i := 30) (N := some 102) (v := ?_) (a' := ?_) (bA 49 1879048191) rfl rfl (any_of HT_.out (by kernel_rfl)) (fun _ _ _ h => h) (Or.inl ⟨by rfl, ?_⟩) ?_ ?_
               rotate_left
               ·
                intro w'
                go_simp
                with_reducible rfl
               rotate_left
               ·
                simp only [Act.put, sA, sB, sC, i64_w, i32_w]
                rfl
               refine pure_ (i := 31) (N := some 103) (v := ?_) (a' := ?_) (bA 49 4026531839) rfl rfl (any_of HT_.out (by kernel_rfl)) (fun _ _ _ h => h) (Or.inl ⟨by rfl, ?_⟩) ?_ ?_
               rotate_left
               ·
                intro w'
                go_simp
                with_reducible rfl
               rotate_left
               ·
                simp only [Act.put, sA, sB, sC, i64_w, i32_w]
                rfl
               refine take_ (i := 28) (N := some 100) (v := ?_) (a' := ?_) (bA 49 4294967295) rfl rfl (take_ofW HT_.out HW_.out (by kernel_rfl)) (fun _ _ _ h => h) (Or.inl ⟨by rfl, ?_⟩) hHeld ?_ ?_
               rotate_left
               ·
                rintro w' ⟨s0, s1, s2, s3, s4, s5, s6, s7, s8, s9, s10, s11, s12, s13, s14, s15, s16⟩
                go_simp
                with_reducible rfl
               rotate_left
               ·
                simp only [Act.put, sA, sB, sC, i64_w, i32_w]
                rfl
               refine take_ (i := 32) (N := some 104) (v := ?_) (a' := ?_) (bA 49 8589934591) rfl rfl (take_ofW HT_.out HW_.out (by kernel_rfl)) (fun _ _ _ h => h) (Or.inl ⟨by rfl, ?_⟩) hHeld ?_ ?_
               rotate_left
               ·
                rintro w' ⟨s0, s1, s2, s3, s4, s5, s6, s7, s8, s9, s10, s11, s12, s13, s14, s15, s16⟩
                go_simp
                with_reducible rfl
               rotate_left
               ·
                simp only [Act.put, sA, sB, sC, i64_w, i32_w]
                rfl
               refine pure_ (i := 33) (N := some 105) (v := ?_) (a' := ?_) (bA 49 17179869183) rfl rfl (any_of HT_.out (by kernel_rfl)) (fun _ _ _ h => h) (Or.inl ⟨by rfl, ?_⟩) ?_ ?_
               rotate_left
               ·
                intro w'
                go_simp
                with_reducible rfl
               rotate_left
               ·
                simp only [Act.put, sA, sB, sC, i64_w, i32_w]
                rfl
               refine pure_ (i := 34) (N := some 106) (v := ?_) (a' := ?_) (bA 49 34359738367) rfl rfl (any_of HT_.out (by kernel_rfl)) (fun _ _ _ h => h) (Or.inl ⟨by rfl, ?_⟩) ?_ ?_
               rotate_left
               ·
                intro w'
                go_simp
                with_reducible rfl
               rotate_left
               ·
                simp only [Act.put, sA, sB, sC, i64_w, i32_w]
                rfl
               refine pure_ (i := 35) (N := some 107) (v := undef) (a' := ?_) (bA 49 68719476735) rfl rfl (any_of HT_.out (by kernel_rfl)) (fun _ _ _ h => h) (Or.inr ⟨by rfl, rfl⟩) ?_ ?_
               rotate_left
               ·
                simp only [Act.put, sA, sB, sC, i64_w, i32_w]
                rfl
               refine pure_ (i := 36) (N := some 108) (v := undef) (a' := ?_) (bA 49 137438953471) rfl rfl (any_of HT_.out (by kernel_rfl)) (fun _ _ _ h => h) (Or.inr ⟨by rfl, rfl⟩) ?_ ?_
               rotate_left
               ·
                simp only [Act.put, sA, sB, sC, i64_w, i32_w]
                rfl
               refine pure_ (i := 37) (N := some 109) (v := undef) (a' := ?_) (bA 49 274877906943) rfl rfl (any_of HT_.out (by kernel_rfl)) (fun _ _ _ h => h) (Or.inr ⟨by rfl, rfl⟩) ?_ ?_
               rotate_left
               ·
                simp only [Act.put, sA, sB, sC, i64_w, i32_w]
                rfl
               refine pure_ (i := 38) (N := some 110) (v := undef) (a' := ?_) (bA 49 549755813887) rfl rfl (any_of HT_.out (by kernel_rfl)) (fun _ _ _ h => h) (Or.inr ⟨by rfl, rfl⟩) ?_ ?_
               rotate_left
               ·
                simp only [Act.put, sA, sB, sC, i64_w, i32_w]
                rfl
               refine pure_ (i := 39) (N := some 111) (v := undef) (a' := ?_) (bA 49 1099511627775) rfl rfl (any_of HT_.out (by kernel_rfl)) (fun _ _ _ h => h) (Or.inr ⟨by rfl, rfl⟩) ?_ ?_
               rotate_left
               ·
                simp only [Act.put, sA, sB, sC, i64_w, i32_w]
                rfl
               refine pure_ (i := 40) (N := some 112) (v := undef) (a' := ?_) (bA 49 2199023255551) rfl rfl (any_of HT_.out (by kernel_rfl)) (fun _ _ _ h => h) (Or.inr ⟨by rfl, rfl⟩) ?_ ?_
               rotate_left
               ·
                simp only [Act.put, sA, sB, sC, i64_w, i32_w]
                rfl
               refine pure_ (i := 41) (N := some 113) (v := undef) (a' := ?_) (bA 49 4398046511103) rfl rfl (any_of HT_.out (by kernel_rfl)) (fun _ _ _ h => h) (Or.inr ⟨by rfl, rfl⟩) ?_ ?_
               rotate_left
               ·
                simp only [Act.put, sA, sB, sC, i64_w, i32_w]
                rfl
               refine pure_ (i := 42) (N := some 114) (v := undef) (a' := ?_) (bA 49 8796093022207) rfl rfl (any_of HT_.out (by kernel_rfl)) (fun _ _ _ h => h) (Or.inr ⟨by rfl, rfl⟩) ?_ ?_
               rotate_left
               ·
                simp only [Act.put, sA, sB, sC, i64_w, i32_w]
                rfl
               refine pure_ (i := 43) (N := some 115) (v := undef) (a' := ?_) (bA 49 17592186044415) rfl rfl (any_of HT_.out (by kernel_rfl)) (fun _ _ _ h => h) (Or.inr ⟨by rfl, rfl⟩) ?_ ?_
               rotate_left
               ·
                simp only [Act.put, sA, sB, sC, i64_w, i32_w]
                rfl
               refine pure_ (i := 44) (N := some 116) (v := undef) (a' := ?_) (bA 49 35184372088831) rfl rfl (any_of HT_.out (by kernel_rfl)) (fun _ _ _ h => h) (Or.inr ⟨by rfl, rfl⟩) ?_ ?_
               rotate_left
               ·
                simp only [Act.put, sA, sB, sC, i64_w, i32_w]
                rfl
               refine pure_ (i := 45) (N := some 117) (v := undef) (a' := ?_) (bA 49 70368744177663) rfl rfl (any_of HT_.out (by kernel_rfl)) (fun _ _ _ h => h) (Or.inr ⟨by rfl, rfl⟩) ?_ ?_
               rotate_left
               ·
                simp only [Act.put, sA, sB, sC, i64_w, i32_w]
                rfl
               refine pure_ (i := 46) (N := some 118) (v := ?_) (a' := ?_) (bA 49 140737488355327) rfl rfl (any_of HT_.out (by kernel_rfl)) (fun _ _ _ h => h) (Or.inl ⟨by rfl, ?_⟩) ?_ ?_
               rotate_left
               ·
                intro w'
                go_simp
                with_reducible rfl
               rotate_left
               ·
                simp only [Act.put, sA, sB, sC, i64_w, i32_w]
                rfl
               refine pure_ (i := 47) (N := some 119) (v := ?_) (a' := ?_) (bA 49 281474976710655) rfl rfl (any_of HT_.out (by kernel_rfl)) (fun _ _ _ h => h) (Or.inl ⟨by rfl, ?_⟩) ?_ ?_
               rotate_left
               ·
                intro w'
                go_simp
                with_reducible rfl
               rotate_left
               ·
                simp only [Act.put, sA, sB, sC, i64_w, i32_w]
                rfl
               refine pure_ (i := 48) (N := some 120) (v := ?_) (a' := ?_) (bA 49 562949953421311) rfl rfl (any_of HT_.out (by kernel_rfl)) (fun _ _ _ h => h) (Or.inl ⟨by rfl, ?_⟩) ?_ ?_
               rotate_left
               ·
                intro w'
                go_simp
                with_reducible rfl
               rotate_left
               ·
                simp only [Act.put, sA, sB, sC, i64_w, i32_w]
                rfl
               refine done_ (done_of HT_.out (by kernel_rfl)) ?_
               try go_wp2
               go_meet
               case rel => exact ⟨_, (true), (by first | rfl | (simp; done) | (simp [*]; done)), H', ⟨by have := HJ6.out; have := HK2.out; first | omega | exact Nat.le_refl _⟩, ⟨by (with_reducible repeat (first | apply Kd.R_alloc | apply Kd.R_drewN | apply Kd.R_drew)); exact HO_3.out⟩, ⟨by (with_reducible repeat (first | apply Kd.R_alloc | apply Kd.R_drewN | apply Kd.R_drew)); exact HO_5.out⟩, ⟨by (with_reducible repeat (first | apply Kd.V_alloc | apply Kd.V_drewN | apply Kd.V_drew)); exact HO_326003.out⟩, ⟨by (with_reducible repeat (first | apply Kd.V_alloc | apply Kd.V_drewN | apply Kd.V_drew)); exact HO_326004.out⟩, ⟨by (with_reducible repeat (first | refine blk_drewN ?_ _ | refine blk_drew ?_ | refine blk_alloc ?_ _)); exact BK325.out⟩, ⟨by repeat (first | (with_reducible first | exact HB.out | apply below_alloc | apply pw_below_drewN | apply below_drew1 | refine below_set ?_ GE325.out) | exact HB.out)⟩⟩
              ·
               rw [if_neg c59] at H
               have c59b0 : decide ((rd t345 x7_2) < (rd t361 x7_2)) = false := decide_eq_false c59
               clear c59
               have H' := Aside0.mk H
               clear H
               try go_wp2
               have n0_ := Aside0.mk (Kd.R_drew HO_3.out)
               have n1_ := Aside0.mk (Kd.R_drew HO_5.out)
               have n2_ := Aside0.mk (Kd.V_drew HO_326003.out)
               have n3_ := Aside0.mk (Kd.V_drew HO_326004.out)
               have n4_ := Aside0.mk (blk_drew BK325.out)
               have n5_ := Aside0.mk (below_drew1 HB.out)
               clear HO_3
               clear HO_5
               clear HO_326003
               clear HO_326004
               clear BK325
               clear HB
               have HO_3 := n0_
               have HO_5 := n1_
               have HO_326003 := n2_
               have HO_326004 := n3_
               have BK325 := n4_
               have HB := n5_
               clear n0_ n1_ n2_ n3_ n4_ n5_
               have p372 : 0 ≤ (x7_2 : Int) := of_decide_eq_true (by first | (with_reducible assumption) | assumption)
               have q372 : x7_2 < (t361.length : Int) := of_decide_eq_true (by first | (with_reducible assumption) | assumption)
               obtain ⟨ad372, e372, hx372_0⟩ := Kd.at_int (Kd.R_reads' HO_5.out).2.2 x7_2 p372 q372
               cases e372
               replace p372 := eq_true p372
               replace q372 := eq_true q372
               have p373 : 0 ≤ (x7_2 : Int) := of_decide_eq_true (by first | (with_reducible assumption) | assumption)
               have q373 : x7_2 < (t345.length : Int) := of_decide_eq_true (by first | (with_reducible assumption) | assumption)
               obtain ⟨ad373, e373, hx373_0⟩ := Kd.at_int (Kd.R_reads' HO_3.out).2.2 x7_2 p373 q373
               cases e373
               replace p373 := eq_true p373
               replace q373 := eq_true q373
               have p374 : 0 ≤ (x7_2 : Int) := of_decide_eq_true (by first | (with_reducible assumption) | assumption)
               have q374 : x7_2 < (t345.length : Int) := of_decide_eq_true (by first | (with_reducible assumption) | assumption)
               obtain ⟨ad374, e374, hx374_0⟩ := Kd.at_int (Kd.R_reads' HO_3.out).2.2 x7_2 p374 q374
               obtain rfl : ad373 = ad374 := (by injection e374)
               replace p374 := eq_true p374
               replace q374 := eq_true q374
               have p375 : 0 ≤ (x7_2 : Int) := of_decide_eq_true (by first | (with_reducible assumption) | assumption)
               have q375 : x7_2 < (t361.length : Int) := of_decide_eq_true (by first | (with_reducible assumption) | assumption)
               obtain ⟨ad375, e375, hx375_0⟩ := Kd.at_int (Kd.R_reads' HO_5.out).2.2 x7_2 p375 q375
               obtain rfl : ad372 = ad375 := (by injection e375)
               replace p375 := eq_true p375
               replace q375 := eq_true q375
               refine start_ (n := 49) (S := fun w' => w'.cell? ⟨gb325, 0, none⟩ = some (.int .i64 t326) ∧ w'.cell? ⟨gb325, 1, none⟩ = some (.int .i64 t327) ∧ w'.cell? ⟨gb325, 2, none⟩ = some (.int .i64 t328) ∧ w'.cell? ⟨gb325, 3, none⟩ = some (.slice Ao12 t329.length co12) ∧ w'.cell? ⟨gb325, 4, none⟩ = some (.slice Ao13 t332.length co13) ∧ w'.cell? ⟨gb325, 5, none⟩ = some (.int .i64 t335) ∧ w'.cell? ⟨gb325, 6, none⟩ = some (.int .i64 t336) ∧ w'.cell? ⟨gb325, 7, none⟩ = some (.int .i64 t337) ∧ w'.cell? ⟨gb325, 8, none⟩ = some (.int .i64 t338) ∧ w'.cell? ⟨gb325, 9, none⟩ = some (.int .i64 t339) ∧ w'.cell? ⟨gb325, 10, none⟩ = some (.int .i64 t340) ∧ w'.cell? ⟨gb325, 11, none⟩ = some (.int .i64 t341) ∧ w'.cell? ⟨gb325, 12, none⟩ = some (.int .i64 t342) ∧ w'.cell? ⟨gb325, 13, none⟩ = some (.int .i64 t343) ∧ w'.cell? ⟨gb325, 14, none⟩ = some (.int .i64 t344) ∧ w'.cell? (ad372.add (x7_2).toNat) = some (.int .i64 (rd t361 x7_2)) ∧ w'.cell? (ad373.add (x7_2).toNat) = some (.int .i64 (rd t345 x7_2)) ∧ w'.cell? (ad373.add (x7_2).toNat) = some (.int .i64 (rd t345 x7_2)) ∧ w'.cell? (ad372.add (x7_2).toNat) = some (.int .i64 (rd t361 x7_2))) (ds := []) (bA 49 0) (by kernel_rfl) rfl rfl ⟨(blk_cell BK325.out 0).trans rfl, (blk_cell BK325.out 1).trans rfl, (blk_cell BK325.out 2).trans rfl, (blk_cell BK325.out 3).trans rfl, (blk_cell BK325.out 4).trans rfl, (blk_cell BK325.out 5).trans rfl, (blk_cell BK325.out 6).trans rfl, (blk_cell BK325.out 7).trans rfl, (blk_cell BK325.out 8).trans rfl, (blk_cell BK325.out 9).trans rfl, (blk_cell BK325.out 10).trans rfl, (blk_cell BK325.out 11).trans rfl, (blk_cell BK325.out 12).trans rfl, (blk_cell BK325.out 13).trans rfl, (blk_cell BK325.out 14).trans rfl, hx372_0, hx373_0, hx374_0, hx375_0⟩ (fun hHeld => ?_); refine with_tabW bivouaclaw21_SightMore.tab11 bivouaclaw21_SightMore.bits11 (fun HT_ HW_ => ?_)
               generalize wr.drew = w61 at HO_3 HO_5 HO_326003 HO_326004 BK325 HB hx372_0 hx373_0 hx374_0 hx375_0 hHeld ⊢
               refine pure_ (i := 0) (N := some 72) (v := ?_) (a' := ?_) (bA 49 1) rfl rfl (any_of HT_.out (by kernel_rfl)) (fun _ _ _ h => h) (Or.inl ⟨by rfl, ?_⟩) ?_ ?_
               rotate_left
               ·
                intro w'
                go_simp
                with_reducible rfl
               rotate_left
               ·
                simp only [Act.put, sA, sB, sC, i64_w, i32_w]
                rfl
               refine pure_ (i := 1) (N := some 73) (v := ?_) (a' := ?_) (bA 49 3) rfl rfl (any_of HT_.out (by kernel_rfl)) (fun _ _ _ h => h) (Or.inl ⟨by rfl, ?_⟩) ?_ ?_
               rotate_left
               ·
                intro w'
                go_simp
                with_reducible rfl
               rotate_left
               ·
                simp only [Act.put, sA, sB, sC, i64_w, i32_w]
                rfl
               refine pure_ (i := 3) (N := some 75) (v := ?_) (a' := ?_) (bA 49 11) rfl rfl (any_of HT_.out (by kernel_rfl)) (fun _ _ _ h => h) (Or.inl ⟨by rfl, ?_⟩) ?_ ?_
               rotate_left
               ·
                intro w'
                go_simp
                with_reducible rfl
               rotate_left
               ·
                simp only [Act.put, sA, sB, sC, i64_w, i32_w]
                rfl
               refine take_ (i := 2) (N := some 74) (v := ?_) (a' := ?_) (bA 49 15) rfl rfl (take_ofW HT_.out HW_.out (by kernel_rfl)) (fun _ _ _ h => h) (Or.inl ⟨by rfl, ?_⟩) hHeld ?_ ?_
               rotate_left
               ·
                rintro w' ⟨s0, s1, s2, s3, s4, s5, s6, s7, s8, s9, s10, s11, s12, s13, s14, s15, s16, s17, s18⟩
                go_simp
                with_reducible rfl
               rotate_left
               ·
                simp only [Act.put, sA, sB, sC, i64_w, i32_w]
                rfl
               refine take_ (i := 4) (N := some 76) (v := ?_) (a' := ?_) (bA 49 31) rfl rfl (take_ofW HT_.out HW_.out (by kernel_rfl)) (fun _ _ _ h => h) (Or.inl ⟨by rfl, ?_⟩) hHeld ?_ ?_
               rotate_left
               ·
                rintro w' ⟨s0, s1, s2, s3, s4, s5, s6, s7, s8, s9, s10, s11, s12, s13, s14, s15, s16, s17, s18⟩
                go_simp
                with_reducible rfl
               rotate_left
               ·
                simp only [Act.put, sA, sB, sC, i64_w, i32_w]
                rfl
               refine pure_ (i := 5) (N := some 77) (v := ?_) (a' := ?_) (bA 49 63) rfl rfl (any_of HT_.out (by kernel_rfl)) (fun _ _ _ h => h) (Or.inl ⟨by rfl, ?_⟩) ?_ ?_
               rotate_left
               ·
                intro w'
                go_simp
                with_reducible rfl
               rotate_left
               ·
                simp only [Act.put, sA, sB, sC, i64_w, i32_w]
                rfl
               refine pure_ (i := 6) (N := some 78) (v := ?_) (a' := ?_) (bA 49 127) rfl rfl (any_of HT_.out (by kernel_rfl)) (fun _ _ _ h => h) (Or.inl ⟨by rfl, ?_⟩) ?_ ?_
               rotate_left
               ·
                intro w'
                go_simp
                with_reducible rfl
               rotate_left
               ·
                simp only [Act.put, sA, sB, sC, i64_w, i32_w]
                rfl
               refine pure_ (i := 7) (N := some 79) (v := undef) (a' := ?_) (bA 49 255) rfl rfl (any_of HT_.out (by kernel_rfl)) (fun _ _ _ h => h) (Or.inr ⟨by rfl, rfl⟩) ?_ ?_
               rotate_left
               ·
                simp only [Act.put, sA, sB, sC, i64_w, i32_w]
                rfl
               refine pure_ (i := 8) (N := some 80) (v := undef) (a' := ?_) (bA 49 511) rfl rfl (any_of HT_.out (by kernel_rfl)) (fun _ _ _ h => h) (Or.inr ⟨by rfl, rfl⟩) ?_ ?_
               rotate_left
               ·
                simp only [Act.put, sA, sB, sC, i64_w, i32_w]
                rfl
               refine pure_ (i := 9) (N := some 81) (v := undef) (a' := ?_) (bA 49 1023) rfl rfl (any_of HT_.out (by kernel_rfl)) (fun _ _ _ h => h) (Or.inr ⟨by rfl, rfl⟩) ?_ ?_
               rotate_left
               ·
                simp only [Act.put, sA, sB, sC, i64_w, i32_w]
                rfl
               refine pure_ (i := 10) (N := some 82) (v := undef) (a' := ?_) (bA 49 2047) rfl rfl (any_of HT_.out (by kernel_rfl)) (fun _ _ _ h => h) (Or.inr ⟨by rfl, rfl⟩) ?_ ?_
               rotate_left
               ·
                simp only [Act.put, sA, sB, sC, i64_w, i32_w]
                rfl
               refine pure_ (i := 11) (N := some 83) (v := undef) (a' := ?_) (bA 49 4095) rfl rfl (any_of HT_.out (by kernel_rfl)) (fun _ _ _ h => h) (Or.inr ⟨by rfl, rfl⟩) ?_ ?_
               rotate_left
               ·
                simp only [Act.put, sA, sB, sC, i64_w, i32_w]
                rfl
               refine pure_ (i := 12) (N := some 84) (v := undef) (a' := ?_) (bA 49 8191) rfl rfl (any_of HT_.out (by kernel_rfl)) (fun _ _ _ h => h) (Or.inr ⟨by rfl, rfl⟩) ?_ ?_
               rotate_left
               ·
                simp only [Act.put, sA, sB, sC, i64_w, i32_w]
                rfl
               refine pure_ (i := 13) (N := some 85) (v := undef) (a' := ?_) (bA 49 16383) rfl rfl (any_of HT_.out (by kernel_rfl)) (fun _ _ _ h => h) (Or.inr ⟨by rfl, rfl⟩) ?_ ?_
               rotate_left
               ·
                simp only [Act.put, sA, sB, sC, i64_w, i32_w]
                rfl
               refine pure_ (i := 14) (N := some 86) (v := undef) (a' := ?_) (bA 49 32767) rfl rfl (any_of HT_.out (by kernel_rfl)) (fun _ _ _ h => h) (Or.inr ⟨by rfl, rfl⟩) ?_ ?_
               rotate_left
               ·
                simp only [Act.put, sA, sB, sC, i64_w, i32_w]
                rfl
               refine pure_ (i := 15) (N := some 87) (v := undef) (a' := ?_) (bA 49 65535) rfl rfl (any_of HT_.out (by kernel_rfl)) (fun _ _ _ h => h) (Or.inr ⟨by rfl, rfl⟩) ?_ ?_
               rotate_left
               ·
                simp only [Act.put, sA, sB, sC, i64_w, i32_w]
                rfl
               refine pure_ (i := 16) (N := some 88) (v := ?_) (a' := ?_) (bA 49 131071) rfl rfl (any_of HT_.out (by kernel_rfl)) (fun _ _ _ h => h) (Or.inl ⟨by rfl, ?_⟩) ?_ ?_
               rotate_left
               ·
                intro w'
                go_simp
                with_reducible rfl
               rotate_left
               ·
                simp only [Act.put, sA, sB, sC, i64_w, i32_w]
                rfl
               refine pure_ (i := 17) (N := some 89) (v := ?_) (a' := ?_) (bA 49 262143) rfl rfl (any_of HT_.out (by kernel_rfl)) (fun _ _ _ h => h) (Or.inl ⟨by rfl, ?_⟩) ?_ ?_
               rotate_left
               ·
                intro w'
                go_simp
                with_reducible rfl
               rotate_left
               ·
                simp only [Act.put, sA, sB, sC, i64_w, i32_w]
                rfl
               refine pure_ (i := 18) (N := some 90) (v := ?_) (a' := ?_) (bA 49 524287) rfl rfl (any_of HT_.out (by kernel_rfl)) (fun _ _ _ h => h) (Or.inl ⟨by rfl, ?_⟩) ?_ ?_
               rotate_left
               ·
                intro w'
                go_simp
                with_reducible rfl
               rotate_left
               ·
                simp only [Act.put, sA, sB, sC, i64_w, i32_w]
                rfl
               refine pure_ (i := 19) (N := some 91) (v := ?_) (a' := ?_) (bA 49 1048575) rfl rfl (any_of HT_.out (by kernel_rfl)) (fun _ _ _ h => h) (Or.inl ⟨by rfl, ?_⟩) ?_ ?_
               rotate_left
               ·
                intro w'
                go_simp
                with_reducible rfl
               rotate_left
               ·
                simp only [Act.put, sA, sB, sC, i64_w, i32_w]
                rfl
               refine pure_ (i := 21) (N := some 93) (v := ?_) (a' := ?_) (bA 49 3145727) rfl rfl (any_of HT_.out (by kernel_rfl)) (fun _ _ _ h => h) (Or.inl ⟨by rfl, ?_⟩) ?_ ?_
               rotate_left
               ·
                intro w'
                go_simp
                with_reducible rfl
               rotate_left
               ·
                simp only [Act.put, sA, sB, sC, i64_w, i32_w]
                rfl
               refine take_ (i := 20) (N := some 92) (v := ?_) (a' := ?_) (bA 49 4194303) rfl rfl (take_ofW HT_.out HW_.out (by kernel_rfl)) (fun _ _ _ h => h) (Or.inl ⟨by rfl, ?_⟩) hHeld ?_ ?_
               rotate_left
               ·
                rintro w' ⟨s0, s1, s2, s3, s4, s5, s6, s7, s8, s9, s10, s11, s12, s13, s14, s15, s16, s17, s18⟩
                go_simp
                with_reducible rfl
               rotate_left
               ·
                simp only [Act.put, sA, sB, sC, i64_w, i32_w]
                rfl
               refine take_ (i := 22) (N := some 94) (v := ?_) (a' := ?_) (bA 49 8388607) rfl rfl (take_ofW HT_.out HW_.out (by kernel_rfl)) (fun _ _ _ h => h) (Or.inl ⟨by rfl, ?_⟩) hHeld ?_ ?_
               rotate_left
               ·
                rintro w' ⟨s0, s1, s2, s3, s4, s5, s6, s7, s8, s9, s10, s11, s12, s13, s14, s15, s16, s17, s18⟩
                go_simp
                with_reducible rfl
               rotate_left
               ·
                simp only [Act.put, sA, sB, sC, i64_w, i32_w]
                rfl
               refine pure_ (i := 23) (N := some 95) (v := ?_) (a' := ?_) (bA 49 16777215) rfl rfl (any_of HT_.out (by kernel_rfl)) (fun _ _ _ h => h) (Or.inl ⟨by rfl, ?_⟩) ?_ ?_
               rotate_left
               ·
                intro w'
                go_simp
                with_reducible rfl
               rotate_left
               ·
                simp only [Act.put, sA, sB, sC, i64_w, i32_w]
                rfl
               refine pure_ (i := 24) (N := some 96) (v := ?_) (a' := ?_) (bA 49 33554431) rfl rfl (any_of HT_.out (by kernel_rfl)) (fun _ _ _ h => h) (Or.inl ⟨by rfl, ?_⟩) ?_ ?_
               rotate_left
               ·
                intro w'
                go_simp
                with_reducible rfl
               rotate_left
               ·
                simp only [Act.put, sA, sB, sC, i64_w, i32_w]
                rfl
               refine pure_ (i := 25) (N := some 97) (v := ?_) (a' := ?_) (bA 49 67108863) rfl rfl (any_of HT_.out (by kernel_rfl)) (fun _ _ _ h => h) (Or.inl ⟨by rfl, ?_⟩) ?_ ?_
               rotate_left
               ·
                intro w'
                go_simp
                with_reducible rfl
               rotate_left
               ·
                simp only [Act.put, sA, sB, sC, i64_w, i32_w]
                rfl
               refine pure_ (i := 26) (N := some 98) (v := ?_) (a' := ?_) (bA 49 134217727) rfl rfl (any_of HT_.out (by kernel_rfl)) (fun _ _ _ h => h) (Or.inl ⟨by rfl, ?_⟩) ?_ ?_
               rotate_left
               ·
                intro w'
                go_simp
                with_reducible rfl
               rotate_left
               ·
                simp only [Act.put, sA, sB, sC, i64_w, i32_w]
                rfl
               refine pure_ (i := 27) (N := some 99) (v := ?_) (a' := ?_) (bA 49 268435455) rfl rfl (any_of HT_.out (by kernel_rfl)) (fun _ _ _ h => h) (Or.inl ⟨by rfl, ?_⟩) ?_ ?_
               rotate_left
               ·
                intro w'
                go_simp
                with_reducible rfl
               rotate_left
               ·
                simp only [Act.put, sA, sB, sC, i64_w, i32_w]
                rfl
               refine pure_ (i := 29) (N := some 101) (v := ?_) (a' := ?_) (bA 49 805306367) rfl rfl (any_of HT_.out (by kernel_rfl)) (fun _ _ _ h => h) (Or.inl ⟨by rfl, ?_⟩) ?_ ?_
               rotate_left
               ·
                intro w'
                go_simp
                with_reducible rfl
               rotate_left
               ·
                simp only [Act.put, sA, sB, sC, i64_w, i32_w]
                rfl
               refine pure_ (i := 30) (N := some 102) (v := ?_) (a' := ?_) (bA 49 1879048191) rfl rfl (any_of HT_.out (by kernel_rfl)) (fun _ _ _ h => h) (Or.inl ⟨by rfl, ?_⟩) ?_ ?_
               rotate_left
               ·
                intro w'
                go_simp
                with_reducible rfl
               rotate_left
               ·
                simp only [Act.put, sA, sB, sC, i64_w, i32_w]
                rfl
               refine pure_ (i := 31) (N := some 103) (v := ?_) (a' := ?_) (bA 49 4026531839) rfl rfl (any_of HT_.out (by kernel_rfl)) (fun _ _ _ h => h) (Or.inl ⟨by rfl, ?_⟩) ?_ ?_
               rotate_left
               ·
                intro w'
                go_simp
                with_reducible rfl
               rotate_left
               ·
                simp only [Act.put, sA, sB, sC, i64_w, i32_w]
                rfl
               refine take_ (i := 28) (N := some 100) (v := ?_) (a' := ?_) (bA 49 4294967295) rfl rfl (take_ofW HT_.out HW_.out (by kernel_rfl)) (fun _ _ _ h => h) (Or.inl ⟨by rfl, ?_⟩) hHeld ?_ ?_
               rotate_left
               ·
                rintro w' ⟨s0, s1, s2, s3, s4, s5, s6, s7, s8, s9, s10, s11, s12, s13, s14, s15, s16, s17, s18⟩
                go_simp
                with_reducible rfl
               rotate_left
               ·
                simp only [Act.put, sA, sB, sC, i64_w, i32_w]
                rfl
               refine take_ (i := 32) (N := some 104) (v := ?_) (a' := ?_) (bA 49 8589934591) rfl rfl (take_ofW HT_.out HW_.out (by kernel_rfl)) (fun _ _ _ h => h) (Or.inl ⟨by rfl, ?_⟩) hHeld ?_ ?_
               rotate_left
               ·
                rintro w' ⟨s0, s1, s2, s3, s4, s5, s6, s7, s8, s9, s10, s11, s12, s13, s14, s15, s16, s17, s18⟩
                go_simp
                with_reducible rfl
               rotate_left
               ·
                simp only [Act.put, sA, sB, sC, i64_w, i32_w]
                rfl
               refine pure_ (i := 33) (N := some 105) (v := ?_) (a' := ?_) (bA 49 17179869183) rfl rfl (any_of HT_.out (by kernel_rfl)) (fun _ _ _ h => h) (Or.inl ⟨by rfl, ?_⟩) ?_ ?_
               rotate_left
               ·
                intro w'
                go_simp
                with_reducible rfl
               rotate_left
               ·
                simp only [Act.put, sA, sB, sC, i64_w, i32_w]
                rfl
               refine pure_ (i := 34) (N := some 106) (v := ?_) (a' := ?_) (bA 49 34359738367) rfl rfl (any_of HT_.out (by kernel_rfl)) (fun _ _ _ h => h) (Or.inl ⟨by rfl, ?_⟩) ?_ ?_
               rotate_left
               ·
                intro w'
                go_simp
                with_reducible rfl
               rotate_left
               ·
                simp only [Act.put, sA, sB, sC, i64_w, i32_w]
                rfl
               refine pure_ (i := 35) (N := some 107) (v := ?_) (a' := ?_) (bA 49 68719476735) rfl rfl (any_of HT_.out (by kernel_rfl)) (fun _ _ _ h => h) (Or.inl ⟨by rfl, ?_⟩) ?_ ?_
               rotate_left
               ·
                intro w'
                go_simp
                with_reducible rfl
               rotate_left
               ·
                simp only [Act.put, sA, sB, sC, i64_w, i32_w]
                rfl
               refine pure_ (i := 36) (N := some 108) (v := ?_) (a' := ?_) (bA 49 137438953471) rfl rfl (any_of HT_.out (by kernel_rfl)) (fun _ _ _ h => h) (Or.inl ⟨by rfl, ?_⟩) ?_ ?_
               rotate_left
               ·
                intro w'
                go_simp
                with_reducible rfl
               rotate_left
               ·
                simp only [Act.put, sA, sB, sC, i64_w, i32_w]
                rfl
               refine pure_ (i := 37) (N := some 109) (v := ?_) (a' := ?_) (bA 49 274877906943) rfl rfl (any_of HT_.out (by kernel_rfl)) (fun _ _ _ h => h) (Or.inl ⟨by rfl, ?_⟩) ?_ ?_
               rotate_left
               ·
                intro w'
                go_simp
                with_reducible rfl
               rotate_left
               ·
                simp only [Act.put, sA, sB, sC, i64_w, i32_w]
                rfl
               refine pure_ (i := 40) (N := some 112) (v := ?_) (a' := ?_) (bA 49 1374389534719) rfl rfl (any_of HT_.out (by kernel_rfl)) (fun _ _ _ h => h) (Or.inl ⟨by rfl, ?_⟩) ?_ ?_
               rotate_left
               ·
                intro w'
                go_simp
                with_reducible rfl
               rotate_left
               ·
                simp only [Act.put, sA, sB, sC, i64_w, i32_w]
                rfl
               refine pure_ (i := 41) (N := some 113) (v := ?_) (a' := ?_) (bA 49 3573412790271) rfl rfl (any_of HT_.out (by kernel_rfl)) (fun _ _ _ h => h) (Or.inl ⟨by rfl, ?_⟩) ?_ ?_
               rotate_left
               ·
                intro w'
                go_simp
                with_reducible rfl
               rotate_left
               ·
                simp only [Act.put, sA, sB, sC, i64_w, i32_w]
                rfl
               refine pure_ (i := 42) (N := some 114) (v := ?_) (a' := ?_) (bA 49 7971459301375) rfl rfl (any_of HT_.out (by kernel_rfl)) (fun _ _ _ h => h) (Or.inl ⟨by rfl, ?_⟩) ?_ ?_
               rotate_left
               ·
                intro w'
                go_simp
                with_reducible rfl
               rotate_left
               ·
                simp only [Act.put, sA, sB, sC, i64_w, i32_w]
                rfl
               refine take_ (i := 38) (N := some 110) (v := ?_) (a' := ?_) (bA 49 8246337208319) rfl rfl (take_ofW HT_.out HW_.out (by kernel_rfl)) (fun _ _ _ h => h) (Or.inl ⟨by rfl, ?_⟩) hHeld ?_ ?_
               rotate_left
               ·
                rintro w' ⟨s0, s1, s2, s3, s4, s5, s6, s7, s8, s9, s10, s11, s12, s13, s14, s15, s16, s17, s18⟩
                go_simp
                with_reducible rfl
               rotate_left
               ·
                simp only [Act.put, sA, sB, sC, i64_w, i32_w]
                rfl
               refine pure_ (i := 39) (N := some 111) (v := ?_) (a' := ?_) (bA 49 8796093022207) rfl rfl (any_of HT_.out (by kernel_rfl)) (fun _ _ _ h => h) (Or.inl ⟨by rfl, ?_⟩) ?_ ?_
               rotate_left
               ·
                intro w'
                go_simp
                with_reducible rfl
               rotate_left
               ·
                simp only [Act.put, sA, sB, sC, i64_w, i32_w]
                rfl
               refine take_ (i := 43) (N := some 115) (v := ?_) (a' := ?_) (bA 49 17592186044415) rfl rfl (take_ofW HT_.out HW_.out (by kernel_rfl)) (fun _ _ _ h => h) (Or.inl ⟨by rfl, ?_⟩) hHeld ?_ ?_
               rotate_left
               ·
                rintro w' ⟨s0, s1, s2, s3, s4, s5, s6, s7, s8, s9, s10, s11, s12, s13, s14, s15, s16, s17, s18⟩
                go_simp
                with_reducible rfl
               rotate_left
               ·
                simp only [Act.put, sA, sB, sC, i64_w, i32_w]
                rfl
               refine pure_ (i := 44) (N := some 116) (v := ?_) (a' := ?_) (bA 49 35184372088831) rfl rfl (any_of HT_.out (by kernel_rfl)) (fun _ _ _ h => h) (Or.inl ⟨by rfl, ?_⟩) ?_ ?_
               rotate_left
               ·
                intro w'
                go_simp
                with_reducible rfl
               rotate_left
               ·
                simp only [Act.put, sA, sB, sC, i64_w, i32_w]
                rfl
               refine pure_ (i := 45) (N := some 117) (v := ?_) (a' := ?_) (bA 49 70368744177663) rfl rfl (any_of HT_.out (by kernel_rfl)) (fun _ _ _ h => h) (Or.inl ⟨by rfl, ?_⟩) ?_ ?_
               rotate_left
               ·
                intro w'
                go_simp
                with_reducible rfl
               rotate_left
               ·
                simp only [Act.put, sA, sB, sC, i64_w, i32_w]
                rfl
               refine pure_ (i := 46) (N := some 118) (v := ?_) (a' := ?_) (bA 49 140737488355327) rfl rfl (any_of HT_.out (by kernel_rfl)) (fun _ _ _ h => h) (Or.inl ⟨by rfl, ?_⟩) ?_ ?_
               rotate_left
               ·
                intro w'
                go_simp
                with_reducible rfl
               rotate_left
               ·
                simp only [Act.put, sA, sB, sC, i64_w, i32_w]
                rfl
               refine pure_ (i := 47) (N := some 119) (v := ?_) (a' := ?_) (bA 49 281474976710655) rfl rfl (any_of HT_.out (by kernel_rfl)) (fun _ _ _ h => h) (Or.inl ⟨by rfl, ?_⟩) ?_ ?_
               rotate_left
               ·
                intro w'
                go_simp
                with_reducible rfl
               rotate_left
               ·
                simp only [Act.put, sA, sB, sC, i64_w, i32_w]
                rfl
               refine pure_ (i := 48) (N := some 120) (v := ?_) (a' := ?_) (bA 49 562949953421311) rfl rfl (any_of HT_.out (by kernel_rfl)) (fun _ _ _ h => h) (Or.inl ⟨by rfl, ?_⟩) ?_ ?_
               rotate_left
               ·
                intro w'
                go_simp
                with_reducible rfl
               rotate_left
               ·
                simp only [Act.put, sA, sB, sC, i64_w, i32_w]
                rfl
               refine done_ (done_of HT_.out (by kernel_rfl)) ?_
               try go_wp2
               go_meet
               case rel => exact ⟨_, ((((rd t345 x7_2) == 2) != ((rd t361 x7_2) == 2))), (by first | rfl | (simp; done) | (simp [*]; done)), H', ⟨by have := HJ6.out; have := HK2.out; first | omega | exact Nat.le_refl _⟩, ⟨by (with_reducible repeat (first | apply Kd.R_alloc | apply Kd.R_drewN | apply Kd.R_drew)); exact HO_3.out⟩, ⟨by (with_reducible repeat (first | apply Kd.R_alloc | apply Kd.R_drewN | apply Kd.R_drew)); exact HO_5.out⟩, ⟨by (with_reducible repeat (first | apply Kd.V_alloc | apply Kd.V_drewN | apply Kd.V_drew)); exact HO_326003.out⟩, ⟨by (with_reducible repeat (first | apply Kd.V_alloc | apply Kd.V_drewN | apply Kd.V_drew)); exact HO_326004.out⟩, ⟨by (with_reducible repeat (first | refine blk_drewN ?_ _ | refine blk_drew ?_ | refine blk_alloc ?_ _)); exact BK325.out⟩, ⟨by repeat (first | (with_reducible first | exact HB.out | apply below_alloc | apply pw_below_drewN | apply below_drew1 | refine below_set ?_ GE325.out) | exact HB.out)⟩⟩
             ·
              rw [if_neg c58] at H
              exact absurd H (by simp)
            ·
             rw [if_neg c57] at H
             exact absurd H (by simp)
          case rest =>
           clear HC50
           try clear p2
           try clear p3
           try clear q3
           try clear hx3
           try clear c5
           try clear p37
           try clear q37
           try clear hx37
           try clear c57
           try clear c58
           try clear c59
           try clear c59b0
           try clear hx372_0
           try clear hx373_0
           try clear hx374_0
           try clear hx375_0
           try clear p372
           try clear p373
           try clear p374
           try clear p375
           try clear q372
           try clear q373
           try clear q374
           try clear q375
           obtain ⟨kq, x120_49, rfl, HA, HJ49, HO_3, HO_5, HO_326003, HO_326004, BK325, HB⟩ := hcut
           cases kq with
           | zero => exact absurd HA.out (by simp [bivouaclaw21_SightMore.j2])
           | succ kj49 =>
            have H := HA.out
            clear HA
            simp only [bivouaclaw21_SightMore.j2] at H
            by_cases c62 : x120_49 = true
            ·
             subst c62
             have H1 : (none) = some r := by rw [if_pos rfl] at H; exact H
             clear H
             have H := H1
             clear H1
             exact absurd H (by simp)
            ·
             replace c62 := Bool.eq_false_iff.mpr c62
             subst c62
             have H1 : (bivouaclaw21_SightMore.l0 kj49 t345 t361 (wrap64 (x7_2 + 1)) t326 t327 t328 t329 t332 t335 t336 t337 t338 t339 t340 t341 t342 t343 t344) = some r := by rw [if_neg (show ¬ (false = true) by decide)] at H; exact H
             clear H
             have H := H1
             clear H1
             have H' := Aside0.mk H
             clear H
             go_wp2
             go_roundg kj49
             case measure => have := HJ6.out; have := HK2.out; have := HJ49.out; omega
             case rel => exact ⟨(wrap64 (x7_2 + 1)), (by first | rfl | (simp; done) | (simp [*]; done)), H', ⟨by have := HJ6.out; have := HK2.out; have := HJ49.out; omega⟩, ⟨by (with_reducible repeat (first | apply Kd.R_alloc | apply Kd.R_drewN | apply Kd.R_drew)); exact HO_3.out⟩, ⟨by (with_reducible repeat (first | apply Kd.R_alloc | apply Kd.R_drewN | apply Kd.R_drew)); exact HO_5.out⟩, ⟨by (with_reducible repeat (first | apply Kd.V_alloc | apply Kd.V_drewN | apply Kd.V_drew)); exact HO_326003.out⟩, ⟨by (with_reducible repeat (first | apply Kd.V_alloc | apply Kd.V_drewN | apply Kd.V_drew)); exact HO_326004.out⟩, ⟨by (with_reducible repeat (first | refine blk_drewN ?_ _ | refine blk_drew ?_ | refine blk_alloc ?_ _)); exact BK325.out⟩, ⟨by repeat (first | (with_reducible first | exact HB.out | apply below_alloc | apply pw_below_drewN | apply below_drew1 | refine below_set ?_ GE325.out) | exact HB.out)⟩⟩
         ·
          rw [if_neg c49] at H
          have c49b0 : decide (x7_2 < (t345.length : Int)) = false := decide_eq_false c49
          clear c49
          replace H := Option.bind_eq_some_iff.mp H
          obtain ⟨t369, A630, H⟩ := H
          replace H : (some t369) = some r := H
          have A63 := Aside0.mk A630
          clear A630
          obtain rfl := Option.some.inj H
          go_wp2_with (first | ((with_reducible refine gate_callee (f := 13) rfl ?_); refine goesL_ (some 121) rfl rfl Try.func13 (by kernel_rfl) rfl #[] rfl (by (try simp only [List.map_toArray, List.map_cons, List.map_nil]); first | done | rfl | (simp only [List.length_drop, List.length_take]; rfl)) ?_; (with_reducible refine (bivouaclaw21_awake.calls k2  t369 _ A63.out).mono ?_); rintro e w64 ⟨rfl, hb⟩; refine ⟨_, rfl, ?_⟩; have n0_ := Aside0.mk (Kd.R_below (by (with_reducible repeat (first | apply Kd.R_alloc | apply Kd.R_drewN | apply Kd.R_drew)); exact HO_3.out) hb); have n1_ := Aside0.mk (Kd.R_below (by (with_reducible repeat (first | apply Kd.R_alloc | apply Kd.R_drewN | apply Kd.R_drew)); exact HO_5.out) hb); have n2_ := Aside0.mk (Kd.V_below (by (with_reducible repeat (first | apply Kd.V_alloc | apply Kd.V_drewN | apply Kd.V_drew)); exact HO_326003.out) hb); have n3_ := Aside0.mk (Kd.V_below (by (with_reducible repeat (first | apply Kd.V_alloc | apply Kd.V_drewN | apply Kd.V_drew)); exact HO_326004.out) hb); have n4_ := Aside0.mk (blk_below (g := gb325) (o := .cells #[.int .i64 t326, .int .i64 t327, .int .i64 t328, .slice Ao12 t329.length co12, .slice Ao13 t332.length co13, .int .i64 t335, .int .i64 t336, .int .i64 t337, .int .i64 t338, .int .i64 t339, .int .i64 t340, .int .i64 t341, .int .i64 t342, .int .i64 t343, .int .i64 t344] 29 (0, 0)) (by (with_reducible repeat (first | refine blk_drewN ?_ _ | refine blk_drew ?_ | refine blk_alloc ?_ _)); exact BK325.out) hb); have n5_ := Aside0.mk (below_step (by repeat (first | (with_reducible first | exact HB.out | apply below_alloc | apply pw_below_drewN | apply below_drew1 | refine below_set ?_ GE325.out) | exact HB.out)) hb); clear HO_3; clear HO_5; clear HO_326003; clear HO_326004; clear BK325; clear HB; have HO_3 := n0_; have HO_5 := n1_; have HO_326003 := n2_; have HO_326004 := n3_; have BK325 := n4_; have HB := n5_; clear n0_ n1_ n2_ n3_ n4_ n5_; (try clear hb); (try clear hb2); (try clear hk); (try clear hi)))
          go_ret
          exact ⟨by first | rfl | (simp [errW_none, errW_some] <;> rfl) | (simp [*, errW_none, errW_some] <;> rfl) | (rw [Int.tdiv_eq_ediv_of_nonneg (by assumption)]; rfl), by repeat (first | (with_reducible first | exact HB.out | apply below_alloc | apply pw_below_drewN | apply below_drew1 | refine below_set ?_ GE325.out) | exact HB.out)⟩
      ·
       rw [if_neg c46] at H
       exact absurd H (by simp)
  ·
   rw [if_neg c5] at H
   exact absurd H (by simp)
 ·
  rw [if_neg c4] at H
  exact absurd H (by simp)

/-- THE ONE PURE STATEMENT of bivouaclaw21_SightMore. -/
def bivouaclaw21_SightMore.Pure : Prop := ∀ (a0_0 : Int) (a0_1 : Int) (a0_2 : Int) (l0_3 : List Int) (l0_4 : List (S27)) (a0_5 : Int) (a0_6 : Int) (a0_7 : Int) (a0_8 : Int) (a0_9 : Int) (a0_10 : Int) (a0_11 : Int) (a0_12 : Int) (a0_13 : Int) (a0_14 : Int), (Lit.int .i64 a0_0).wf = true → (Lit.int .i64 a0_1).wf = true → (Lit.int .i64 a0_2).wf = true → l0_3.length ≤ maxLen → (∀ x ∈ l0_3, (Lit.int .u8 x).wf = true) → l0_4.length ≤ maxLen → (∀ x ∈ l0_4, (Lit.int .i64 x.f0).wf = true ∧ (Lit.int .i64 x.f1).wf = true ∧ (Lit.int .i64 x.f2).wf = true ∧ (Lit.int .i64 x.f3).wf = true ∧ (Lit.int .i64 x.f4).wf = true ∧ (Lit.int .i64 x.f5).wf = true ∧ (Lit.int .i64 x.f6).wf = true ∧ (Lit.int .i64 x.f7).wf = true) → (Lit.int .i64 a0_5).wf = true → (Lit.int .i64 a0_6).wf = true → (Lit.int .i64 a0_7).wf = true → (Lit.int .i64 a0_8).wf = true → (Lit.int .i64 a0_9).wf = true → (Lit.int .i64 a0_10).wf = true → (Lit.int .i64 a0_11).wf = true → (Lit.int .i64 a0_12).wf = true → (Lit.int .i64 a0_13).wf = true → (Lit.int .i64 a0_14).wf = true → ∃ k, bivouaclaw21_SightMore.f k a0_0 a0_1 a0_2 l0_3 l0_4 a0_5 a0_6 a0_7 a0_8 a0_9 a0_10 a0_11 a0_12 a0_13 a0_14 = some true
theorem bivouaclaw21_SightMore.walked : True := trivial

end Go.Proofs.Yteihieihoeijdaa.PA
