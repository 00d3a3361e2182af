-- WRITTEN BY A PROGRAM OF THIS SESSION (a turned copy of the kit's printer), for this claim. Nothing here is trusted: Lean checks it.
import Derived.Test.YtdmmlidgipedaaaDoorPAx0
import Derived.Test.YtdmmlidgipedaaaDoorPAx1
import Derived.Test.YtdmmlidgipedaaaDoorPAx2
import Derived.Test.YtdmmlidgipedaaaDoorPAx4
import Derived.Test.YtdmmlidgipedaaaDoorPAx27
import Derived.Test.YtdmmlidgipedaaaDoorGAaimSolve
namespace Go.Proofs.YtdmmlidgipedaaaDoor.PA
open Go.RowKit Go.Proofs.YtdmmlidgipedaaaDoorW.PrintWords Go.Proofs.YtdmmlidgipedaaaDoorW.PrintLast Go.Proofs.YtdmmlidgipedaaaDoorW.PrintMore
attribute [local go_sem] max2_int min2_int max_two min_two max_three min_three max_four min_four   -- for this text's walks alone
set_option linter.unusedVariables false
set_option linter.unusedSimpArgs false

attribute [local go_sem high] eqA26
/-! ### bivouactop_BivouacGuns: function 3 -/
def bivouactop_BivouacGuns.j0 : Nat → Bool → Int → Int → Int → List Int → Int → Int → Int → Int → Int → Int → Int → Int → Int → Int → Int → Int → Int → Int → Int → Int → Int → Int → Int → Int → Option (Bool)
 | 0, _, _, _, _, _, _, _, _, _, _, _, _, _, _, _, _, _, _, _, _, _, _, _, _, _ => none
 | k + 1, x72, x193000, x193001, x193002, x193003, x193004, x193005, x193006, x193007, x193008, x193009, x193010, x193011, x193012, x193013, x193014, x193015, x220000, x220001, x220002, x220003, x220004, x220005, x220006, x220007 => if x72 = true then (none) else (if x193013 < 0 then (some true) else (if x193013 > 9999 then (some true) else ((blast_Hurts.f k x220002 x220003 x193013 2 (wrap64 ((wrap64 ((wrap64 (Int.tdiv x193010 65536)) * 65536)) + (wrap64 (x193014)))) (wrap64 ((wrap64 ((wrap64 (Int.tdiv x193011 65536)) * 65536)) + (wrap64 (x193015))))).bind fun t220 => (if t220 ≥ (wrap64 (Int.tdiv x193013 2)) then (some (decide (t220 ≤ x193013))) else (none)))))
def bivouactop_BivouacGuns.f (k : Nat) (a0_0 : Int) (a0_1 : Int) (a0_2 : Int) (l0_3 : List Int) (a0_4 : Int) (a0_5 : Int) (a0_6 : Int) (a0_7 : Int) (a0_8 : Int) (a0_9 : Int) (a0_10 : Int) (a0_11 : Int) (a0_12 : Int) (a0_13 : Int) (a0_14 : Int) (a0_15 : Int) : Option (Bool) := (bivouactop_few.f a0_0 a0_1 a0_2 l0_3).bind fun bt193 => ((blast_Hurts.f k 0 0 100 2 0 0).bind fun t200 => (if t200 = 100 then ((aim_Solve.f k bt193.1 bt193.2.1 bt193.2.2.1 bt193.2.2.2 a0_4 a0_5 a0_6 a0_7 a0_8 a0_9 a0_10 a0_11 a0_12).bind fun bt201 => (if bt201.2.2.2.2.2.2.2 = 0 then ((shot_Fly.f k bt193.1 bt193.2.1 bt193.2.2.1 bt193.2.2.2 bt201.1 bt201.2.1 bt201.2.2.1 bt201.2.2.2.1 bt201.2.2.2.2.1 bt201.2.2.2.2.2.1 1024).bind fun bt210 => (if bt210.2.2.2.2.2.2.2.2 = 0 then (if bt210.2.1 = 1 then (if (wrap64 (Int.tdiv bt210.2.2.1 65536)) = (wrap64 (Int.tdiv a0_10 65536)) then (bivouactop_BivouacGuns.j0 k ((wrap64 (Int.tdiv bt210.2.2.2.1 65536)) != (wrap64 (Int.tdiv a0_11 65536))) a0_0 a0_1 a0_2 l0_3 a0_4 a0_5 a0_6 a0_7 a0_8 a0_9 a0_10 a0_11 a0_12 a0_13 a0_14 a0_15 bt210.1 bt210.2.1 bt210.2.2.1 bt210.2.2.2.1 bt210.2.2.2.2.1 bt210.2.2.2.2.2.1 bt210.2.2.2.2.2.2.1 bt210.2.2.2.2.2.2.2.1) else (bivouactop_BivouacGuns.j0 k true a0_0 a0_1 a0_2 l0_3 a0_4 a0_5 a0_6 a0_7 a0_8 a0_9 a0_10 a0_11 a0_12 a0_13 a0_14 a0_15 bt210.1 bt210.2.1 bt210.2.2.1 bt210.2.2.2.1 bt210.2.2.2.2.1 bt210.2.2.2.2.2.1 bt210.2.2.2.2.2.2.1 bt210.2.2.2.2.2.2.2.1)) else (if bt210.2.1 = 2 then (if (wrap64 (Int.tdiv bt210.2.2.1 65536)) = (wrap64 (Int.tdiv a0_10 65536)) then (bivouactop_BivouacGuns.j0 k ((wrap64 (Int.tdiv bt210.2.2.2.1 65536)) != (wrap64 (Int.tdiv a0_11 65536))) a0_0 a0_1 a0_2 l0_3 a0_4 a0_5 a0_6 a0_7 a0_8 a0_9 a0_10 a0_11 a0_12 a0_13 a0_14 a0_15 bt210.1 bt210.2.1 bt210.2.2.1 bt210.2.2.2.1 bt210.2.2.2.2.1 bt210.2.2.2.2.2.1 bt210.2.2.2.2.2.2.1 bt210.2.2.2.2.2.2.2.1) else (bivouactop_BivouacGuns.j0 k true a0_0 a0_1 a0_2 l0_3 a0_4 a0_5 a0_6 a0_7 a0_8 a0_9 a0_10 a0_11 a0_12 a0_13 a0_14 a0_15 bt210.1 bt210.2.1 bt210.2.2.1 bt210.2.2.2.1 bt210.2.2.2.2.1 bt210.2.2.2.2.2.1 bt210.2.2.2.2.2.2.1 bt210.2.2.2.2.2.2.2.1)) else (bivouactop_BivouacGuns.j0 k true a0_0 a0_1 a0_2 l0_3 a0_4 a0_5 a0_6 a0_7 a0_8 a0_9 a0_10 a0_11 a0_12 a0_13 a0_14 a0_15 bt210.1 bt210.2.1 bt210.2.2.1 bt210.2.2.2.1 bt210.2.2.2.2.1 bt210.2.2.2.2.2.1 bt210.2.2.2.2.2.2.1 bt210.2.2.2.2.2.2.2.1))) else (bivouactop_BivouacGuns.j0 k true a0_0 a0_1 a0_2 l0_3 a0_4 a0_5 a0_6 a0_7 a0_8 a0_9 a0_10 a0_11 a0_12 a0_13 a0_14 a0_15 bt210.1 bt210.2.1 bt210.2.2.1 bt210.2.2.2.1 bt210.2.2.2.2.1 bt210.2.2.2.2.2.1 bt210.2.2.2.2.2.2.1 bt210.2.2.2.2.2.2.2.1))) else (some (bt201.1 == 0 && (bt201.2.1 == 0 && (bt201.2.2.1 == 0 && (bt201.2.2.2.1 == 0 && (bt201.2.2.2.2.1 == 0 && (bt201.2.2.2.2.2.1 == 0))))))))) else (none)))
theorem bivouactop_BivouacGuns.mono_l : ∀ k, (∀ y0 y1 y2 y3 y4 y5 y6 y7 y8 y9 y10 y11 y12 y13 y14 y15 y16 y17 y18 y19 y20 y21 y22 y23 y24, LeO (bivouactop_BivouacGuns.j0 k y0 y1 y2 y3 y4 y5 y6 y7 y8 y9 y10 y11 y12 y13 y14 y15 y16 y17 y18 y19 y20 y21 y22 y23 y24) (bivouactop_BivouacGuns.j0 (k + 1) y0 y1 y2 y3 y4 y5 y6 y7 y8 y9 y10 y11 y12 y13 y14 y15 y16 y17 y18 y19 y20 y21 y22 y23 y24))
 | 0 => fun _ _ _ _ _ _ _ _ _ _ _ _ _ _ _ _ _ _ _ _ _ _ _ _ _ r h => by simp [bivouactop_BivouacGuns.j0] at h
 | k + 1 => by
  have ih0 := bivouactop_BivouacGuns.mono_l k
  ·
   intro y0 y1 y2 y3 y4 y5 y6 y7 y8 y9 y10 y11 y12 y13 y14 y15 y16 y17 y18 y19 y20 y21 y22 y23 y24
   unfold bivouactop_BivouacGuns.j0
   repeat' first
   | (with_reducible exact ih0 _ _ _ _ _ _ _ _ _ _ _ _ _ _ _ _ _ _ _ _ _ _ _ _ _)
   | (with_reducible exact aim_Solve.mono _ _ _ _ _ _ _ _ _ _ _ _ _ _)
   | (with_reducible exact blast_Hurts.mono _ _ _ _ _ _ _)
   | (with_reducible exact shot_Fly.mono _ _ _ _ _ _ _ _ _ _ _ _)
   | (with_reducible exact LeO.refl _)
   | (with_reducible exact LeO.none _)
   | (with_reducible refine LeO.ite ?_ ?_)
   | (with_reducible refine LeO.bind ?_ (fun _ => ?_))
   | exact ih0 _ _ _ _ _ _ _ _ _ _ _ _ _ _ _ _ _ _ _ _ _ _ _ _ _
   | exact aim_Solve.mono _ _ _ _ _ _ _ _ _ _ _ _ _ _
   | exact blast_Hurts.mono _ _ _ _ _ _ _
   | exact shot_Fly.mono _ _ _ _ _ _ _ _ _ _ _ _
   | exact LeO.none _
   | refine LeO.ite ?_ ?_
   | refine LeO.bind ?_ (fun _ => ?_)
theorem bivouactop_BivouacGuns.mono : ∀ a0 a1 a2 a3 a4 a5 a6 a7 a8 a9 a10 a11 a12 a13 a14 a15 k, LeO (bivouactop_BivouacGuns.f k a0 a1 a2 a3 a4 a5 a6 a7 a8 a9 a10 a11 a12 a13 a14 a15) (bivouactop_BivouacGuns.f (k + 1) a0 a1 a2 a3 a4 a5 a6 a7 a8 a9 a10 a11 a12 a13 a14 a15) := by
 intro a0 a1 a2 a3 a4 a5 a6 a7 a8 a9 a10 a11 a12 a13 a14 a15 k
 have ih0 := bivouactop_BivouacGuns.mono_l k
 unfold bivouactop_BivouacGuns.f
 repeat' first
   | (with_reducible exact ih0 _ _ _ _ _ _ _ _ _ _ _ _ _ _ _ _ _ _ _ _ _ _ _ _ _)
   | (with_reducible exact aim_Solve.mono _ _ _ _ _ _ _ _ _ _ _ _ _ _)
   | (with_reducible exact blast_Hurts.mono _ _ _ _ _ _ _)
   | (with_reducible exact shot_Fly.mono _ _ _ _ _ _ _ _ _ _ _ _)
   | (with_reducible exact LeO.refl _)
   | (with_reducible exact LeO.none _)
   | (with_reducible refine LeO.ite ?_ ?_)
   | (with_reducible refine LeO.bind ?_ (fun _ => ?_))
   | exact ih0 _ _ _ _ _ _ _ _ _ _ _ _ _ _ _ _ _ _ _ _ _ _ _ _ _
   | exact aim_Solve.mono _ _ _ _ _ _ _ _ _ _ _ _ _ _
   | exact blast_Hurts.mono _ _ _ _ _ _ _
   | exact shot_Fly.mono _ _ _ _ _ _ _ _ _ _ _ _
   | exact LeO.none _
   | refine LeO.ite ?_ ?_
   | refine LeO.bind ?_ (fun _ => ?_)
set_option maxHeartbeats 8000000 in
set_option maxRecDepth 100000 in
theorem bivouactop_BivouacGuns.calls (k : Nat) (a0_0 : Int) (a0_1 : Int) (a0_2 : Int) (A0_3 : Option Addr) (c0_3 : Nat) (l0_3 : List Int) (a0_4 : Int) (a0_5 : Int) (a0_6 : Int) (a0_7 : Int) (a0_8 : Int) (a0_9 : Int) (a0_10 : Int) (a0_11 : Int) (a0_12 : Int) (a0_13 : Int) (a0_14 : Int) (a0_15 : Int) (r : Bool) (w : World) (hT : TB w) (hr0_3 : Kd.C (Kd.int .u8) w A0_3 l0_3.length l0_3) (hc0_3 : l0_3.length ≤ c0_3) (h : bivouactop_BivouacGuns.f k a0_0 a0_1 a0_2 l0_3 a0_4 a0_5 a0_6 a0_7 a0_8 a0_9 a0_10 a0_11 a0_12 a0_13 a0_14 a0_15 = some r) :
  Calls Tryd.prog 3 #[.agg #[.int .i64 a0_0, .int .i64 a0_1, .int .i64 a0_2, .slice A0_3 l0_3.length c0_3, .int .i64 a0_4, .int .i64 a0_5, .int .i64 a0_6, .int .i64 a0_7, .int .i64 a0_8, .int .i64 a0_9, .int .i64 a0_10, .int .i64 a0_11, .int .i64 a0_12, .int .i64 a0_13, .int .u16 a0_14, .int .u16 a0_15]] w fun e w' => e = .returned (.bool r) ∧ Below w.heap.size w w' := by
 have HT := Aside0.mk hT
 clear hT
 have hu29 := Tryd.underlying29
 have hu24 := Tryd.underlying24
 have hu33 := Tryd.underlying33
 have hu26 := Tryd.underlying26
 have hu38 := Tryd.underlying38
 have HR0_3 := Aside0.mk hr0_3
 have HC0_3 := Aside0.mk hc0_3
 clear hr0_3 hc0_3
 have HB := Aside0.mk (Below.refl w.heap.size w)
 have H : ((bivouactop_few.f a0_0 a0_1 a0_2 l0_3).bind fun bt193 => ((blast_Hurts.f k 0 0 100 2 0 0).bind fun t200 => (if t200 = 100 then ((aim_Solve.f k bt193.1 bt193.2.1 bt193.2.2.1 bt193.2.2.2 a0_4 a0_5 a0_6 a0_7 a0_8 a0_9 a0_10 a0_11 a0_12).bind fun bt201 => (if bt201.2.2.2.2.2.2.2 = 0 then ((shot_Fly.f k bt193.1 bt193.2.1 bt193.2.2.1 bt193.2.2.2 bt201.1 bt201.2.1 bt201.2.2.1 bt201.2.2.2.1 bt201.2.2.2.2.1 bt201.2.2.2.2.2.1 1024).bind fun bt210 => (if bt210.2.2.2.2.2.2.2.2 = 0 then (if bt210.2.1 = 1 then (if (wrap64 (Int.tdiv bt210.2.2.1 65536)) = (wrap64 (Int.tdiv a0_10 65536)) then (bivouactop_BivouacGuns.j0 k ((wrap64 (Int.tdiv bt210.2.2.2.1 65536)) != (wrap64 (Int.tdiv a0_11 65536))) a0_0 a0_1 a0_2 l0_3 a0_4 a0_5 a0_6 a0_7 a0_8 a0_9 a0_10 a0_11 a0_12 a0_13 a0_14 a0_15 bt210.1 bt210.2.1 bt210.2.2.1 bt210.2.2.2.1 bt210.2.2.2.2.1 bt210.2.2.2.2.2.1 bt210.2.2.2.2.2.2.1 bt210.2.2.2.2.2.2.2.1) else (bivouactop_BivouacGuns.j0 k true a0_0 a0_1 a0_2 l0_3 a0_4 a0_5 a0_6 a0_7 a0_8 a0_9 a0_10 a0_11 a0_12 a0_13 a0_14 a0_15 bt210.1 bt210.2.1 bt210.2.2.1 bt210.2.2.2.1 bt210.2.2.2.2.1 bt210.2.2.2.2.2.1 bt210.2.2.2.2.2.2.1 bt210.2.2.2.2.2.2.2.1)) else (if bt210.2.1 = 2 then (if (wrap64 (Int.tdiv bt210.2.2.1 65536)) = (wrap64 (Int.tdiv a0_10 65536)) then (bivouactop_BivouacGuns.j0 k ((wrap64 (Int.tdiv bt210.2.2.2.1 65536)) != (wrap64 (Int.tdiv a0_11 65536))) a0_0 a0_1 a0_2 l0_3 a0_4 a0_5 a0_6 a0_7 a0_8 a0_9 a0_10 a0_11 a0_12 a0_13 a0_14 a0_15 bt210.1 bt210.2.1 bt210.2.2.1 bt210.2.2.2.1 bt210.2.2.2.2.1 bt210.2.2.2.2.2.1 bt210.2.2.2.2.2.2.1 bt210.2.2.2.2.2.2.2.1) else (bivouactop_BivouacGuns.j0 k true a0_0 a0_1 a0_2 l0_3 a0_4 a0_5 a0_6 a0_7 a0_8 a0_9 a0_10 a0_11 a0_12 a0_13 a0_14 a0_15 bt210.1 bt210.2.1 bt210.2.2.1 bt210.2.2.2.1 bt210.2.2.2.2.1 bt210.2.2.2.2.2.1 bt210.2.2.2.2.2.2.1 bt210.2.2.2.2.2.2.2.1)) else (bivouactop_BivouacGuns.j0 k true a0_0 a0_1 a0_2 l0_3 a0_4 a0_5 a0_6 a0_7 a0_8 a0_9 a0_10 a0_11 a0_12 a0_13 a0_14 a0_15 bt210.1 bt210.2.1 bt210.2.2.1 bt210.2.2.2.1 bt210.2.2.2.2.1 bt210.2.2.2.2.2.1 bt210.2.2.2.2.2.2.1 bt210.2.2.2.2.2.2.2.1))) else (bivouactop_BivouacGuns.j0 k true a0_0 a0_1 a0_2 l0_3 a0_4 a0_5 a0_6 a0_7 a0_8 a0_9 a0_10 a0_11 a0_12 a0_13 a0_14 a0_15 bt210.1 bt210.2.1 bt210.2.2.1 bt210.2.2.2.1 bt210.2.2.2.2.1 bt210.2.2.2.2.2.1 bt210.2.2.2.2.2.2.1 bt210.2.2.2.2.2.2.2.1))) else (some (bt201.1 == 0 && (bt201.2.1 == 0 && (bt201.2.2.1 == 0 && (bt201.2.2.2.1 == 0 && (bt201.2.2.2.2.1 == 0 && (bt201.2.2.2.2.2.1 == 0))))))))) else (none)))) = some r := h
 clear h
 replace H := Option.bind_eq_some_iff.mp H
 obtain ⟨⟨t193, t194, t195, t196⟩, A20, H⟩ := H
 replace H : ((blast_Hurts.f k 0 0 100 2 0 0).bind fun t200 => (if t200 = 100 then ((aim_Solve.f k t193 t194 t195 t196 a0_4 a0_5 a0_6 a0_7 a0_8 a0_9 a0_10 a0_11 a0_12).bind fun bt201 => (if bt201.2.2.2.2.2.2.2 = 0 then ((shot_Fly.f k t193 t194 t195 t196 bt201.1 bt201.2.1 bt201.2.2.1 bt201.2.2.2.1 bt201.2.2.2.2.1 bt201.2.2.2.2.2.1 1024).bind fun bt210 => (if bt210.2.2.2.2.2.2.2.2 = 0 then (if bt210.2.1 = 1 then (if (wrap64 (Int.tdiv bt210.2.2.1 65536)) = (wrap64 (Int.tdiv a0_10 65536)) then (bivouactop_BivouacGuns.j0 k ((wrap64 (Int.tdiv bt210.2.2.2.1 65536)) != (wrap64 (Int.tdiv a0_11 65536))) a0_0 a0_1 a0_2 l0_3 a0_4 a0_5 a0_6 a0_7 a0_8 a0_9 a0_10 a0_11 a0_12 a0_13 a0_14 a0_15 bt210.1 bt210.2.1 bt210.2.2.1 bt210.2.2.2.1 bt210.2.2.2.2.1 bt210.2.2.2.2.2.1 bt210.2.2.2.2.2.2.1 bt210.2.2.2.2.2.2.2.1) else (bivouactop_BivouacGuns.j0 k true a0_0 a0_1 a0_2 l0_3 a0_4 a0_5 a0_6 a0_7 a0_8 a0_9 a0_10 a0_11 a0_12 a0_13 a0_14 a0_15 bt210.1 bt210.2.1 bt210.2.2.1 bt210.2.2.2.1 bt210.2.2.2.2.1 bt210.2.2.2.2.2.1 bt210.2.2.2.2.2.2.1 bt210.2.2.2.2.2.2.2.1)) else (if bt210.2.1 = 2 then (if (wrap64 (Int.tdiv bt210.2.2.1 65536)) = (wrap64 (Int.tdiv a0_10 65536)) then (bivouactop_BivouacGuns.j0 k ((wrap64 (Int.tdiv bt210.2.2.2.1 65536)) != (wrap64 (Int.tdiv a0_11 65536))) a0_0 a0_1 a0_2 l0_3 a0_4 a0_5 a0_6 a0_7 a0_8 a0_9 a0_10 a0_11 a0_12 a0_13 a0_14 a0_15 bt210.1 bt210.2.1 bt210.2.2.1 bt210.2.2.2.1 bt210.2.2.2.2.1 bt210.2.2.2.2.2.1 bt210.2.2.2.2.2.2.1 bt210.2.2.2.2.2.2.2.1) else (bivouactop_BivouacGuns.j0 k true a0_0 a0_1 a0_2 l0_3 a0_4 a0_5 a0_6 a0_7 a0_8 a0_9 a0_10 a0_11 a0_12 a0_13 a0_14 a0_15 bt210.1 bt210.2.1 bt210.2.2.1 bt210.2.2.2.1 bt210.2.2.2.2.1 bt210.2.2.2.2.2.1 bt210.2.2.2.2.2.2.1 bt210.2.2.2.2.2.2.2.1)) else (bivouactop_BivouacGuns.j0 k true a0_0 a0_1 a0_2 l0_3 a0_4 a0_5 a0_6 a0_7 a0_8 a0_9 a0_10 a0_11 a0_12 a0_13 a0_14 a0_15 bt210.1 bt210.2.1 bt210.2.2.1 bt210.2.2.2.1 bt210.2.2.2.2.1 bt210.2.2.2.2.2.1 bt210.2.2.2.2.2.2.1 bt210.2.2.2.2.2.2.2.1))) else (bivouactop_BivouacGuns.j0 k true a0_0 a0_1 a0_2 l0_3 a0_4 a0_5 a0_6 a0_7 a0_8 a0_9 a0_10 a0_11 a0_12 a0_13 a0_14 a0_15 bt210.1 bt210.2.1 bt210.2.2.1 bt210.2.2.2.1 bt210.2.2.2.2.1 bt210.2.2.2.2.2.1 bt210.2.2.2.2.2.2.1 bt210.2.2.2.2.2.2.2.1))) else (some (bt201.1 == 0 && (bt201.2.1 == 0 && (bt201.2.2.1 == 0 && (bt201.2.2.2.1 == 0 && (bt201.2.2.2.2.1 == 0 && (bt201.2.2.2.2.2.1 == 0))))))))) else (none))) = some r := H
 have A2 := Aside0.mk A20
 clear A20
 replace H := Option.bind_eq_some_iff.mp H
 obtain ⟨t200, A30, H⟩ := H
 replace H : (if t200 = 100 then ((aim_Solve.f k t193 t194 t195 t196 a0_4 a0_5 a0_6 a0_7 a0_8 a0_9 a0_10 a0_11 a0_12).bind fun bt201 => (if bt201.2.2.2.2.2.2.2 = 0 then ((shot_Fly.f k t193 t194 t195 t196 bt201.1 bt201.2.1 bt201.2.2.1 bt201.2.2.2.1 bt201.2.2.2.2.1 bt201.2.2.2.2.2.1 1024).bind fun bt210 => (if bt210.2.2.2.2.2.2.2.2 = 0 then (if bt210.2.1 = 1 then (if (wrap64 (Int.tdiv bt210.2.2.1 65536)) = (wrap64 (Int.tdiv a0_10 65536)) then (bivouactop_BivouacGuns.j0 k ((wrap64 (Int.tdiv bt210.2.2.2.1 65536)) != (wrap64 (Int.tdiv a0_11 65536))) a0_0 a0_1 a0_2 l0_3 a0_4 a0_5 a0_6 a0_7 a0_8 a0_9 a0_10 a0_11 a0_12 a0_13 a0_14 a0_15 bt210.1 bt210.2.1 bt210.2.2.1 bt210.2.2.2.1 bt210.2.2.2.2.1 bt210.2.2.2.2.2.1 bt210.2.2.2.2.2.2.1 bt210.2.2.2.2.2.2.2.1) else (bivouactop_BivouacGuns.j0 k true a0_0 a0_1 a0_2 l0_3 a0_4 a0_5 a0_6 a0_7 a0_8 a0_9 a0_10 a0_11 a0_12 a0_13 a0_14 a0_15 bt210.1 bt210.2.1 bt210.2.2.1 bt210.2.2.2.1 bt210.2.2.2.2.1 bt210.2.2.2.2.2.1 bt210.2.2.2.2.2.2.1 bt210.2.2.2.2.2.2.2.1)) else (if bt210.2.1 = 2 then (if (wrap64 (Int.tdiv bt210.2.2.1 65536)) = (wrap64 (Int.tdiv a0_10 65536)) then (bivouactop_BivouacGuns.j0 k ((wrap64 (Int.tdiv bt210.2.2.2.1 65536)) != (wrap64 (Int.tdiv a0_11 65536))) a0_0 a0_1 a0_2 l0_3 a0_4 a0_5 a0_6 a0_7 a0_8 a0_9 a0_10 a0_11 a0_12 a0_13 a0_14 a0_15 bt210.1 bt210.2.1 bt210.2.2.1 bt210.2.2.2.1 bt210.2.2.2.2.1 bt210.2.2.2.2.2.1 bt210.2.2.2.2.2.2.1 bt210.2.2.2.2.2.2.2.1) else (bivouactop_BivouacGuns.j0 k true a0_0 a0_1 a0_2 l0_3 a0_4 a0_5 a0_6 a0_7 a0_8 a0_9 a0_10 a0_11 a0_12 a0_13 a0_14 a0_15 bt210.1 bt210.2.1 bt210.2.2.1 bt210.2.2.2.1 bt210.2.2.2.2.1 bt210.2.2.2.2.2.1 bt210.2.2.2.2.2.2.1 bt210.2.2.2.2.2.2.2.1)) else (bivouactop_BivouacGuns.j0 k true a0_0 a0_1 a0_2 l0_3 a0_4 a0_5 a0_6 a0_7 a0_8 a0_9 a0_10 a0_11 a0_12 a0_13 a0_14 a0_15 bt210.1 bt210.2.1 bt210.2.2.1 bt210.2.2.2.1 bt210.2.2.2.2.1 bt210.2.2.2.2.2.1 bt210.2.2.2.2.2.2.1 bt210.2.2.2.2.2.2.2.1))) else (bivouactop_BivouacGuns.j0 k true a0_0 a0_1 a0_2 l0_3 a0_4 a0_5 a0_6 a0_7 a0_8 a0_9 a0_10 a0_11 a0_12 a0_13 a0_14 a0_15 bt210.1 bt210.2.1 bt210.2.2.1 bt210.2.2.2.1 bt210.2.2.2.2.1 bt210.2.2.2.2.2.1 bt210.2.2.2.2.2.2.1 bt210.2.2.2.2.2.2.2.1))) else (some (bt201.1 == 0 && (bt201.2.1 == 0 && (bt201.2.2.1 == 0 && (bt201.2.2.2.1 == 0 && (bt201.2.2.2.2.1 == 0 && (bt201.2.2.2.2.2.1 == 0))))))))) else (none)) = some r := H
 have A3 := Aside0.mk A30
 clear A30
 by_cases c4 : t200 = 100
 ·
  rw [if_pos c4] at H
  have c4b0 : (t200 == 100) = true := beq_iff_eq.mpr c4
  have c4b1 : (t200 != 100) = false := bne_eq_false_iff_eq.mpr c4
  clear c4
  replace H := Option.bind_eq_some_iff.mp H
  obtain ⟨⟨t201, t202, t203, t204, t205, t206, t207, t208⟩, A50, H⟩ := H
  replace H : (if t208 = 0 then ((shot_Fly.f k t193 t194 t195 t196 t201 t202 t203 t204 t205 t206 1024).bind fun bt210 => (if bt210.2.2.2.2.2.2.2.2 = 0 then (if bt210.2.1 = 1 then (if (wrap64 (Int.tdiv bt210.2.2.1 65536)) = (wrap64 (Int.tdiv a0_10 65536)) then (bivouactop_BivouacGuns.j0 k ((wrap64 (Int.tdiv bt210.2.2.2.1 65536)) != (wrap64 (Int.tdiv a0_11 65536))) a0_0 a0_1 a0_2 l0_3 a0_4 a0_5 a0_6 a0_7 a0_8 a0_9 a0_10 a0_11 a0_12 a0_13 a0_14 a0_15 bt210.1 bt210.2.1 bt210.2.2.1 bt210.2.2.2.1 bt210.2.2.2.2.1 bt210.2.2.2.2.2.1 bt210.2.2.2.2.2.2.1 bt210.2.2.2.2.2.2.2.1) else (bivouactop_BivouacGuns.j0 k true a0_0 a0_1 a0_2 l0_3 a0_4 a0_5 a0_6 a0_7 a0_8 a0_9 a0_10 a0_11 a0_12 a0_13 a0_14 a0_15 bt210.1 bt210.2.1 bt210.2.2.1 bt210.2.2.2.1 bt210.2.2.2.2.1 bt210.2.2.2.2.2.1 bt210.2.2.2.2.2.2.1 bt210.2.2.2.2.2.2.2.1)) else (if bt210.2.1 = 2 then (if (wrap64 (Int.tdiv bt210.2.2.1 65536)) = (wrap64 (Int.tdiv a0_10 65536)) then (bivouactop_BivouacGuns.j0 k ((wrap64 (Int.tdiv bt210.2.2.2.1 65536)) != (wrap64 (Int.tdiv a0_11 65536))) a0_0 a0_1 a0_2 l0_3 a0_4 a0_5 a0_6 a0_7 a0_8 a0_9 a0_10 a0_11 a0_12 a0_13 a0_14 a0_15 bt210.1 bt210.2.1 bt210.2.2.1 bt210.2.2.2.1 bt210.2.2.2.2.1 bt210.2.2.2.2.2.1 bt210.2.2.2.2.2.2.1 bt210.2.2.2.2.2.2.2.1) else (bivouactop_BivouacGuns.j0 k true a0_0 a0_1 a0_2 l0_3 a0_4 a0_5 a0_6 a0_7 a0_8 a0_9 a0_10 a0_11 a0_12 a0_13 a0_14 a0_15 bt210.1 bt210.2.1 bt210.2.2.1 bt210.2.2.2.1 bt210.2.2.2.2.1 bt210.2.2.2.2.2.1 bt210.2.2.2.2.2.2.1 bt210.2.2.2.2.2.2.2.1)) else (bivouactop_BivouacGuns.j0 k true a0_0 a0_1 a0_2 l0_3 a0_4 a0_5 a0_6 a0_7 a0_8 a0_9 a0_10 a0_11 a0_12 a0_13 a0_14 a0_15 bt210.1 bt210.2.1 bt210.2.2.1 bt210.2.2.2.1 bt210.2.2.2.2.1 bt210.2.2.2.2.2.1 bt210.2.2.2.2.2.2.1 bt210.2.2.2.2.2.2.2.1))) else (bivouactop_BivouacGuns.j0 k true a0_0 a0_1 a0_2 l0_3 a0_4 a0_5 a0_6 a0_7 a0_8 a0_9 a0_10 a0_11 a0_12 a0_13 a0_14 a0_15 bt210.1 bt210.2.1 bt210.2.2.1 bt210.2.2.2.1 bt210.2.2.2.2.1 bt210.2.2.2.2.2.1 bt210.2.2.2.2.2.2.1 bt210.2.2.2.2.2.2.2.1))) else (some (t201 == 0 && (t202 == 0 && (t203 == 0 && (t204 == 0 && (t205 == 0 && (t206 == 0)))))))) = some r := H
  have A5 := Aside0.mk A50
  clear A50
  by_cases c6 : t208 = 0
  ·
   rw [if_pos c6] at H
   have c6b0 : (t208 == 0) = true := beq_iff_eq.mpr c6
   have c6b1 : (t208 != 0) = false := bne_eq_false_iff_eq.mpr c6
   clear c6
   replace H := Option.bind_eq_some_iff.mp H
   obtain ⟨⟨t210, t211, t212, t213, t214, t215, t216, t217, t218⟩, A70, H⟩ := H
   replace H : (if t218 = 0 then (if t211 = 1 then (if (wrap64 (Int.tdiv t212 65536)) = (wrap64 (Int.tdiv a0_10 65536)) then (bivouactop_BivouacGuns.j0 k ((wrap64 (Int.tdiv t213 65536)) != (wrap64 (Int.tdiv a0_11 65536))) a0_0 a0_1 a0_2 l0_3 a0_4 a0_5 a0_6 a0_7 a0_8 a0_9 a0_10 a0_11 a0_12 a0_13 a0_14 a0_15 t210 t211 t212 t213 t214 t215 t216 t217) else (bivouactop_BivouacGuns.j0 k true a0_0 a0_1 a0_2 l0_3 a0_4 a0_5 a0_6 a0_7 a0_8 a0_9 a0_10 a0_11 a0_12 a0_13 a0_14 a0_15 t210 t211 t212 t213 t214 t215 t216 t217)) else (if t211 = 2 then (if (wrap64 (Int.tdiv t212 65536)) = (wrap64 (Int.tdiv a0_10 65536)) then (bivouactop_BivouacGuns.j0 k ((wrap64 (Int.tdiv t213 65536)) != (wrap64 (Int.tdiv a0_11 65536))) a0_0 a0_1 a0_2 l0_3 a0_4 a0_5 a0_6 a0_7 a0_8 a0_9 a0_10 a0_11 a0_12 a0_13 a0_14 a0_15 t210 t211 t212 t213 t214 t215 t216 t217) else (bivouactop_BivouacGuns.j0 k true a0_0 a0_1 a0_2 l0_3 a0_4 a0_5 a0_6 a0_7 a0_8 a0_9 a0_10 a0_11 a0_12 a0_13 a0_14 a0_15 t210 t211 t212 t213 t214 t215 t216 t217)) else (bivouactop_BivouacGuns.j0 k true a0_0 a0_1 a0_2 l0_3 a0_4 a0_5 a0_6 a0_7 a0_8 a0_9 a0_10 a0_11 a0_12 a0_13 a0_14 a0_15 t210 t211 t212 t213 t214 t215 t216 t217))) else (bivouactop_BivouacGuns.j0 k true a0_0 a0_1 a0_2 l0_3 a0_4 a0_5 a0_6 a0_7 a0_8 a0_9 a0_10 a0_11 a0_12 a0_13 a0_14 a0_15 t210 t211 t212 t213 t214 t215 t216 t217)) = some r := H
   have A7 := Aside0.mk A70
   clear A70
   have HC8 := Aside0.mk H
   clear H
   go_enter Tryd.func3, Tryd.ntmps3
   go_upto_region 8 with (first | ((with_reducible refine gate_dst (N := 1) rfl ?_); refine box_event ?hg (N := 1) ?hd (cs := #[.int .i64 a0_0, .int .i64 a0_1, .int .i64 a0_2, .slice A0_3 l0_3.length c0_3, .int .i64 a0_4, .int .i64 a0_5, .int .i64 a0_6, .int .i64 a0_7, .int .i64 a0_8, .int .i64 a0_9, .int .i64 a0_10, .int .i64 a0_11, .int .i64 a0_12, .int .i64 a0_13, .int .u16 a0_14, .int .u16 a0_15]) (t := 29) ?hr ?_; (case hd => rfl); (case hg => rfl); (case hr => first | (go_simp; done) | (go_simp; rfl)); intro gb192 hg w9 hbox hb; have n0_ := Aside0.mk (below_step (by repeat (first | (with_reducible first | exact HB.out | apply below_alloc | apply pw_below_drewN | apply below_drew1) | exact HB.out)) hb); have n1_ := Aside0.mk (hbox); have n2_ := Aside0.mk ((by rw [hg]; exact (below_size (by repeat (first | (with_reducible first | exact HB.out | apply below_alloc | apply pw_below_drewN | apply below_drew1) | exact HB.out))) : w.heap.size ≤ gb192)); have n3_ := Aside0.mk ((by rw [hg]; exact (below_size (by repeat (first | (with_reducible first | exact HB.out | apply below_alloc | apply pw_below_drewN | apply below_drew1) | exact HB.out))) : w.heap.size ≤ gb192)); clear HB; have HB := n0_; have BK192 := n1_; have GW192 := n2_; have GE192 := n3_; clear n0_ n1_ n2_ n3_; clear hb hbox hg; have hcz10_0 : w9.cell? ⟨gb192, 0, none⟩ = some (.int .i64 a0_0) := (blk_cell BK192.out 0).trans rfl; have hcz10_1 : w9.cell? ⟨gb192, 1, none⟩ = some (.int .i64 a0_1) := (blk_cell BK192.out 1).trans rfl; have hcz10_2 : w9.cell? ⟨gb192, 2, none⟩ = some (.int .i64 a0_2) := (blk_cell BK192.out 2).trans rfl; have hcz10_3 : w9.cell? ⟨gb192, 3, none⟩ = some (.slice A0_3 l0_3.length c0_3) := (blk_cell BK192.out 3).trans rfl; have hcz10_4 : w9.cell? ⟨gb192, 4, none⟩ = some (.int .i64 a0_4) := (blk_cell BK192.out 4).trans rfl; have hcz10_5 : w9.cell? ⟨gb192, 5, none⟩ = some (.int .i64 a0_5) := (blk_cell BK192.out 5).trans rfl; have hcz10_6 : w9.cell? ⟨gb192, 6, none⟩ = some (.int .i64 a0_6) := (blk_cell BK192.out 6).trans rfl; have hcz10_7 : w9.cell? ⟨gb192, 7, none⟩ = some (.int .i64 a0_7) := (blk_cell BK192.out 7).trans rfl; have hcz10_8 : w9.cell? ⟨gb192, 8, none⟩ = some (.int .i64 a0_8) := (blk_cell BK192.out 8).trans rfl; have hcz10_9 : w9.cell? ⟨gb192, 9, none⟩ = some (.int .i64 a0_9) := (blk_cell BK192.out 9).trans rfl; have hcz10_10 : w9.cell? ⟨gb192, 10, none⟩ = some (.int .i64 a0_10) := (blk_cell BK192.out 10).trans rfl; have hcz10_11 : w9.cell? ⟨gb192, 11, none⟩ = some (.int .i64 a0_11) := (blk_cell BK192.out 11).trans rfl; have hcz10_12 : w9.cell? ⟨gb192, 12, none⟩ = some (.int .i64 a0_12) := (blk_cell BK192.out 12).trans rfl; have hcz10_13 : w9.cell? ⟨gb192, 13, none⟩ = some (.int .i64 a0_13) := (blk_cell BK192.out 13).trans rfl; have hcz10_14 : w9.cell? ⟨gb192, 14, none⟩ = some (.int .u16 a0_14) := (blk_cell BK192.out 14).trans rfl; have hcz10_15 : w9.cell? ⟨gb192, 15, none⟩ = some (.int .u16 a0_15) := (blk_cell BK192.out 15).trans rfl; have hfz10_0 := blk_frozen BK192.out 0; have hfz10_1 := blk_frozen BK192.out 1; have hfz10_2 := blk_frozen BK192.out 2; have hfz10_3 := blk_frozen BK192.out 3; have hfz10_4 := blk_frozen BK192.out 4; have hfz10_5 := blk_frozen BK192.out 5; have hfz10_6 := blk_frozen BK192.out 6; have hfz10_7 := blk_frozen BK192.out 7; have hfz10_8 := blk_frozen BK192.out 8; have hfz10_9 := blk_frozen BK192.out 9; have hfz10_10 := blk_frozen BK192.out 10; have hfz10_11 := blk_frozen BK192.out 11; have hfz10_12 := blk_frozen BK192.out 12; have hfz10_13 := blk_frozen BK192.out 13; have hfz10_14 := blk_frozen BK192.out 14; have hfz10_15 := blk_frozen BK192.out 15) | ((with_reducible refine gate_callee (f := 4) rfl ?_); refine goesL_ (some 12) rfl rfl Tryd.func4 (by kernel_rfl) rfl #[.agg #[.int .i64 a0_0, .int .i64 a0_1, .int .i64 a0_2, .slice A0_3 l0_3.length c0_3]] rfl (by (try simp only [List.map_toArray, List.map_cons, List.map_nil]); first | done | rfl | (simp only [List.length_drop, List.length_take]; rfl)) ?_; (with_reducible refine (bivouactop_few.calls a0_0 a0_1 a0_2 (fun k_ => k_ < w.heap.size) _ _ l0_3 t193 t194 t195 t196 _ ?side1 A2.out).mono ?_); (case side1 => exact Kd.V_mk HC0_3.out (Kd.F_below (Kd.C_F (Kd.heap_int .u8) HR0_3.out) (by repeat (first | (with_reducible first | exact HB.out | apply below_alloc | apply pw_below_drewN | apply below_drew1 | refine below_set ?_ GE192.out) | exact HB.out)))); rintro e w11 ⟨v197, rfl, ho0, hb⟩; refine ⟨_, rfl, ?_⟩; have n0_ := Aside0.mk (Kd.V_lower (Kd.V_mono (ok' := fun k_ => k_ ≠ gb192) ho0 (fun k_ hk_ => Or.elim hk_ (fun hs_ => fun e_ => Nat.not_le.2 hs_ (by rw [e_]; exact GW192.out)) (fun hn_ => (Kd.freshB (g := gb192) (o := .cells #[.int .i64 a0_0, .int .i64 a0_1, .int .i64 a0_2, .slice A0_3 l0_3.length c0_3, .int .i64 a0_4, .int .i64 a0_5, .int .i64 a0_6, .int .i64 a0_7, .int .i64 a0_8, .int .i64 a0_9, .int .i64 a0_10, .int .i64 a0_11, .int .i64 a0_12, .int .i64 a0_13, .int .u16 a0_14, .int .u16 a0_15] 29 (0, 0)) (by (with_reducible repeat (first | refine blk_drewN ?_ _ | refine blk_drew ?_ | refine blk_alloc ?_ _)); exact BK192.out) k_ hn_)))) (below_size (by repeat (first | (with_reducible first | exact HB.out | apply below_alloc | apply pw_below_drewN | apply below_drew1 | refine below_set ?_ GE192.out) | exact HB.out)))); have n1_ := Aside0.mk (blk_below (g := gb192) (o := .cells #[.int .i64 a0_0, .int .i64 a0_1, .int .i64 a0_2, .slice A0_3 l0_3.length c0_3, .int .i64 a0_4, .int .i64 a0_5, .int .i64 a0_6, .int .i64 a0_7, .int .i64 a0_8, .int .i64 a0_9, .int .i64 a0_10, .int .i64 a0_11, .int .i64 a0_12, .int .i64 a0_13, .int .u16 a0_14, .int .u16 a0_15] 29 (0, 0)) (by (with_reducible repeat (first | refine blk_drewN ?_ _ | refine blk_drew ?_ | refine blk_alloc ?_ _)); exact BK192.out) hb); have n2_ := Aside0.mk (below_step (by repeat (first | (with_reducible first | exact HB.out | apply below_alloc | apply pw_below_drewN | apply below_drew1 | refine below_set ?_ GE192.out) | exact HB.out)) hb); clear BK192; clear HB; have HO198 := n0_; have BK192 := n1_; have HB := n2_; clear n0_ n1_ n2_; (try clear hb); (try clear hb2); (try clear hk); (try clear hi); (try clear ho0)) | ((with_reducible refine gate_dst (N := 3) rfl ?_); refine box_event ?hg (N := 3) ?hd (cs := #[.int .i64 0, .int .i64 0, .int .i64 0, .slice none 0 0]) (t := 24) ?hr ?_; (case hd => rfl); (case hg => rfl); (case hr => first | (go_simp; done) | (go_simp; rfl)); intro gb199 hg w12 hbox hb; have n0_ := Aside0.mk (Kd.V_below (Kd.V_elderB (by (with_reducible repeat (first | apply Kd.V_alloc | apply Kd.V_drewN | apply Kd.V_drew)); exact HO198.out) gb199 (Nat.le_of_eq hg.symm)) hb); have n1_ := Aside0.mk (blk_below (g := gb192) (o := .cells #[.int .i64 a0_0, .int .i64 a0_1, .int .i64 a0_2, .slice A0_3 l0_3.length c0_3, .int .i64 a0_4, .int .i64 a0_5, .int .i64 a0_6, .int .i64 a0_7, .int .i64 a0_8, .int .i64 a0_9, .int .i64 a0_10, .int .i64 a0_11, .int .i64 a0_12, .int .i64 a0_13, .int .u16 a0_14, .int .u16 a0_15] 29 (0, 0)) (by (with_reducible repeat (first | refine blk_drewN ?_ _ | refine blk_drew ?_ | refine blk_alloc ?_ _)); exact BK192.out) hb); have n2_ := Aside0.mk (below_step (by repeat (first | (with_reducible first | exact HB.out | apply below_alloc | apply pw_below_drewN | apply below_drew1 | refine below_set ?_ GE192.out) | exact HB.out)) hb); have n3_ := Aside0.mk (hbox); have n4_ := Aside0.mk ((by rw [hg]; exact (below_size (by repeat (first | (with_reducible first | exact HB.out | apply below_alloc | apply pw_below_drewN | apply below_drew1 | refine below_set ?_ GE192.out) | exact HB.out))) : w.heap.size ≤ gb199)); have n5_ := Aside0.mk ((by rw [hg]; exact (below_size (by repeat (first | (with_reducible first | exact HB.out | apply below_alloc | apply pw_below_drewN | apply below_drew1 | refine below_set ?_ GE192.out) | exact HB.out))) : w.heap.size ≤ gb199)); have n6_ := Aside0.mk ((by rw [hg]; exact Nat.ne_of_lt (blk_lt (g := gb192) (o := .cells #[.int .i64 a0_0, .int .i64 a0_1, .int .i64 a0_2, .slice A0_3 l0_3.length c0_3, .int .i64 a0_4, .int .i64 a0_5, .int .i64 a0_6, .int .i64 a0_7, .int .i64 a0_8, .int .i64 a0_9, .int .i64 a0_10, .int .i64 a0_11, .int .i64 a0_12, .int .i64 a0_13, .int .u16 a0_14, .int .u16 a0_15] 29 (0, 0)) (by (with_reducible repeat (first | refine blk_drewN ?_ _ | refine blk_drew ?_ | refine blk_alloc ?_ _)); exact BK192.out)) : gb192 ≠ gb199)); have n7_ := Aside0.mk ((by rw [hg]; exact Nat.ne_of_gt (blk_lt (g := gb192) (o := .cells #[.int .i64 a0_0, .int .i64 a0_1, .int .i64 a0_2, .slice A0_3 l0_3.length c0_3, .int .i64 a0_4, .int .i64 a0_5, .int .i64 a0_6, .int .i64 a0_7, .int .i64 a0_8, .int .i64 a0_9, .int .i64 a0_10, .int .i64 a0_11, .int .i64 a0_12, .int .i64 a0_13, .int .u16 a0_14, .int .u16 a0_15] 29 (0, 0)) (by (with_reducible repeat (first | refine blk_drewN ?_ _ | refine blk_drew ?_ | refine blk_alloc ?_ _)); exact BK192.out)) : gb199 ≠ gb192)); clear HO198; clear BK192; clear HB; have HO198 := n0_; have BK192 := n1_; have HB := n2_; have BK199 := n3_; have GW199 := n4_; have GE199 := n5_; have NB192_199 := n6_; have NB199_192 := n7_; clear n0_ n1_ n2_ n3_ n4_ n5_ n6_ n7_; clear hb hbox hg; have hnb13 := NB199_192.out; have hnc13 := NB192_199.out; have hcz14_0 : w12.cell? ⟨gb199, 0, none⟩ = some (.int .i64 0) := (blk_cell BK199.out 0).trans rfl; have hcz14_1 : w12.cell? ⟨gb199, 1, none⟩ = some (.int .i64 0) := (blk_cell BK199.out 1).trans rfl; have hcz14_2 : w12.cell? ⟨gb199, 2, none⟩ = some (.int .i64 0) := (blk_cell BK199.out 2).trans rfl; have hcz14_3 : w12.cell? ⟨gb199, 3, none⟩ = some (.slice none 0 0) := (blk_cell BK199.out 3).trans rfl; have hfz14_0 := blk_frozen BK199.out 0; have hfz14_1 := blk_frozen BK199.out 1; have hfz14_2 := blk_frozen BK199.out 2; have hfz14_3 := blk_frozen BK199.out 3; obtain ⟨Ao15, co15, eo15⟩ := Kd.V_slice HO198.out; subst eo15) | ((with_reducible refine gate_callee (f := 5) rfl ?_); refine goesL_ (some 14) rfl rfl Tryd.func5 (by kernel_rfl) rfl #[.agg #[.int .i64 0, .int .i64 0, .int .i64 100, .int .i64 2], .int .i64 0, .int .i64 0] rfl (by (try simp only [List.map_toArray, List.map_cons, List.map_nil]); first | done | rfl | (simp only [List.length_drop, List.length_take]; rfl)) ?_; (with_reducible refine (blast_Hurts.calls k 0 0 100 2 0 0 t200 _ A3.out).mono ?_); rintro e w16 ⟨rfl, hb⟩; refine ⟨_, rfl, ?_⟩; have n0_ := Aside0.mk (Kd.V_below (by (with_reducible repeat (first | apply Kd.V_alloc | apply Kd.V_drewN | apply Kd.V_drew)); exact (Kd.V_mono (Kd.V_far (p := ⟨gb199, 3, none⟩) (Kd.V_far (p := ⟨gb199, 2, none⟩) (Kd.V_far (p := ⟨gb199, 1, none⟩) (Kd.V_far (p := ⟨gb199, 0, none⟩) (Kd.V_mono HO198.out (fun k_ hk => (⟨hk, hk.2⟩ : _ ∧ k_ ≠ gb199))) (fun _ hk => hk.2) (.int .i64 t193)) (fun _ hk => hk.2) (.int .i64 t194)) (fun _ hk => hk.2) (.int .i64 t195)) (fun _ hk => hk.2) (.slice Ao15 t196.length co15)) (fun _ h_ => h_.1))) hb); have n1_ := Aside0.mk (blk_below (g := gb192) (o := .cells #[.int .i64 a0_0, .int .i64 a0_1, .int .i64 a0_2, .slice A0_3 l0_3.length c0_3, .int .i64 a0_4, .int .i64 a0_5, .int .i64 a0_6, .int .i64 a0_7, .int .i64 a0_8, .int .i64 a0_9, .int .i64 a0_10, .int .i64 a0_11, .int .i64 a0_12, .int .i64 a0_13, .int .u16 a0_14, .int .u16 a0_15] 29 (0, 0)) (by (with_reducible repeat (first | refine blk_drewN ?_ _ | refine blk_drew ?_ | refine blk_alloc ?_ _)); refine blk_far ?_ NB192_199.out _; (with_reducible repeat (first | refine blk_drewN ?_ _ | refine blk_drew ?_ | refine blk_alloc ?_ _)); refine blk_far ?_ NB192_199.out _; (with_reducible repeat (first | refine blk_drewN ?_ _ | refine blk_drew ?_ | refine blk_alloc ?_ _)); refine blk_far ?_ NB192_199.out _; (with_reducible repeat (first | refine blk_drewN ?_ _ | refine blk_drew ?_ | refine blk_alloc ?_ _)); refine blk_far ?_ NB192_199.out _; (with_reducible repeat (first | refine blk_drewN ?_ _ | refine blk_drew ?_ | refine blk_alloc ?_ _)); exact BK192.out) hb); have n2_ := Aside0.mk (blk_below (g := gb199) (o := .cells #[.int .i64 t193, .int .i64 t194, .int .i64 t195, .slice Ao15 t196.length co15] 24 (0, 0)) (by (with_reducible repeat (first | refine blk_drewN ?_ _ | refine blk_drew ?_ | refine blk_alloc ?_ _)); refine blk_put (cs := #[.int .i64 t193, .int .i64 t194, .int .i64 t195, .slice none 0 0]) ?_ 3 _ rfl; (with_reducible repeat (first | refine blk_drewN ?_ _ | refine blk_drew ?_ | refine blk_alloc ?_ _)); refine blk_put (cs := #[.int .i64 t193, .int .i64 t194, .int .i64 0, .slice none 0 0]) ?_ 2 _ rfl; (with_reducible repeat (first | refine blk_drewN ?_ _ | refine blk_drew ?_ | refine blk_alloc ?_ _)); refine blk_put (cs := #[.int .i64 t193, .int .i64 0, .int .i64 0, .slice none 0 0]) ?_ 1 _ rfl; (with_reducible repeat (first | refine blk_drewN ?_ _ | refine blk_drew ?_ | refine blk_alloc ?_ _)); refine blk_put (cs := #[.int .i64 0, .int .i64 0, .int .i64 0, .slice none 0 0]) ?_ 0 _ rfl; (with_reducible repeat (first | refine blk_drewN ?_ _ | refine blk_drew ?_ | refine blk_alloc ?_ _)); exact BK199.out) hb); have n3_ := Aside0.mk (below_step (by repeat (first | (with_reducible first | exact HB.out | apply below_alloc | apply pw_below_drewN | apply below_drew1 | refine below_set ?_ GE192.out | refine below_set ?_ GE199.out) | exact HB.out)) hb); clear HO198; clear BK192; clear BK199; clear HB; have HO198 := n0_; have BK192 := n1_; have BK199 := n2_; have HB := n3_; clear n0_ n1_ n2_ n3_; (try clear hb); (try clear hb2); (try clear hk); (try clear hi); have hcz17_0 : w16.cell? ⟨gb199, 0, none⟩ = some (.int .i64 t193) := (blk_cell BK199.out 0).trans rfl; have hcz17_1 : w16.cell? ⟨gb199, 1, none⟩ = some (.int .i64 t194) := (blk_cell BK199.out 1).trans rfl; have hcz17_2 : w16.cell? ⟨gb199, 2, none⟩ = some (.int .i64 t195) := (blk_cell BK199.out 2).trans rfl; have hcz17_3 : w16.cell? ⟨gb199, 3, none⟩ = some (.slice Ao15 t196.length co15) := (blk_cell BK199.out 3).trans rfl; have hfz17_0 := blk_frozen BK199.out 0; have hfz17_1 := blk_frozen BK199.out 1; have hfz17_2 := blk_frozen BK199.out 2; have hfz17_3 := blk_frozen BK199.out 3; have hcz18_0 : w16.cell? ⟨gb192, 0, none⟩ = some (.int .i64 a0_0) := (blk_cell BK192.out 0).trans rfl; have hcz18_1 : w16.cell? ⟨gb192, 1, none⟩ = some (.int .i64 a0_1) := (blk_cell BK192.out 1).trans rfl; have hcz18_2 : w16.cell? ⟨gb192, 2, none⟩ = some (.int .i64 a0_2) := (blk_cell BK192.out 2).trans rfl; have hcz18_3 : w16.cell? ⟨gb192, 3, none⟩ = some (.slice A0_3 l0_3.length c0_3) := (blk_cell BK192.out 3).trans rfl; have hcz18_4 : w16.cell? ⟨gb192, 4, none⟩ = some (.int .i64 a0_4) := (blk_cell BK192.out 4).trans rfl; have hcz18_5 : w16.cell? ⟨gb192, 5, none⟩ = some (.int .i64 a0_5) := (blk_cell BK192.out 5).trans rfl; have hcz18_6 : w16.cell? ⟨gb192, 6, none⟩ = some (.int .i64 a0_6) := (blk_cell BK192.out 6).trans rfl; have hcz18_7 : w16.cell? ⟨gb192, 7, none⟩ = some (.int .i64 a0_7) := (blk_cell BK192.out 7).trans rfl; have hcz18_8 : w16.cell? ⟨gb192, 8, none⟩ = some (.int .i64 a0_8) := (blk_cell BK192.out 8).trans rfl; have hcz18_9 : w16.cell? ⟨gb192, 9, none⟩ = some (.int .i64 a0_9) := (blk_cell BK192.out 9).trans rfl; have hcz18_10 : w16.cell? ⟨gb192, 10, none⟩ = some (.int .i64 a0_10) := (blk_cell BK192.out 10).trans rfl; have hcz18_11 : w16.cell? ⟨gb192, 11, none⟩ = some (.int .i64 a0_11) := (blk_cell BK192.out 11).trans rfl; have hcz18_12 : w16.cell? ⟨gb192, 12, none⟩ = some (.int .i64 a0_12) := (blk_cell BK192.out 12).trans rfl; have hcz18_13 : w16.cell? ⟨gb192, 13, none⟩ = some (.int .i64 a0_13) := (blk_cell BK192.out 13).trans rfl; have hcz18_14 : w16.cell? ⟨gb192, 14, none⟩ = some (.int .u16 a0_14) := (blk_cell BK192.out 14).trans rfl; have hcz18_15 : w16.cell? ⟨gb192, 15, none⟩ = some (.int .u16 a0_15) := (blk_cell BK192.out 15).trans rfl; have hfz18_0 := blk_frozen BK192.out 0; have hfz18_1 := blk_frozen BK192.out 1; have hfz18_2 := blk_frozen BK192.out 2; have hfz18_3 := blk_frozen BK192.out 3; have hfz18_4 := blk_frozen BK192.out 4; have hfz18_5 := blk_frozen BK192.out 5; have hfz18_6 := blk_frozen BK192.out 6; have hfz18_7 := blk_frozen BK192.out 7; have hfz18_8 := blk_frozen BK192.out 8; have hfz18_9 := blk_frozen BK192.out 9; have hfz18_10 := blk_frozen BK192.out 10; have hfz18_11 := blk_frozen BK192.out 11; have hfz18_12 := blk_frozen BK192.out 12; have hfz18_13 := blk_frozen BK192.out 13; have hfz18_14 := blk_frozen BK192.out 14; have hfz18_15 := blk_frozen BK192.out 15) | ((with_reducible refine gate_callee (f := 6) rfl ?_); refine goesL_ (some 26) rfl rfl Tryd.func6 (by kernel_rfl) rfl #[.agg #[.int .i64 t193, .int .i64 t194, .int .i64 t195, .slice Ao15 t196.length co15], .agg #[.int .i64 a0_4, .int .i64 a0_5, .int .i64 a0_6, .int .i64 a0_7, .int .i64 a0_8, .int .i64 a0_9], .int .i64 a0_10, .int .i64 a0_11, .int .i64 a0_12] rfl (by (try simp only [List.map_toArray, List.map_cons, List.map_nil]); first | done | rfl | (simp only [List.length_drop, List.length_take]; rfl)) ?_; (with_reducible refine (aim_Solve.calls k t193 t194 t195 _ _ t196 a0_4 a0_5 a0_6 a0_7 a0_8 a0_9 a0_10 a0_11 a0_12 t201 t202 t203 t204 t205 t206 t207 t208 _ ?sideT ?side1 ?side2 A5.out).mono ?_); (case sideT => exact HT.out.below (by repeat (first | (with_reducible first | exact HB.out | apply below_alloc | apply pw_below_drewN | apply below_drew1 | refine below_set ?_ GE192.out | refine below_set ?_ GE199.out) | exact HB.out))); (case side1 => repeat (first | exact (Kd.V_reads' HO198.out).2.2 | (with_reducible refine Kd.C_alloc ?_ _) | (with_reducible refine Kd.C_drewN ?_ _) | (with_reducible refine Kd.C_drew ?_))); (case side2 => exact (Kd.V_reads' HO198.out).2.1); rintro e w19 ⟨rfl, hb⟩; refine ⟨_, rfl, ?_⟩; have n0_ := Aside0.mk (Kd.V_below (by (with_reducible repeat (first | apply Kd.V_alloc | apply Kd.V_drewN | apply Kd.V_drew)); exact HO198.out) hb); have n1_ := Aside0.mk (blk_below (g := gb192) (o := .cells #[.int .i64 a0_0, .int .i64 a0_1, .int .i64 a0_2, .slice A0_3 l0_3.length c0_3, .int .i64 a0_4, .int .i64 a0_5, .int .i64 a0_6, .int .i64 a0_7, .int .i64 a0_8, .int .i64 a0_9, .int .i64 a0_10, .int .i64 a0_11, .int .i64 a0_12, .int .i64 a0_13, .int .u16 a0_14, .int .u16 a0_15] 29 (0, 0)) (by (with_reducible repeat (first | refine blk_drewN ?_ _ | refine blk_drew ?_ | refine blk_alloc ?_ _)); exact BK192.out) hb); have n2_ := Aside0.mk (blk_below (g := gb199) (o := .cells #[.int .i64 t193, .int .i64 t194, .int .i64 t195, .slice Ao15 t196.length co15] 24 (0, 0)) (by (with_reducible repeat (first | refine blk_drewN ?_ _ | refine blk_drew ?_ | refine blk_alloc ?_ _)); exact BK199.out) hb); have n3_ := Aside0.mk (below_step (by repeat (first | (with_reducible first | exact HB.out | apply below_alloc | apply pw_below_drewN | apply below_drew1 | refine below_set ?_ GE192.out | refine below_set ?_ GE199.out) | exact HB.out)) hb); clear HO198; clear BK192; clear BK199; clear HB; have HO198 := n0_; have BK192 := n1_; have BK199 := n2_; have HB := n3_; clear n0_ n1_ n2_ n3_; (try clear hb); (try clear hb2); (try clear hk); (try clear hi)) | ((with_reducible refine gate_dst (N := 4) rfl ?_); refine box_event ?hg (N := 4) ?hd (cs := #[.int .i64 0, .int .i64 0, .int .i64 0, .int .i64 0, .int .i64 0, .int .i64 0]) (t := 26) ?hr ?_; (case hd => rfl); (case hg => rfl); (case hr => first | (go_simp; done) | (go_simp; rfl)); intro gb209 hg w20 hbox hb; have n0_ := Aside0.mk (Kd.V_below (Kd.V_elderB (by (with_reducible repeat (first | apply Kd.V_alloc | apply Kd.V_drewN | apply Kd.V_drew)); exact HO198.out) gb209 (Nat.le_of_eq hg.symm)) hb); have n1_ := Aside0.mk (blk_below (g := gb192) (o := .cells #[.int .i64 a0_0, .int .i64 a0_1, .int .i64 a0_2, .slice A0_3 l0_3.length c0_3, .int .i64 a0_4, .int .i64 a0_5, .int .i64 a0_6, .int .i64 a0_7, .int .i64 a0_8, .int .i64 a0_9, .int .i64 a0_10, .int .i64 a0_11, .int .i64 a0_12, .int .i64 a0_13, .int .u16 a0_14, .int .u16 a0_15] 29 (0, 0)) (by (with_reducible repeat (first | refine blk_drewN ?_ _ | refine blk_drew ?_ | refine blk_alloc ?_ _)); exact BK192.out) hb); have n2_ := Aside0.mk (blk_below (g := gb199) (o := .cells #[.int .i64 t193, .int .i64 t194, .int .i64 t195, .slice Ao15 t196.length co15] 24 (0, 0)) (by (with_reducible repeat (first | refine blk_drewN ?_ _ | refine blk_drew ?_ | refine blk_alloc ?_ _)); exact BK199.out) hb); have n3_ := Aside0.mk (below_step (by repeat (first | (with_reducible first | exact HB.out | apply below_alloc | apply pw_below_drewN | apply below_drew1 | refine below_set ?_ GE192.out | refine below_set ?_ GE199.out) | exact HB.out)) hb); have n4_ := Aside0.mk (hbox); have n5_ := Aside0.mk ((by rw [hg]; exact (below_size (by repeat (first | (with_reducible first | exact HB.out | apply below_alloc | apply pw_below_drewN | apply below_drew1 | refine below_set ?_ GE192.out | refine below_set ?_ GE199.out) | exact HB.out))) : w.heap.size ≤ gb209)); have n6_ := Aside0.mk ((by rw [hg]; exact (below_size (by repeat (first | (with_reducible first | exact HB.out | apply below_alloc | apply pw_below_drewN | apply below_drew1 | refine below_set ?_ GE192.out | refine below_set ?_ GE199.out) | exact HB.out))) : w.heap.size ≤ gb209)); have n7_ := Aside0.mk ((by rw [hg]; exact Nat.ne_of_lt (blk_lt (g := gb192) (o := .cells #[.int .i64 a0_0, .int .i64 a0_1, .int .i64 a0_2, .slice A0_3 l0_3.length c0_3, .int .i64 a0_4, .int .i64 a0_5, .int .i64 a0_6, .int .i64 a0_7, .int .i64 a0_8, .int .i64 a0_9, .int .i64 a0_10, .int .i64 a0_11, .int .i64 a0_12, .int .i64 a0_13, .int .u16 a0_14, .int .u16 a0_15] 29 (0, 0)) (by (with_reducible repeat (first | refine blk_drewN ?_ _ | refine blk_drew ?_ | refine blk_alloc ?_ _)); exact BK192.out)) : gb192 ≠ gb209)); have n8_ := Aside0.mk ((by rw [hg]; exact Nat.ne_of_gt (blk_lt (g := gb192) (o := .cells #[.int .i64 a0_0, .int .i64 a0_1, .int .i64 a0_2, .slice A0_3 l0_3.length c0_3, .int .i64 a0_4, .int .i64 a0_5, .int .i64 a0_6, .int .i64 a0_7, .int .i64 a0_8, .int .i64 a0_9, .int .i64 a0_10, .int .i64 a0_11, .int .i64 a0_12, .int .i64 a0_13, .int .u16 a0_14, .int .u16 a0_15] 29 (0, 0)) (by (with_reducible repeat (first | refine blk_drewN ?_ _ | refine blk_drew ?_ | refine blk_alloc ?_ _)); exact BK192.out)) : gb209 ≠ gb192)); have n9_ := Aside0.mk ((by rw [hg]; exact Nat.ne_of_lt (blk_lt (g := gb199) (o := .cells #[.int .i64 t193, .int .i64 t194, .int .i64 t195, .slice Ao15 t196.length co15] 24 (0, 0)) (by (with_reducible repeat (first | refine blk_drewN ?_ _ | refine blk_drew ?_ | refine blk_alloc ?_ _)); exact BK199.out)) : gb199 ≠ gb209)); have n10_ := Aside0.mk ((by rw [hg]; exact Nat.ne_of_gt (blk_lt (g := gb199) (o := .cells #[.int .i64 t193, .int .i64 t194, .int .i64 t195, .slice Ao15 t196.length co15] 24 (0, 0)) (by (with_reducible repeat (first | refine blk_drewN ?_ _ | refine blk_drew ?_ | refine blk_alloc ?_ _)); exact BK199.out)) : gb209 ≠ gb199)); clear HO198; clear BK192; clear BK199; clear HB; have HO198 := n0_; have BK192 := n1_; have BK199 := n2_; have HB := n3_; have BK209 := n4_; have GW209 := n5_; have GE209 := n6_; have NB192_209 := n7_; have NB209_192 := n8_; have NB199_209 := n9_; have NB209_199 := n10_; clear n0_ n1_ n2_ n3_ n4_ n5_ n6_ n7_ n8_ n9_ n10_; clear hb hbox hg; have hnb21 := NB209_192.out; have hnc21 := NB192_209.out; have hnb22 := NB209_199.out; have hnc22 := NB199_209.out; have hcz23_0 : w20.cell? ⟨gb209, 0, none⟩ = some (.int .i64 0) := (blk_cell BK209.out 0).trans rfl; have hcz23_1 : w20.cell? ⟨gb209, 1, none⟩ = some (.int .i64 0) := (blk_cell BK209.out 1).trans rfl; have hcz23_2 : w20.cell? ⟨gb209, 2, none⟩ = some (.int .i64 0) := (blk_cell BK209.out 2).trans rfl; have hcz23_3 : w20.cell? ⟨gb209, 3, none⟩ = some (.int .i64 0) := (blk_cell BK209.out 3).trans rfl; have hcz23_4 : w20.cell? ⟨gb209, 4, none⟩ = some (.int .i64 0) := (blk_cell BK209.out 4).trans rfl; have hcz23_5 : w20.cell? ⟨gb209, 5, none⟩ = some (.int .i64 0) := (blk_cell BK209.out 5).trans rfl; have hfz23_0 := blk_frozen BK209.out 0; have hfz23_1 := blk_frozen BK209.out 1; have hfz23_2 := blk_frozen BK209.out 2; have hfz23_3 := blk_frozen BK209.out 3; have hfz23_4 := blk_frozen BK209.out 4; have hfz23_5 := blk_frozen BK209.out 5; have hcz24_0 : w20.cell? ⟨gb199, 0, none⟩ = some (.int .i64 t193) := (blk_cell BK199.out 0).trans rfl; have hcz24_1 : w20.cell? ⟨gb199, 1, none⟩ = some (.int .i64 t194) := (blk_cell BK199.out 1).trans rfl; have hcz24_2 : w20.cell? ⟨gb199, 2, none⟩ = some (.int .i64 t195) := (blk_cell BK199.out 2).trans rfl; have hcz24_3 : w20.cell? ⟨gb199, 3, none⟩ = some (.slice Ao15 t196.length co15) := (blk_cell BK199.out 3).trans rfl; have hfz24_0 := blk_frozen BK199.out 0; have hfz24_1 := blk_frozen BK199.out 1; have hfz24_2 := blk_frozen BK199.out 2; have hfz24_3 := blk_frozen BK199.out 3) | ((with_reducible refine gate_callee (f := 7) rfl ?_); refine goesL_ (some 38) rfl rfl Tryd.func7 (by kernel_rfl) rfl #[.agg #[.int .i64 t193, .int .i64 t194, .int .i64 t195, .slice Ao15 t196.length co15], .agg #[.int .i64 t201, .int .i64 t202, .int .i64 t203, .int .i64 t204, .int .i64 t205, .int .i64 t206], .int .i64 1024] rfl (by (try simp only [List.map_toArray, List.map_cons, List.map_nil]); first | done | rfl | (simp only [List.length_drop, List.length_take]; rfl)) ?_; (with_reducible refine (shot_Fly.calls k t193 t194 t195 _ _ t196 t201 t202 t203 t204 t205 t206 1024 t210 t211 t212 t213 t214 t215 t216 t217 t218 _ ?side1 ?side2 A7.out).mono ?_); (case side1 => refine (Kd.V_reads' (e := 5) (base := w.heap.size) (ok := fun k_ => ((k_ ≠ gb192 ∧ k_ ≠ gb199) ∧ k_ ≠ gb209)) (n := t196.length) (c := co15) ?_).2.2; exact (by (with_reducible repeat (first | apply Kd.V_alloc | apply Kd.V_drewN | apply Kd.V_drew)); exact (Kd.V_mono (Kd.V_far (p := ⟨gb209, 5, none⟩) (Kd.V_far (p := ⟨gb209, 4, none⟩) (Kd.V_far (p := ⟨gb209, 3, none⟩) (Kd.V_far (p := ⟨gb209, 2, none⟩) (Kd.V_far (p := ⟨gb209, 1, none⟩) (Kd.V_far (p := ⟨gb209, 0, none⟩) (Kd.V_mono HO198.out (fun k_ hk => (⟨hk, hk.2⟩ : _ ∧ k_ ≠ gb209))) (fun _ hk => hk.2) (.int .i64 t201)) (fun _ hk => hk.2) (.int .i64 t202)) (fun _ hk => hk.2) (.int .i64 t203)) (fun _ hk => hk.2) (.int .i64 t204)) (fun _ hk => hk.2) (.int .i64 t205)) (fun _ hk => hk.2) (.int .i64 t206)) (fun _ h_ => h_.1)))); (case side2 => exact (Kd.V_reads' HO198.out).2.1); rintro e w25 ⟨rfl, hb⟩; refine ⟨_, rfl, ?_⟩; have n0_ := Aside0.mk (Kd.V_below (by (with_reducible repeat (first | apply Kd.V_alloc | apply Kd.V_drewN | apply Kd.V_drew)); exact (Kd.V_mono (Kd.V_far (p := ⟨gb209, 5, none⟩) (Kd.V_far (p := ⟨gb209, 4, none⟩) (Kd.V_far (p := ⟨gb209, 3, none⟩) (Kd.V_far (p := ⟨gb209, 2, none⟩) (Kd.V_far (p := ⟨gb209, 1, none⟩) (Kd.V_far (p := ⟨gb209, 0, none⟩) (Kd.V_mono HO198.out (fun k_ hk => (⟨hk, hk.2⟩ : _ ∧ k_ ≠ gb209))) (fun _ hk => hk.2) (.int .i64 t201)) (fun _ hk => hk.2) (.int .i64 t202)) (fun _ hk => hk.2) (.int .i64 t203)) (fun _ hk => hk.2) (.int .i64 t204)) (fun _ hk => hk.2) (.int .i64 t205)) (fun _ hk => hk.2) (.int .i64 t206)) (fun _ h_ => h_.1))) hb); have n1_ := Aside0.mk (blk_below (g := gb192) (o := .cells #[.int .i64 a0_0, .int .i64 a0_1, .int .i64 a0_2, .slice A0_3 l0_3.length c0_3, .int .i64 a0_4, .int .i64 a0_5, .int .i64 a0_6, .int .i64 a0_7, .int .i64 a0_8, .int .i64 a0_9, .int .i64 a0_10, .int .i64 a0_11, .int .i64 a0_12, .int .i64 a0_13, .int .u16 a0_14, .int .u16 a0_15] 29 (0, 0)) (by (with_reducible repeat (first | refine blk_drewN ?_ _ | refine blk_drew ?_ | refine blk_alloc ?_ _)); refine blk_far ?_ NB192_209.out _; (with_reducible repeat (first | refine blk_drewN ?_ _ | refine blk_drew ?_ | refine blk_alloc ?_ _)); refine blk_far ?_ NB192_209.out _; (with_reducible repeat (first | refine blk_drewN ?_ _ | refine blk_drew ?_ | refine blk_alloc ?_ _)); refine blk_far ?_ NB192_209.out _; (with_reducible repeat (first | refine blk_drewN ?_ _ | refine blk_drew ?_ | refine blk_alloc ?_ _)); refine blk_far ?_ NB192_209.out _; (with_reducible repeat (first | refine blk_drewN ?_ _ | refine blk_drew ?_ | refine blk_alloc ?_ _)); refine blk_far ?_ NB192_209.out _; (with_reducible repeat (first | refine blk_drewN ?_ _ | refine blk_drew ?_ | refine blk_alloc ?_ _)); refine blk_far ?_ NB192_209.out _; (with_reducible repeat (first | refine blk_drewN ?_ _ | refine blk_drew ?_ | refine blk_alloc ?_ _)); exact BK192.out) hb); have n2_ := Aside0.mk (blk_below (g := gb199) (o := .cells #[.int .i64 t193, .int .i64 t194, .int .i64 t195, .slice Ao15 t196.length co15] 24 (0, 0)) (by (with_reducible repeat (first | refine blk_drewN ?_ _ | refine blk_drew ?_ | refine blk_alloc ?_ _)); refine blk_far ?_ NB199_209.out _; (with_reducible repeat (first | refine blk_drewN ?_ _ | refine blk_drew ?_ | refine blk_alloc ?_ _)); refine blk_far ?_ NB199_209.out _; (with_reducible repeat (first | refine blk_drewN ?_ _ | refine blk_drew ?_ | refine blk_alloc ?_ _)); refine blk_far ?_ NB199_209.out _; (with_reducible repeat (first | refine blk_drewN ?_ _ | refine blk_drew ?_ | refine blk_alloc ?_ _)); refine blk_far ?_ NB199_209.out _; (with_reducible repeat (first | refine blk_drewN ?_ _ | refine blk_drew ?_ | refine blk_alloc ?_ _)); refine blk_far ?_ NB199_209.out _; (with_reducible repeat (first | refine blk_drewN ?_ _ | refine blk_drew ?_ | refine blk_alloc ?_ _)); refine blk_far ?_ NB199_209.out _; (with_reducible repeat (first | refine blk_drewN ?_ _ | refine blk_drew ?_ | refine blk_alloc ?_ _)); exact BK199.out) hb); have n3_ := Aside0.mk (blk_below (g := gb209) (o := .cells #[.int .i64 t201, .int .i64 t202, .int .i64 t203, .int .i64 t204, .int .i64 t205, .int .i64 t206] 26 (0, 0)) (by (with_reducible repeat (first | refine blk_drewN ?_ _ | refine blk_drew ?_ | refine blk_alloc ?_ _)); refine blk_put (cs := #[.int .i64 t201, .int .i64 t202, .int .i64 t203, .int .i64 t204, .int .i64 t205, .int .i64 0]) ?_ 5 _ rfl; (with_reducible repeat (first | refine blk_drewN ?_ _ | refine blk_drew ?_ | refine blk_alloc ?_ _)); refine blk_put (cs := #[.int .i64 t201, .int .i64 t202, .int .i64 t203, .int .i64 t204, .int .i64 0, .int .i64 0]) ?_ 4 _ rfl; (with_reducible repeat (first | refine blk_drewN ?_ _ | refine blk_drew ?_ | refine blk_alloc ?_ _)); refine blk_put (cs := #[.int .i64 t201, .int .i64 t202, .int .i64 t203, .int .i64 0, .int .i64 0, .int .i64 0]) ?_ 3 _ rfl; (with_reducible repeat (first | refine blk_drewN ?_ _ | refine blk_drew ?_ | refine blk_alloc ?_ _)); refine blk_put (cs := #[.int .i64 t201, .int .i64 t202, .int .i64 0, .int .i64 0, .int .i64 0, .int .i64 0]) ?_ 2 _ rfl; (with_reducible repeat (first | refine blk_drewN ?_ _ | refine blk_drew ?_ | refine blk_alloc ?_ _)); refine blk_put (cs := #[.int .i64 t201, .int .i64 0, .int .i64 0, .int .i64 0, .int .i64 0, .int .i64 0]) ?_ 1 _ rfl; (with_reducible repeat (first | refine blk_drewN ?_ _ | refine blk_drew ?_ | refine blk_alloc ?_ _)); refine blk_put (cs := #[.int .i64 0, .int .i64 0, .int .i64 0, .int .i64 0, .int .i64 0, .int .i64 0]) ?_ 0 _ rfl; (with_reducible repeat (first | refine blk_drewN ?_ _ | refine blk_drew ?_ | refine blk_alloc ?_ _)); exact BK209.out) hb); have n4_ := Aside0.mk (below_step (by repeat (first | (with_reducible first | exact HB.out | apply below_alloc | apply pw_below_drewN | apply below_drew1 | refine below_set ?_ GE192.out | refine below_set ?_ GE199.out | refine below_set ?_ GE209.out) | exact HB.out)) hb); clear HO198; clear BK192; clear BK199; clear BK209; clear HB; have HO198 := n0_; have BK192 := n1_; have BK199 := n2_; have BK209 := n3_; have HB := n4_; clear n0_ n1_ n2_ n3_ n4_; (try clear hb); (try clear hb2); (try clear hk); (try clear hi)) | ((with_reducible refine gate_dst (N := 7) rfl ?_); refine box_event ?hg (N := 7) ?hd (cs := #[.int .i64 0, .int .i64 0, .int .i64 0, .int .i64 0, .int .i64 0, .int .i64 0, .int .i64 0, .int .i64 0]) (t := 38) ?hr ?_; (case hd => rfl); (case hg => rfl); (case hr => first | (go_simp; done) | (go_simp; rfl)); intro gb219 hg w26 hbox hb; have n0_ := Aside0.mk (Kd.V_below (Kd.V_elderB (by (with_reducible repeat (first | apply Kd.V_alloc | apply Kd.V_drewN | apply Kd.V_drew)); exact HO198.out) gb219 (Nat.le_of_eq hg.symm)) hb); have n1_ := Aside0.mk (blk_below (g := gb192) (o := .cells #[.int .i64 a0_0, .int .i64 a0_1, .int .i64 a0_2, .slice A0_3 l0_3.length c0_3, .int .i64 a0_4, .int .i64 a0_5, .int .i64 a0_6, .int .i64 a0_7, .int .i64 a0_8, .int .i64 a0_9, .int .i64 a0_10, .int .i64 a0_11, .int .i64 a0_12, .int .i64 a0_13, .int .u16 a0_14, .int .u16 a0_15] 29 (0, 0)) (by (with_reducible repeat (first | refine blk_drewN ?_ _ | refine blk_drew ?_ | refine blk_alloc ?_ _)); exact BK192.out) hb); have n2_ := Aside0.mk (blk_below (g := gb199) (o := .cells #[.int .i64 t193, .int .i64 t194, .int .i64 t195, .slice Ao15 t196.length co15] 24 (0, 0)) (by (with_reducible repeat (first | refine blk_drewN ?_ _ | refine blk_drew ?_ | refine blk_alloc ?_ _)); exact BK199.out) hb); have n3_ := Aside0.mk (blk_below (g := gb209) (o := .cells #[.int .i64 t201, .int .i64 t202, .int .i64 t203, .int .i64 t204, .int .i64 t205, .int .i64 t206] 26 (0, 0)) (by (with_reducible repeat (first | refine blk_drewN ?_ _ | refine blk_drew ?_ | refine blk_alloc ?_ _)); exact BK209.out) hb); have n4_ := Aside0.mk (below_step (by repeat (first | (with_reducible first | exact HB.out | apply below_alloc | apply pw_below_drewN | apply below_drew1 | refine below_set ?_ GE192.out | refine below_set ?_ GE199.out | refine below_set ?_ GE209.out) | exact HB.out)) hb); have n5_ := Aside0.mk (hbox); have n6_ := Aside0.mk ((by rw [hg]; exact (below_size (by repeat (first | (with_reducible first | exact HB.out | apply below_alloc | apply pw_below_drewN | apply below_drew1 | refine below_set ?_ GE192.out | refine below_set ?_ GE199.out | refine below_set ?_ GE209.out) | exact HB.out))) : w.heap.size ≤ gb219)); have n7_ := Aside0.mk ((by rw [hg]; exact (below_size (by repeat (first | (with_reducible first | exact HB.out | apply below_alloc | apply pw_below_drewN | apply below_drew1 | refine below_set ?_ GE192.out | refine below_set ?_ GE199.out | refine below_set ?_ GE209.out) | exact HB.out))) : w.heap.size ≤ gb219)); have n8_ := Aside0.mk ((by rw [hg]; exact Nat.ne_of_lt (blk_lt (g := gb192) (o := .cells #[.int .i64 a0_0, .int .i64 a0_1, .int .i64 a0_2, .slice A0_3 l0_3.length c0_3, .int .i64 a0_4, .int .i64 a0_5, .int .i64 a0_6, .int .i64 a0_7, .int .i64 a0_8, .int .i64 a0_9, .int .i64 a0_10, .int .i64 a0_11, .int .i64 a0_12, .int .i64 a0_13, .int .u16 a0_14, .int .u16 a0_15] 29 (0, 0)) (by (with_reducible repeat (first | refine blk_drewN ?_ _ | refine blk_drew ?_ | refine blk_alloc ?_ _)); exact BK192.out)) : gb192 ≠ gb219)); have n9_ := Aside0.mk ((by rw [hg]; exact Nat.ne_of_gt (blk_lt (g := gb192) (o := .cells #[.int .i64 a0_0, .int .i64 a0_1, .int .i64 a0_2, .slice A0_3 l0_3.length c0_3, .int .i64 a0_4, .int .i64 a0_5, .int .i64 a0_6, .int .i64 a0_7, .int .i64 a0_8, .int .i64 a0_9, .int .i64 a0_10, .int .i64 a0_11, .int .i64 a0_12, .int .i64 a0_13, .int .u16 a0_14, .int .u16 a0_15] 29 (0, 0)) (by (with_reducible repeat (first | refine blk_drewN ?_ _ | refine blk_drew ?_ | refine blk_alloc ?_ _)); exact BK192.out)) : gb219 ≠ gb192)); have n10_ := Aside0.mk ((by rw [hg]; exact Nat.ne_of_lt (blk_lt (g := gb199) (o := .cells #[.int .i64 t193, .int .i64 t194, .int .i64 t195, .slice Ao15 t196.length co15] 24 (0, 0)) (by (with_reducible repeat (first | refine blk_drewN ?_ _ | refine blk_drew ?_ | refine blk_alloc ?_ _)); exact BK199.out)) : gb199 ≠ gb219)); have n11_ := Aside0.mk ((by rw [hg]; exact Nat.ne_of_gt (blk_lt (g := gb199) (o := .cells #[.int .i64 t193, .int .i64 t194, .int .i64 t195, .slice Ao15 t196.length co15] 24 (0, 0)) (by (with_reducible repeat (first | refine blk_drewN ?_ _ | refine blk_drew ?_ | refine blk_alloc ?_ _)); exact BK199.out)) : gb219 ≠ gb199)); have n12_ := Aside0.mk ((by rw [hg]; exact Nat.ne_of_lt (blk_lt (g := gb209) (o := .cells #[.int .i64 t201, .int .i64 t202, .int .i64 t203, .int .i64 t204, .int .i64 t205, .int .i64 t206] 26 (0, 0)) (by (with_reducible repeat (first | refine blk_drewN ?_ _ | refine blk_drew ?_ | refine blk_alloc ?_ _)); exact BK209.out)) : gb209 ≠ gb219)); have n13_ := Aside0.mk ((by rw [hg]; exact Nat.ne_of_gt (blk_lt (g := gb209) (o := .cells #[.int .i64 t201, .int .i64 t202, .int .i64 t203, .int .i64 t204, .int .i64 t205, .int .i64 t206] 26 (0, 0)) (by (with_reducible repeat (first | refine blk_drewN ?_ _ | refine blk_drew ?_ | refine blk_alloc ?_ _)); exact BK209.out)) : gb219 ≠ gb209)); clear HO198; clear BK192; clear BK199; clear BK209; clear HB; have HO198 := n0_; have BK192 := n1_; have BK199 := n2_; have BK209 := n3_; have HB := n4_; have BK219 := n5_; have GW219 := n6_; have GE219 := n7_; have NB192_219 := n8_; have NB219_192 := n9_; have NB199_219 := n10_; have NB219_199 := n11_; have NB209_219 := n12_; have NB219_209 := n13_; clear n0_ n1_ n2_ n3_ n4_ n5_ n6_ n7_ n8_ n9_ n10_ n11_ n12_ n13_; clear hb hbox hg; have hnb27 := NB219_192.out; have hnc27 := NB192_219.out; have hnb28 := NB219_199.out; have hnc28 := NB199_219.out; have hnb29 := NB219_209.out; have hnc29 := NB209_219.out; have hcz30_0 : w26.cell? ⟨gb219, 0, none⟩ = some (.int .i64 0) := (blk_cell BK219.out 0).trans rfl; have hcz30_1 : w26.cell? ⟨gb219, 1, none⟩ = some (.int .i64 0) := (blk_cell BK219.out 1).trans rfl; have hcz30_2 : w26.cell? ⟨gb219, 2, none⟩ = some (.int .i64 0) := (blk_cell BK219.out 2).trans rfl; have hcz30_3 : w26.cell? ⟨gb219, 3, none⟩ = some (.int .i64 0) := (blk_cell BK219.out 3).trans rfl; have hcz30_4 : w26.cell? ⟨gb219, 4, none⟩ = some (.int .i64 0) := (blk_cell BK219.out 4).trans rfl; have hcz30_5 : w26.cell? ⟨gb219, 5, none⟩ = some (.int .i64 0) := (blk_cell BK219.out 5).trans rfl; have hcz30_6 : w26.cell? ⟨gb219, 6, none⟩ = some (.int .i64 0) := (blk_cell BK219.out 6).trans rfl; have hcz30_7 : w26.cell? ⟨gb219, 7, none⟩ = some (.int .i64 0) := (blk_cell BK219.out 7).trans rfl; have hfz30_0 := blk_frozen BK219.out 0; have hfz30_1 := blk_frozen BK219.out 1; have hfz30_2 := blk_frozen BK219.out 2; have hfz30_3 := blk_frozen BK219.out 3; have hfz30_4 := blk_frozen BK219.out 4; have hfz30_5 := blk_frozen BK219.out 5; have hfz30_6 := blk_frozen BK219.out 6; have hfz30_7 := blk_frozen BK219.out 7))
   (try simp only [Act.put, List.setIfInBounds_toArray, List.set_cons_zero, List.set_cons_succ])
   go_cut [72] (fun v72 wc => ∃ (kq : Nat) (x72_7 : Bool), v72 = .bool x72_7 ∧ Aside0 (bivouactop_BivouacGuns.j0 kq x72_7 a0_0 a0_1 a0_2 l0_3 a0_4 a0_5 a0_6 a0_7 a0_8 a0_9 a0_10 a0_11 a0_12 a0_13 a0_14 a0_15 t210 t211 t212 t213 t214 t215 t216 t217 = some r) ∧ Aside0 (kq ≤ k) ∧ Aside0 (Kd.V (Kd.int .u8) 5 wc w.heap.size (fun k_ => k_ ≠ gb192 ∧ k_ ≠ gb199 ∧ k_ ≠ gb209 ∧ k_ ≠ gb219) (.slice Ao15 t196.length co15) t196) ∧ Aside0 (wc.heap[gb192]? = some (.cells #[.int .i64 a0_0, .int .i64 a0_1, .int .i64 a0_2, (.slice A0_3 l0_3.length c0_3), .int .i64 a0_4, .int .i64 a0_5, .int .i64 a0_6, .int .i64 a0_7, .int .i64 a0_8, .int .i64 a0_9, .int .i64 a0_10, .int .i64 a0_11, .int .i64 a0_12, .int .i64 a0_13, .int .u16 a0_14, .int .u16 a0_15] 29 (0, 0))) ∧ Aside0 (wc.heap[gb199]? = some (.cells #[.int .i64 t193, .int .i64 t194, .int .i64 t195, (.slice Ao15 t196.length co15)] 24 (0, 0))) ∧ Aside0 (wc.heap[gb209]? = some (.cells #[.int .i64 t201, .int .i64 t202, .int .i64 t203, .int .i64 t204, .int .i64 t205, .int .i64 t206] 26 (0, 0))) ∧ Aside0 (wc.heap[gb219]? = some (.cells #[.int .i64 t210, .int .i64 t211, .int .i64 t212, .int .i64 t213, .int .i64 t214, .int .i64 t215, .int .i64 t216, .int .i64 t217] 38 (0, 0))) ∧ Aside0 (Below w.heap.size w wc))
   case first =>
    have H := HC8.out
    clear HC8
    by_cases c31 : t218 = 0
    ·
     rw [if_pos c31] at H
     have c31b0 : (t218 == 0) = true := beq_iff_eq.mpr c31
     have c31b1 : (t218 != 0) = false := bne_eq_false_iff_eq.mpr c31
     clear c31
     (first | rw [c31b0] | (simp only [i64_w, i32_w]; rw [c31b0]) | skip)
     by_cases c32 : t211 = 1
     ·
      rw [if_pos c32] at H
      have c32b0 : (t211 == 1) = true := beq_iff_eq.mpr c32
      have c32b1 : (t211 != 1) = false := bne_eq_false_iff_eq.mpr c32
      clear c32
      by_cases c33 : (wrap64 (Int.tdiv t212 65536)) = (wrap64 (Int.tdiv a0_10 65536))
      ·
       rw [if_pos c33] at H
       have c33b0 : ((wrap64 (Int.tdiv t212 65536)) == (wrap64 (Int.tdiv a0_10 65536))) = true := beq_iff_eq.mpr c33
       have c33b1 : ((wrap64 (Int.tdiv t212 65536)) != (wrap64 (Int.tdiv a0_10 65536))) = false := bne_eq_false_iff_eq.mpr c33
       clear c33
       have H' := Aside0.mk H
       clear H
       have hnb34 := NB219_192.out
       have hnc34 := NB192_219.out
       have hnb35 := NB219_199.out
       have hnc35 := NB199_219.out
       have hnb36 := NB219_209.out
       have hnc36 := NB209_219.out
       have hcz37_0 : w26.cell? ⟨gb219, 0, none⟩ = some (.int .i64 0) := (blk_cell BK219.out 0).trans rfl
       have hcz37_1 : w26.cell? ⟨gb219, 1, none⟩ = some (.int .i64 0) := (blk_cell BK219.out 1).trans rfl
       have hcz37_2 : w26.cell? ⟨gb219, 2, none⟩ = some (.int .i64 0) := (blk_cell BK219.out 2).trans rfl
       have hcz37_3 : w26.cell? ⟨gb219, 3, none⟩ = some (.int .i64 0) := (blk_cell BK219.out 3).trans rfl
       have hcz37_4 : w26.cell? ⟨gb219, 4, none⟩ = some (.int .i64 0) := (blk_cell BK219.out 4).trans rfl
       have hcz37_5 : w26.cell? ⟨gb219, 5, none⟩ = some (.int .i64 0) := (blk_cell BK219.out 5).trans rfl
       have hcz37_6 : w26.cell? ⟨gb219, 6, none⟩ = some (.int .i64 0) := (blk_cell BK219.out 6).trans rfl
       have hcz37_7 : w26.cell? ⟨gb219, 7, none⟩ = some (.int .i64 0) := (blk_cell BK219.out 7).trans rfl
       have hfz37_0 := blk_frozen BK219.out 0
       have hfz37_1 := blk_frozen BK219.out 1
       have hfz37_2 := blk_frozen BK219.out 2
       have hfz37_3 := blk_frozen BK219.out 3
       have hfz37_4 := blk_frozen BK219.out 4
       have hfz37_5 := blk_frozen BK219.out 5
       have hfz37_6 := blk_frozen BK219.out 6
       have hfz37_7 := blk_frozen BK219.out 7
       have hnb38 := NB192_199.out
       have hnc38 := NB199_192.out
       have hnb39 := NB192_209.out
       have hnc39 := NB209_192.out
       have hcz40_0 : w26.cell? ⟨gb192, 0, none⟩ = some (.int .i64 a0_0) := (blk_cell BK192.out 0).trans rfl
       have hcz40_1 : w26.cell? ⟨gb192, 1, none⟩ = some (.int .i64 a0_1) := (blk_cell BK192.out 1).trans rfl
       have hcz40_2 : w26.cell? ⟨gb192, 2, none⟩ = some (.int .i64 a0_2) := (blk_cell BK192.out 2).trans rfl
       have hcz40_3 : w26.cell? ⟨gb192, 3, none⟩ = some (.slice A0_3 l0_3.length c0_3) := (blk_cell BK192.out 3).trans rfl
       have hcz40_4 : w26.cell? ⟨gb192, 4, none⟩ = some (.int .i64 a0_4) := (blk_cell BK192.out 4).trans rfl
       have hcz40_5 : w26.cell? ⟨gb192, 5, none⟩ = some (.int .i64 a0_5) := (blk_cell BK192.out 5).trans rfl
       have hcz40_6 : w26.cell? ⟨gb192, 6, none⟩ = some (.int .i64 a0_6) := (blk_cell BK192.out 6).trans rfl
       have hcz40_7 : w26.cell? ⟨gb192, 7, none⟩ = some (.int .i64 a0_7) := (blk_cell BK192.out 7).trans rfl
       have hcz40_8 : w26.cell? ⟨gb192, 8, none⟩ = some (.int .i64 a0_8) := (blk_cell BK192.out 8).trans rfl
       have hcz40_9 : w26.cell? ⟨gb192, 9, none⟩ = some (.int .i64 a0_9) := (blk_cell BK192.out 9).trans rfl
       have hcz40_10 : w26.cell? ⟨gb192, 10, none⟩ = some (.int .i64 a0_10) := (blk_cell BK192.out 10).trans rfl
       have hcz40_11 : w26.cell? ⟨gb192, 11, none⟩ = some (.int .i64 a0_11) := (blk_cell BK192.out 11).trans rfl
       have hcz40_12 : w26.cell? ⟨gb192, 12, none⟩ = some (.int .i64 a0_12) := (blk_cell BK192.out 12).trans rfl
       have hcz40_13 : w26.cell? ⟨gb192, 13, none⟩ = some (.int .i64 a0_13) := (blk_cell BK192.out 13).trans rfl
       have hcz40_14 : w26.cell? ⟨gb192, 14, none⟩ = some (.int .u16 a0_14) := (blk_cell BK192.out 14).trans rfl
       have hcz40_15 : w26.cell? ⟨gb192, 15, none⟩ = some (.int .u16 a0_15) := (blk_cell BK192.out 15).trans rfl
       have hfz40_0 := blk_frozen BK192.out 0
       have hfz40_1 := blk_frozen BK192.out 1
       have hfz40_2 := blk_frozen BK192.out 2
       have hfz40_3 := blk_frozen BK192.out 3
       have hfz40_4 := blk_frozen BK192.out 4
       have hfz40_5 := blk_frozen BK192.out 5
       have hfz40_6 := blk_frozen BK192.out 6
       have hfz40_7 := blk_frozen BK192.out 7
       have hfz40_8 := blk_frozen BK192.out 8
       have hfz40_9 := blk_frozen BK192.out 9
       have hfz40_10 := blk_frozen BK192.out 10
       have hfz40_11 := blk_frozen BK192.out 11
       have hfz40_12 := blk_frozen BK192.out 12
       have hfz40_13 := blk_frozen BK192.out 13
       have hfz40_14 := blk_frozen BK192.out 14
       have hfz40_15 := blk_frozen BK192.out 15
       go_wp2
       go_meet
       case rel => exact ⟨_, (((wrap64 (Int.tdiv t213 65536)) != (wrap64 (Int.tdiv a0_11 65536)))), (by first | rfl | (simp; done) | (simp [*]; done)), H', ⟨by first | omega | exact Nat.le_refl _⟩, ⟨by (with_reducible repeat (first | apply Kd.V_alloc | apply Kd.V_drewN | apply Kd.V_drew)); exact Kd.V_mono (Kd.V_far (p := ⟨gb219, 7, none⟩) (Kd.V_far (p := ⟨gb219, 6, none⟩) (Kd.V_far (p := ⟨gb219, 5, none⟩) (Kd.V_far (p := ⟨gb219, 4, none⟩) (Kd.V_far (p := ⟨gb219, 3, none⟩) (Kd.V_far (p := ⟨gb219, 2, none⟩) (Kd.V_far (p := ⟨gb219, 1, none⟩) (Kd.V_far (p := ⟨gb219, 0, none⟩) (Kd.V_mono HO198.out (fun k_ hk => (⟨hk, hk.2⟩ : _ ∧ k_ ≠ gb219))) (fun _ hk => hk.2) (.int .i64 t210)) (fun _ hk => hk.2) (.int .i64 t211)) (fun _ hk => hk.2) (.int .i64 t212)) (fun _ hk => hk.2) (.int .i64 t213)) (fun _ hk => hk.2) (.int .i64 t214)) (fun _ hk => hk.2) (.int .i64 t215)) (fun _ hk => hk.2) (.int .i64 t216)) (fun _ hk => hk.2) (.int .i64 t217)) (fun _ hk => ⟨hk.1.1.1.1, ⟨hk.1.1.1.2, ⟨hk.1.1.2, hk.1.2⟩⟩⟩)⟩, ⟨by (with_reducible repeat (first | refine blk_drewN ?_ _ | refine blk_drew ?_ | refine blk_alloc ?_ _)); refine blk_far ?_ NB192_219.out _; (with_reducible repeat (first | refine blk_drewN ?_ _ | refine blk_drew ?_ | refine blk_alloc ?_ _)); refine blk_far ?_ NB192_219.out _; (with_reducible repeat (first | refine blk_drewN ?_ _ | refine blk_drew ?_ | refine blk_alloc ?_ _)); refine blk_far ?_ NB192_219.out _; (with_reducible repeat (first | refine blk_drewN ?_ _ | refine blk_drew ?_ | refine blk_alloc ?_ _)); refine blk_far ?_ NB192_219.out _; (with_reducible repeat (first | refine blk_drewN ?_ _ | refine blk_drew ?_ | refine blk_alloc ?_ _)); refine blk_far ?_ NB192_219.out _; (with_reducible repeat (first | refine blk_drewN ?_ _ | refine blk_drew ?_ | refine blk_alloc ?_ _)); refine blk_far ?_ NB192_219.out _; (with_reducible repeat (first | refine blk_drewN ?_ _ | refine blk_drew ?_ | refine blk_alloc ?_ _)); refine blk_far ?_ NB192_219.out _; (with_reducible repeat (first | refine blk_drewN ?_ _ | refine blk_drew ?_ | refine blk_alloc ?_ _)); refine blk_far ?_ NB192_219.out _; (with_reducible repeat (first | refine blk_drewN ?_ _ | refine blk_drew ?_ | refine blk_alloc ?_ _)); exact BK192.out⟩, ⟨by (with_reducible repeat (first | refine blk_drewN ?_ _ | refine blk_drew ?_ | refine blk_alloc ?_ _)); refine blk_far ?_ NB199_219.out _; (with_reducible repeat (first | refine blk_drewN ?_ _ | refine blk_drew ?_ | refine blk_alloc ?_ _)); refine blk_far ?_ NB199_219.out _; (with_reducible repeat (first | refine blk_drewN ?_ _ | refine blk_drew ?_ | refine blk_alloc ?_ _)); refine blk_far ?_ NB199_219.out _; (with_reducible repeat (first | refine blk_drewN ?_ _ | refine blk_drew ?_ | refine blk_alloc ?_ _)); refine blk_far ?_ NB199_219.out _; (with_reducible repeat (first | refine blk_drewN ?_ _ | refine blk_drew ?_ | refine blk_alloc ?_ _)); refine blk_far ?_ NB199_219.out _; (with_reducible repeat (first | refine blk_drewN ?_ _ | refine blk_drew ?_ | refine blk_alloc ?_ _)); refine blk_far ?_ NB199_219.out _; (with_reducible repeat (first | refine blk_drewN ?_ _ | refine blk_drew ?_ | refine blk_alloc ?_ _)); refine blk_far ?_ NB199_219.out _; (with_reducible repeat (first | refine blk_drewN ?_ _ | refine blk_drew ?_ | refine blk_alloc ?_ _)); refine blk_far ?_ NB199_219.out _; (with_reducible repeat (first | refine blk_drewN ?_ _ | refine blk_drew ?_ | refine blk_alloc ?_ _)); exact BK199.out⟩, ⟨by (with_reducible repeat (first | refine blk_drewN ?_ _ | refine blk_drew ?_ | refine blk_alloc ?_ _)); refine blk_far ?_ NB209_219.out _; (with_reducible repeat (first | refine blk_drewN ?_ _ | refine blk_drew ?_ | refine blk_alloc ?_ _)); refine blk_far ?_ NB209_219.out _; (with_reducible repeat (first | refine blk_drewN ?_ _ | refine blk_drew ?_ | refine blk_alloc ?_ _)); refine blk_far ?_ NB209_219.out _; (with_reducible repeat (first | refine blk_drewN ?_ _ | refine blk_drew ?_ | refine blk_alloc ?_ _)); refine blk_far ?_ NB209_219.out _; (with_reducible repeat (first | refine blk_drewN ?_ _ | refine blk_drew ?_ | refine blk_alloc ?_ _)); refine blk_far ?_ NB209_219.out _; (with_reducible repeat (first | refine blk_drewN ?_ _ | refine blk_drew ?_ | refine blk_alloc ?_ _)); refine blk_far ?_ NB209_219.out _; (with_reducible repeat (first | refine blk_drewN ?_ _ | refine blk_drew ?_ | refine blk_alloc ?_ _)); refine blk_far ?_ NB209_219.out _; (with_reducible repeat (first | refine blk_drewN ?_ _ | refine blk_drew ?_ | refine blk_alloc ?_ _)); refine blk_far ?_ NB209_219.out _; (with_reducible repeat (first | refine blk_drewN ?_ _ | refine blk_drew ?_ | refine blk_alloc ?_ _)); exact BK209.out⟩, ⟨by (with_reducible repeat (first | refine blk_drewN ?_ _ | refine blk_drew ?_ | refine blk_alloc ?_ _)); refine blk_put (cs := #[.int .i64 t210, .int .i64 t211, .int .i64 t212, .int .i64 t213, .int .i64 t214, .int .i64 t215, .int .i64 t216, .int .i64 0]) ?_ 7 _ rfl; (with_reducible repeat (first | refine blk_drewN ?_ _ | refine blk_drew ?_ | refine blk_alloc ?_ _)); refine blk_put (cs := #[.int .i64 t210, .int .i64 t211, .int .i64 t212, .int .i64 t213, .int .i64 t214, .int .i64 t215, .int .i64 0, .int .i64 0]) ?_ 6 _ rfl; (with_reducible repeat (first | refine blk_drewN ?_ _ | refine blk_drew ?_ | refine blk_alloc ?_ _)); refine blk_put (cs := #[.int .i64 t210, .int .i64 t211, .int .i64 t212, .int .i64 t213, .int .i64 t214, .int .i64 0, .int .i64 0, .int .i64 0]) ?_ 5 _ rfl; (with_reducible repeat (first | refine blk_drewN ?_ _ | refine blk_drew ?_ | refine blk_alloc ?_ _)); refine blk_put (cs := #[.int .i64 t210, .int .i64 t211, .int .i64 t212, .int .i64 t213, .int .i64 0, .int .i64 0, .int .i64 0, .int .i64 0]) ?_ 4 _ rfl; (with_reducible repeat (first | refine blk_drewN ?_ _ | refine blk_drew ?_ | refine blk_alloc ?_ _)); refine blk_put (cs := #[.int .i64 t210, .int .i64 t211, .int .i64 t212, .int .i64 0, .int .i64 0, .int .i64 0, .int .i64 0, .int .i64 0]) ?_ 3 _ rfl; (with_reducible repeat (first | refine blk_drewN ?_ _ | refine blk_drew ?_ | refine blk_alloc ?_ _)); refine blk_put (cs := #[.int .i64 t210, .int .i64 t211, .int .i64 0, .int .i64 0, .int .i64 0, .int .i64 0, .int .i64 0, .int .i64 0]) ?_ 2 _ rfl; (with_reducible repeat (first | refine blk_drewN ?_ _ | refine blk_drew ?_ | refine blk_alloc ?_ _)); refine blk_put (cs := #[.int .i64 t210, .int .i64 0, .int .i64 0, .int .i64 0, .int .i64 0, .int .i64 0, .int .i64 0, .int .i64 0]) ?_ 1 _ rfl; (with_reducible repeat (first | refine blk_drewN ?_ _ | refine blk_drew ?_ | refine blk_alloc ?_ _)); refine blk_put (cs := #[.int .i64 0, .int .i64 0, .int .i64 0, .int .i64 0, .int .i64 0, .int .i64 0, .int .i64 0, .int .i64 0]) ?_ 0 _ rfl; (with_reducible repeat (first | refine blk_drewN ?_ _ | refine blk_drew ?_ | refine blk_alloc ?_ _)); exact BK219.out⟩, ⟨by repeat (first | (with_reducible first | exact HB.out | apply below_alloc | apply pw_below_drewN | apply below_drew1 | refine below_set ?_ GE192.out | refine below_set ?_ GE199.out | refine below_set ?_ GE209.out | refine below_set ?_ GE219.out) | exact HB.out)⟩⟩
      ·
       rw [if_neg c33] at H
       have c33b0 : ((wrap64 (Int.tdiv t212 65536)) == (wrap64 (Int.tdiv a0_10 65536))) = false := beq_eq_false_iff_ne.mpr c33
       have c33b1 : ((wrap64 (Int.tdiv t212 65536)) != (wrap64 (Int.tdiv a0_10 65536))) = true := bne_iff_ne.mpr c33
       have H' := Aside0.mk H
       clear H
       have hnb41 := NB219_192.out
       have hnc41 := NB192_219.out
       have hnb42 := NB219_199.out
       have hnc42 := NB199_219.out
       have hnb43 := NB219_209.out
       have hnc43 := NB209_219.out
       have hcz44_0 : w26.cell? ⟨gb219, 0, none⟩ = some (.int .i64 0) := (blk_cell BK219.out 0).trans rfl
       have hcz44_1 : w26.cell? ⟨gb219, 1, none⟩ = some (.int .i64 0) := (blk_cell BK219.out 1).trans rfl
       have hcz44_2 : w26.cell? ⟨gb219, 2, none⟩ = some (.int .i64 0) := (blk_cell BK219.out 2).trans rfl
       have hcz44_3 : w26.cell? ⟨gb219, 3, none⟩ = some (.int .i64 0) := (blk_cell BK219.out 3).trans rfl
       have hcz44_4 : w26.cell? ⟨gb219, 4, none⟩ = some (.int .i64 0) := (blk_cell BK219.out 4).trans rfl
       have hcz44_5 : w26.cell? ⟨gb219, 5, none⟩ = some (.int .i64 0) := (blk_cell BK219.out 5).trans rfl
       have hcz44_6 : w26.cell? ⟨gb219, 6, none⟩ = some (.int .i64 0) := (blk_cell BK219.out 6).trans rfl
       have hcz44_7 : w26.cell? ⟨gb219, 7, none⟩ = some (.int .i64 0) := (blk_cell BK219.out 7).trans rfl
       have hfz44_0 := blk_frozen BK219.out 0
       have hfz44_1 := blk_frozen BK219.out 1
       have hfz44_2 := blk_frozen BK219.out 2
       have hfz44_3 := blk_frozen BK219.out 3
       have hfz44_4 := blk_frozen BK219.out 4
       have hfz44_5 := blk_frozen BK219.out 5
       have hfz44_6 := blk_frozen BK219.out 6
       have hfz44_7 := blk_frozen BK219.out 7
       have hnb45 := NB192_199.out
       have hnc45 := NB199_192.out
       have hnb46 := NB192_209.out
       have hnc46 := NB209_192.out
       have hcz47_0 : w26.cell? ⟨gb192, 0, none⟩ = some (.int .i64 a0_0) := (blk_cell BK192.out 0).trans rfl
       have hcz47_1 : w26.cell? ⟨gb192, 1, none⟩ = some (.int .i64 a0_1) := (blk_cell BK192.out 1).trans rfl
       have hcz47_2 : w26.cell? ⟨gb192, 2, none⟩ = some (.int .i64 a0_2) := (blk_cell BK192.out 2).trans rfl
       have hcz47_3 : w26.cell? ⟨gb192, 3, none⟩ = some (.slice A0_3 l0_3.length c0_3) := (blk_cell BK192.out 3).trans rfl
       have hcz47_4 : w26.cell? ⟨gb192, 4, none⟩ = some (.int .i64 a0_4) := (blk_cell BK192.out 4).trans rfl
       have hcz47_5 : w26.cell? ⟨gb192, 5, none⟩ = some (.int .i64 a0_5) := (blk_cell BK192.out 5).trans rfl
       have hcz47_6 : w26.cell? ⟨gb192, 6, none⟩ = some (.int .i64 a0_6) := (blk_cell BK192.out 6).trans rfl
       have hcz47_7 : w26.cell? ⟨gb192, 7, none⟩ = some (.int .i64 a0_7) := (blk_cell BK192.out 7).trans rfl
       have hcz47_8 : w26.cell? ⟨gb192, 8, none⟩ = some (.int .i64 a0_8) := (blk_cell BK192.out 8).trans rfl
       have hcz47_9 : w26.cell? ⟨gb192, 9, none⟩ = some (.int .i64 a0_9) := (blk_cell BK192.out 9).trans rfl
       have hcz47_10 : w26.cell? ⟨gb192, 10, none⟩ = some (.int .i64 a0_10) := (blk_cell BK192.out 10).trans rfl
       have hcz47_11 : w26.cell? ⟨gb192, 11, none⟩ = some (.int .i64 a0_11) := (blk_cell BK192.out 11).trans rfl
       have hcz47_12 : w26.cell? ⟨gb192, 12, none⟩ = some (.int .i64 a0_12) := (blk_cell BK192.out 12).trans rfl
       have hcz47_13 : w26.cell? ⟨gb192, 13, none⟩ = some (.int .i64 a0_13) := (blk_cell BK192.out 13).trans rfl
       have hcz47_14 : w26.cell? ⟨gb192, 14, none⟩ = some (.int .u16 a0_14) := (blk_cell BK192.out 14).trans rfl
       have hcz47_15 : w26.cell? ⟨gb192, 15, none⟩ = some (.int .u16 a0_15) := (blk_cell BK192.out 15).trans rfl
       have hfz47_0 := blk_frozen BK192.out 0
       have hfz47_1 := blk_frozen BK192.out 1
       have hfz47_2 := blk_frozen BK192.out 2
       have hfz47_3 := blk_frozen BK192.out 3
       have hfz47_4 := blk_frozen BK192.out 4
       have hfz47_5 := blk_frozen BK192.out 5
       have hfz47_6 := blk_frozen BK192.out 6
       have hfz47_7 := blk_frozen BK192.out 7
       have hfz47_8 := blk_frozen BK192.out 8
       have hfz47_9 := blk_frozen BK192.out 9
       have hfz47_10 := blk_frozen BK192.out 10
       have hfz47_11 := blk_frozen BK192.out 11
       have hfz47_12 := blk_frozen BK192.out 12
       have hfz47_13 := blk_frozen BK192.out 13
       have hfz47_14 := blk_frozen BK192.out 14
       have hfz47_15 := blk_frozen BK192.out 15
       go_wp2
       go_meet
       case rel => exact ⟨_, (true), (by first | rfl | (simp; done) | (simp [*]; done)), H', ⟨by first | omega | exact Nat.le_refl _⟩, ⟨by (with_reducible repeat (first | apply Kd.V_alloc | apply Kd.V_drewN | apply Kd.V_drew)); exact Kd.V_mono (Kd.V_far (p := ⟨gb219, 7, none⟩) (Kd.V_far (p := ⟨gb219, 6, none⟩) (Kd.V_far (p := ⟨gb219, 5, none⟩) (Kd.V_far (p := ⟨gb219, 4, none⟩) (Kd.V_far (p := ⟨gb219, 3, none⟩) (Kd.V_far (p := ⟨gb219, 2, none⟩) (Kd.V_far (p := ⟨gb219, 1, none⟩) (Kd.V_far (p := ⟨gb219, 0, none⟩) (Kd.V_mono HO198.out (fun k_ hk => (⟨hk, hk.2⟩ : _ ∧ k_ ≠ gb219))) (fun _ hk => hk.2) (.int .i64 t210)) (fun _ hk => hk.2) (.int .i64 t211)) (fun _ hk => hk.2) (.int .i64 t212)) (fun _ hk => hk.2) (.int .i64 t213)) (fun _ hk => hk.2) (.int .i64 t214)) (fun _ hk => hk.2) (.int .i64 t215)) (fun _ hk => hk.2) (.int .i64 t216)) (fun _ hk => hk.2) (.int .i64 t217)) (fun _ hk => ⟨hk.1.1.1.1, ⟨hk.1.1.1.2, ⟨hk.1.1.2, hk.1.2⟩⟩⟩)⟩, ⟨by (with_reducible repeat (first | refine blk_drewN ?_ _ | refine blk_drew ?_ | refine blk_alloc ?_ _)); refine blk_far ?_ NB192_219.out _; (with_reducible repeat (first | refine blk_drewN ?_ _ | refine blk_drew ?_ | refine blk_alloc ?_ _)); refine blk_far ?_ NB192_219.out _; (with_reducible repeat (first | refine blk_drewN ?_ _ | refine blk_drew ?_ | refine blk_alloc ?_ _)); refine blk_far ?_ NB192_219.out _; (with_reducible repeat (first | refine blk_drewN ?_ _ | refine blk_drew ?_ | refine blk_alloc ?_ _)); refine blk_far ?_ NB192_219.out _; (with_reducible repeat (first | refine blk_drewN ?_ _ | refine blk_drew ?_ | refine blk_alloc ?_ _)); refine blk_far ?_ NB192_219.out _; (with_reducible repeat (first | refine blk_drewN ?_ _ | refine blk_drew ?_ | refine blk_alloc ?_ _)); refine blk_far ?_ NB192_219.out _; (with_reducible repeat (first | refine blk_drewN ?_ _ | refine blk_drew ?_ | refine blk_alloc ?_ _)); refine blk_far ?_ NB192_219.out _; (with_reducible repeat (first | refine blk_drewN ?_ _ | refine blk_drew ?_ | refine blk_alloc ?_ _)); refine blk_far ?_ NB192_219.out _; (with_reducible repeat (first | refine blk_drewN ?_ _ | refine blk_drew ?_ | refine blk_alloc ?_ _)); exact BK192.out⟩, ⟨by (with_reducible repeat (first | refine blk_drewN ?_ _ | refine blk_drew ?_ | refine blk_alloc ?_ _)); refine blk_far ?_ NB199_219.out _; (with_reducible repeat (first | refine blk_drewN ?_ _ | refine blk_drew ?_ | refine blk_alloc ?_ _)); refine blk_far ?_ NB199_219.out _; (with_reducible repeat (first | refine blk_drewN ?_ _ | refine blk_drew ?_ | refine blk_alloc ?_ _)); refine blk_far ?_ NB199_219.out _; (with_reducible repeat (first | refine blk_drewN ?_ _ | refine blk_drew ?_ | refine blk_alloc ?_ _)); refine blk_far ?_ NB199_219.out _; (with_reducible repeat (first | refine blk_drewN ?_ _ | refine blk_drew ?_ | refine blk_alloc ?_ _)); refine blk_far ?_ NB199_219.out _; (with_reducible repeat (first | refine blk_drewN ?_ _ | refine blk_drew ?_ | refine blk_alloc ?_ _)); refine blk_far ?_ NB199_219.out _; (with_reducible repeat (first | refine blk_drewN ?_ _ | refine blk_drew ?_ | refine blk_alloc ?_ _)); refine blk_far ?_ NB199_219.out _; (with_reducible repeat (first | refine blk_drewN ?_ _ | refine blk_drew ?_ | refine blk_alloc ?_ _)); refine blk_far ?_ NB199_219.out _; (with_reducible repeat (first | refine blk_drewN ?_ _ | refine blk_drew ?_ | refine blk_alloc ?_ _)); exact BK199.out⟩, ⟨by (with_reducible repeat (first | refine blk_drewN ?_ _ | refine blk_drew ?_ | refine blk_alloc ?_ _)); refine blk_far ?_ NB209_219.out _; (with_reducible repeat (first | refine blk_drewN ?_ _ | refine blk_drew ?_ | refine blk_alloc ?_ _)); refine blk_far ?_ NB209_219.out _; (with_reducible repeat (first | refine blk_drewN ?_ _ | refine blk_drew ?_ | refine blk_alloc ?_ _)); refine blk_far ?_ NB209_219.out _; (with_reducible repeat (first | refine blk_drewN ?_ _ | refine blk_drew ?_ | refine blk_alloc ?_ _)); refine blk_far ?_ NB209_219.out _; (with_reducible repeat (first | refine blk_drewN ?_ _ | refine blk_drew ?_ | refine blk_alloc ?_ _)); refine blk_far ?_ NB209_219.out _; (with_reducible repeat (first | refine blk_drewN ?_ _ | refine blk_drew ?_ | refine blk_alloc ?_ _)); refine blk_far ?_ NB209_219.out _; (with_reducible repeat (first | refine blk_drewN ?_ _ | refine blk_drew ?_ | refine blk_alloc ?_ _)); refine blk_far ?_ NB209_219.out _; (with_reducible repeat (first | refine blk_drewN ?_ _ | refine blk_drew ?_ | refine blk_alloc ?_ _)); refine blk_far ?_ NB209_219.out _; (with_reducible repeat (first | refine blk_drewN ?_ _ | refine blk_drew ?_ | refine blk_alloc ?_ _)); exact BK209.out⟩, ⟨by (with_reducible repeat (first | refine blk_drewN ?_ _ | refine blk_drew ?_ | refine blk_alloc ?_ _)); refine blk_put (cs := #[.int .i64 t210, .int .i64 t211, .int .i64 t212, .int .i64 t213, .int .i64 t214, .int .i64 t215, .int .i64 t216, .int .i64 0]) ?_ 7 _ rfl; (with_reducible repeat (first | refine blk_drewN ?_ _ | refine blk_drew ?_ | refine blk_alloc ?_ _)); refine blk_put (cs := #[.int .i64 t210, .int .i64 t211, .int .i64 t212, .int .i64 t213, .int .i64 t214, .int .i64 t215, .int .i64 0, .int .i64 0]) ?_ 6 _ rfl; (with_reducible repeat (first | refine blk_drewN ?_ _ | refine blk_drew ?_ | refine blk_alloc ?_ _)); refine blk_put (cs := #[.int .i64 t210, .int .i64 t211, .int .i64 t212, .int .i64 t213, .int .i64 t214, .int .i64 0, .int .i64 0, .int .i64 0]) ?_ 5 _ rfl; (with_reducible repeat (first | refine blk_drewN ?_ _ | refine blk_drew ?_ | refine blk_alloc ?_ _)); refine blk_put (cs := #[.int .i64 t210, .int .i64 t211, .int .i64 t212, .int .i64 t213, .int .i64 0, .int .i64 0, .int .i64 0, .int .i64 0]) ?_ 4 _ rfl; (with_reducible repeat (first | refine blk_drewN ?_ _ | refine blk_drew ?_ | refine blk_alloc ?_ _)); refine blk_put (cs := #[.int .i64 t210, .int .i64 t211, .int .i64 t212, .int .i64 0, .int .i64 0, .int .i64 0, .int .i64 0, .int .i64 0]) ?_ 3 _ rfl; (with_reducible repeat (first | refine blk_drewN ?_ _ | refine blk_drew ?_ | refine blk_alloc ?_ _)); refine blk_put (cs := #[.int .i64 t210, .int .i64 t211, .int .i64 0, .int .i64 0, .int .i64 0, .int .i64 0, .int .i64 0, .int .i64 0]) ?_ 2 _ rfl; (with_reducible repeat (first | refine blk_drewN ?_ _ | refine blk_drew ?_ | refine blk_alloc ?_ _)); refine blk_put (cs := #[.int .i64 t210, .int .i64 0, .int .i64 0, .int .i64 0, .int .i64 0, .int .i64 0, .int .i64 0, .int .i64 0]) ?_ 1 _ rfl; (with_reducible repeat (first | refine blk_drewN ?_ _ | refine blk_drew ?_ | refine blk_alloc ?_ _)); refine blk_put (cs := #[.int .i64 0, .int .i64 0, .int .i64 0, .int .i64 0, .int .i64 0, .int .i64 0, .int .i64 0, .int .i64 0]) ?_ 0 _ rfl; (with_reducible repeat (first | refine blk_drewN ?_ _ | refine blk_drew ?_ | refine blk_alloc ?_ _)); exact BK219.out⟩, ⟨by repeat (first | (with_reducible first | exact HB.out | apply below_alloc | apply pw_below_drewN | apply below_drew1 | refine below_set ?_ GE192.out | refine below_set ?_ GE199.out | refine below_set ?_ GE209.out | refine below_set ?_ GE219.out) | exact HB.out)⟩⟩
     ·
      rw [if_neg c32] at H
      have c32b0 : (t211 == 1) = false := beq_eq_false_iff_ne.mpr c32
      have c32b1 : (t211 != 1) = true := bne_iff_ne.mpr c32
      by_cases c48 : t211 = 2
      ·
       rw [if_pos c48] at H
       have c48b0 : (t211 == 2) = true := beq_iff_eq.mpr c48
       have c48b1 : (t211 != 2) = false := bne_eq_false_iff_eq.mpr c48
       clear c48
       by_cases c49 : (wrap64 (Int.tdiv t212 65536)) = (wrap64 (Int.tdiv a0_10 65536))
       ·
        rw [if_pos c49] at H
        have c49b0 : ((wrap64 (Int.tdiv t212 65536)) == (wrap64 (Int.tdiv a0_10 65536))) = true := beq_iff_eq.mpr c49
        have c49b1 : ((wrap64 (Int.tdiv t212 65536)) != (wrap64 (Int.tdiv a0_10 65536))) = false := bne_eq_false_iff_eq.mpr c49
        clear c49
        have H' := Aside0.mk H
        clear H
        have hnb50 := NB219_192.out
        have hnc50 := NB192_219.out
        have hnb51 := NB219_199.out
        have hnc51 := NB199_219.out
        have hnb52 := NB219_209.out
        have hnc52 := NB209_219.out
        have hcz53_0 : w26.cell? ⟨gb219, 0, none⟩ = some (.int .i64 0) := (blk_cell BK219.out 0).trans rfl
        have hcz53_1 : w26.cell? ⟨gb219, 1, none⟩ = some (.int .i64 0) := (blk_cell BK219.out 1).trans rfl
        have hcz53_2 : w26.cell? ⟨gb219, 2, none⟩ = some (.int .i64 0) := (blk_cell BK219.out 2).trans rfl
        have hcz53_3 : w26.cell? ⟨gb219, 3, none⟩ = some (.int .i64 0) := (blk_cell BK219.out 3).trans rfl
        have hcz53_4 : w26.cell? ⟨gb219, 4, none⟩ = some (.int .i64 0) := (blk_cell BK219.out 4).trans rfl
        have hcz53_5 : w26.cell? ⟨gb219, 5, none⟩ = some (.int .i64 0) := (blk_cell BK219.out 5).trans rfl
        have hcz53_6 : w26.cell? ⟨gb219, 6, none⟩ = some (.int .i64 0) := (blk_cell BK219.out 6).trans rfl
        have hcz53_7 : w26.cell? ⟨gb219, 7, none⟩ = some (.int .i64 0) := (blk_cell BK219.out 7).trans rfl
        have hfz53_0 := blk_frozen BK219.out 0
        have hfz53_1 := blk_frozen BK219.out 1
        have hfz53_2 := blk_frozen BK219.out 2
        have hfz53_3 := blk_frozen BK219.out 3
        have hfz53_4 := blk_frozen BK219.out 4
        have hfz53_5 := blk_frozen BK219.out 5
        have hfz53_6 := blk_frozen BK219.out 6
        have hfz53_7 := blk_frozen BK219.out 7
        have hnb54 := NB192_199.out
        have hnc54 := NB199_192.out
        have hnb55 := NB192_209.out
        have hnc55 := NB209_192.out
        have hcz56_0 : w26.cell? ⟨gb192, 0, none⟩ = some (.int .i64 a0_0) := (blk_cell BK192.out 0).trans rfl
        have hcz56_1 : w26.cell? ⟨gb192, 1, none⟩ = some (.int .i64 a0_1) := (blk_cell BK192.out 1).trans rfl
        have hcz56_2 : w26.cell? ⟨gb192, 2, none⟩ = some (.int .i64 a0_2) := (blk_cell BK192.out 2).trans rfl
        have hcz56_3 : w26.cell? ⟨gb192, 3, none⟩ = some (.slice A0_3 l0_3.length c0_3) := (blk_cell BK192.out 3).trans rfl
        have hcz56_4 : w26.cell? ⟨gb192, 4, none⟩ = some (.int .i64 a0_4) := (blk_cell BK192.out 4).trans rfl
        have hcz56_5 : w26.cell? ⟨gb192, 5, none⟩ = some (.int .i64 a0_5) := (blk_cell BK192.out 5).trans rfl
        have hcz56_6 : w26.cell? ⟨gb192, 6, none⟩ = some (.int .i64 a0_6) := (blk_cell BK192.out 6).trans rfl
        have hcz56_7 : w26.cell? ⟨gb192, 7, none⟩ = some (.int .i64 a0_7) := (blk_cell BK192.out 7).trans rfl
        have hcz56_8 : w26.cell? ⟨gb192, 8, none⟩ = some (.int .i64 a0_8) := (blk_cell BK192.out 8).trans rfl
        have hcz56_9 : w26.cell? ⟨gb192, 9, none⟩ = some (.int .i64 a0_9) := (blk_cell BK192.out 9).trans rfl
        have hcz56_10 : w26.cell? ⟨gb192, 10, none⟩ = some (.int .i64 a0_10) := (blk_cell BK192.out 10).trans rfl
        have hcz56_11 : w26.cell? ⟨gb192, 11, none⟩ = some (.int .i64 a0_11) := (blk_cell BK192.out 11).trans rfl
        have hcz56_12 : w26.cell? ⟨gb192, 12, none⟩ = some (.int .i64 a0_12) := (blk_cell BK192.out 12).trans rfl
        have hcz56_13 : w26.cell? ⟨gb192, 13, none⟩ = some (.int .i64 a0_13) := (blk_cell BK192.out 13).trans rfl
        have hcz56_14 : w26.cell? ⟨gb192, 14, none⟩ = some (.int .u16 a0_14) := (blk_cell BK192.out 14).trans rfl
        have hcz56_15 : w26.cell? ⟨gb192, 15, none⟩ = some (.int .u16 a0_15) := (blk_cell BK192.out 15).trans rfl
        have hfz56_0 := blk_frozen BK192.out 0
        have hfz56_1 := blk_frozen BK192.out 1
        have hfz56_2 := blk_frozen BK192.out 2
        have hfz56_3 := blk_frozen BK192.out 3
        have hfz56_4 := blk_frozen BK192.out 4
        have hfz56_5 := blk_frozen BK192.out 5
        have hfz56_6 := blk_frozen BK192.out 6
        have hfz56_7 := blk_frozen BK192.out 7
        have hfz56_8 := blk_frozen BK192.out 8
        have hfz56_9 := blk_frozen BK192.out 9
        have hfz56_10 := blk_frozen BK192.out 10
        have hfz56_11 := blk_frozen BK192.out 11
        have hfz56_12 := blk_frozen BK192.out 12
        have hfz56_13 := blk_frozen BK192.out 13
        have hfz56_14 := blk_frozen BK192.out 14
        have hfz56_15 := blk_frozen BK192.out 15
        go_wp2
        go_meet
        case rel => exact ⟨_, (((wrap64 (Int.tdiv t213 65536)) != (wrap64 (Int.tdiv a0_11 65536)))), (by first | rfl | (simp; done) | (simp [*]; done)), H', ⟨by first | omega | exact Nat.le_refl _⟩, ⟨by (with_reducible repeat (first | apply Kd.V_alloc | apply Kd.V_drewN | apply Kd.V_drew)); exact Kd.V_mono (Kd.V_far (p := ⟨gb219, 7, none⟩) (Kd.V_far (p := ⟨gb219, 6, none⟩) (Kd.V_far (p := ⟨gb219, 5, none⟩) (Kd.V_far (p := ⟨gb219, 4, none⟩) (Kd.V_far (p := ⟨gb219, 3, none⟩) (Kd.V_far (p := ⟨gb219, 2, none⟩) (Kd.V_far (p := ⟨gb219, 1, none⟩) (Kd.V_far (p := ⟨gb219, 0, none⟩) (Kd.V_mono HO198.out (fun k_ hk => (⟨hk, hk.2⟩ : _ ∧ k_ ≠ gb219))) (fun _ hk => hk.2) (.int .i64 t210)) (fun _ hk => hk.2) (.int .i64 t211)) (fun _ hk => hk.2) (.int .i64 t212)) (fun _ hk => hk.2) (.int .i64 t213)) (fun _ hk => hk.2) (.int .i64 t214)) (fun _ hk => hk.2) (.int .i64 t215)) (fun _ hk => hk.2) (.int .i64 t216)) (fun _ hk => hk.2) (.int .i64 t217)) (fun _ hk => ⟨hk.1.1.1.1, ⟨hk.1.1.1.2, ⟨hk.1.1.2, hk.1.2⟩⟩⟩)⟩, ⟨by (with_reducible repeat (first | refine blk_drewN ?_ _ | refine blk_drew ?_ | refine blk_alloc ?_ _)); refine blk_far ?_ NB192_219.out _; (with_reducible repeat (first | refine blk_drewN ?_ _ | refine blk_drew ?_ | refine blk_alloc ?_ _)); refine blk_far ?_ NB192_219.out _; (with_reducible repeat (first | refine blk_drewN ?_ _ | refine blk_drew ?_ | refine blk_alloc ?_ _)); refine blk_far ?_ NB192_219.out _; (with_reducible repeat (first | refine blk_drewN ?_ _ | refine blk_drew ?_ | refine blk_alloc ?_ _)); refine blk_far ?_ NB192_219.out _; (with_reducible repeat (first | refine blk_drewN ?_ _ | refine blk_drew ?_ | refine blk_alloc ?_ _)); refine blk_far ?_ NB192_219.out _; (with_reducible repeat (first | refine blk_drewN ?_ _ | refine blk_drew ?_ | refine blk_alloc ?_ _)); refine blk_far ?_ NB192_219.out _; (with_reducible repeat (first | refine blk_drewN ?_ _ | refine blk_drew ?_ | refine blk_alloc ?_ _)); refine blk_far ?_ NB192_219.out _; (with_reducible repeat (first | refine blk_drewN ?_ _ | refine blk_drew ?_ | refine blk_alloc ?_ _)); refine blk_far ?_ NB192_219.out _; (with_reducible repeat (first | refine blk_drewN ?_ _ | refine blk_drew ?_ | refine blk_alloc ?_ _)); exact BK192.out⟩, ⟨by (with_reducible repeat (first | refine blk_drewN ?_ _ | refine blk_drew ?_ | refine blk_alloc ?_ _)); refine blk_far ?_ NB199_219.out _; (with_reducible repeat (first | refine blk_drewN ?_ _ | refine blk_drew ?_ | refine blk_alloc ?_ _)); refine blk_far ?_ NB199_219.out _; (with_reducible repeat (first | refine blk_drewN ?_ _ | refine blk_drew ?_ | refine blk_alloc ?_ _)); refine blk_far ?_ NB199_219.out _; (with_reducible repeat (first | refine blk_drewN ?_ _ | refine blk_drew ?_ | refine blk_alloc ?_ _)); refine blk_far ?_ NB199_219.out _; (with_reducible repeat (first | refine blk_drewN ?_ _ | refine blk_drew ?_ | refine blk_alloc ?_ _)); refine blk_far ?_ NB199_219.out _; (with_reducible repeat (first | refine blk_drewN ?_ _ | refine blk_drew ?_ | refine blk_alloc ?_ _)); refine blk_far ?_ NB199_219.out _; (with_reducible repeat (first | refine blk_drewN ?_ _ | refine blk_drew ?_ | refine blk_alloc ?_ _)); refine blk_far ?_ NB199_219.out _; (with_reducible repeat (first | refine blk_drewN ?_ _ | refine blk_drew ?_ | refine blk_alloc ?_ _)); refine blk_far ?_ NB199_219.out _; (with_reducible repeat (first | refine blk_drewN ?_ _ | refine blk_drew ?_ | refine blk_alloc ?_ _)); exact BK199.out⟩, ⟨by (with_reducible repeat (first | refine blk_drewN ?_ _ | refine blk_drew ?_ | refine blk_alloc ?_ _)); refine blk_far ?_ NB209_219.out _; (with_reducible repeat (first | refine blk_drewN ?_ _ | refine blk_drew ?_ | refine blk_alloc ?_ _)); refine blk_far ?_ NB209_219.out _; (with_reducible repeat (first | refine blk_drewN ?_ _ | refine blk_drew ?_ | refine blk_alloc ?_ _)); refine blk_far ?_ NB209_219.out _; (with_reducible repeat (first | refine blk_drewN ?_ _ | refine blk_drew ?_ | refine blk_alloc ?_ _)); refine blk_far ?_ NB209_219.out _; (with_reducible repeat (first | refine blk_drewN ?_ _ | refine blk_drew ?_ | refine blk_alloc ?_ _)); refine blk_far ?_ NB209_219.out _; (with_reducible repeat (first | refine blk_drewN ?_ _ | refine blk_drew ?_ | refine blk_alloc ?_ _)); refine blk_far ?_ NB209_219.out _; (with_reducible repeat (first | refine blk_drewN ?_ _ | refine blk_drew ?_ | refine blk_alloc ?_ _)); refine blk_far ?_ NB209_219.out _; (with_reducible repeat (first | refine blk_drewN ?_ _ | refine blk_drew ?_ | refine blk_alloc ?_ _)); refine blk_far ?_ NB209_219.out _; (with_reducible repeat (first | refine blk_drewN ?_ _ | refine blk_drew ?_ | refine blk_alloc ?_ _)); exact BK209.out⟩, ⟨by (with_reducible repeat (first | refine blk_drewN ?_ _ | refine blk_drew ?_ | refine blk_alloc ?_ _)); refine blk_put (cs := #[.int .i64 t210, .int .i64 t211, .int .i64 t212, .int .i64 t213, .int .i64 t214, .int .i64 t215, .int .i64 t216, .int .i64 0]) ?_ 7 _ rfl; (with_reducible repeat (first | refine blk_drewN ?_ _ | refine blk_drew ?_ | refine blk_alloc ?_ _)); refine blk_put (cs := #[.int .i64 t210, .int .i64 t211, .int .i64 t212, .int .i64 t213, .int .i64 t214, .int .i64 t215, .int .i64 0, .int .i64 0]) ?_ 6 _ rfl; (with_reducible repeat (first | refine blk_drewN ?_ _ | refine blk_drew ?_ | refine blk_alloc ?_ _)); refine blk_put (cs := #[.int .i64 t210, .int .i64 t211, .int .i64 t212, .int .i64 t213, .int .i64 t214, .int .i64 0, .int .i64 0, .int .i64 0]) ?_ 5 _ rfl; (with_reducible repeat (first | refine blk_drewN ?_ _ | refine blk_drew ?_ | refine blk_alloc ?_ _)); refine blk_put (cs := #[.int .i64 t210, .int .i64 t211, .int .i64 t212, .int .i64 t213, .int .i64 0, .int .i64 0, .int .i64 0, .int .i64 0]) ?_ 4 _ rfl; (with_reducible repeat (first | refine blk_drewN ?_ _ | refine blk_drew ?_ | refine blk_alloc ?_ _)); refine blk_put (cs := #[.int .i64 t210, .int .i64 t211, .int .i64 t212, .int .i64 0, .int .i64 0, .int .i64 0, .int .i64 0, .int .i64 0]) ?_ 3 _ rfl; (with_reducible repeat (first | refine blk_drewN ?_ _ | refine blk_drew ?_ | refine blk_alloc ?_ _)); refine blk_put (cs := #[.int .i64 t210, .int .i64 t211, .int .i64 0, .int .i64 0, .int .i64 0, .int .i64 0, .int .i64 0, .int .i64 0]) ?_ 2 _ rfl; (with_reducible repeat (first | refine blk_drewN ?_ _ | refine blk_drew ?_ | refine blk_alloc ?_ _)); refine blk_put (cs := #[.int .i64 t210, .int .i64 0, .int .i64 0, .int .i64 0, .int .i64 0, .int .i64 0, .int .i64 0, .int .i64 0]) ?_ 1 _ rfl; (with_reducible repeat (first | refine blk_drewN ?_ _ | refine blk_drew ?_ | refine blk_alloc ?_ _)); refine blk_put (cs := #[.int .i64 0, .int .i64 0, .int .i64 0, .int .i64 0, .int .i64 0, .int .i64 0, .int .i64 0, .int .i64 0]) ?_ 0 _ rfl; (with_reducible repeat (first | refine blk_drewN ?_ _ | refine blk_drew ?_ | refine blk_alloc ?_ _)); exact BK219.out⟩, ⟨by repeat (first | (with_reducible first | exact HB.out | apply below_alloc | apply pw_below_drewN | apply below_drew1 | refine below_set ?_ GE192.out | refine below_set ?_ GE199.out | refine below_set ?_ GE209.out | refine below_set ?_ GE219.out) | exact HB.out)⟩⟩
       ·
        rw [if_neg c49] at H
        have c49b0 : ((wrap64 (Int.tdiv t212 65536)) == (wrap64 (Int.tdiv a0_10 65536))) = false := beq_eq_false_iff_ne.mpr c49
        have c49b1 : ((wrap64 (Int.tdiv t212 65536)) != (wrap64 (Int.tdiv a0_10 65536))) = true := bne_iff_ne.mpr c49
        have H' := Aside0.mk H
        clear H
        have hnb57 := NB219_192.out
        have hnc57 := NB192_219.out
        have hnb58 := NB219_199.out
        have hnc58 := NB199_219.out
        have hnb59 := NB219_209.out
        have hnc59 := NB209_219.out
        have hcz60_0 : w26.cell? ⟨gb219, 0, none⟩ = some (.int .i64 0) := (blk_cell BK219.out 0).trans rfl
        have hcz60_1 : w26.cell? ⟨gb219, 1, none⟩ = some (.int .i64 0) := (blk_cell BK219.out 1).trans rfl
        have hcz60_2 : w26.cell? ⟨gb219, 2, none⟩ = some (.int .i64 0) := (blk_cell BK219.out 2).trans rfl
        have hcz60_3 : w26.cell? ⟨gb219, 3, none⟩ = some (.int .i64 0) := (blk_cell BK219.out 3).trans rfl
        have hcz60_4 : w26.cell? ⟨gb219, 4, none⟩ = some (.int .i64 0) := (blk_cell BK219.out 4).trans rfl
        have hcz60_5 : w26.cell? ⟨gb219, 5, none⟩ = some (.int .i64 0) := (blk_cell BK219.out 5).trans rfl
        have hcz60_6 : w26.cell? ⟨gb219, 6, none⟩ = some (.int .i64 0) := (blk_cell BK219.out 6).trans rfl
        have hcz60_7 : w26.cell? ⟨gb219, 7, none⟩ = some (.int .i64 0) := (blk_cell BK219.out 7).trans rfl
        have hfz60_0 := blk_frozen BK219.out 0
        have hfz60_1 := blk_frozen BK219.out 1
        have hfz60_2 := blk_frozen BK219.out 2
        have hfz60_3 := blk_frozen BK219.out 3
        have hfz60_4 := blk_frozen BK219.out 4
        have hfz60_5 := blk_frozen BK219.out 5
        have hfz60_6 := blk_frozen BK219.out 6
        have hfz60_7 := blk_frozen BK219.out 7
        have hnb61 := NB192_199.out
        have hnc61 := NB199_192.out
        have hnb62 := NB192_209.out
        have hnc62 := NB209_192.out
        have hcz63_0 : w26.cell? ⟨gb192, 0, none⟩ = some (.int .i64 a0_0) := (blk_cell BK192.out 0).trans rfl
        have hcz63_1 : w26.cell? ⟨gb192, 1, none⟩ = some (.int .i64 a0_1) := (blk_cell BK192.out 1).trans rfl
        have hcz63_2 : w26.cell? ⟨gb192, 2, none⟩ = some (.int .i64 a0_2) := (blk_cell BK192.out 2).trans rfl
        have hcz63_3 : w26.cell? ⟨gb192, 3, none⟩ = some (.slice A0_3 l0_3.length c0_3) := (blk_cell BK192.out 3).trans rfl
        have hcz63_4 : w26.cell? ⟨gb192, 4, none⟩ = some (.int .i64 a0_4) := (blk_cell BK192.out 4).trans rfl
        have hcz63_5 : w26.cell? ⟨gb192, 5, none⟩ = some (.int .i64 a0_5) := (blk_cell BK192.out 5).trans rfl
        have hcz63_6 : w26.cell? ⟨gb192, 6, none⟩ = some (.int .i64 a0_6) := (blk_cell BK192.out 6).trans rfl
        have hcz63_7 : w26.cell? ⟨gb192, 7, none⟩ = some (.int .i64 a0_7) := (blk_cell BK192.out 7).trans rfl
        have hcz63_8 : w26.cell? ⟨gb192, 8, none⟩ = some (.int .i64 a0_8) := (blk_cell BK192.out 8).trans rfl
        have hcz63_9 : w26.cell? ⟨gb192, 9, none⟩ = some (.int .i64 a0_9) := (blk_cell BK192.out 9).trans rfl
        have hcz63_10 : w26.cell? ⟨gb192, 10, none⟩ = some (.int .i64 a0_10) := (blk_cell BK192.out 10).trans rfl
        have hcz63_11 : w26.cell? ⟨gb192, 11, none⟩ = some (.int .i64 a0_11) := (blk_cell BK192.out 11).trans rfl
        have hcz63_12 : w26.cell? ⟨gb192, 12, none⟩ = some (.int .i64 a0_12) := (blk_cell BK192.out 12).trans rfl
        have hcz63_13 : w26.cell? ⟨gb192, 13, none⟩ = some (.int .i64 a0_13) := (blk_cell BK192.out 13).trans rfl
        have hcz63_14 : w26.cell? ⟨gb192, 14, none⟩ = some (.int .u16 a0_14) := (blk_cell BK192.out 14).trans rfl
        have hcz63_15 : w26.cell? ⟨gb192, 15, none⟩ = some (.int .u16 a0_15) := (blk_cell BK192.out 15).trans rfl
        have hfz63_0 := blk_frozen BK192.out 0
        have hfz63_1 := blk_frozen BK192.out 1
        have hfz63_2 := blk_frozen BK192.out 2
        have hfz63_3 := blk_frozen BK192.out 3
        have hfz63_4 := blk_frozen BK192.out 4
        have hfz63_5 := blk_frozen BK192.out 5
        have hfz63_6 := blk_frozen BK192.out 6
        have hfz63_7 := blk_frozen BK192.out 7
        have hfz63_8 := blk_frozen BK192.out 8
        have hfz63_9 := blk_frozen BK192.out 9
        have hfz63_10 := blk_frozen BK192.out 10
        have hfz63_11 := blk_frozen BK192.out 11
        have hfz63_12 := blk_frozen BK192.out 12
        have hfz63_13 := blk_frozen BK192.out 13
        have hfz63_14 := blk_frozen BK192.out 14
        have hfz63_15 := blk_frozen BK192.out 15
        go_wp2
        go_meet
        case rel => exact ⟨_, (true), (by first | rfl | (simp; done) | (simp [*]; done)), H', ⟨by first | omega | exact Nat.le_refl _⟩, ⟨by (with_reducible repeat (first | apply Kd.V_alloc | apply Kd.V_drewN | apply Kd.V_drew)); exact Kd.V_mono (Kd.V_far (p := ⟨gb219, 7, none⟩) (Kd.V_far (p := ⟨gb219, 6, none⟩) (Kd.V_far (p := ⟨gb219, 5, none⟩) (Kd.V_far (p := ⟨gb219, 4, none⟩) (Kd.V_far (p := ⟨gb219, 3, none⟩) (Kd.V_far (p := ⟨gb219, 2, none⟩) (Kd.V_far (p := ⟨gb219, 1, none⟩) (Kd.V_far (p := ⟨gb219, 0, none⟩) (Kd.V_mono HO198.out (fun k_ hk => (⟨hk, hk.2⟩ : _ ∧ k_ ≠ gb219))) (fun _ hk => hk.2) (.int .i64 t210)) (fun _ hk => hk.2) (.int .i64 t211)) (fun _ hk => hk.2) (.int .i64 t212)) (fun _ hk => hk.2) (.int .i64 t213)) (fun _ hk => hk.2) (.int .i64 t214)) (fun _ hk => hk.2) (.int .i64 t215)) (fun _ hk => hk.2) (.int .i64 t216)) (fun _ hk => hk.2) (.int .i64 t217)) (fun _ hk => ⟨hk.1.1.1.1, ⟨hk.1.1.1.2, ⟨hk.1.1.2, hk.1.2⟩⟩⟩)⟩, ⟨by (with_reducible repeat (first | refine blk_drewN ?_ _ | refine blk_drew ?_ | refine blk_alloc ?_ _)); refine blk_far ?_ NB192_219.out _; (with_reducible repeat (first | refine blk_drewN ?_ _ | refine blk_drew ?_ | refine blk_alloc ?_ _)); refine blk_far ?_ NB192_219.out _; (with_reducible repeat (first | refine blk_drewN ?_ _ | refine blk_drew ?_ | refine blk_alloc ?_ _)); refine blk_far ?_ NB192_219.out _; (with_reducible repeat (first | refine blk_drewN ?_ _ | refine blk_drew ?_ | refine blk_alloc ?_ _)); refine blk_far ?_ NB192_219.out _; (with_reducible repeat (first | refine blk_drewN ?_ _ | refine blk_drew ?_ | refine blk_alloc ?_ _)); refine blk_far ?_ NB192_219.out _; (with_reducible repeat (first | refine blk_drewN ?_ _ | refine blk_drew ?_ | refine blk_alloc ?_ _)); refine blk_far ?_ NB192_219.out _; (with_reducible repeat (first | refine blk_drewN ?_ _ | refine blk_drew ?_ | refine blk_alloc ?_ _)); refine blk_far ?_ NB192_219.out _; (with_reducible repeat (first | refine blk_drewN ?_ _ | refine blk_drew ?_ | refine blk_alloc ?_ _)); refine blk_far ?_ NB192_219.out _; (with_reducible repeat (first | refine blk_drewN ?_ _ | refine blk_drew ?_ | refine blk_alloc ?_ _)); exact BK192.out⟩, ⟨by (with_reducible repeat (first | refine blk_drewN ?_ _ | refine blk_drew ?_ | refine blk_alloc ?_ _)); refine blk_far ?_ NB199_219.out _; (with_reducible repeat (first | refine blk_drewN ?_ _ | refine blk_drew ?_ | refine blk_alloc ?_ _)); refine blk_far ?_ NB199_219.out _; (with_reducible repeat (first | refine blk_drewN ?_ _ | refine blk_drew ?_ | refine blk_alloc ?_ _)); refine blk_far ?_ NB199_219.out _; (with_reducible repeat (first | refine blk_drewN ?_ _ | refine blk_drew ?_ | refine blk_alloc ?_ _)); refine blk_far ?_ NB199_219.out _; (with_reducible repeat (first | refine blk_drewN ?_ _ | refine blk_drew ?_ | refine blk_alloc ?_ _)); refine blk_far ?_ NB199_219.out _; (with_reducible repeat (first | refine blk_drewN ?_ _ | refine blk_drew ?_ | refine blk_alloc ?_ _)); refine blk_far ?_ NB199_219.out _; (with_reducible repeat (first | refine blk_drewN ?_ _ | refine blk_drew ?_ | refine blk_alloc ?_ _)); refine blk_far ?_ NB199_219.out _; (with_reducible repeat (first | refine blk_drewN ?_ _ | refine blk_drew ?_ | refine blk_alloc ?_ _)); refine blk_far ?_ NB199_219.out _; (with_reducible repeat (first | refine blk_drewN ?_ _ | refine blk_drew ?_ | refine blk_alloc ?_ _)); exact BK199.out⟩, ⟨by (with_reducible repeat (first | refine blk_drewN ?_ _ | refine blk_drew ?_ | refine blk_alloc ?_ _)); refine blk_far ?_ NB209_219.out _; (with_reducible repeat (first | refine blk_drewN ?_ _ | refine blk_drew ?_ | refine blk_alloc ?_ _)); refine blk_far ?_ NB209_219.out _; (with_reducible repeat (first | refine blk_drewN ?_ _ | refine blk_drew ?_ | refine blk_alloc ?_ _)); refine blk_far ?_ NB209_219.out _; (with_reducible repeat (first | refine blk_drewN ?_ _ | refine blk_drew ?_ | refine blk_alloc ?_ _)); refine blk_far ?_ NB209_219.out _; (with_reducible repeat (first | refine blk_drewN ?_ _ | refine blk_drew ?_ | refine blk_alloc ?_ _)); refine blk_far ?_ NB209_219.out _; (with_reducible repeat (first | refine blk_drewN ?_ _ | refine blk_drew ?_ | refine blk_alloc ?_ _)); refine blk_far ?_ NB209_219.out _; (with_reducible repeat (first | refine blk_drewN ?_ _ | refine blk_drew ?_ | refine blk_alloc ?_ _)); refine blk_far ?_ NB209_219.out _; (with_reducible repeat (first | refine blk_drewN ?_ _ | refine blk_drew ?_ | refine blk_alloc ?_ _)); refine blk_far ?_ NB209_219.out _; (with_reducible repeat (first | refine blk_drewN ?_ _ | refine blk_drew ?_ | refine blk_alloc ?_ _)); exact BK209.out⟩, ⟨by (with_reducible repeat (first | refine blk_drewN ?_ _ | refine blk_drew ?_ | refine blk_alloc ?_ _)); refine blk_put (cs := #[.int .i64 t210, .int .i64 t211, .int .i64 t212, .int .i64 t213, .int .i64 t214, .int .i64 t215, .int .i64 t216, .int .i64 0]) ?_ 7 _ rfl; (with_reducible repeat (first | refine blk_drewN ?_ _ | refine blk_drew ?_ | refine blk_alloc ?_ _)); refine blk_put (cs := #[.int .i64 t210, .int .i64 t211, .int .i64 t212, .int .i64 t213, .int .i64 t214, .int .i64 t215, .int .i64 0, .int .i64 0]) ?_ 6 _ rfl; (with_reducible repeat (first | refine blk_drewN ?_ _ | refine blk_drew ?_ | refine blk_alloc ?_ _)); refine blk_put (cs := #[.int .i64 t210, .int .i64 t211, .int .i64 t212, .int .i64 t213, .int .i64 t214, .int .i64 0, .int .i64 0, .int .i64 0]) ?_ 5 _ rfl; (with_reducible repeat (first | refine blk_drewN ?_ _ | refine blk_drew ?_ | refine blk_alloc ?_ _)); refine blk_put (cs := #[.int .i64 t210, .int .i64 t211, .int .i64 t212, .int .i64 t213, .int .i64 0, .int .i64 0, .int .i64 0, .int .i64 0]) ?_ 4 _ rfl; (with_reducible repeat (first | refine blk_drewN ?_ _ | refine blk_drew ?_ | refine blk_alloc ?_ _)); refine blk_put (cs := #[.int .i64 t210, .int .i64 t211, .int .i64 t212, .int .i64 0, .int .i64 0, .int .i64 0, .int .i64 0, .int .i64 0]) ?_ 3 _ rfl; (with_reducible repeat (first | refine blk_drewN ?_ _ | refine blk_drew ?_ | refine blk_alloc ?_ _)); refine blk_put (cs := #[.int .i64 t210, .int .i64 t211, .int .i64 0, .int .i64 0, .int .i64 0, .int .i64 0, .int .i64 0, .int .i64 0]) ?_ 2 _ rfl; (with_reducible repeat (first | refine blk_drewN ?_ _ | refine blk_drew ?_ | refine blk_alloc ?_ _)); refine blk_put (cs := #[.int .i64 t210, .int .i64 0, .int .i64 0, .int .i64 0, .int .i64 0, .int .i64 0, .int .i64 0, .int .i64 0]) ?_ 1 _ rfl; (with_reducible repeat (first | refine blk_drewN ?_ _ | refine blk_drew ?_ | refine blk_alloc ?_ _)); refine blk_put (cs := #[.int .i64 0, .int .i64 0, .int .i64 0, .int .i64 0, .int .i64 0, .int .i64 0, .int .i64 0, .int .i64 0]) ?_ 0 _ rfl; (with_reducible repeat (first | refine blk_drewN ?_ _ | refine blk_drew ?_ | refine blk_alloc ?_ _)); exact BK219.out⟩, ⟨by repeat (first | (with_reducible first | exact HB.out | apply below_alloc | apply pw_below_drewN | apply below_drew1 | refine below_set ?_ GE192.out | refine below_set ?_ GE199.out | refine below_set ?_ GE209.out | refine below_set ?_ GE219.out) | exact HB.out)⟩⟩
      ·
       rw [if_neg c48] at H
       have c48b0 : (t211 == 2) = false := beq_eq_false_iff_ne.mpr c48
       have c48b1 : (t211 != 2) = true := bne_iff_ne.mpr c48
       have H' := Aside0.mk H
       clear H
       have hnb64 := NB219_192.out
       have hnc64 := NB192_219.out
       have hnb65 := NB219_199.out
       have hnc65 := NB199_219.out
       have hnb66 := NB219_209.out
       have hnc66 := NB209_219.out
       have hcz67_0 : w26.cell? ⟨gb219, 0, none⟩ = some (.int .i64 0) := (blk_cell BK219.out 0).trans rfl
       have hcz67_1 : w26.cell? ⟨gb219, 1, none⟩ = some (.int .i64 0) := (blk_cell BK219.out 1).trans rfl
       have hcz67_2 : w26.cell? ⟨gb219, 2, none⟩ = some (.int .i64 0) := (blk_cell BK219.out 2).trans rfl
       have hcz67_3 : w26.cell? ⟨gb219, 3, none⟩ = some (.int .i64 0) := (blk_cell BK219.out 3).trans rfl
       have hcz67_4 : w26.cell? ⟨gb219, 4, none⟩ = some (.int .i64 0) := (blk_cell BK219.out 4).trans rfl
       have hcz67_5 : w26.cell? ⟨gb219, 5, none⟩ = some (.int .i64 0) := (blk_cell BK219.out 5).trans rfl
       have hcz67_6 : w26.cell? ⟨gb219, 6, none⟩ = some (.int .i64 0) := (blk_cell BK219.out 6).trans rfl
       have hcz67_7 : w26.cell? ⟨gb219, 7, none⟩ = some (.int .i64 0) := (blk_cell BK219.out 7).trans rfl
       have hfz67_0 := blk_frozen BK219.out 0
       have hfz67_1 := blk_frozen BK219.out 1
       have hfz67_2 := blk_frozen BK219.out 2
       have hfz67_3 := blk_frozen BK219.out 3
       have hfz67_4 := blk_frozen BK219.out 4
       have hfz67_5 := blk_frozen BK219.out 5
       have hfz67_6 := blk_frozen BK219.out 6
       have hfz67_7 := blk_frozen BK219.out 7
       go_wp2
       go_meet
       case rel => exact ⟨_, (true), (by first | rfl | (simp; done) | (simp [*]; done)), H', ⟨by first | omega | exact Nat.le_refl _⟩, ⟨by (with_reducible repeat (first | apply Kd.V_alloc | apply Kd.V_drewN | apply Kd.V_drew)); exact Kd.V_mono (Kd.V_far (p := ⟨gb219, 7, none⟩) (Kd.V_far (p := ⟨gb219, 6, none⟩) (Kd.V_far (p := ⟨gb219, 5, none⟩) (Kd.V_far (p := ⟨gb219, 4, none⟩) (Kd.V_far (p := ⟨gb219, 3, none⟩) (Kd.V_far (p := ⟨gb219, 2, none⟩) (Kd.V_far (p := ⟨gb219, 1, none⟩) (Kd.V_far (p := ⟨gb219, 0, none⟩) (Kd.V_mono HO198.out (fun k_ hk => (⟨hk, hk.2⟩ : _ ∧ k_ ≠ gb219))) (fun _ hk => hk.2) (.int .i64 t210)) (fun _ hk => hk.2) (.int .i64 t211)) (fun _ hk => hk.2) (.int .i64 t212)) (fun _ hk => hk.2) (.int .i64 t213)) (fun _ hk => hk.2) (.int .i64 t214)) (fun _ hk => hk.2) (.int .i64 t215)) (fun _ hk => hk.2) (.int .i64 t216)) (fun _ hk => hk.2) (.int .i64 t217)) (fun _ hk => ⟨hk.1.1.1.1, ⟨hk.1.1.1.2, ⟨hk.1.1.2, hk.1.2⟩⟩⟩)⟩, ⟨by (with_reducible repeat (first | refine blk_drewN ?_ _ | refine blk_drew ?_ | refine blk_alloc ?_ _)); refine blk_far ?_ NB192_219.out _; (with_reducible repeat (first | refine blk_drewN ?_ _ | refine blk_drew ?_ | refine blk_alloc ?_ _)); refine blk_far ?_ NB192_219.out _; (with_reducible repeat (first | refine blk_drewN ?_ _ | refine blk_drew ?_ | refine blk_alloc ?_ _)); refine blk_far ?_ NB192_219.out _; (with_reducible repeat (first | refine blk_drewN ?_ _ | refine blk_drew ?_ | refine blk_alloc ?_ _)); refine blk_far ?_ NB192_219.out _; (with_reducible repeat (first | refine blk_drewN ?_ _ | refine blk_drew ?_ | refine blk_alloc ?_ _)); refine blk_far ?_ NB192_219.out _; (with_reducible repeat (first | refine blk_drewN ?_ _ | refine blk_drew ?_ | refine blk_alloc ?_ _)); refine blk_far ?_ NB192_219.out _; (with_reducible repeat (first | refine blk_drewN ?_ _ | refine blk_drew ?_ | refine blk_alloc ?_ _)); refine blk_far ?_ NB192_219.out _; (with_reducible repeat (first | refine blk_drewN ?_ _ | refine blk_drew ?_ | refine blk_alloc ?_ _)); refine blk_far ?_ NB192_219.out _; (with_reducible repeat (first | refine blk_drewN ?_ _ | refine blk_drew ?_ | refine blk_alloc ?_ _)); exact BK192.out⟩, ⟨by (with_reducible repeat (first | refine blk_drewN ?_ _ | refine blk_drew ?_ | refine blk_alloc ?_ _)); refine blk_far ?_ NB199_219.out _; (with_reducible repeat (first | refine blk_drewN ?_ _ | refine blk_drew ?_ | refine blk_alloc ?_ _)); refine blk_far ?_ NB199_219.out _; (with_reducible repeat (first | refine blk_drewN ?_ _ | refine blk_drew ?_ | refine blk_alloc ?_ _)); refine blk_far ?_ NB199_219.out _; (with_reducible repeat (first | refine blk_drewN ?_ _ | refine blk_drew ?_ | refine blk_alloc ?_ _)); refine blk_far ?_ NB199_219.out _; (with_reducible repeat (first | refine blk_drewN ?_ _ | refine blk_drew ?_ | refine blk_alloc ?_ _)); refine blk_far ?_ NB199_219.out _; (with_reducible repeat (first | refine blk_drewN ?_ _ | refine blk_drew ?_ | refine blk_alloc ?_ _)); refine blk_far ?_ NB199_219.out _; (with_reducible repeat (first | refine blk_drewN ?_ _ | refine blk_drew ?_ | refine blk_alloc ?_ _)); refine blk_far ?_ NB199_219.out _; (with_reducible repeat (first | refine blk_drewN ?_ _ | refine blk_drew ?_ | refine blk_alloc ?_ _)); refine blk_far ?_ NB199_219.out _; (with_reducible repeat (first | refine blk_drewN ?_ _ | refine blk_drew ?_ | refine blk_alloc ?_ _)); exact BK199.out⟩, ⟨by (with_reducible repeat (first | refine blk_drewN ?_ _ | refine blk_drew ?_ | refine blk_alloc ?_ _)); refine blk_far ?_ NB209_219.out _; (with_reducible repeat (first | refine blk_drewN ?_ _ | refine blk_drew ?_ | refine blk_alloc ?_ _)); refine blk_far ?_ NB209_219.out _; (with_reducible repeat (first | refine blk_drewN ?_ _ | refine blk_drew ?_ | refine blk_alloc ?_ _)); refine blk_far ?_ NB209_219.out _; (with_reducible repeat (first | refine blk_drewN ?_ _ | refine blk_drew ?_ | refine blk_alloc ?_ _)); refine blk_far ?_ NB209_219.out _; (with_reducible repeat (first | refine blk_drewN ?_ _ | refine blk_drew ?_ | refine blk_alloc ?_ _)); refine blk_far ?_ NB209_219.out _; (with_reducible repeat (first | refine blk_drewN ?_ _ | refine blk_drew ?_ | refine blk_alloc ?_ _)); refine blk_far ?_ NB209_219.out _; (with_reducible repeat (first | refine blk_drewN ?_ _ | refine blk_drew ?_ | refine blk_alloc ?_ _)); refine blk_far ?_ NB209_219.out _; (with_reducible repeat (first | refine blk_drewN ?_ _ | refine blk_drew ?_ | refine blk_alloc ?_ _)); refine blk_far ?_ NB209_219.out _; (with_reducible repeat (first | refine blk_drewN ?_ _ | refine blk_drew ?_ | refine blk_alloc ?_ _)); exact BK209.out⟩, ⟨by (with_reducible repeat (first | refine blk_drewN ?_ _ | refine blk_drew ?_ | refine blk_alloc ?_ _)); refine blk_put (cs := #[.int .i64 t210, .int .i64 t211, .int .i64 t212, .int .i64 t213, .int .i64 t214, .int .i64 t215, .int .i64 t216, .int .i64 0]) ?_ 7 _ rfl; (with_reducible repeat (first | refine blk_drewN ?_ _ | refine blk_drew ?_ | refine blk_alloc ?_ _)); refine blk_put (cs := #[.int .i64 t210, .int .i64 t211, .int .i64 t212, .int .i64 t213, .int .i64 t214, .int .i64 t215, .int .i64 0, .int .i64 0]) ?_ 6 _ rfl; (with_reducible repeat (first | refine blk_drewN ?_ _ | refine blk_drew ?_ | refine blk_alloc ?_ _)); refine blk_put (cs := #[.int .i64 t210, .int .i64 t211, .int .i64 t212, .int .i64 t213, .int .i64 t214, .int .i64 0, .int .i64 0, .int .i64 0]) ?_ 5 _ rfl; (with_reducible repeat (first | refine blk_drewN ?_ _ | refine blk_drew ?_ | refine blk_alloc ?_ _)); refine blk_put (cs := #[.int .i64 t210, .int .i64 t211, .int .i64 t212, .int .i64 t213, .int .i64 0, .int .i64 0, .int .i64 0, .int .i64 0]) ?_ 4 _ rfl; (with_reducible repeat (first | refine blk_drewN ?_ _ | refine blk_drew ?_ | refine blk_alloc ?_ _)); refine blk_put (cs := #[.int .i64 t210, .int .i64 t211, .int .i64 t212, .int .i64 0, .int .i64 0, .int .i64 0, .int .i64 0, .int .i64 0]) ?_ 3 _ rfl; (with_reducible repeat (first | refine blk_drewN ?_ _ | refine blk_drew ?_ | refine blk_alloc ?_ _)); refine blk_put (cs := #[.int .i64 t210, .int .i64 t211, .int .i64 0, .int .i64 0, .int .i64 0, .int .i64 0, .int .i64 0, .int .i64 0]) ?_ 2 _ rfl; (with_reducible repeat (first | refine blk_drewN ?_ _ | refine blk_drew ?_ | refine blk_alloc ?_ _)); refine blk_put (cs := #[.int .i64 t210, .int .i64 0, .int .i64 0, .int .i64 0, .int .i64 0, .int .i64 0, .int .i64 0, .int .i64 0]) ?_ 1 _ rfl; (with_reducible repeat (first | refine blk_drewN ?_ _ | refine blk_drew ?_ | refine blk_alloc ?_ _)); refine blk_put (cs := #[.int .i64 0, .int .i64 0, .int .i64 0, .int .i64 0, .int .i64 0, .int .i64 0, .int .i64 0, .int .i64 0]) ?_ 0 _ rfl; (with_reducible repeat (first | refine blk_drewN ?_ _ | refine blk_drew ?_ | refine blk_alloc ?_ _)); exact BK219.out⟩, ⟨by repeat (first | (with_reducible first | exact HB.out | apply below_alloc | apply pw_below_drewN | apply below_drew1 | refine below_set ?_ GE192.out | refine below_set ?_ GE199.out | refine below_set ?_ GE209.out | refine below_set ?_ GE219.out) | exact HB.out)⟩⟩
    ·
     rw [if_neg c31] at H
     have c31b0 : (t218 == 0) = false := beq_eq_false_iff_ne.mpr c31
     have c31b1 : (t218 != 0) = true := bne_iff_ne.mpr c31
     (first | rw [c31b0] | (simp only [i64_w, i32_w]; rw [c31b0]) | skip)
     have H' := Aside0.mk H
     clear H
     go_wp2
     go_meet
     case rel => exact ⟨_, (true), (by first | rfl | (simp; done) | (simp [*]; done)), H', ⟨by first | omega | exact Nat.le_refl _⟩, ⟨by (with_reducible repeat (first | apply Kd.V_alloc | apply Kd.V_drewN | apply Kd.V_drew)); exact Kd.V_mono (Kd.V_far (p := ⟨gb219, 7, none⟩) (Kd.V_far (p := ⟨gb219, 6, none⟩) (Kd.V_far (p := ⟨gb219, 5, none⟩) (Kd.V_far (p := ⟨gb219, 4, none⟩) (Kd.V_far (p := ⟨gb219, 3, none⟩) (Kd.V_far (p := ⟨gb219, 2, none⟩) (Kd.V_far (p := ⟨gb219, 1, none⟩) (Kd.V_far (p := ⟨gb219, 0, none⟩) (Kd.V_mono HO198.out (fun k_ hk => (⟨hk, hk.2⟩ : _ ∧ k_ ≠ gb219))) (fun _ hk => hk.2) (.int .i64 t210)) (fun _ hk => hk.2) (.int .i64 t211)) (fun _ hk => hk.2) (.int .i64 t212)) (fun _ hk => hk.2) (.int .i64 t213)) (fun _ hk => hk.2) (.int .i64 t214)) (fun _ hk => hk.2) (.int .i64 t215)) (fun _ hk => hk.2) (.int .i64 t216)) (fun _ hk => hk.2) (.int .i64 t217)) (fun _ hk => ⟨hk.1.1.1.1, ⟨hk.1.1.1.2, ⟨hk.1.1.2, hk.1.2⟩⟩⟩)⟩, ⟨by (with_reducible repeat (first | refine blk_drewN ?_ _ | refine blk_drew ?_ | refine blk_alloc ?_ _)); refine blk_far ?_ NB192_219.out _; (with_reducible repeat (first | refine blk_drewN ?_ _ | refine blk_drew ?_ | refine blk_alloc ?_ _)); refine blk_far ?_ NB192_219.out _; (with_reducible repeat (first | refine blk_drewN ?_ _ | refine blk_drew ?_ | refine blk_alloc ?_ _)); refine blk_far ?_ NB192_219.out _; (with_reducible repeat (first | refine blk_drewN ?_ _ | refine blk_drew ?_ | refine blk_alloc ?_ _)); refine blk_far ?_ NB192_219.out _; (with_reducible repeat (first | refine blk_drewN ?_ _ | refine blk_drew ?_ | refine blk_alloc ?_ _)); refine blk_far ?_ NB192_219.out _; (with_reducible repeat (first | refine blk_drewN ?_ _ | refine blk_drew ?_ | refine blk_alloc ?_ _)); refine blk_far ?_ NB192_219.out _; (with_reducible repeat (first | refine blk_drewN ?_ _ | refine blk_drew ?_ | refine blk_alloc ?_ _)); refine blk_far ?_ NB192_219.out _; (with_reducible repeat (first | refine blk_drewN ?_ _ | refine blk_drew ?_ | refine blk_alloc ?_ _)); refine blk_far ?_ NB192_219.out _; (with_reducible repeat (first | refine blk_drewN ?_ _ | refine blk_drew ?_ | refine blk_alloc ?_ _)); exact BK192.out⟩, ⟨by (with_reducible repeat (first | refine blk_drewN ?_ _ | refine blk_drew ?_ | refine blk_alloc ?_ _)); refine blk_far ?_ NB199_219.out _; (with_reducible repeat (first | refine blk_drewN ?_ _ | refine blk_drew ?_ | refine blk_alloc ?_ _)); refine blk_far ?_ NB199_219.out _; (with_reducible repeat (first | refine blk_drewN ?_ _ | refine blk_drew ?_ | refine blk_alloc ?_ _)); refine blk_far ?_ NB199_219.out _; (with_reducible repeat (first | refine blk_drewN ?_ _ | refine blk_drew ?_ | refine blk_alloc ?_ _)); refine blk_far ?_ NB199_219.out _; (with_reducible repeat (first | refine blk_drewN ?_ _ | refine blk_drew ?_ | refine blk_alloc ?_ _)); refine blk_far ?_ NB199_219.out _; (with_reducible repeat (first | refine blk_drewN ?_ _ | refine blk_drew ?_ | refine blk_alloc ?_ _)); refine blk_far ?_ NB199_219.out _; (with_reducible repeat (first | refine blk_drewN ?_ _ | refine blk_drew ?_ | refine blk_alloc ?_ _)); refine blk_far ?_ NB199_219.out _; (with_reducible repeat (first | refine blk_drewN ?_ _ | refine blk_drew ?_ | refine blk_alloc ?_ _)); refine blk_far ?_ NB199_219.out _; (with_reducible repeat (first | refine blk_drewN ?_ _ | refine blk_drew ?_ | refine blk_alloc ?_ _)); exact BK199.out⟩, ⟨by (with_reducible repeat (first | refine blk_drewN ?_ _ | refine blk_drew ?_ | refine blk_alloc ?_ _)); refine blk_far ?_ NB209_219.out _; (with_reducible repeat (first | refine blk_drewN ?_ _ | refine blk_drew ?_ | refine blk_alloc ?_ _)); refine blk_far ?_ NB209_219.out _; (with_reducible repeat (first | refine blk_drewN ?_ _ | refine blk_drew ?_ | refine blk_alloc ?_ _)); refine blk_far ?_ NB209_219.out _; (with_reducible repeat (first | refine blk_drewN ?_ _ | refine blk_drew ?_ | refine blk_alloc ?_ _)); refine blk_far ?_ NB209_219.out _; (with_reducible repeat (first | refine blk_drewN ?_ _ | refine blk_drew ?_ | refine blk_alloc ?_ _)); refine blk_far ?_ NB209_219.out _; (with_reducible repeat (first | refine blk_drewN ?_ _ | refine blk_drew ?_ | refine blk_alloc ?_ _)); refine blk_far ?_ NB209_219.out _; (with_reducible repeat (first | refine blk_drewN ?_ _ | refine blk_drew ?_ | refine blk_alloc ?_ _)); refine blk_far ?_ NB209_219.out _; (with_reducible repeat (first | refine blk_drewN ?_ _ | refine blk_drew ?_ | refine blk_alloc ?_ _)); refine blk_far ?_ NB209_219.out _; (with_reducible repeat (first | refine blk_drewN ?_ _ | refine blk_drew ?_ | refine blk_alloc ?_ _)); exact BK209.out⟩, ⟨by (with_reducible repeat (first | refine blk_drewN ?_ _ | refine blk_drew ?_ | refine blk_alloc ?_ _)); refine blk_put (cs := #[.int .i64 t210, .int .i64 t211, .int .i64 t212, .int .i64 t213, .int .i64 t214, .int .i64 t215, .int .i64 t216, .int .i64 0]) ?_ 7 _ rfl; (with_reducible repeat (first | refine blk_drewN ?_ _ | refine blk_drew ?_ | refine blk_alloc ?_ _)); refine blk_put (cs := #[.int .i64 t210, .int .i64 t211, .int .i64 t212, .int .i64 t213, .int .i64 t214, .int .i64 t215, .int .i64 0, .int .i64 0]) ?_ 6 _ rfl; (with_reducible repeat (first | refine blk_drewN ?_ _ | refine blk_drew ?_ | refine blk_alloc ?_ _)); refine blk_put (cs := #[.int .i64 t210, .int .i64 t211, .int .i64 t212, .int .i64 t213, .int .i64 t214, .int .i64 0, .int .i64 0, .int .i64 0]) ?_ 5 _ rfl; (with_reducible repeat (first | refine blk_drewN ?_ _ | refine blk_drew ?_ | refine blk_alloc ?_ _)); refine blk_put (cs := #[.int .i64 t210, .int .i64 t211, .int .i64 t212, .int .i64 t213, .int .i64 0, .int .i64 0, .int .i64 0, .int .i64 0]) ?_ 4 _ rfl; (with_reducible repeat (first | refine blk_drewN ?_ _ | refine blk_drew ?_ | refine blk_alloc ?_ _)); refine blk_put (cs := #[.int .i64 t210, .int .i64 t211, .int .i64 t212, .int .i64 0, .int .i64 0, .int .i64 0, .int .i64 0, .int .i64 0]) ?_ 3 _ rfl; (with_reducible repeat (first | refine blk_drewN ?_ _ | refine blk_drew ?_ | refine blk_alloc ?_ _)); refine blk_put (cs := #[.int .i64 t210, .int .i64 t211, .int .i64 0, .int .i64 0, .int .i64 0, .int .i64 0, .int .i64 0, .int .i64 0]) ?_ 2 _ rfl; (with_reducible repeat (first | refine blk_drewN ?_ _ | refine blk_drew ?_ | refine blk_alloc ?_ _)); refine blk_put (cs := #[.int .i64 t210, .int .i64 0, .int .i64 0, .int .i64 0, .int .i64 0, .int .i64 0, .int .i64 0, .int .i64 0]) ?_ 1 _ rfl; (with_reducible repeat (first | refine blk_drewN ?_ _ | refine blk_drew ?_ | refine blk_alloc ?_ _)); refine blk_put (cs := #[.int .i64 0, .int .i64 0, .int .i64 0, .int .i64 0, .int .i64 0, .int .i64 0, .int .i64 0, .int .i64 0]) ?_ 0 _ rfl; (with_reducible repeat (first | refine blk_drewN ?_ _ | refine blk_drew ?_ | refine blk_alloc ?_ _)); exact BK219.out⟩, ⟨by repeat (first | (with_reducible first | exact HB.out | apply below_alloc | apply pw_below_drewN | apply below_drew1 | refine below_set ?_ GE192.out | refine below_set ?_ GE199.out | refine below_set ?_ GE209.out | refine below_set ?_ GE219.out) | exact HB.out)⟩⟩
   case rest =>
    clear HC8
    try clear c1
    try clear c2
    try clear p2
    try clear c3
    try clear c4
    try clear c4b0
    try clear c4b1
    try clear c5
    try clear c6
    try clear c6b0
    try clear c6b1
    try clear p6
    try clear c7
    try clear c13
    try clear c21
    try clear c22
    try clear c27
    try clear c28
    try clear c29
    try clear c31
    try clear c31b0
    try clear c31b1
    try clear c32
    try clear c32b0
    try clear c32b1
    try clear c33
    try clear c33b0
    try clear c33b1
    try clear c34
    try clear c35
    try clear c36
    try clear c38
    try clear c39
    try clear c41
    try clear c42
    try clear c43
    try clear c45
    try clear c46
    try clear c48
    try clear c48b0
    try clear c48b1
    try clear c49
    try clear c49b0
    try clear c49b1
    try clear c50
    try clear c51
    try clear c52
    try clear c54
    try clear c55
    try clear c57
    try clear c58
    try clear c59
    try clear c61
    try clear c62
    try clear c64
    try clear p64
    try clear c65
    try clear c66
    try clear hcz10_0
    try clear hcz10_1
    try clear hcz10_10
    try clear hcz10_11
    try clear hcz10_12
    try clear hcz10_13
    try clear hcz10_14
    try clear hcz10_15
    try clear hcz10_2
    try clear hcz10_3
    try clear hcz10_4
    try clear hcz10_5
    try clear hcz10_6
    try clear hcz10_7
    try clear hcz10_8
    try clear hcz10_9
    try clear hcz14_0
    try clear hcz14_1
    try clear hcz14_2
    try clear hcz14_3
    try clear hcz17_0
    try clear hcz17_1
    try clear hcz17_2
    try clear hcz17_3
    try clear hcz18_0
    try clear hcz18_1
    try clear hcz18_10
    try clear hcz18_11
    try clear hcz18_12
    try clear hcz18_13
    try clear hcz18_14
    try clear hcz18_15
    try clear hcz18_2
    try clear hcz18_3
    try clear hcz18_4
    try clear hcz18_5
    try clear hcz18_6
    try clear hcz18_7
    try clear hcz18_8
    try clear hcz18_9
    try clear hcz23_0
    try clear hcz23_1
    try clear hcz23_2
    try clear hcz23_3
    try clear hcz23_4
    try clear hcz23_5
    try clear hcz24_0
    try clear hcz24_1
    try clear hcz24_2
    try clear hcz24_3
    try clear hcz30_0
    try clear hcz30_1
    try clear hcz30_2
    try clear hcz30_3
    try clear hcz30_4
    try clear hcz30_5
    try clear hcz30_6
    try clear hcz30_7
    try clear hcz37_0
    try clear hcz37_1
    try clear hcz37_2
    try clear hcz37_3
    try clear hcz37_4
    try clear hcz37_5
    try clear hcz37_6
    try clear hcz37_7
    try clear hcz40_0
    try clear hcz40_1
    try clear hcz40_10
    try clear hcz40_11
    try clear hcz40_12
    try clear hcz40_13
    try clear hcz40_14
    try clear hcz40_15
    try clear hcz40_2
    try clear hcz40_3
    try clear hcz40_4
    try clear hcz40_5
    try clear hcz40_6
    try clear hcz40_7
    try clear hcz40_8
    try clear hcz40_9
    try clear hcz44_0
    try clear hcz44_1
    try clear hcz44_2
    try clear hcz44_3
    try clear hcz44_4
    try clear hcz44_5
    try clear hcz44_6
    try clear hcz44_7
    try clear hcz47_0
    try clear hcz47_1
    try clear hcz47_10
    try clear hcz47_11
    try clear hcz47_12
    try clear hcz47_13
    try clear hcz47_14
    try clear hcz47_15
    try clear hcz47_2
    try clear hcz47_3
    try clear hcz47_4
    try clear hcz47_5
    try clear hcz47_6
    try clear hcz47_7
    try clear hcz47_8
    try clear hcz47_9
    try clear hcz53_0
    try clear hcz53_1
    try clear hcz53_2
    try clear hcz53_3
    try clear hcz53_4
    try clear hcz53_5
    try clear hcz53_6
    try clear hcz53_7
    try clear hcz56_0
    try clear hcz56_1
    try clear hcz56_10
    try clear hcz56_11
    try clear hcz56_12
    try clear hcz56_13
    try clear hcz56_14
    try clear hcz56_15
    try clear hcz56_2
    try clear hcz56_3
    try clear hcz56_4
    try clear hcz56_5
    try clear hcz56_6
    try clear hcz56_7
    try clear hcz56_8
    try clear hcz56_9
    try clear hcz60_0
    try clear hcz60_1
    try clear hcz60_2
    try clear hcz60_3
    try clear hcz60_4
    try clear hcz60_5
    try clear hcz60_6
    try clear hcz60_7
    try clear hcz63_0
    try clear hcz63_1
    try clear hcz63_10
    try clear hcz63_11
    try clear hcz63_12
    try clear hcz63_13
    try clear hcz63_14
    try clear hcz63_15
    try clear hcz63_2
    try clear hcz63_3
    try clear hcz63_4
    try clear hcz63_5
    try clear hcz63_6
    try clear hcz63_7
    try clear hcz63_8
    try clear hcz63_9
    try clear hcz67_0
    try clear hcz67_1
    try clear hcz67_2
    try clear hcz67_3
    try clear hcz67_4
    try clear hcz67_5
    try clear hcz67_6
    try clear hcz67_7
    try clear hfz10_0
    try clear hfz10_1
    try clear hfz10_10
    try clear hfz10_11
    try clear hfz10_12
    try clear hfz10_13
    try clear hfz10_14
    try clear hfz10_15
    try clear hfz10_2
    try clear hfz10_3
    try clear hfz10_4
    try clear hfz10_5
    try clear hfz10_6
    try clear hfz10_7
    try clear hfz10_8
    try clear hfz10_9
    try clear hfz14_0
    try clear hfz14_1
    try clear hfz14_2
    try clear hfz14_3
    try clear hfz17_0
    try clear hfz17_1
    try clear hfz17_2
    try clear hfz17_3
    try clear hfz18_0
    try clear hfz18_1
    try clear hfz18_10
    try clear hfz18_11
    try clear hfz18_12
    try clear hfz18_13
    try clear hfz18_14
    try clear hfz18_15
    try clear hfz18_2
    try clear hfz18_3
    try clear hfz18_4
    try clear hfz18_5
    try clear hfz18_6
    try clear hfz18_7
    try clear hfz18_8
    try clear hfz18_9
    try clear hfz23_0
    try clear hfz23_1
    try clear hfz23_2
    try clear hfz23_3
    try clear hfz23_4
    try clear hfz23_5
    try clear hfz24_0
    try clear hfz24_1
    try clear hfz24_2
    try clear hfz24_3
    try clear hfz30_0
    try clear hfz30_1
    try clear hfz30_2
    try clear hfz30_3
    try clear hfz30_4
    try clear hfz30_5
    try clear hfz30_6
    try clear hfz30_7
    try clear hfz37_0
    try clear hfz37_1
    try clear hfz37_2
    try clear hfz37_3
    try clear hfz37_4
    try clear hfz37_5
    try clear hfz37_6
    try clear hfz37_7
    try clear hfz40_0
    try clear hfz40_1
    try clear hfz40_10
    try clear hfz40_11
    try clear hfz40_12
    try clear hfz40_13
    try clear hfz40_14
    try clear hfz40_15
    try clear hfz40_2
    try clear hfz40_3
    try clear hfz40_4
    try clear hfz40_5
    try clear hfz40_6
    try clear hfz40_7
    try clear hfz40_8
    try clear hfz40_9
    try clear hfz44_0
    try clear hfz44_1
    try clear hfz44_2
    try clear hfz44_3
    try clear hfz44_4
    try clear hfz44_5
    try clear hfz44_6
    try clear hfz44_7
    try clear hfz47_0
    try clear hfz47_1
    try clear hfz47_10
    try clear hfz47_11
    try clear hfz47_12
    try clear hfz47_13
    try clear hfz47_14
    try clear hfz47_15
    try clear hfz47_2
    try clear hfz47_3
    try clear hfz47_4
    try clear hfz47_5
    try clear hfz47_6
    try clear hfz47_7
    try clear hfz47_8
    try clear hfz47_9
    try clear hfz53_0
    try clear hfz53_1
    try clear hfz53_2
    try clear hfz53_3
    try clear hfz53_4
    try clear hfz53_5
    try clear hfz53_6
    try clear hfz53_7
    try clear hfz56_0
    try clear hfz56_1
    try clear hfz56_10
    try clear hfz56_11
    try clear hfz56_12
    try clear hfz56_13
    try clear hfz56_14
    try clear hfz56_15
    try clear hfz56_2
    try clear hfz56_3
    try clear hfz56_4
    try clear hfz56_5
    try clear hfz56_6
    try clear hfz56_7
    try clear hfz56_8
    try clear hfz56_9
    try clear hfz60_0
    try clear hfz60_1
    try clear hfz60_2
    try clear hfz60_3
    try clear hfz60_4
    try clear hfz60_5
    try clear hfz60_6
    try clear hfz60_7
    try clear hfz63_0
    try clear hfz63_1
    try clear hfz63_10
    try clear hfz63_11
    try clear hfz63_12
    try clear hfz63_13
    try clear hfz63_14
    try clear hfz63_15
    try clear hfz63_2
    try clear hfz63_3
    try clear hfz63_4
    try clear hfz63_5
    try clear hfz63_6
    try clear hfz63_7
    try clear hfz63_8
    try clear hfz63_9
    try clear hfz67_0
    try clear hfz67_1
    try clear hfz67_2
    try clear hfz67_3
    try clear hfz67_4
    try clear hfz67_5
    try clear hfz67_6
    try clear hfz67_7
    obtain ⟨kq, x72_7, rfl, HA, HJ7, HO_200003, BK192, BK199, BK209, BK219, HB⟩ := hcut
    cases kq with
    | zero => exact absurd HA.out (by simp [bivouactop_BivouacGuns.j0])
    | succ kj7 =>
     have H := HA.out
     clear HA
     simp only [bivouactop_BivouacGuns.j0] at H
     by_cases c68 : x72_7 = true
     ·
      subst c68
      have H1 : (none) = some r := by rw [if_pos rfl] at H; exact H
      clear H
      have H := H1
      clear H1
      exact absurd H (by simp)
     ·
      replace c68 := Bool.eq_false_iff.mpr c68
      subst c68
      have H1 : (if a0_13 < 0 then (some true) else (if a0_13 > 9999 then (some true) else ((blast_Hurts.f kj7 t212 t213 a0_13 2 (wrap64 ((wrap64 ((wrap64 (Int.tdiv a0_10 65536)) * 65536)) + (wrap64 (a0_14)))) (wrap64 ((wrap64 ((wrap64 (Int.tdiv a0_11 65536)) * 65536)) + (wrap64 (a0_15))))).bind fun t220 => (if t220 ≥ (wrap64 (Int.tdiv a0_13 2)) then (some (decide (t220 ≤ a0_13))) else (none))))) = some r := by rw [if_neg (show ¬ (false = true) by decide)] at H; exact H
      clear H
      have H := H1
      clear H1
      by_cases c69 : a0_13 < 0
      ·
       rw [if_pos c69] at H
       have c69b0 : decide (a0_13 < 0) = true := decide_eq_true c69
       clear c69
       obtain rfl := Option.some.inj H
       have hnb70 := NB192_199.out
       have hnc70 := NB199_192.out
       have hnb71 := NB192_209.out
       have hnc71 := NB209_192.out
       have hnb72 := NB192_219.out
       have hnc72 := NB219_192.out
       have hcz73_0 : wc.cell? ⟨gb192, 0, none⟩ = some (.int .i64 a0_0) := (blk_cell BK192.out 0).trans rfl
       have hcz73_1 : wc.cell? ⟨gb192, 1, none⟩ = some (.int .i64 a0_1) := (blk_cell BK192.out 1).trans rfl
       have hcz73_2 : wc.cell? ⟨gb192, 2, none⟩ = some (.int .i64 a0_2) := (blk_cell BK192.out 2).trans rfl
       have hcz73_3 : wc.cell? ⟨gb192, 3, none⟩ = some (.slice A0_3 l0_3.length c0_3) := (blk_cell BK192.out 3).trans rfl
       have hcz73_4 : wc.cell? ⟨gb192, 4, none⟩ = some (.int .i64 a0_4) := (blk_cell BK192.out 4).trans rfl
       have hcz73_5 : wc.cell? ⟨gb192, 5, none⟩ = some (.int .i64 a0_5) := (blk_cell BK192.out 5).trans rfl
       have hcz73_6 : wc.cell? ⟨gb192, 6, none⟩ = some (.int .i64 a0_6) := (blk_cell BK192.out 6).trans rfl
       have hcz73_7 : wc.cell? ⟨gb192, 7, none⟩ = some (.int .i64 a0_7) := (blk_cell BK192.out 7).trans rfl
       have hcz73_8 : wc.cell? ⟨gb192, 8, none⟩ = some (.int .i64 a0_8) := (blk_cell BK192.out 8).trans rfl
       have hcz73_9 : wc.cell? ⟨gb192, 9, none⟩ = some (.int .i64 a0_9) := (blk_cell BK192.out 9).trans rfl
       have hcz73_10 : wc.cell? ⟨gb192, 10, none⟩ = some (.int .i64 a0_10) := (blk_cell BK192.out 10).trans rfl
       have hcz73_11 : wc.cell? ⟨gb192, 11, none⟩ = some (.int .i64 a0_11) := (blk_cell BK192.out 11).trans rfl
       have hcz73_12 : wc.cell? ⟨gb192, 12, none⟩ = some (.int .i64 a0_12) := (blk_cell BK192.out 12).trans rfl
       have hcz73_13 : wc.cell? ⟨gb192, 13, none⟩ = some (.int .i64 a0_13) := (blk_cell BK192.out 13).trans rfl
       have hcz73_14 : wc.cell? ⟨gb192, 14, none⟩ = some (.int .u16 a0_14) := (blk_cell BK192.out 14).trans rfl
       have hcz73_15 : wc.cell? ⟨gb192, 15, none⟩ = some (.int .u16 a0_15) := (blk_cell BK192.out 15).trans rfl
       have hfz73_0 := blk_frozen BK192.out 0
       have hfz73_1 := blk_frozen BK192.out 1
       have hfz73_2 := blk_frozen BK192.out 2
       have hfz73_3 := blk_frozen BK192.out 3
       have hfz73_4 := blk_frozen BK192.out 4
       have hfz73_5 := blk_frozen BK192.out 5
       have hfz73_6 := blk_frozen BK192.out 6
       have hfz73_7 := blk_frozen BK192.out 7
       have hfz73_8 := blk_frozen BK192.out 8
       have hfz73_9 := blk_frozen BK192.out 9
       have hfz73_10 := blk_frozen BK192.out 10
       have hfz73_11 := blk_frozen BK192.out 11
       have hfz73_12 := blk_frozen BK192.out 12
       have hfz73_13 := blk_frozen BK192.out 13
       have hfz73_14 := blk_frozen BK192.out 14
       have hfz73_15 := blk_frozen BK192.out 15
       go_wp2
       go_ret
       exact ⟨by first | rfl | (simp [errW_none, errW_some] <;> rfl) | (simp [*, errW_none, errW_some] <;> rfl) | (rw [Int.tdiv_eq_ediv_of_nonneg (by assumption)]; rfl), by repeat (first | (with_reducible first | exact HB.out | apply below_alloc | apply pw_below_drewN | apply below_drew1 | refine below_set ?_ GE192.out | refine below_set ?_ GE199.out | refine below_set ?_ GE209.out | refine below_set ?_ GE219.out) | exact HB.out)⟩
      ·
       rw [if_neg c69] at H
       have c69b0 : decide (a0_13 < 0) = false := decide_eq_false c69
       clear c69
       by_cases c74 : a0_13 > 9999
       ·
        rw [if_pos c74] at H
        have c74b0 : decide (9999 < a0_13) = true := decide_eq_true c74
        clear c74
        obtain rfl := Option.some.inj H
        have hnb75 := NB192_199.out
        have hnc75 := NB199_192.out
        have hnb76 := NB192_209.out
        have hnc76 := NB209_192.out
        have hnb77 := NB192_219.out
        have hnc77 := NB219_192.out
        have hcz78_0 : wc.cell? ⟨gb192, 0, none⟩ = some (.int .i64 a0_0) := (blk_cell BK192.out 0).trans rfl
        have hcz78_1 : wc.cell? ⟨gb192, 1, none⟩ = some (.int .i64 a0_1) := (blk_cell BK192.out 1).trans rfl
        have hcz78_2 : wc.cell? ⟨gb192, 2, none⟩ = some (.int .i64 a0_2) := (blk_cell BK192.out 2).trans rfl
        have hcz78_3 : wc.cell? ⟨gb192, 3, none⟩ = some (.slice A0_3 l0_3.length c0_3) := (blk_cell BK192.out 3).trans rfl
        have hcz78_4 : wc.cell? ⟨gb192, 4, none⟩ = some (.int .i64 a0_4) := (blk_cell BK192.out 4).trans rfl
        have hcz78_5 : wc.cell? ⟨gb192, 5, none⟩ = some (.int .i64 a0_5) := (blk_cell BK192.out 5).trans rfl
        have hcz78_6 : wc.cell? ⟨gb192, 6, none⟩ = some (.int .i64 a0_6) := (blk_cell BK192.out 6).trans rfl
        have hcz78_7 : wc.cell? ⟨gb192, 7, none⟩ = some (.int .i64 a0_7) := (blk_cell BK192.out 7).trans rfl
        have hcz78_8 : wc.cell? ⟨gb192, 8, none⟩ = some (.int .i64 a0_8) := (blk_cell BK192.out 8).trans rfl
        have hcz78_9 : wc.cell? ⟨gb192, 9, none⟩ = some (.int .i64 a0_9) := (blk_cell BK192.out 9).trans rfl
        have hcz78_10 : wc.cell? ⟨gb192, 10, none⟩ = some (.int .i64 a0_10) := (blk_cell BK192.out 10).trans rfl
        have hcz78_11 : wc.cell? ⟨gb192, 11, none⟩ = some (.int .i64 a0_11) := (blk_cell BK192.out 11).trans rfl
        have hcz78_12 : wc.cell? ⟨gb192, 12, none⟩ = some (.int .i64 a0_12) := (blk_cell BK192.out 12).trans rfl
        have hcz78_13 : wc.cell? ⟨gb192, 13, none⟩ = some (.int .i64 a0_13) := (blk_cell BK192.out 13).trans rfl
        have hcz78_14 : wc.cell? ⟨gb192, 14, none⟩ = some (.int .u16 a0_14) := (blk_cell BK192.out 14).trans rfl
        have hcz78_15 : wc.cell? ⟨gb192, 15, none⟩ = some (.int .u16 a0_15) := (blk_cell BK192.out 15).trans rfl
        have hfz78_0 := blk_frozen BK192.out 0
        have hfz78_1 := blk_frozen BK192.out 1
        have hfz78_2 := blk_frozen BK192.out 2
        have hfz78_3 := blk_frozen BK192.out 3
        have hfz78_4 := blk_frozen BK192.out 4
        have hfz78_5 := blk_frozen BK192.out 5
        have hfz78_6 := blk_frozen BK192.out 6
        have hfz78_7 := blk_frozen BK192.out 7
        have hfz78_8 := blk_frozen BK192.out 8
        have hfz78_9 := blk_frozen BK192.out 9
        have hfz78_10 := blk_frozen BK192.out 10
        have hfz78_11 := blk_frozen BK192.out 11
        have hfz78_12 := blk_frozen BK192.out 12
        have hfz78_13 := blk_frozen BK192.out 13
        have hfz78_14 := blk_frozen BK192.out 14
        have hfz78_15 := blk_frozen BK192.out 15
        go_wp2
        go_ret
        exact ⟨by first | rfl | (simp [errW_none, errW_some] <;> rfl) | (simp [*, errW_none, errW_some] <;> rfl) | (rw [Int.tdiv_eq_ediv_of_nonneg (by assumption)]; rfl), by repeat (first | (with_reducible first | exact HB.out | apply below_alloc | apply pw_below_drewN | apply below_drew1 | refine below_set ?_ GE192.out | refine below_set ?_ GE199.out | refine below_set ?_ GE209.out | refine below_set ?_ GE219.out) | exact HB.out)⟩
       ·
        rw [if_neg c74] at H
        have c74b0 : decide (9999 < a0_13) = false := decide_eq_false c74
        clear c74
        replace H := Option.bind_eq_some_iff.mp H
        obtain ⟨t220, A790, H⟩ := H
        replace H : (if t220 ≥ (wrap64 (Int.tdiv a0_13 2)) then (some (decide (t220 ≤ a0_13))) else (none)) = some r := H
        have A79 := Aside0.mk A790
        clear A790
        by_cases c80 : t220 ≥ (wrap64 (Int.tdiv a0_13 2))
        ·
         rw [if_pos c80] at H
         have c80b0 : decide ((wrap64 (Int.tdiv a0_13 2)) ≤ t220) = true := decide_eq_true c80
         clear c80
         obtain rfl := Option.some.inj H
         have hnb81 := NB192_199.out
         have hnc81 := NB199_192.out
         have hnb82 := NB192_209.out
         have hnc82 := NB209_192.out
         have hnb83 := NB192_219.out
         have hnc83 := NB219_192.out
         have hcz84_0 : wc.cell? ⟨gb192, 0, none⟩ = some (.int .i64 a0_0) := (blk_cell BK192.out 0).trans rfl
         have hcz84_1 : wc.cell? ⟨gb192, 1, none⟩ = some (.int .i64 a0_1) := (blk_cell BK192.out 1).trans rfl
         have hcz84_2 : wc.cell? ⟨gb192, 2, none⟩ = some (.int .i64 a0_2) := (blk_cell BK192.out 2).trans rfl
         have hcz84_3 : wc.cell? ⟨gb192, 3, none⟩ = some (.slice A0_3 l0_3.length c0_3) := (blk_cell BK192.out 3).trans rfl
         have hcz84_4 : wc.cell? ⟨gb192, 4, none⟩ = some (.int .i64 a0_4) := (blk_cell BK192.out 4).trans rfl
         have hcz84_5 : wc.cell? ⟨gb192, 5, none⟩ = some (.int .i64 a0_5) := (blk_cell BK192.out 5).trans rfl
         have hcz84_6 : wc.cell? ⟨gb192, 6, none⟩ = some (.int .i64 a0_6) := (blk_cell BK192.out 6).trans rfl
         have hcz84_7 : wc.cell? ⟨gb192, 7, none⟩ = some (.int .i64 a0_7) := (blk_cell BK192.out 7).trans rfl
         have hcz84_8 : wc.cell? ⟨gb192, 8, none⟩ = some (.int .i64 a0_8) := (blk_cell BK192.out 8).trans rfl
         have hcz84_9 : wc.cell? ⟨gb192, 9, none⟩ = some (.int .i64 a0_9) := (blk_cell BK192.out 9).trans rfl
         have hcz84_10 : wc.cell? ⟨gb192, 10, none⟩ = some (.int .i64 a0_10) := (blk_cell BK192.out 10).trans rfl
         have hcz84_11 : wc.cell? ⟨gb192, 11, none⟩ = some (.int .i64 a0_11) := (blk_cell BK192.out 11).trans rfl
         have hcz84_12 : wc.cell? ⟨gb192, 12, none⟩ = some (.int .i64 a0_12) := (blk_cell BK192.out 12).trans rfl
         have hcz84_13 : wc.cell? ⟨gb192, 13, none⟩ = some (.int .i64 a0_13) := (blk_cell BK192.out 13).trans rfl
         have hcz84_14 : wc.cell? ⟨gb192, 14, none⟩ = some (.int .u16 a0_14) := (blk_cell BK192.out 14).trans rfl
         have hcz84_15 : wc.cell? ⟨gb192, 15, none⟩ = some (.int .u16 a0_15) := (blk_cell BK192.out 15).trans rfl
         have hfz84_0 := blk_frozen BK192.out 0
         have hfz84_1 := blk_frozen BK192.out 1
         have hfz84_2 := blk_frozen BK192.out 2
         have hfz84_3 := blk_frozen BK192.out 3
         have hfz84_4 := blk_frozen BK192.out 4
         have hfz84_5 := blk_frozen BK192.out 5
         have hfz84_6 := blk_frozen BK192.out 6
         have hfz84_7 := blk_frozen BK192.out 7
         have hfz84_8 := blk_frozen BK192.out 8
         have hfz84_9 := blk_frozen BK192.out 9
         have hfz84_10 := blk_frozen BK192.out 10
         have hfz84_11 := blk_frozen BK192.out 11
         have hfz84_12 := blk_frozen BK192.out 12
         have hfz84_13 := blk_frozen BK192.out 13
         have hfz84_14 := blk_frozen BK192.out 14
         have hfz84_15 := blk_frozen BK192.out 15
         have hnb85 := NB219_199.out
         have hnc85 := NB199_219.out
         have hnb86 := NB219_209.out
         have hnc86 := NB209_219.out
         have hcz87_0 : wc.cell? ⟨gb219, 0, none⟩ = some (.int .i64 t210) := (blk_cell BK219.out 0).trans rfl
         have hcz87_1 : wc.cell? ⟨gb219, 1, none⟩ = some (.int .i64 t211) := (blk_cell BK219.out 1).trans rfl
         have hcz87_2 : wc.cell? ⟨gb219, 2, none⟩ = some (.int .i64 t212) := (blk_cell BK219.out 2).trans rfl
         have hcz87_3 : wc.cell? ⟨gb219, 3, none⟩ = some (.int .i64 t213) := (blk_cell BK219.out 3).trans rfl
         have hcz87_4 : wc.cell? ⟨gb219, 4, none⟩ = some (.int .i64 t214) := (blk_cell BK219.out 4).trans rfl
         have hcz87_5 : wc.cell? ⟨gb219, 5, none⟩ = some (.int .i64 t215) := (blk_cell BK219.out 5).trans rfl
         have hcz87_6 : wc.cell? ⟨gb219, 6, none⟩ = some (.int .i64 t216) := (blk_cell BK219.out 6).trans rfl
         have hcz87_7 : wc.cell? ⟨gb219, 7, none⟩ = some (.int .i64 t217) := (blk_cell BK219.out 7).trans rfl
         have hfz87_0 := blk_frozen BK219.out 0
         have hfz87_1 := blk_frozen BK219.out 1
         have hfz87_2 := blk_frozen BK219.out 2
         have hfz87_3 := blk_frozen BK219.out 3
         have hfz87_4 := blk_frozen BK219.out 4
         have hfz87_5 := blk_frozen BK219.out 5
         have hfz87_6 := blk_frozen BK219.out 6
         have hfz87_7 := blk_frozen BK219.out 7
         go_wp2_with (first | ((with_reducible refine gate_callee (f := 5) rfl ?_); refine goesL_ (some 106) rfl rfl Tryd.func5 (by kernel_rfl) rfl #[.agg #[.int .i64 t212, .int .i64 t213, .int .i64 a0_13, .int .i64 2], .int .i64 (wrap64 ((wrap64 ((wrap64 (Int.tdiv a0_10 65536)) * 65536)) + (wrap64 (a0_14)))), .int .i64 (wrap64 ((wrap64 ((wrap64 (Int.tdiv a0_11 65536)) * 65536)) + (wrap64 (a0_15))))] rfl (by (try simp only [List.map_toArray, List.map_cons, List.map_nil]); first | done | rfl | (simp only [List.length_drop, List.length_take]; rfl)) ?_; (with_reducible refine (blast_Hurts.calls kj7 t212 t213 a0_13 2 (wrap64 ((wrap64 ((wrap64 (Int.tdiv a0_10 65536)) * 65536)) + (wrap64 (a0_14)))) (wrap64 ((wrap64 ((wrap64 (Int.tdiv a0_11 65536)) * 65536)) + (wrap64 (a0_15)))) t220 _ A79.out).mono ?_); rintro e w88 ⟨rfl, hb⟩; refine ⟨_, rfl, ?_⟩; have n0_ := Aside0.mk (Kd.V_below (by (with_reducible repeat (first | apply Kd.V_alloc | apply Kd.V_drewN | apply Kd.V_drew)); exact HO_200003.out) hb); have n1_ := Aside0.mk (blk_below (g := gb192) (o := .cells #[.int .i64 a0_0, .int .i64 a0_1, .int .i64 a0_2, .slice A0_3 l0_3.length c0_3, .int .i64 a0_4, .int .i64 a0_5, .int .i64 a0_6, .int .i64 a0_7, .int .i64 a0_8, .int .i64 a0_9, .int .i64 a0_10, .int .i64 a0_11, .int .i64 a0_12, .int .i64 a0_13, .int .u16 a0_14, .int .u16 a0_15] 29 (0, 0)) (by (with_reducible repeat (first | refine blk_drewN ?_ _ | refine blk_drew ?_ | refine blk_alloc ?_ _)); exact BK192.out) hb); have n2_ := Aside0.mk (blk_below (g := gb199) (o := .cells #[.int .i64 t193, .int .i64 t194, .int .i64 t195, .slice Ao15 t196.length co15] 24 (0, 0)) (by (with_reducible repeat (first | refine blk_drewN ?_ _ | refine blk_drew ?_ | refine blk_alloc ?_ _)); exact BK199.out) hb); have n3_ := Aside0.mk (blk_below (g := gb209) (o := .cells #[.int .i64 t201, .int .i64 t202, .int .i64 t203, .int .i64 t204, .int .i64 t205, .int .i64 t206] 26 (0, 0)) (by (with_reducible repeat (first | refine blk_drewN ?_ _ | refine blk_drew ?_ | refine blk_alloc ?_ _)); exact BK209.out) hb); have n4_ := Aside0.mk (blk_below (g := gb219) (o := .cells #[.int .i64 t210, .int .i64 t211, .int .i64 t212, .int .i64 t213, .int .i64 t214, .int .i64 t215, .int .i64 t216, .int .i64 t217] 38 (0, 0)) (by (with_reducible repeat (first | refine blk_drewN ?_ _ | refine blk_drew ?_ | refine blk_alloc ?_ _)); exact BK219.out) hb); have n5_ := Aside0.mk (below_step (by repeat (first | (with_reducible first | exact HB.out | apply below_alloc | apply pw_below_drewN | apply below_drew1 | refine below_set ?_ GE192.out | refine below_set ?_ GE199.out | refine below_set ?_ GE209.out | refine below_set ?_ GE219.out) | exact HB.out)) hb); clear HO_200003; clear BK192; clear BK199; clear BK209; clear BK219; clear HB; have HO_200003 := n0_; have BK192 := n1_; have BK199 := n2_; have BK209 := n3_; have BK219 := n4_; have HB := n5_; clear n0_ n1_ n2_ n3_ n4_ n5_; (try clear hb); (try clear hb2); (try clear hk); (try clear hi); have hcz89_0 : w88.cell? ⟨gb192, 0, none⟩ = some (.int .i64 a0_0) := (blk_cell BK192.out 0).trans rfl; have hcz89_1 : w88.cell? ⟨gb192, 1, none⟩ = some (.int .i64 a0_1) := (blk_cell BK192.out 1).trans rfl; have hcz89_2 : w88.cell? ⟨gb192, 2, none⟩ = some (.int .i64 a0_2) := (blk_cell BK192.out 2).trans rfl; have hcz89_3 : w88.cell? ⟨gb192, 3, none⟩ = some (.slice A0_3 l0_3.length c0_3) := (blk_cell BK192.out 3).trans rfl; have hcz89_4 : w88.cell? ⟨gb192, 4, none⟩ = some (.int .i64 a0_4) := (blk_cell BK192.out 4).trans rfl; have hcz89_5 : w88.cell? ⟨gb192, 5, none⟩ = some (.int .i64 a0_5) := (blk_cell BK192.out 5).trans rfl; have hcz89_6 : w88.cell? ⟨gb192, 6, none⟩ = some (.int .i64 a0_6) := (blk_cell BK192.out 6).trans rfl; have hcz89_7 : w88.cell? ⟨gb192, 7, none⟩ = some (.int .i64 a0_7) := (blk_cell BK192.out 7).trans rfl; have hcz89_8 : w88.cell? ⟨gb192, 8, none⟩ = some (.int .i64 a0_8) := (blk_cell BK192.out 8).trans rfl; have hcz89_9 : w88.cell? ⟨gb192, 9, none⟩ = some (.int .i64 a0_9) := (blk_cell BK192.out 9).trans rfl; have hcz89_10 : w88.cell? ⟨gb192, 10, none⟩ = some (.int .i64 a0_10) := (blk_cell BK192.out 10).trans rfl; have hcz89_11 : w88.cell? ⟨gb192, 11, none⟩ = some (.int .i64 a0_11) := (blk_cell BK192.out 11).trans rfl; have hcz89_12 : w88.cell? ⟨gb192, 12, none⟩ = some (.int .i64 a0_12) := (blk_cell BK192.out 12).trans rfl; have hcz89_13 : w88.cell? ⟨gb192, 13, none⟩ = some (.int .i64 a0_13) := (blk_cell BK192.out 13).trans rfl; have hcz89_14 : w88.cell? ⟨gb192, 14, none⟩ = some (.int .u16 a0_14) := (blk_cell BK192.out 14).trans rfl; have hcz89_15 : w88.cell? ⟨gb192, 15, none⟩ = some (.int .u16 a0_15) := (blk_cell BK192.out 15).trans rfl; have hfz89_0 := blk_frozen BK192.out 0; have hfz89_1 := blk_frozen BK192.out 1; have hfz89_2 := blk_frozen BK192.out 2; have hfz89_3 := blk_frozen BK192.out 3; have hfz89_4 := blk_frozen BK192.out 4; have hfz89_5 := blk_frozen BK192.out 5; have hfz89_6 := blk_frozen BK192.out 6; have hfz89_7 := blk_frozen BK192.out 7; have hfz89_8 := blk_frozen BK192.out 8; have hfz89_9 := blk_frozen BK192.out 9; have hfz89_10 := blk_frozen BK192.out 10; have hfz89_11 := blk_frozen BK192.out 11; have hfz89_12 := blk_frozen BK192.out 12; have hfz89_13 := blk_frozen BK192.out 13; have hfz89_14 := blk_frozen BK192.out 14; have hfz89_15 := blk_frozen BK192.out 15))
         go_ret
         exact ⟨by first | rfl | (simp [errW_none, errW_some] <;> rfl) | (simp [*, errW_none, errW_some] <;> rfl) | (rw [Int.tdiv_eq_ediv_of_nonneg (by assumption)]; rfl), by repeat (first | (with_reducible first | exact HB.out | apply below_alloc | apply pw_below_drewN | apply below_drew1 | refine below_set ?_ GE192.out | refine below_set ?_ GE199.out | refine below_set ?_ GE209.out | refine below_set ?_ GE219.out) | exact HB.out)⟩
        ·
         rw [if_neg c80] at H
         exact absurd H (by simp)
  ·
   rw [if_neg c6] at H
   have c6b0 : (t208 == 0) = false := beq_eq_false_iff_ne.mpr c6
   have c6b1 : (t208 != 0) = true := bne_iff_ne.mpr c6
   obtain rfl := Option.some.inj H
   go_enter Tryd.func3, Tryd.ntmps3
   go_wp2_with (first | ((with_reducible refine gate_dst (N := 1) rfl ?_); refine box_event ?hg (N := 1) ?hd (cs := #[.int .i64 a0_0, .int .i64 a0_1, .int .i64 a0_2, .slice A0_3 l0_3.length c0_3, .int .i64 a0_4, .int .i64 a0_5, .int .i64 a0_6, .int .i64 a0_7, .int .i64 a0_8, .int .i64 a0_9, .int .i64 a0_10, .int .i64 a0_11, .int .i64 a0_12, .int .i64 a0_13, .int .u16 a0_14, .int .u16 a0_15]) (t := 29) ?hr ?_; (case hd => rfl); (case hg => rfl); (case hr => first | (go_simp; done) | (go_simp; rfl)); intro gb192 hg w90 hbox hb; have n0_ := Aside0.mk (below_step (by repeat (first | (with_reducible first | exact HB.out | apply below_alloc | apply pw_below_drewN | apply below_drew1) | exact HB.out)) hb); have n1_ := Aside0.mk (hbox); have n2_ := Aside0.mk ((by rw [hg]; exact (below_size (by repeat (first | (with_reducible first | exact HB.out | apply below_alloc | apply pw_below_drewN | apply below_drew1) | exact HB.out))) : w.heap.size ≤ gb192)); have n3_ := Aside0.mk ((by rw [hg]; exact (below_size (by repeat (first | (with_reducible first | exact HB.out | apply below_alloc | apply pw_below_drewN | apply below_drew1) | exact HB.out))) : w.heap.size ≤ gb192)); clear HB; have HB := n0_; have BK192 := n1_; have GW192 := n2_; have GE192 := n3_; clear n0_ n1_ n2_ n3_; clear hb hbox hg; have hcz91_0 : w90.cell? ⟨gb192, 0, none⟩ = some (.int .i64 a0_0) := (blk_cell BK192.out 0).trans rfl; have hcz91_1 : w90.cell? ⟨gb192, 1, none⟩ = some (.int .i64 a0_1) := (blk_cell BK192.out 1).trans rfl; have hcz91_2 : w90.cell? ⟨gb192, 2, none⟩ = some (.int .i64 a0_2) := (blk_cell BK192.out 2).trans rfl; have hcz91_3 : w90.cell? ⟨gb192, 3, none⟩ = some (.slice A0_3 l0_3.length c0_3) := (blk_cell BK192.out 3).trans rfl; have hcz91_4 : w90.cell? ⟨gb192, 4, none⟩ = some (.int .i64 a0_4) := (blk_cell BK192.out 4).trans rfl; have hcz91_5 : w90.cell? ⟨gb192, 5, none⟩ = some (.int .i64 a0_5) := (blk_cell BK192.out 5).trans rfl; have hcz91_6 : w90.cell? ⟨gb192, 6, none⟩ = some (.int .i64 a0_6) := (blk_cell BK192.out 6).trans rfl; have hcz91_7 : w90.cell? ⟨gb192, 7, none⟩ = some (.int .i64 a0_7) := (blk_cell BK192.out 7).trans rfl; have hcz91_8 : w90.cell? ⟨gb192, 8, none⟩ = some (.int .i64 a0_8) := (blk_cell BK192.out 8).trans rfl; have hcz91_9 : w90.cell? ⟨gb192, 9, none⟩ = some (.int .i64 a0_9) := (blk_cell BK192.out 9).trans rfl; have hcz91_10 : w90.cell? ⟨gb192, 10, none⟩ = some (.int .i64 a0_10) := (blk_cell BK192.out 10).trans rfl; have hcz91_11 : w90.cell? ⟨gb192, 11, none⟩ = some (.int .i64 a0_11) := (blk_cell BK192.out 11).trans rfl; have hcz91_12 : w90.cell? ⟨gb192, 12, none⟩ = some (.int .i64 a0_12) := (blk_cell BK192.out 12).trans rfl; have hcz91_13 : w90.cell? ⟨gb192, 13, none⟩ = some (.int .i64 a0_13) := (blk_cell BK192.out 13).trans rfl; have hcz91_14 : w90.cell? ⟨gb192, 14, none⟩ = some (.int .u16 a0_14) := (blk_cell BK192.out 14).trans rfl; have hcz91_15 : w90.cell? ⟨gb192, 15, none⟩ = some (.int .u16 a0_15) := (blk_cell BK192.out 15).trans rfl; have hfz91_0 := blk_frozen BK192.out 0; have hfz91_1 := blk_frozen BK192.out 1; have hfz91_2 := blk_frozen BK192.out 2; have hfz91_3 := blk_frozen BK192.out 3; have hfz91_4 := blk_frozen BK192.out 4; have hfz91_5 := blk_frozen BK192.out 5; have hfz91_6 := blk_frozen BK192.out 6; have hfz91_7 := blk_frozen BK192.out 7; have hfz91_8 := blk_frozen BK192.out 8; have hfz91_9 := blk_frozen BK192.out 9; have hfz91_10 := blk_frozen BK192.out 10; have hfz91_11 := blk_frozen BK192.out 11; have hfz91_12 := blk_frozen BK192.out 12; have hfz91_13 := blk_frozen BK192.out 13; have hfz91_14 := blk_frozen BK192.out 14; have hfz91_15 := blk_frozen BK192.out 15) | ((with_reducible refine gate_callee (f := 4) rfl ?_); refine goesL_ (some 12) rfl rfl Tryd.func4 (by kernel_rfl) rfl #[.agg #[.int .i64 a0_0, .int .i64 a0_1, .int .i64 a0_2, .slice A0_3 l0_3.length c0_3]] rfl (by (try simp only [List.map_toArray, List.map_cons, List.map_nil]); first | done | rfl | (simp only [List.length_drop, List.length_take]; rfl)) ?_; (with_reducible refine (bivouactop_few.calls a0_0 a0_1 a0_2 (fun k_ => k_ < w.heap.size) _ _ l0_3 t193 t194 t195 t196 _ ?side1 A2.out).mono ?_); (case side1 => exact Kd.V_mk HC0_3.out (Kd.F_below (Kd.C_F (Kd.heap_int .u8) HR0_3.out) (by repeat (first | (with_reducible first | exact HB.out | apply below_alloc | apply pw_below_drewN | apply below_drew1 | refine below_set ?_ GE192.out) | exact HB.out)))); rintro e w92 ⟨v197, rfl, ho0, hb⟩; refine ⟨_, rfl, ?_⟩; have n0_ := Aside0.mk (Kd.V_lower (Kd.V_mono (ok' := fun k_ => k_ ≠ gb192) ho0 (fun k_ hk_ => Or.elim hk_ (fun hs_ => fun e_ => Nat.not_le.2 hs_ (by rw [e_]; exact GW192.out)) (fun hn_ => (Kd.freshB (g := gb192) (o := .cells #[.int .i64 a0_0, .int .i64 a0_1, .int .i64 a0_2, .slice A0_3 l0_3.length c0_3, .int .i64 a0_4, .int .i64 a0_5, .int .i64 a0_6, .int .i64 a0_7, .int .i64 a0_8, .int .i64 a0_9, .int .i64 a0_10, .int .i64 a0_11, .int .i64 a0_12, .int .i64 a0_13, .int .u16 a0_14, .int .u16 a0_15] 29 (0, 0)) (by (with_reducible repeat (first | refine blk_drewN ?_ _ | refine blk_drew ?_ | refine blk_alloc ?_ _)); exact BK192.out) k_ hn_)))) (below_size (by repeat (first | (with_reducible first | exact HB.out | apply below_alloc | apply pw_below_drewN | apply below_drew1 | refine below_set ?_ GE192.out) | exact HB.out)))); have n1_ := Aside0.mk (blk_below (g := gb192) (o := .cells #[.int .i64 a0_0, .int .i64 a0_1, .int .i64 a0_2, .slice A0_3 l0_3.length c0_3, .int .i64 a0_4, .int .i64 a0_5, .int .i64 a0_6, .int .i64 a0_7, .int .i64 a0_8, .int .i64 a0_9, .int .i64 a0_10, .int .i64 a0_11, .int .i64 a0_12, .int .i64 a0_13, .int .u16 a0_14, .int .u16 a0_15] 29 (0, 0)) (by (with_reducible repeat (first | refine blk_drewN ?_ _ | refine blk_drew ?_ | refine blk_alloc ?_ _)); exact BK192.out) hb); have n2_ := Aside0.mk (below_step (by repeat (first | (with_reducible first | exact HB.out | apply below_alloc | apply pw_below_drewN | apply below_drew1 | refine below_set ?_ GE192.out) | exact HB.out)) hb); clear BK192; clear HB; have HO198 := n0_; have BK192 := n1_; have HB := n2_; clear n0_ n1_ n2_; (try clear hb); (try clear hb2); (try clear hk); (try clear hi); (try clear ho0)) | ((with_reducible refine gate_dst (N := 3) rfl ?_); refine box_event ?hg (N := 3) ?hd (cs := #[.int .i64 0, .int .i64 0, .int .i64 0, .slice none 0 0]) (t := 24) ?hr ?_; (case hd => rfl); (case hg => rfl); (case hr => first | (go_simp; done) | (go_simp; rfl)); intro gb199 hg w93 hbox hb; have n0_ := Aside0.mk (Kd.V_below (Kd.V_elderB (by (with_reducible repeat (first | apply Kd.V_alloc | apply Kd.V_drewN | apply Kd.V_drew)); exact HO198.out) gb199 (Nat.le_of_eq hg.symm)) hb); have n1_ := Aside0.mk (blk_below (g := gb192) (o := .cells #[.int .i64 a0_0, .int .i64 a0_1, .int .i64 a0_2, .slice A0_3 l0_3.length c0_3, .int .i64 a0_4, .int .i64 a0_5, .int .i64 a0_6, .int .i64 a0_7, .int .i64 a0_8, .int .i64 a0_9, .int .i64 a0_10, .int .i64 a0_11, .int .i64 a0_12, .int .i64 a0_13, .int .u16 a0_14, .int .u16 a0_15] 29 (0, 0)) (by (with_reducible repeat (first | refine blk_drewN ?_ _ | refine blk_drew ?_ | refine blk_alloc ?_ _)); exact BK192.out) hb); have n2_ := Aside0.mk (below_step (by repeat (first | (with_reducible first | exact HB.out | apply below_alloc | apply pw_below_drewN | apply below_drew1 | refine below_set ?_ GE192.out) | exact HB.out)) hb); have n3_ := Aside0.mk (hbox); have n4_ := Aside0.mk ((by rw [hg]; exact (below_size (by repeat (first | (with_reducible first | exact HB.out | apply below_alloc | apply pw_below_drewN | apply below_drew1 | refine below_set ?_ GE192.out) | exact HB.out))) : w.heap.size ≤ gb199)); have n5_ := Aside0.mk ((by rw [hg]; exact (below_size (by repeat (first | (with_reducible first | exact HB.out | apply below_alloc | apply pw_below_drewN | apply below_drew1 | refine below_set ?_ GE192.out) | exact HB.out))) : w.heap.size ≤ gb199)); have n6_ := Aside0.mk ((by rw [hg]; exact Nat.ne_of_lt (blk_lt (g := gb192) (o := .cells #[.int .i64 a0_0, .int .i64 a0_1, .int .i64 a0_2, .slice A0_3 l0_3.length c0_3, .int .i64 a0_4, .int .i64 a0_5, .int .i64 a0_6, .int .i64 a0_7, .int .i64 a0_8, .int .i64 a0_9, .int .i64 a0_10, .int .i64 a0_11, .int .i64 a0_12, .int .i64 a0_13, .int .u16 a0_14, .int .u16 a0_15] 29 (0, 0)) (by (with_reducible repeat (first | refine blk_drewN ?_ _ | refine blk_drew ?_ | refine blk_alloc ?_ _)); exact BK192.out)) : gb192 ≠ gb199)); have n7_ := Aside0.mk ((by rw [hg]; exact Nat.ne_of_gt (blk_lt (g := gb192) (o := .cells #[.int .i64 a0_0, .int .i64 a0_1, .int .i64 a0_2, .slice A0_3 l0_3.length c0_3, .int .i64 a0_4, .int .i64 a0_5, .int .i64 a0_6, .int .i64 a0_7, .int .i64 a0_8, .int .i64 a0_9, .int .i64 a0_10, .int .i64 a0_11, .int .i64 a0_12, .int .i64 a0_13, .int .u16 a0_14, .int .u16 a0_15] 29 (0, 0)) (by (with_reducible repeat (first | refine blk_drewN ?_ _ | refine blk_drew ?_ | refine blk_alloc ?_ _)); exact BK192.out)) : gb199 ≠ gb192)); clear HO198; clear BK192; clear HB; have HO198 := n0_; have BK192 := n1_; have HB := n2_; have BK199 := n3_; have GW199 := n4_; have GE199 := n5_; have NB192_199 := n6_; have NB199_192 := n7_; clear n0_ n1_ n2_ n3_ n4_ n5_ n6_ n7_; clear hb hbox hg; have hnb94 := NB199_192.out; have hnc94 := NB192_199.out; have hcz95_0 : w93.cell? ⟨gb199, 0, none⟩ = some (.int .i64 0) := (blk_cell BK199.out 0).trans rfl; have hcz95_1 : w93.cell? ⟨gb199, 1, none⟩ = some (.int .i64 0) := (blk_cell BK199.out 1).trans rfl; have hcz95_2 : w93.cell? ⟨gb199, 2, none⟩ = some (.int .i64 0) := (blk_cell BK199.out 2).trans rfl; have hcz95_3 : w93.cell? ⟨gb199, 3, none⟩ = some (.slice none 0 0) := (blk_cell BK199.out 3).trans rfl; have hfz95_0 := blk_frozen BK199.out 0; have hfz95_1 := blk_frozen BK199.out 1; have hfz95_2 := blk_frozen BK199.out 2; have hfz95_3 := blk_frozen BK199.out 3; obtain ⟨Ao96, co96, eo96⟩ := Kd.V_slice HO198.out; subst eo96) | ((with_reducible refine gate_callee (f := 5) rfl ?_); refine goesL_ (some 14) rfl rfl Tryd.func5 (by kernel_rfl) rfl #[.agg #[.int .i64 0, .int .i64 0, .int .i64 100, .int .i64 2], .int .i64 0, .int .i64 0] rfl (by (try simp only [List.map_toArray, List.map_cons, List.map_nil]); first | done | rfl | (simp only [List.length_drop, List.length_take]; rfl)) ?_; (with_reducible refine (blast_Hurts.calls k 0 0 100 2 0 0 t200 _ A3.out).mono ?_); rintro e w97 ⟨rfl, hb⟩; refine ⟨_, rfl, ?_⟩; have n0_ := Aside0.mk (Kd.V_below (by (with_reducible repeat (first | apply Kd.V_alloc | apply Kd.V_drewN | apply Kd.V_drew)); exact (Kd.V_mono (Kd.V_far (p := ⟨gb199, 3, none⟩) (Kd.V_far (p := ⟨gb199, 2, none⟩) (Kd.V_far (p := ⟨gb199, 1, none⟩) (Kd.V_far (p := ⟨gb199, 0, none⟩) (Kd.V_mono HO198.out (fun k_ hk => (⟨hk, hk.2⟩ : _ ∧ k_ ≠ gb199))) (fun _ hk => hk.2) (.int .i64 t193)) (fun _ hk => hk.2) (.int .i64 t194)) (fun _ hk => hk.2) (.int .i64 t195)) (fun _ hk => hk.2) (.slice Ao96 t196.length co96)) (fun _ h_ => h_.1))) hb); have n1_ := Aside0.mk (blk_below (g := gb192) (o := .cells #[.int .i64 a0_0, .int .i64 a0_1, .int .i64 a0_2, .slice A0_3 l0_3.length c0_3, .int .i64 a0_4, .int .i64 a0_5, .int .i64 a0_6, .int .i64 a0_7, .int .i64 a0_8, .int .i64 a0_9, .int .i64 a0_10, .int .i64 a0_11, .int .i64 a0_12, .int .i64 a0_13, .int .u16 a0_14, .int .u16 a0_15] 29 (0, 0)) (by (with_reducible repeat (first | refine blk_drewN ?_ _ | refine blk_drew ?_ | refine blk_alloc ?_ _)); refine blk_far ?_ NB192_199.out _; (with_reducible repeat (first | refine blk_drewN ?_ _ | refine blk_drew ?_ | refine blk_alloc ?_ _)); refine blk_far ?_ NB192_199.out _; (with_reducible repeat (first | refine blk_drewN ?_ _ | refine blk_drew ?_ | refine blk_alloc ?_ _)); refine blk_far ?_ NB192_199.out _; (with_reducible repeat (first | refine blk_drewN ?_ _ | refine blk_drew ?_ | refine blk_alloc ?_ _)); refine blk_far ?_ NB192_199.out _; (with_reducible repeat (first | refine blk_drewN ?_ _ | refine blk_drew ?_ | refine blk_alloc ?_ _)); exact BK192.out) hb); have n2_ := Aside0.mk (blk_below (g := gb199) (o := .cells #[.int .i64 t193, .int .i64 t194, .int .i64 t195, .slice Ao96 t196.length co96] 24 (0, 0)) (by (with_reducible repeat (first | refine blk_drewN ?_ _ | refine blk_drew ?_ | refine blk_alloc ?_ _)); refine blk_put (cs := #[.int .i64 t193, .int .i64 t194, .int .i64 t195, .slice none 0 0]) ?_ 3 _ rfl; (with_reducible repeat (first | refine blk_drewN ?_ _ | refine blk_drew ?_ | refine blk_alloc ?_ _)); refine blk_put (cs := #[.int .i64 t193, .int .i64 t194, .int .i64 0, .slice none 0 0]) ?_ 2 _ rfl; (with_reducible repeat (first | refine blk_drewN ?_ _ | refine blk_drew ?_ | refine blk_alloc ?_ _)); refine blk_put (cs := #[.int .i64 t193, .int .i64 0, .int .i64 0, .slice none 0 0]) ?_ 1 _ rfl; (with_reducible repeat (first | refine blk_drewN ?_ _ | refine blk_drew ?_ | refine blk_alloc ?_ _)); refine blk_put (cs := #[.int .i64 0, .int .i64 0, .int .i64 0, .slice none 0 0]) ?_ 0 _ rfl; (with_reducible repeat (first | refine blk_drewN ?_ _ | refine blk_drew ?_ | refine blk_alloc ?_ _)); exact BK199.out) hb); have n3_ := Aside0.mk (below_step (by repeat (first | (with_reducible first | exact HB.out | apply below_alloc | apply pw_below_drewN | apply below_drew1 | refine below_set ?_ GE192.out | refine below_set ?_ GE199.out) | exact HB.out)) hb); clear HO198; clear BK192; clear BK199; clear HB; have HO198 := n0_; have BK192 := n1_; have BK199 := n2_; have HB := n3_; clear n0_ n1_ n2_ n3_; (try clear hb); (try clear hb2); (try clear hk); (try clear hi); have hcz98_0 : w97.cell? ⟨gb199, 0, none⟩ = some (.int .i64 t193) := (blk_cell BK199.out 0).trans rfl; have hcz98_1 : w97.cell? ⟨gb199, 1, none⟩ = some (.int .i64 t194) := (blk_cell BK199.out 1).trans rfl; have hcz98_2 : w97.cell? ⟨gb199, 2, none⟩ = some (.int .i64 t195) := (blk_cell BK199.out 2).trans rfl; have hcz98_3 : w97.cell? ⟨gb199, 3, none⟩ = some (.slice Ao96 t196.length co96) := (blk_cell BK199.out 3).trans rfl; have hfz98_0 := blk_frozen BK199.out 0; have hfz98_1 := blk_frozen BK199.out 1; have hfz98_2 := blk_frozen BK199.out 2; have hfz98_3 := blk_frozen BK199.out 3; have hcz99_0 : w97.cell? ⟨gb192, 0, none⟩ = some (.int .i64 a0_0) := (blk_cell BK192.out 0).trans rfl; have hcz99_1 : w97.cell? ⟨gb192, 1, none⟩ = some (.int .i64 a0_1) := (blk_cell BK192.out 1).trans rfl; have hcz99_2 : w97.cell? ⟨gb192, 2, none⟩ = some (.int .i64 a0_2) := (blk_cell BK192.out 2).trans rfl; have hcz99_3 : w97.cell? ⟨gb192, 3, none⟩ = some (.slice A0_3 l0_3.length c0_3) := (blk_cell BK192.out 3).trans rfl; have hcz99_4 : w97.cell? ⟨gb192, 4, none⟩ = some (.int .i64 a0_4) := (blk_cell BK192.out 4).trans rfl; have hcz99_5 : w97.cell? ⟨gb192, 5, none⟩ = some (.int .i64 a0_5) := (blk_cell BK192.out 5).trans rfl; have hcz99_6 : w97.cell? ⟨gb192, 6, none⟩ = some (.int .i64 a0_6) := (blk_cell BK192.out 6).trans rfl; have hcz99_7 : w97.cell? ⟨gb192, 7, none⟩ = some (.int .i64 a0_7) := (blk_cell BK192.out 7).trans rfl; have hcz99_8 : w97.cell? ⟨gb192, 8, none⟩ = some (.int .i64 a0_8) := (blk_cell BK192.out 8).trans rfl; have hcz99_9 : w97.cell? ⟨gb192, 9, none⟩ = some (.int .i64 a0_9) := (blk_cell BK192.out 9).trans rfl; have hcz99_10 : w97.cell? ⟨gb192, 10, none⟩ = some (.int .i64 a0_10) := (blk_cell BK192.out 10).trans rfl; have hcz99_11 : w97.cell? ⟨gb192, 11, none⟩ = some (.int .i64 a0_11) := (blk_cell BK192.out 11).trans rfl; have hcz99_12 : w97.cell? ⟨gb192, 12, none⟩ = some (.int .i64 a0_12) := (blk_cell BK192.out 12).trans rfl; have hcz99_13 : w97.cell? ⟨gb192, 13, none⟩ = some (.int .i64 a0_13) := (blk_cell BK192.out 13).trans rfl; have hcz99_14 : w97.cell? ⟨gb192, 14, none⟩ = some (.int .u16 a0_14) := (blk_cell BK192.out 14).trans rfl; have hcz99_15 : w97.cell? ⟨gb192, 15, none⟩ = some (.int .u16 a0_15) := (blk_cell BK192.out 15).trans rfl; have hfz99_0 := blk_frozen BK192.out 0; have hfz99_1 := blk_frozen BK192.out 1; have hfz99_2 := blk_frozen BK192.out 2; have hfz99_3 := blk_frozen BK192.out 3; have hfz99_4 := blk_frozen BK192.out 4; have hfz99_5 := blk_frozen BK192.out 5; have hfz99_6 := blk_frozen BK192.out 6; have hfz99_7 := blk_frozen BK192.out 7; have hfz99_8 := blk_frozen BK192.out 8; have hfz99_9 := blk_frozen BK192.out 9; have hfz99_10 := blk_frozen BK192.out 10; have hfz99_11 := blk_frozen BK192.out 11; have hfz99_12 := blk_frozen BK192.out 12; have hfz99_13 := blk_frozen BK192.out 13; have hfz99_14 := blk_frozen BK192.out 14; have hfz99_15 := blk_frozen BK192.out 15) | ((with_reducible refine gate_callee (f := 6) rfl ?_); refine goesL_ (some 26) rfl rfl Tryd.func6 (by kernel_rfl) rfl #[.agg #[.int .i64 t193, .int .i64 t194, .int .i64 t195, .slice Ao96 t196.length co96], .agg #[.int .i64 a0_4, .int .i64 a0_5, .int .i64 a0_6, .int .i64 a0_7, .int .i64 a0_8, .int .i64 a0_9], .int .i64 a0_10, .int .i64 a0_11, .int .i64 a0_12] rfl (by (try simp only [List.map_toArray, List.map_cons, List.map_nil]); first | done | rfl | (simp only [List.length_drop, List.length_take]; rfl)) ?_; (with_reducible refine (aim_Solve.calls k t193 t194 t195 _ _ t196 a0_4 a0_5 a0_6 a0_7 a0_8 a0_9 a0_10 a0_11 a0_12 t201 t202 t203 t204 t205 t206 t207 t208 _ ?sideT ?side1 ?side2 A5.out).mono ?_); (case sideT => exact HT.out.below (by repeat (first | (with_reducible first | exact HB.out | apply below_alloc | apply pw_below_drewN | apply below_drew1 | refine below_set ?_ GE192.out | refine below_set ?_ GE199.out) | exact HB.out))); (case side1 => repeat (first | exact (Kd.V_reads' HO198.out).2.2 | (with_reducible refine Kd.C_alloc ?_ _) | (with_reducible refine Kd.C_drewN ?_ _) | (with_reducible refine Kd.C_drew ?_))); (case side2 => exact (Kd.V_reads' HO198.out).2.1); rintro e w100 ⟨rfl, hb⟩; refine ⟨_, rfl, ?_⟩; have n0_ := Aside0.mk (Kd.V_below (by (with_reducible repeat (first | apply Kd.V_alloc | apply Kd.V_drewN | apply Kd.V_drew)); exact HO198.out) hb); have n1_ := Aside0.mk (blk_below (g := gb192) (o := .cells #[.int .i64 a0_0, .int .i64 a0_1, .int .i64 a0_2, .slice A0_3 l0_3.length c0_3, .int .i64 a0_4, .int .i64 a0_5, .int .i64 a0_6, .int .i64 a0_7, .int .i64 a0_8, .int .i64 a0_9, .int .i64 a0_10, .int .i64 a0_11, .int .i64 a0_12, .int .i64 a0_13, .int .u16 a0_14, .int .u16 a0_15] 29 (0, 0)) (by (with_reducible repeat (first | refine blk_drewN ?_ _ | refine blk_drew ?_ | refine blk_alloc ?_ _)); exact BK192.out) hb); have n2_ := Aside0.mk (blk_below (g := gb199) (o := .cells #[.int .i64 t193, .int .i64 t194, .int .i64 t195, .slice Ao96 t196.length co96] 24 (0, 0)) (by (with_reducible repeat (first | refine blk_drewN ?_ _ | refine blk_drew ?_ | refine blk_alloc ?_ _)); exact BK199.out) hb); have n3_ := Aside0.mk (below_step (by repeat (first | (with_reducible first | exact HB.out | apply below_alloc | apply pw_below_drewN | apply below_drew1 | refine below_set ?_ GE192.out | refine below_set ?_ GE199.out) | exact HB.out)) hb); clear HO198; clear BK192; clear BK199; clear HB; have HO198 := n0_; have BK192 := n1_; have BK199 := n2_; have HB := n3_; clear n0_ n1_ n2_ n3_; (try clear hb); (try clear hb2); (try clear hk); (try clear hi)) | ((with_reducible refine gate_dst (N := 4) rfl ?_); refine box_event ?hg (N := 4) ?hd (cs := #[.int .i64 0, .int .i64 0, .int .i64 0, .int .i64 0, .int .i64 0, .int .i64 0]) (t := 26) ?hr ?_; (case hd => rfl); (case hg => rfl); (case hr => first | (go_simp; done) | (go_simp; rfl)); intro gb209 hg w101 hbox hb; have n0_ := Aside0.mk (Kd.V_below (Kd.V_elderB (by (with_reducible repeat (first | apply Kd.V_alloc | apply Kd.V_drewN | apply Kd.V_drew)); exact HO198.out) gb209 (Nat.le_of_eq hg.symm)) hb); have n1_ := Aside0.mk (blk_below (g := gb192) (o := .cells #[.int .i64 a0_0, .int .i64 a0_1, .int .i64 a0_2, .slice A0_3 l0_3.length c0_3, .int .i64 a0_4, .int .i64 a0_5, .int .i64 a0_6, .int .i64 a0_7, .int .i64 a0_8, .int .i64 a0_9, .int .i64 a0_10, .int .i64 a0_11, .int .i64 a0_12, .int .i64 a0_13, .int .u16 a0_14, .int .u16 a0_15] 29 (0, 0)) (by (with_reducible repeat (first | refine blk_drewN ?_ _ | refine blk_drew ?_ | refine blk_alloc ?_ _)); exact BK192.out) hb); have n2_ := Aside0.mk (blk_below (g := gb199) (o := .cells #[.int .i64 t193, .int .i64 t194, .int .i64 t195, .slice Ao96 t196.length co96] 24 (0, 0)) (by (with_reducible repeat (first | refine blk_drewN ?_ _ | refine blk_drew ?_ | refine blk_alloc ?_ _)); exact BK199.out) hb); have n3_ := Aside0.mk (below_step (by repeat (first | (with_reducible first | exact HB.out | apply below_alloc | apply pw_below_drewN | apply below_drew1 | refine below_set ?_ GE192.out | refine below_set ?_ GE199.out) | exact HB.out)) hb); have n4_ := Aside0.mk (hbox); have n5_ := Aside0.mk ((by rw [hg]; exact (below_size (by repeat (first | (with_reducible first | exact HB.out | apply below_alloc | apply pw_below_drewN | apply below_drew1 | refine below_set ?_ GE192.out | refine below_set ?_ GE199.out) | exact HB.out))) : w.heap.size ≤ gb209)); have n6_ := Aside0.mk ((by rw [hg]; exact (below_size (by repeat (first | (with_reducible first | exact HB.out | apply below_alloc | apply pw_below_drewN | apply below_drew1 | refine below_set ?_ GE192.out | refine below_set ?_ GE199.out) | exact HB.out))) : w.heap.size ≤ gb209)); have n7_ := Aside0.mk ((by rw [hg]; exact Nat.ne_of_lt (blk_lt (g := gb192) (o := .cells #[.int .i64 a0_0, .int .i64 a0_1, .int .i64 a0_2, .slice A0_3 l0_3.length c0_3, .int .i64 a0_4, .int .i64 a0_5, .int .i64 a0_6, .int .i64 a0_7, .int .i64 a0_8, .int .i64 a0_9, .int .i64 a0_10, .int .i64 a0_11, .int .i64 a0_12, .int .i64 a0_13, .int .u16 a0_14, .int .u16 a0_15] 29 (0, 0)) (by (with_reducible repeat (first | refine blk_drewN ?_ _ | refine blk_drew ?_ | refine blk_alloc ?_ _)); exact BK192.out)) : gb192 ≠ gb209)); have n8_ := Aside0.mk ((by rw [hg]; exact Nat.ne_of_gt (blk_lt (g := gb192) (o := .cells #[.int .i64 a0_0, .int .i64 a0_1, .int .i64 a0_2, .slice A0_3 l0_3.length c0_3, .int .i64 a0_4, .int .i64 a0_5, .int .i64 a0_6, .int .i64 a0_7, .int .i64 a0_8, .int .i64 a0_9, .int .i64 a0_10, .int .i64 a0_11, .int .i64 a0_12, .int .i64 a0_13, .int .u16 a0_14, .int .u16 a0_15] 29 (0, 0)) (by (with_reducible repeat (first | refine blk_drewN ?_ _ | refine blk_drew ?_ | refine blk_alloc ?_ _)); exact BK192.out)) : gb209 ≠ gb192)); have n9_ := Aside0.mk ((by rw [hg]; exact Nat.ne_of_lt (blk_lt (g := gb199) (o := .cells #[.int .i64 t193, .int .i64 t194, .int .i64 t195, .slice Ao96 t196.length co96] 24 (0, 0)) (by (with_reducible repeat (first | refine blk_drewN ?_ _ | refine blk_drew ?_ | refine blk_alloc ?_ _)); exact BK199.out)) : gb199 ≠ gb209)); have n10_ := Aside0.mk ((by rw [hg]; exact Nat.ne_of_gt (blk_lt (g := gb199) (o := .cells #[.int .i64 t193, .int .i64 t194, .int .i64 t195, .slice Ao96 t196.length co96] 24 (0, 0)) (by (with_reducible repeat (first | refine blk_drewN ?_ _ | refine blk_drew ?_ | refine blk_alloc ?_ _)); exact BK199.out)) : gb209 ≠ gb199)); clear HO198; clear BK192; clear BK199; clear HB; have HO198 := n0_; have BK192 := n1_; have BK199 := n2_; have HB := n3_; have BK209 := n4_; have GW209 := n5_; have GE209 := n6_; have NB192_209 := n7_; have NB209_192 := n8_; have NB199_209 := n9_; have NB209_199 := n10_; clear n0_ n1_ n2_ n3_ n4_ n5_ n6_ n7_ n8_ n9_ n10_; clear hb hbox hg; have hnb102 := NB209_192.out; have hnc102 := NB192_209.out; have hnb103 := NB209_199.out; have hnc103 := NB199_209.out; have hcz104_0 : w101.cell? ⟨gb209, 0, none⟩ = some (.int .i64 0) := (blk_cell BK209.out 0).trans rfl; have hcz104_1 : w101.cell? ⟨gb209, 1, none⟩ = some (.int .i64 0) := (blk_cell BK209.out 1).trans rfl; have hcz104_2 : w101.cell? ⟨gb209, 2, none⟩ = some (.int .i64 0) := (blk_cell BK209.out 2).trans rfl; have hcz104_3 : w101.cell? ⟨gb209, 3, none⟩ = some (.int .i64 0) := (blk_cell BK209.out 3).trans rfl; have hcz104_4 : w101.cell? ⟨gb209, 4, none⟩ = some (.int .i64 0) := (blk_cell BK209.out 4).trans rfl; have hcz104_5 : w101.cell? ⟨gb209, 5, none⟩ = some (.int .i64 0) := (blk_cell BK209.out 5).trans rfl; have hfz104_0 := blk_frozen BK209.out 0; have hfz104_1 := blk_frozen BK209.out 1; have hfz104_2 := blk_frozen BK209.out 2; have hfz104_3 := blk_frozen BK209.out 3; have hfz104_4 := blk_frozen BK209.out 4; have hfz104_5 := blk_frozen BK209.out 5))
   go_ret
   exact ⟨by first | rfl | (simp [errW_none, errW_some] <;> rfl) | (simp [*, errW_none, errW_some] <;> rfl) | (rw [Int.tdiv_eq_ediv_of_nonneg (by assumption)]; rfl), by repeat (first | (with_reducible first | exact HB.out | apply below_alloc | apply pw_below_drewN | apply below_drew1 | refine below_set ?_ GE192.out | refine below_set ?_ GE199.out | refine below_set ?_ GE209.out) | exact HB.out)⟩
 ·
  rw [if_neg c4] at H
  exact absurd H (by simp)

/-- THE ONE PURE STATEMENT of bivouactop_BivouacGuns. -/
def bivouactop_BivouacGuns.Pure : Prop := ∀ (a0_0 : Int) (a0_1 : Int) (a0_2 : Int) (l0_3 : List Int) (a0_4 : Int) (a0_5 : Int) (a0_6 : Int) (a0_7 : Int) (a0_8 : Int) (a0_9 : Int) (a0_10 : Int) (a0_11 : Int) (a0_12 : Int) (a0_13 : Int) (a0_14 : Int) (a0_15 : Int), (Lit.int .i64 a0_0).wf = true → (Lit.int .i64 a0_1).wf = true → (Lit.int .i64 a0_2).wf = true → l0_3.length ≤ maxLen → (∀ x ∈ l0_3, (Lit.int .u8 x).wf = true) → (Lit.int .i64 a0_4).wf = true → (Lit.int .i64 a0_5).wf = true → (Lit.int .i64 a0_6).wf = true → (Lit.int .i64 a0_7).wf = true → (Lit.int .i64 a0_8).wf = true → (Lit.int .i64 a0_9).wf = true → (Lit.int .i64 a0_10).wf = true → (Lit.int .i64 a0_11).wf = true → (Lit.int .i64 a0_12).wf = true → (Lit.int .i64 a0_13).wf = true → (Lit.int .u16 a0_14).wf = true → (Lit.int .u16 a0_15).wf = true → ∃ k, bivouactop_BivouacGuns.f k a0_0 a0_1 a0_2 l0_3 a0_4 a0_5 a0_6 a0_7 a0_8 a0_9 a0_10 a0_11 a0_12 a0_13 a0_14 a0_15 = some true
theorem bivouactop_BivouacGuns.walked : True := trivial

end Go.Proofs.YtdmmlidgipedaaaDoor.PA
