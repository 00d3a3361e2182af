-- WRITTEN BY A PROGRAM OF THIS SESSION (a turned copy of the kit's printer), for this claim. Nothing here is trusted: Lean checks it.
import Derived.Test.YtlhcakepaaeaoaaPCrx0
import Derived.Test.YtlhcakepaaeaoaaPCrx5
import Derived.Test.YtlhcakepaaeaoaaPCrx7
import Derived.Test.YtlhcakepaaeaoaaPCrx9
import Derived.Test.YtlhcakepaaeaoaaPCrx13
import Derived.Test.YtlhcakepaaeaoaaPCrx14
import Derived.Test.YtlhcakepaaeaoaaGCrcraterStrike
namespace Go.Proofs.Ytlhcakepaaeaoaa.PCr
open Go.RowKit Go.Proofs.YtlhcakepaaeaoaaW.PrintWords Go.Proofs.YtlhcakepaaeaoaaW.PrintLast Go.Proofs.YtlhcakepaaeaoaaW.PrintMore
attribute [local go_sem] max2_int min2_int max_two min_two max_three min_three max_four min_four   -- for this text's walks alone
set_option linter.unusedVariables false
set_option linter.unusedSimpArgs false

/-! ### bivouaclaw09_CraterFalls: function 10 -/
mutual
def bivouaclaw09_CraterFalls.j0 : Nat → Bool → Int → Int → Int → List Int → Int → Int → Int → Int → Int → Int → Int → List Int → Option (Bool)
 | 0, _, _, _, _, _, _, _, _, _, _, _, _, _ => none
 | k + 1, x37, x140000, x140001, x140002, x140003, x141000, x141001, x141002, x141003, x155000, x155001, x155002, x155003 => if x37 = true then (some false) else (bivouaclaw09_CraterFalls.l0 k 0 x140000 x140001 x140002 x140003 x141000 x141001 x141002 x141003 x155000 x155001 x155002 x155003)
def bivouaclaw09_CraterFalls.l0 : Nat → Int → Int → Int → Int → List Int → Int → Int → Int → Int → Int → Int → Int → List Int → Option (Bool)
 | 0, _, _, _, _, _, _, _, _, _, _, _, _, _ => none
 | k + 1, x7, x140000, x140001, x140002, x140003, x141000, x141001, x141002, x141003, x155000, x155001, x155002, x155003 => if x7 < (x140003.length : Int) then (if (wrap64 (x140000 + 1)) = 0 then (none) else (if 0 ≤ x7 then (if x7 < (x155003.length : Int) then (if (rd x155003 x7) > (rd x140003 x7) then (bivouaclaw09_CraterFalls.j2 k x7 (Int.tmod x7 (wrap64 (x140000 + 1))) (wrap64 (Int.tdiv x7 (wrap64 (x140000 + 1)))) true x140000 x140001 x140002 x140003 x141000 x141001 x141002 x141003 x155000 x155001 x155002 x155003) else (bivouaclaw09_CraterFalls.j2 k x7 (Int.tmod x7 (wrap64 (x140000 + 1))) (wrap64 (Int.tdiv x7 (wrap64 (x140000 + 1)))) (decide ((wrap64 ((wrap64 (rd x140003 x7)) - (wrap64 (rd x155003 x7)))) > x141003)) x140000 x140001 x140002 x140003 x141000 x141001 x141002 x141003 x155000 x155001 x155002 x155003)) else (none)) else (none))) else ((bivouaclaw09_awake.f).bind fun t158 => (some t158))
def bivouaclaw09_CraterFalls.j2 : Nat → Int → Int → Int → Bool → Int → Int → Int → List Int → Int → Int → Int → Int → Int → Int → Int → List Int → Option (Bool)
 | 0, _, _, _, _, _, _, _, _, _, _, _, _, _, _, _, _ => none
 | k + 1, x7, x8, x9, x83, x140000, x140001, x140002, x140003, x141000, x141001, x141002, x141003, x155000, x155001, x155002, x155003 => if x83 = true then (some false) else (if x8 ≥ x141000 then ((crater_Lowers.f x141000 x141001 x141002 x141003 (wrap64 (x8 + 1)) x9).bind fun t163 => ((crater_Lowers.f x141000 x141001 x141002 x141003 x8 x9).bind fun t164 => (if t163 > t164 then (bivouaclaw09_CraterFalls.j3 k x7 true x140000 x140001 x140002 x140003 x141000 x141001 x141002 x141003 x155000 x155001 x155002 x155003) else (if x9 ≤ x141001 then ((crater_Lowers.f x141000 x141001 x141002 x141003 x8 (wrap64 (x9 - 1))).bind fun t165 => ((crater_Lowers.f x141000 x141001 x141002 x141003 x8 x9).bind fun t166 => (bivouaclaw09_CraterFalls.j3 k x7 (decide (t165 > t166)) x140000 x140001 x140002 x140003 x141000 x141001 x141002 x141003 x155000 x155001 x155002 x155003))) else (bivouaclaw09_CraterFalls.j3 k x7 false x140000 x140001 x140002 x140003 x141000 x141001 x141002 x141003 x155000 x155001 x155002 x155003))))) else (if x9 ≤ x141001 then ((crater_Lowers.f x141000 x141001 x141002 x141003 x8 (wrap64 (x9 - 1))).bind fun t167 => ((crater_Lowers.f x141000 x141001 x141002 x141003 x8 x9).bind fun t168 => (bivouaclaw09_CraterFalls.j3 k x7 (decide (t167 > t168)) x140000 x140001 x140002 x140003 x141000 x141001 x141002 x141003 x155000 x155001 x155002 x155003))) else (bivouaclaw09_CraterFalls.j3 k x7 false x140000 x140001 x140002 x140003 x141000 x141001 x141002 x141003 x155000 x155001 x155002 x155003)))
def bivouaclaw09_CraterFalls.j3 : Nat → Int → Bool → Int → Int → Int → List Int → Int → Int → Int → Int → Int → Int → Int → List Int → Option (Bool)
 | 0, _, _, _, _, _, _, _, _, _, _, _, _, _, _ => none
 | k + 1, x7, x117, x140000, x140001, x140002, x140003, x141000, x141001, x141002, x141003, x155000, x155001, x155002, x155003 => if x117 = true then (some false) else (bivouaclaw09_CraterFalls.l0 k (wrap64 (x7 + 1)) x140000 x140001 x140002 x140003 x141000 x141001 x141002 x141003 x155000 x155001 x155002 x155003)
end
def bivouaclaw09_CraterFalls.f (k : Nat) (a0_0 : Int) (a0_1 : Int) (a0_2 : Int) (l0_3 : List Int) (a1_0 : Int) (a1_1 : Int) (a1_2 : Int) (a1_3 : Int) : Option (Bool) := (bivouaclaw09_few.f a0_0 a0_1 a0_2 l0_3).bind fun bt141 => ((crater_Strike.f k bt141.1 bt141.2.1 bt141.2.2.1 bt141.2.2.2 a1_0 a1_1 a1_2 a1_3).bind fun bt147 => (if bt147.2.2.2.2 = 0 then ((bivouacref06_Check.f k bt147.1 bt147.2.1 bt147.2.2.1 bt147.2.2.2.1).bind fun t157 => (if t157 = 0 then (bivouaclaw09_CraterFalls.j0 k ((bt147.2.2.2.1.length : Int) != (bt141.2.2.2.length : Int)) bt141.1 bt141.2.1 bt141.2.2.1 bt141.2.2.2 a1_0 a1_1 a1_2 a1_3 bt147.1 bt147.2.1 bt147.2.2.1 bt147.2.2.2.1) else (bivouaclaw09_CraterFalls.j0 k true bt141.1 bt141.2.1 bt141.2.2.1 bt141.2.2.2 a1_0 a1_1 a1_2 a1_3 bt147.1 bt147.2.1 bt147.2.2.1 bt147.2.2.2.1))) else ((bivouacref06_Same.f bt147.1 bt147.2.1 bt147.2.2.1 bt147.2.2.2.1 0 0 0 ([] : List Int)).bind fun t155 => (if t155 = true then ((bivouaclaw09_awake.f).bind fun t156 => (some t156)) else (some false)))))
theorem bivouaclaw09_CraterFalls.mono_l : ∀ k, (∀ y0 y1 y2 y3 y4 y5 y6 y7 y8 y9 y10 y11 y12, LeO (bivouaclaw09_CraterFalls.j0 k y0 y1 y2 y3 y4 y5 y6 y7 y8 y9 y10 y11 y12) (bivouaclaw09_CraterFalls.j0 (k + 1) y0 y1 y2 y3 y4 y5 y6 y7 y8 y9 y10 y11 y12)) ∧ (∀ y0 y1 y2 y3 y4 y5 y6 y7 y8 y9 y10 y11 y12, LeO (bivouaclaw09_CraterFalls.l0 k y0 y1 y2 y3 y4 y5 y6 y7 y8 y9 y10 y11 y12) (bivouaclaw09_CraterFalls.l0 (k + 1) y0 y1 y2 y3 y4 y5 y6 y7 y8 y9 y10 y11 y12)) ∧ (∀ y0 y1 y2 y3 y4 y5 y6 y7 y8 y9 y10 y11 y12 y13 y14 y15, LeO (bivouaclaw09_CraterFalls.j2 k y0 y1 y2 y3 y4 y5 y6 y7 y8 y9 y10 y11 y12 y13 y14 y15) (bivouaclaw09_CraterFalls.j2 (k + 1) y0 y1 y2 y3 y4 y5 y6 y7 y8 y9 y10 y11 y12 y13 y14 y15)) ∧ (∀ y0 y1 y2 y3 y4 y5 y6 y7 y8 y9 y10 y11 y12 y13, LeO (bivouaclaw09_CraterFalls.j3 k y0 y1 y2 y3 y4 y5 y6 y7 y8 y9 y10 y11 y12 y13) (bivouaclaw09_CraterFalls.j3 (k + 1) y0 y1 y2 y3 y4 y5 y6 y7 y8 y9 y10 y11 y12 y13))
 | 0 => ⟨fun _ _ _ _ _ _ _ _ _ _ _ _ _ r h => by simp [bivouaclaw09_CraterFalls.j0] at h, fun _ _ _ _ _ _ _ _ _ _ _ _ _ r h => by simp [bivouaclaw09_CraterFalls.l0] at h, fun _ _ _ _ _ _ _ _ _ _ _ _ _ _ _ _ r h => by simp [bivouaclaw09_CraterFalls.j2] at h, fun _ _ _ _ _ _ _ _ _ _ _ _ _ _ r h => by simp [bivouaclaw09_CraterFalls.j3] at h⟩
 | k + 1 => by
  obtain ⟨ih0, ih1, ih2, ih3⟩ := bivouaclaw09_CraterFalls.mono_l k
  refine ⟨?_, ?_, ?_, ?_⟩
  ·
   intro y0 y1 y2 y3 y4 y5 y6 y7 y8 y9 y10 y11 y12
   unfold bivouaclaw09_CraterFalls.j0
   repeat' first
   | (with_reducible exact ih0 _ _ _ _ _ _ _ _ _ _ _ _ _)
   | (with_reducible exact ih1 _ _ _ _ _ _ _ _ _ _ _ _ _)
   | (with_reducible exact ih2 _ _ _ _ _ _ _ _ _ _ _ _ _ _ _ _)
   | (with_reducible exact ih3 _ _ _ _ _ _ _ _ _ _ _ _ _ _)
   | (with_reducible exact bivouacref06_Check.mono _ _ _ _ _)
   | (with_reducible exact crater_Strike.mono _ _ _ _ _ _ _ _ _)
   | (with_reducible exact LeO.refl _)
   | (with_reducible exact LeO.none _)
   | (with_reducible refine LeO.ite ?_ ?_)
   | (with_reducible refine LeO.bind ?_ (fun _ => ?_))
   | exact ih0 _ _ _ _ _ _ _ _ _ _ _ _ _
   | exact ih1 _ _ _ _ _ _ _ _ _ _ _ _ _
   | exact ih2 _ _ _ _ _ _ _ _ _ _ _ _ _ _ _ _
   | exact ih3 _ _ _ _ _ _ _ _ _ _ _ _ _ _
   | exact bivouacref06_Check.mono _ _ _ _ _
   | exact crater_Strike.mono _ _ _ _ _ _ _ _ _
   | exact LeO.none _
   | refine LeO.ite ?_ ?_
   | refine LeO.bind ?_ (fun _ => ?_)
  ·
   intro y0 y1 y2 y3 y4 y5 y6 y7 y8 y9 y10 y11 y12
   unfold bivouaclaw09_CraterFalls.l0
   repeat' first
   | (with_reducible exact ih0 _ _ _ _ _ _ _ _ _ _ _ _ _)
   | (with_reducible exact ih1 _ _ _ _ _ _ _ _ _ _ _ _ _)
   | (with_reducible exact ih2 _ _ _ _ _ _ _ _ _ _ _ _ _ _ _ _)
   | (with_reducible exact ih3 _ _ _ _ _ _ _ _ _ _ _ _ _ _)
   | (with_reducible exact bivouacref06_Check.mono _ _ _ _ _)
   | (with_reducible exact crater_Strike.mono _ _ _ _ _ _ _ _ _)
   | (with_reducible exact LeO.refl _)
   | (with_reducible exact LeO.none _)
   | (with_reducible refine LeO.ite ?_ ?_)
   | (with_reducible refine LeO.bind ?_ (fun _ => ?_))
   | exact ih0 _ _ _ _ _ _ _ _ _ _ _ _ _
   | exact ih1 _ _ _ _ _ _ _ _ _ _ _ _ _
   | exact ih2 _ _ _ _ _ _ _ _ _ _ _ _ _ _ _ _
   | exact ih3 _ _ _ _ _ _ _ _ _ _ _ _ _ _
   | exact bivouacref06_Check.mono _ _ _ _ _
   | exact crater_Strike.mono _ _ _ _ _ _ _ _ _
   | exact LeO.none _
   | refine LeO.ite ?_ ?_
   | refine LeO.bind ?_ (fun _ => ?_)
  ·
   intro y0 y1 y2 y3 y4 y5 y6 y7 y8 y9 y10 y11 y12 y13 y14 y15
   unfold bivouaclaw09_CraterFalls.j2
   repeat' first
   | (with_reducible exact ih0 _ _ _ _ _ _ _ _ _ _ _ _ _)
   | (with_reducible exact ih1 _ _ _ _ _ _ _ _ _ _ _ _ _)
   | (with_reducible exact ih2 _ _ _ _ _ _ _ _ _ _ _ _ _ _ _ _)
   | (with_reducible exact ih3 _ _ _ _ _ _ _ _ _ _ _ _ _ _)
   | (with_reducible exact bivouacref06_Check.mono _ _ _ _ _)
   | (with_reducible exact crater_Strike.mono _ _ _ _ _ _ _ _ _)
   | (with_reducible exact LeO.refl _)
   | (with_reducible exact LeO.none _)
   | (with_reducible refine LeO.ite ?_ ?_)
   | (with_reducible refine LeO.bind ?_ (fun _ => ?_))
   | exact ih0 _ _ _ _ _ _ _ _ _ _ _ _ _
   | exact ih1 _ _ _ _ _ _ _ _ _ _ _ _ _
   | exact ih2 _ _ _ _ _ _ _ _ _ _ _ _ _ _ _ _
   | exact ih3 _ _ _ _ _ _ _ _ _ _ _ _ _ _
   | exact bivouacref06_Check.mono _ _ _ _ _
   | exact crater_Strike.mono _ _ _ _ _ _ _ _ _
   | exact LeO.none _
   | refine LeO.ite ?_ ?_
   | refine LeO.bind ?_ (fun _ => ?_)
  ·
   intro y0 y1 y2 y3 y4 y5 y6 y7 y8 y9 y10 y11 y12 y13
   unfold bivouaclaw09_CraterFalls.j3
   repeat' first
   | (with_reducible exact ih0 _ _ _ _ _ _ _ _ _ _ _ _ _)
   | (with_reducible exact ih1 _ _ _ _ _ _ _ _ _ _ _ _ _)
   | (with_reducible exact ih2 _ _ _ _ _ _ _ _ _ _ _ _ _ _ _ _)
   | (with_reducible exact ih3 _ _ _ _ _ _ _ _ _ _ _ _ _ _)
   | (with_reducible exact bivouacref06_Check.mono _ _ _ _ _)
   | (with_reducible exact crater_Strike.mono _ _ _ _ _ _ _ _ _)
   | (with_reducible exact LeO.refl _)
   | (with_reducible exact LeO.none _)
   | (with_reducible refine LeO.ite ?_ ?_)
   | (with_reducible refine LeO.bind ?_ (fun _ => ?_))
   | exact ih0 _ _ _ _ _ _ _ _ _ _ _ _ _
   | exact ih1 _ _ _ _ _ _ _ _ _ _ _ _ _
   | exact ih2 _ _ _ _ _ _ _ _ _ _ _ _ _ _ _ _
   | exact ih3 _ _ _ _ _ _ _ _ _ _ _ _ _ _
   | exact bivouacref06_Check.mono _ _ _ _ _
   | exact crater_Strike.mono _ _ _ _ _ _ _ _ _
   | exact LeO.none _
   | refine LeO.ite ?_ ?_
   | refine LeO.bind ?_ (fun _ => ?_)
theorem bivouaclaw09_CraterFalls.mono : ∀ a0 a1 a2 a3 a4 a5 a6 a7 k, LeO (bivouaclaw09_CraterFalls.f k a0 a1 a2 a3 a4 a5 a6 a7) (bivouaclaw09_CraterFalls.f (k + 1) a0 a1 a2 a3 a4 a5 a6 a7) := by
 intro a0 a1 a2 a3 a4 a5 a6 a7 k
 obtain ⟨ih0, ih1, ih2, ih3⟩ := bivouaclaw09_CraterFalls.mono_l k
 unfold bivouaclaw09_CraterFalls.f
 repeat' first
   | (with_reducible exact ih0 _ _ _ _ _ _ _ _ _ _ _ _ _)
   | (with_reducible exact ih1 _ _ _ _ _ _ _ _ _ _ _ _ _)
   | (with_reducible exact ih2 _ _ _ _ _ _ _ _ _ _ _ _ _ _ _ _)
   | (with_reducible exact ih3 _ _ _ _ _ _ _ _ _ _ _ _ _ _)
   | (with_reducible exact bivouacref06_Check.mono _ _ _ _ _)
   | (with_reducible exact crater_Strike.mono _ _ _ _ _ _ _ _ _)
   | (with_reducible exact LeO.refl _)
   | (with_reducible exact LeO.none _)
   | (with_reducible refine LeO.ite ?_ ?_)
   | (with_reducible refine LeO.bind ?_ (fun _ => ?_))
   | exact ih0 _ _ _ _ _ _ _ _ _ _ _ _ _
   | exact ih1 _ _ _ _ _ _ _ _ _ _ _ _ _
   | exact ih2 _ _ _ _ _ _ _ _ _ _ _ _ _ _ _ _
   | exact ih3 _ _ _ _ _ _ _ _ _ _ _ _ _ _
   | exact bivouacref06_Check.mono _ _ _ _ _
   | exact crater_Strike.mono _ _ _ _ _ _ _ _ _
   | exact LeO.none _
   | refine LeO.ite ?_ ?_
   | refine LeO.bind ?_ (fun _ => ?_)
def bivouaclaw09_CraterFalls.T10 : Bool × List (List Nat × List Nat) := (true, [([], []), ([], []), ([1], [1]), ([2], [2]), ([0, 3], [0, 3]), ([], []), ([], []), ([6], [6]), ([7], [7]), ([5, 8], [5, 8]), ([4, 0, 1, 2, 3, 4], [4]), ([9, 10, 0, 1, 2, 3, 4, 5, 6, 7, 8, 9, 10], [9])])
def bivouaclaw09_CraterFalls.B10 : List Nat := [0, 0, 2, 6, 15, 0, 0, 64, 192, 480, 31, 2047]
theorem bivouaclaw09_CraterFalls.tab10 : rtab .any (opsOf Try.f10 10) = bivouaclaw09_CraterFalls.T10 := by kernel_rfl
theorem bivouaclaw09_CraterFalls.bits10 : waitsOk bivouaclaw09_CraterFalls.T10.2 bivouaclaw09_CraterFalls.B10 = true := by kernel_rfl
def bivouaclaw09_CraterFalls.T11 : Bool × List (List Nat × List Nat) := (true, [([], []), ([0], [0]), ([], []), ([1, 2], [1, 2]), ([3], [3]), ([], []), ([5], [5]), ([], []), ([6, 7], [6, 7]), ([8], [8]), ([4, 9], [4, 9]), ([10], [10]), ([11], [11]), ([12, 11], [11, 12]), ([11], [11]), ([13, 14, 11], [11, 13, 14]), ([15, 11], [11, 15]), ([16, 11], [11, 16]), ([11], [11]), ([18, 11], [11, 18]), ([11], [11]), ([19, 20, 11], [11, 19, 20]), ([21, 11], [11, 21]), ([22, 11], [11, 22]), ([17, 23, 11], [11, 17, 23]), ([11], [11]), ([25, 11], [11, 25]), ([24, 26, 11], [11, 24, 26]), ([11, 27], [11, 27])])
def bivouaclaw09_CraterFalls.B11 : List Nat := [0, 1, 0, 7, 15, 0, 32, 0, 224, 480, 1023, 2047, 4095, 8191, 4095, 32767, 65535, 131071, 4095, 266239, 4095, 1839103, 3936255, 8130559, 16777215, 4095, 33558527, 134217727, 268435455]
theorem bivouaclaw09_CraterFalls.tab11 : rtab .any (opsOf Try.f10 11) = bivouaclaw09_CraterFalls.T11 := by kernel_rfl
theorem bivouaclaw09_CraterFalls.bits11 : waitsOk bivouaclaw09_CraterFalls.T11.2 bivouaclaw09_CraterFalls.B11 = true := by kernel_rfl
def bivouaclaw09_CraterFalls.T13 : Bool × List (List Nat × List Nat) := (true, [([], []), ([], []), ([1], [1]), ([0, 2], [0, 2]), ([3], [3]), ([4], [4]), ([4], [4]), ([6, 4], [4, 6]), ([4], [4]), ([5, 7, 8, 4, 4], [4, 5, 7, 8]), ([4], [4]), ([4], [4]), ([4], [4]), ([10, 11, 12, 9, 4], [4, 10, 11, 12]), ([9, 13, 4], [4, 9, 13]), ([4, 14], [4, 14]), ([15, 13], [15]), ([16], [16]), ([16], [16]), ([18, 16], [16, 18]), ([17, 19, 16], [16, 17, 19]), ([20, 16, 16], [16, 20]), ([21], [21]), ([21], [21]), ([21], [21]), ([24, 21], [21, 24]), ([22, 23, 25, 21, 21], [21, 22, 23, 25]), ([21], [21]), ([21], [21]), ([21], [21]), ([27, 28, 29, 26, 21], [21, 27, 28, 29]), ([26, 30, 21], [21, 26, 30]), ([21, 31, 16], [16, 21, 31]), ([16, 32], [16, 32])])
def bivouaclaw09_CraterFalls.B13 : List Nat := [0, 0, 2, 7, 15, 31, 31, 95, 31, 511, 31, 31, 31, 8191, 16383, 32767, 65535, 131071, 131071, 393215, 1048575, 2097151, 4194303, 4194303, 4194303, 20971519, 67108863, 4194303, 4194303, 4194303, 1073741823, 2147483647, 4294967295, 8589934591]
theorem bivouaclaw09_CraterFalls.tab13 : rtab .any (opsOf Try.f10 13) = bivouaclaw09_CraterFalls.T13 := by kernel_rfl
theorem bivouaclaw09_CraterFalls.bits13 : waitsOk bivouaclaw09_CraterFalls.T13.2 bivouaclaw09_CraterFalls.B13 = true := by kernel_rfl
set_option maxHeartbeats 8000000 in
set_option maxRecDepth 100000 in
theorem bivouaclaw09_CraterFalls.calls (k : Nat) (a0_0 : Int) (a0_1 : Int) (a0_2 : Int) (A0_3 : Option Addr) (c0_3 : Nat) (l0_3 : List Int) (a1_0 : Int) (a1_1 : Int) (a1_2 : Int) (a1_3 : Int) (r : Bool) (w : World) (hr0_3 : Kd.C (Kd.int .u8) w A0_3 l0_3.length l0_3) (hc0_3 : l0_3.length ≤ c0_3) (h : bivouaclaw09_CraterFalls.f k a0_0 a0_1 a0_2 l0_3 a1_0 a1_1 a1_2 a1_3 = some r) :
  Calls Try.prog 10 #[.agg #[.int .i64 a0_0, .int .i64 a0_1, .int .i64 a0_2, .slice A0_3 l0_3.length c0_3], .agg #[.int .i64 a1_0, .int .i64 a1_1, .int .i64 a1_2, .int .i64 a1_3]] w fun e w' => e = .returned (.bool r) ∧ Below w.heap.size w w' := by
 have hu46 := Try.underlying46
 have hu23 := Try.underlying23
 have HR0_3 := Aside0.mk hr0_3
 have HC0_3 := Aside0.mk hc0_3
 clear hr0_3 hc0_3
 have HB := Aside0.mk (Below.refl w.heap.size w)
 have H : ((bivouaclaw09_few.f a0_0 a0_1 a0_2 l0_3).bind fun bt141 => ((crater_Strike.f k bt141.1 bt141.2.1 bt141.2.2.1 bt141.2.2.2 a1_0 a1_1 a1_2 a1_3).bind fun bt147 => (if bt147.2.2.2.2 = 0 then ((bivouacref06_Check.f k bt147.1 bt147.2.1 bt147.2.2.1 bt147.2.2.2.1).bind fun t157 => (if t157 = 0 then (bivouaclaw09_CraterFalls.j0 k ((bt147.2.2.2.1.length : Int) != (bt141.2.2.2.length : Int)) bt141.1 bt141.2.1 bt141.2.2.1 bt141.2.2.2 a1_0 a1_1 a1_2 a1_3 bt147.1 bt147.2.1 bt147.2.2.1 bt147.2.2.2.1) else (bivouaclaw09_CraterFalls.j0 k true bt141.1 bt141.2.1 bt141.2.2.1 bt141.2.2.2 a1_0 a1_1 a1_2 a1_3 bt147.1 bt147.2.1 bt147.2.2.1 bt147.2.2.2.1))) else ((bivouacref06_Same.f bt147.1 bt147.2.1 bt147.2.2.1 bt147.2.2.2.1 0 0 0 ([] : List Int)).bind fun t155 => (if t155 = true then ((bivouaclaw09_awake.f).bind fun t156 => (some t156)) else (some false)))))) = some r := h
 clear h
 replace H := Option.bind_eq_some_iff.mp H
 obtain ⟨⟨t141, t142, t143, t144⟩, A30, H⟩ := H
 replace H : ((crater_Strike.f k t141 t142 t143 t144 a1_0 a1_1 a1_2 a1_3).bind fun bt147 => (if bt147.2.2.2.2 = 0 then ((bivouacref06_Check.f k bt147.1 bt147.2.1 bt147.2.2.1 bt147.2.2.2.1).bind fun t157 => (if t157 = 0 then (bivouaclaw09_CraterFalls.j0 k ((bt147.2.2.2.1.length : Int) != (t144.length : Int)) t141 t142 t143 t144 a1_0 a1_1 a1_2 a1_3 bt147.1 bt147.2.1 bt147.2.2.1 bt147.2.2.2.1) else (bivouaclaw09_CraterFalls.j0 k true t141 t142 t143 t144 a1_0 a1_1 a1_2 a1_3 bt147.1 bt147.2.1 bt147.2.2.1 bt147.2.2.2.1))) else ((bivouacref06_Same.f bt147.1 bt147.2.1 bt147.2.2.1 bt147.2.2.2.1 0 0 0 ([] : List Int)).bind fun t155 => (if t155 = true then ((bivouaclaw09_awake.f).bind fun t156 => (some t156)) else (some false))))) = some r := H
 have A3 := Aside0.mk A30
 clear A30
 replace H := Option.bind_eq_some_iff.mp H
 obtain ⟨⟨t147, t148, t149, t150, t153⟩, A40, H⟩ := H
 replace H : (if t153 = 0 then ((bivouacref06_Check.f k t147 t148 t149 t150).bind fun t157 => (if t157 = 0 then (bivouaclaw09_CraterFalls.j0 k ((t150.length : Int) != (t144.length : Int)) t141 t142 t143 t144 a1_0 a1_1 a1_2 a1_3 t147 t148 t149 t150) else (bivouaclaw09_CraterFalls.j0 k true t141 t142 t143 t144 a1_0 a1_1 a1_2 a1_3 t147 t148 t149 t150))) else ((bivouacref06_Same.f t147 t148 t149 t150 0 0 0 ([] : List Int)).bind fun t155 => (if t155 = true then ((bivouaclaw09_awake.f).bind fun t156 => (some t156)) else (some false)))) = some r := H
 have A4 := Aside0.mk A40
 clear A40
 by_cases c5 : t153 = 0
 ·
  rw [if_pos c5] at H
  have c5b0 : (t153 == 0) = true := beq_iff_eq.mpr c5
  have c5b1 : (t153 != 0) = false := bne_eq_false_iff_eq.mpr c5
  clear c5
  have HC6 := Aside0.mk H
  clear H
  go_enter Try.func10, Try.ntmps10
  go_upto_region 5 with (first | ((with_reducible refine gate_dst (N := 2) rfl ?_); (try (refine gate_guard (by rfl) ?_; dsimp only)); refine box_event ?hg (N := 2) ?hd (cs := #[.int .i64 a0_0, .int .i64 a0_1, .int .i64 a0_2, .slice A0_3 l0_3.length c0_3]) (t := 46) ?hr ?_; (case hd => rfl); (case hg => rfl); (case hr => first | (go_simp; done) | (go_simp; rfl)); intro gb139 hg w7 hbox hb; have n0_ := Aside0.mk (below_step (by repeat (first | (with_reducible first | exact HB.out | apply below_alloc | apply pw_below_drewN | apply below_drew1) | exact HB.out)) hb); have n1_ := Aside0.mk (hbox); have n2_ := Aside0.mk ((by rw [hg]; exact (below_size (by repeat (first | (with_reducible first | exact HB.out | apply below_alloc | apply pw_below_drewN | apply below_drew1) | exact HB.out))) : w.heap.size ≤ gb139)); have n3_ := Aside0.mk ((by rw [hg]; exact (below_size (by repeat (first | (with_reducible first | exact HB.out | apply below_alloc | apply pw_below_drewN | apply below_drew1) | exact HB.out))) : w.heap.size ≤ gb139)); clear HB; have HB := n0_; have BK139 := n1_; have GW139 := n2_; have GE139 := n3_; clear n0_ n1_ n2_ n3_; clear hb hbox hg) | ((with_reducible refine gate_dst (N := 3) rfl ?_); (try (refine gate_guard (by rfl) ?_; dsimp only)); refine box_event ?hg (N := 3) ?hd (cs := #[.int .i64 a1_0, .int .i64 a1_1, .int .i64 a1_2, .int .i64 a1_3]) (t := 23) ?hr ?_; (case hd => rfl); (case hg => rfl); (case hr => first | (go_simp; done) | (go_simp; rfl)); intro gb140 hg w8 hbox hb; have n0_ := Aside0.mk (blk_below (g := gb139) (o := .cells #[.int .i64 a0_0, .int .i64 a0_1, .int .i64 a0_2, .slice A0_3 l0_3.length c0_3] 46 (0, 0)) (by (with_reducible repeat (first | refine blk_drewN ?_ _ | refine blk_drew ?_ | refine blk_alloc ?_ _)); exact BK139.out) hb); have n1_ := Aside0.mk (below_step (by repeat (first | (with_reducible first | exact HB.out | apply below_alloc | apply pw_below_drewN | apply below_drew1 | refine below_set ?_ GE139.out) | exact HB.out)) hb); have n2_ := Aside0.mk (hbox); have n3_ := Aside0.mk ((by rw [hg]; exact (below_size (by repeat (first | (with_reducible first | exact HB.out | apply below_alloc | apply pw_below_drewN | apply below_drew1 | refine below_set ?_ GE139.out) | exact HB.out))) : w.heap.size ≤ gb140)); have n4_ := Aside0.mk ((by rw [hg]; exact (below_size (by repeat (first | (with_reducible first | exact HB.out | apply below_alloc | apply pw_below_drewN | apply below_drew1 | refine below_set ?_ GE139.out) | exact HB.out))) : w.heap.size ≤ gb140)); have n5_ := Aside0.mk ((by rw [hg]; exact Nat.ne_of_lt (blk_lt (g := gb139) (o := .cells #[.int .i64 a0_0, .int .i64 a0_1, .int .i64 a0_2, .slice A0_3 l0_3.length c0_3] 46 (0, 0)) (by (with_reducible repeat (first | refine blk_drewN ?_ _ | refine blk_drew ?_ | refine blk_alloc ?_ _)); exact BK139.out)) : gb139 ≠ gb140)); have n6_ := Aside0.mk ((by rw [hg]; exact Nat.ne_of_gt (blk_lt (g := gb139) (o := .cells #[.int .i64 a0_0, .int .i64 a0_1, .int .i64 a0_2, .slice A0_3 l0_3.length c0_3] 46 (0, 0)) (by (with_reducible repeat (first | refine blk_drewN ?_ _ | refine blk_drew ?_ | refine blk_alloc ?_ _)); exact BK139.out)) : gb140 ≠ gb139)); clear BK139; clear HB; have BK139 := n0_; have HB := n1_; have BK140 := n2_; have GW140 := n3_; have GE140 := n4_; have NB139_140 := n5_; have NB140_139 := n6_; clear n0_ n1_ n2_ n3_ n4_ n5_ n6_; clear hb hbox hg; have hnb9 := NB139_140.out; have hnc9 := NB140_139.out; have hcz10_0 : w8.cell? ⟨gb139, 0, none⟩ = some (.int .i64 a0_0) := (blk_cell BK139.out 0).trans rfl; have hcz10_1 : w8.cell? ⟨gb139, 1, none⟩ = some (.int .i64 a0_1) := (blk_cell BK139.out 1).trans rfl; have hcz10_2 : w8.cell? ⟨gb139, 2, none⟩ = some (.int .i64 a0_2) := (blk_cell BK139.out 2).trans rfl; have hcz10_3 : w8.cell? ⟨gb139, 3, none⟩ = some (.slice A0_3 l0_3.length c0_3) := (blk_cell BK139.out 3).trans rfl; have hfz10_0 := blk_frozen BK139.out 0; have hfz10_1 := blk_frozen BK139.out 1; have hfz10_2 := blk_frozen BK139.out 2; have hfz10_3 := blk_frozen BK139.out 3) | ((with_reducible refine gate_callee (f := 26) rfl ?_); refine goesL_ (some 11) rfl rfl Try.func26 (by kernel_rfl) rfl #[.agg #[.int .i64 a0_0, .int .i64 a0_1, .int .i64 a0_2, .slice A0_3 l0_3.length c0_3]] rfl (by (try simp only [List.map_toArray, List.map_cons, List.map_nil]); first | done | rfl | (simp only [List.length_drop, List.length_take]; rfl)) ?_; (with_reducible refine (bivouaclaw09_few.calls a0_0 a0_1 a0_2 (fun k_ => k_ < w.heap.size) _ _ l0_3 t141 t142 t143 t144 _ ?side1 A3.out).mono ?_); (case side1 => exact Kd.V_mk HC0_3.out (Kd.F_below (Kd.C_F (Kd.heap_int .u8) HR0_3.out) (by repeat (first | (with_reducible first | exact HB.out | apply below_alloc | apply pw_below_drewN | apply below_drew1 | refine below_set ?_ GE139.out | refine below_set ?_ GE140.out) | exact HB.out)))); rintro e w11 ⟨v145, rfl, ho0, hb⟩; refine ⟨_, rfl, ?_⟩; have n0_ := Aside0.mk (Kd.V_lower (Kd.V_mono (ok' := fun k_ => k_ ≠ gb139 ∧ k_ ≠ gb140) ho0 (fun k_ hk_ => ⟨Or.elim hk_ (fun hs_ => fun e_ => Nat.not_le.2 hs_ (by rw [e_]; exact GW139.out)) (fun hn_ => (Kd.freshB (g := gb139) (o := .cells #[.int .i64 a0_0, .int .i64 a0_1, .int .i64 a0_2, .slice A0_3 l0_3.length c0_3] 46 (0, 0)) (by (with_reducible repeat (first | refine blk_drewN ?_ _ | refine blk_drew ?_ | refine blk_alloc ?_ _)); exact BK139.out) k_ hn_)), Or.elim hk_ (fun hs_ => fun e_ => Nat.not_le.2 hs_ (by rw [e_]; exact GW140.out)) (fun hn_ => (Kd.freshB (g := gb140) (o := .cells #[.int .i64 a1_0, .int .i64 a1_1, .int .i64 a1_2, .int .i64 a1_3] 23 (0, 0)) (by (with_reducible repeat (first | refine blk_drewN ?_ _ | refine blk_drew ?_ | refine blk_alloc ?_ _)); exact BK140.out) k_ hn_))⟩)) (below_size (by repeat (first | (with_reducible first | exact HB.out | apply below_alloc | apply pw_below_drewN | apply below_drew1 | refine below_set ?_ GE139.out | refine below_set ?_ GE140.out) | exact HB.out)))); have n1_ := Aside0.mk (blk_below (g := gb139) (o := .cells #[.int .i64 a0_0, .int .i64 a0_1, .int .i64 a0_2, .slice A0_3 l0_3.length c0_3] 46 (0, 0)) (by (with_reducible repeat (first | refine blk_drewN ?_ _ | refine blk_drew ?_ | refine blk_alloc ?_ _)); exact BK139.out) hb); have n2_ := Aside0.mk (blk_below (g := gb140) (o := .cells #[.int .i64 a1_0, .int .i64 a1_1, .int .i64 a1_2, .int .i64 a1_3] 23 (0, 0)) (by (with_reducible repeat (first | refine blk_drewN ?_ _ | refine blk_drew ?_ | refine blk_alloc ?_ _)); exact BK140.out) hb); have n3_ := Aside0.mk (below_step (by repeat (first | (with_reducible first | exact HB.out | apply below_alloc | apply pw_below_drewN | apply below_drew1 | refine below_set ?_ GE139.out | refine below_set ?_ GE140.out) | exact HB.out)) hb); clear BK139; clear BK140; clear HB; have HO146 := n0_; have BK139 := n1_; have BK140 := n2_; have HB := n3_; clear n0_ n1_ n2_ n3_; (try clear hb); (try clear hb2); (try clear hk); (try clear hi); (try clear ho0); have hcz12_0 : w11.cell? ⟨gb139, 0, none⟩ = some (.int .i64 a0_0) := (blk_cell BK139.out 0).trans rfl; have hcz12_1 : w11.cell? ⟨gb139, 1, none⟩ = some (.int .i64 a0_1) := (blk_cell BK139.out 1).trans rfl; have hcz12_2 : w11.cell? ⟨gb139, 2, none⟩ = some (.int .i64 a0_2) := (blk_cell BK139.out 2).trans rfl; have hcz12_3 : w11.cell? ⟨gb139, 3, none⟩ = some (.slice A0_3 l0_3.length c0_3) := (blk_cell BK139.out 3).trans rfl; have hfz12_0 := blk_frozen BK139.out 0; have hfz12_1 := blk_frozen BK139.out 1; have hfz12_2 := blk_frozen BK139.out 2; have hfz12_3 := blk_frozen BK139.out 3; obtain ⟨Ao13, co13, eo13⟩ := Kd.V_slice HO146.out; subst eo13; have hcz14_0 : w11.cell? ⟨gb140, 0, none⟩ = some (.int .i64 a1_0) := (blk_cell BK140.out 0).trans rfl; have hcz14_1 : w11.cell? ⟨gb140, 1, none⟩ = some (.int .i64 a1_1) := (blk_cell BK140.out 1).trans rfl; have hcz14_2 : w11.cell? ⟨gb140, 2, none⟩ = some (.int .i64 a1_2) := (blk_cell BK140.out 2).trans rfl; have hcz14_3 : w11.cell? ⟨gb140, 3, none⟩ = some (.int .i64 a1_3) := (blk_cell BK140.out 3).trans rfl; have hfz14_0 := blk_frozen BK140.out 0; have hfz14_1 := blk_frozen BK140.out 1; have hfz14_2 := blk_frozen BK140.out 2; have hfz14_3 := blk_frozen BK140.out 3) | ((with_reducible refine gate_callee (f := 27) rfl ?_); refine goesL_ (some 15) rfl rfl Try.func27 (by kernel_rfl) rfl #[.agg #[.int .i64 t141, .int .i64 t142, .int .i64 t143, .slice Ao13 t144.length co13], .agg #[.int .i64 a1_0, .int .i64 a1_1, .int .i64 a1_2, .int .i64 a1_3]] rfl (by (try simp only [List.map_toArray, List.map_cons, List.map_nil]); first | done | rfl | (simp only [List.length_drop, List.length_take]; rfl)) ?_; (with_reducible refine (crater_Strike.calls k t141 t142 t143 _ _ t144 a1_0 a1_1 a1_2 a1_3 t147 t148 t149 t150 t153 _ ?side1 ?side2 A4.out).mono ?_); (case side1 => refine (Kd.V_reads' (e := 5) (base := w.heap.size) (ok := fun k_ => (k_ ≠ gb139 ∧ k_ ≠ gb140)) (n := t144.length) (c := co13) ?_).2.2; exact (by (with_reducible repeat (first | apply Kd.V_alloc | apply Kd.V_drewN | apply Kd.V_drew)); exact (Kd.V_mono (Kd.V_far (p := ⟨gb139, 3, none⟩) (Kd.V_far (p := ⟨gb139, 2, none⟩) (Kd.V_far (p := ⟨gb139, 1, none⟩) (Kd.V_far (p := ⟨gb139, 0, none⟩) (Kd.V_mono HO146.out (fun k_ hk => (⟨hk, hk.1⟩ : _ ∧ k_ ≠ gb139))) (fun _ hk => hk.2) (.int .i64 t141)) (fun _ hk => hk.2) (.int .i64 t142)) (fun _ hk => hk.2) (.int .i64 t143)) (fun _ hk => hk.2) (.slice Ao13 t144.length co13)) (fun _ h_ => h_.1)))); (case side2 => exact (Kd.V_reads' HO146.out).2.1); rintro e w15 ⟨v151, rfl, ho0, hb⟩; refine ⟨_, rfl, ?_⟩; have n0_ := Aside0.mk (Kd.V_elder' (by (with_reducible repeat (first | apply Kd.V_alloc | apply Kd.V_drewN | apply Kd.V_drew)); exact (Kd.V_mono (Kd.V_far (p := ⟨gb139, 3, none⟩) (Kd.V_far (p := ⟨gb139, 2, none⟩) (Kd.V_far (p := ⟨gb139, 1, none⟩) (Kd.V_far (p := ⟨gb139, 0, none⟩) (Kd.V_mono HO146.out (fun k_ hk => (⟨hk, hk.1⟩ : _ ∧ k_ ≠ gb139))) (fun _ hk => hk.2) (.int .i64 t141)) (fun _ hk => hk.2) (.int .i64 t142)) (fun _ hk => hk.2) (.int .i64 t143)) (fun _ hk => hk.2) (.slice Ao13 t144.length co13)) (fun _ h_ => h_.1))) (Kd.R_base ho0) hb); have n1_ := Aside0.mk (Kd.R_lower ho0 (below_size (by repeat (first | (with_reducible first | exact HB.out | apply below_alloc | apply pw_below_drewN | apply below_drew1 | refine below_set ?_ GE139.out | refine below_set ?_ GE140.out) | exact HB.out)))); have n2_ := Aside0.mk (blk_below (g := gb139) (o := .cells #[.int .i64 t141, .int .i64 t142, .int .i64 t143, .slice Ao13 t144.length co13] 46 (0, 0)) (by (with_reducible repeat (first | refine blk_drewN ?_ _ | refine blk_drew ?_ | refine blk_alloc ?_ _)); refine blk_put (cs := #[.int .i64 t141, .int .i64 t142, .int .i64 t143, .slice A0_3 l0_3.length c0_3]) ?_ 3 _ rfl; (with_reducible repeat (first | refine blk_drewN ?_ _ | refine blk_drew ?_ | refine blk_alloc ?_ _)); refine blk_put (cs := #[.int .i64 t141, .int .i64 t142, .int .i64 a0_2, .slice A0_3 l0_3.length c0_3]) ?_ 2 _ rfl; (with_reducible repeat (first | refine blk_drewN ?_ _ | refine blk_drew ?_ | refine blk_alloc ?_ _)); refine blk_put (cs := #[.int .i64 t141, .int .i64 a0_1, .int .i64 a0_2, .slice A0_3 l0_3.length c0_3]) ?_ 1 _ rfl; (with_reducible repeat (first | refine blk_drewN ?_ _ | refine blk_drew ?_ | refine blk_alloc ?_ _)); refine blk_put (cs := #[.int .i64 a0_0, .int .i64 a0_1, .int .i64 a0_2, .slice A0_3 l0_3.length c0_3]) ?_ 0 _ rfl; (with_reducible repeat (first | refine blk_drewN ?_ _ | refine blk_drew ?_ | refine blk_alloc ?_ _)); exact BK139.out) hb); have n3_ := Aside0.mk (blk_below (g := gb140) (o := .cells #[.int .i64 a1_0, .int .i64 a1_1, .int .i64 a1_2, .int .i64 a1_3] 23 (0, 0)) (by (with_reducible repeat (first | refine blk_drewN ?_ _ | refine blk_drew ?_ | refine blk_alloc ?_ _)); refine blk_far ?_ NB140_139.out _; (with_reducible repeat (first | refine blk_drewN ?_ _ | refine blk_drew ?_ | refine blk_alloc ?_ _)); refine blk_far ?_ NB140_139.out _; (with_reducible repeat (first | refine blk_drewN ?_ _ | refine blk_drew ?_ | refine blk_alloc ?_ _)); refine blk_far ?_ NB140_139.out _; (with_reducible repeat (first | refine blk_drewN ?_ _ | refine blk_drew ?_ | refine blk_alloc ?_ _)); refine blk_far ?_ NB140_139.out _; (with_reducible repeat (first | refine blk_drewN ?_ _ | refine blk_drew ?_ | refine blk_alloc ?_ _)); exact BK140.out) hb); have n4_ := Aside0.mk (below_step (by repeat (first | (with_reducible first | exact HB.out | apply below_alloc | apply pw_below_drewN | apply below_drew1 | refine below_set ?_ GE139.out | refine below_set ?_ GE140.out) | exact HB.out)) hb); clear HO146; clear BK139; clear BK140; clear HB; have HO146 := n0_; have HO152 := n1_; have BK139 := n2_; have BK140 := n3_; have HB := n4_; clear n0_ n1_ n2_ n3_ n4_; (try clear hb); (try clear hb2); (try clear hk); (try clear hi); (try clear ho0)) | ((with_reducible refine gate_dst (N := 5) rfl ?_); (try (refine gate_guard (by rfl) ?_; dsimp only)); refine box_event ?hg (N := 5) ?hd (cs := #[.int .i64 0, .int .i64 0, .int .i64 0, .slice none 0 0]) (t := 46) ?hr ?_; (case hd => rfl); (case hg => rfl); (case hr => first | (go_simp; done) | (go_simp; rfl)); intro gb154 hg w16 hbox hb; have n0_ := Aside0.mk (Kd.V_below (Kd.V_elderB (by (with_reducible repeat (first | apply Kd.V_alloc | apply Kd.V_drewN | apply Kd.V_drew)); exact HO146.out) gb154 (Nat.le_of_eq hg.symm)) hb); have n1_ := Aside0.mk (Kd.R_below (by (with_reducible repeat (first | apply Kd.R_alloc | apply Kd.R_drewN | apply Kd.R_drew)); exact HO152.out) hb); have n2_ := Aside0.mk (blk_below (g := gb139) (o := .cells #[.int .i64 t141, .int .i64 t142, .int .i64 t143, .slice Ao13 t144.length co13] 46 (0, 0)) (by (with_reducible repeat (first | refine blk_drewN ?_ _ | refine blk_drew ?_ | refine blk_alloc ?_ _)); exact BK139.out) hb); have n3_ := Aside0.mk (blk_below (g := gb140) (o := .cells #[.int .i64 a1_0, .int .i64 a1_1, .int .i64 a1_2, .int .i64 a1_3] 23 (0, 0)) (by (with_reducible repeat (first | refine blk_drewN ?_ _ | refine blk_drew ?_ | refine blk_alloc ?_ _)); exact BK140.out) hb); have n4_ := Aside0.mk (below_step (by repeat (first | (with_reducible first | exact HB.out | apply below_alloc | apply pw_below_drewN | apply below_drew1 | refine below_set ?_ GE139.out | refine below_set ?_ GE140.out) | exact HB.out)) hb); have n5_ := Aside0.mk (hbox); have n6_ := Aside0.mk ((by rw [hg]; exact (below_size (by repeat (first | (with_reducible first | exact HB.out | apply below_alloc | apply pw_below_drewN | apply below_drew1 | refine below_set ?_ GE139.out | refine below_set ?_ GE140.out) | exact HB.out))) : w.heap.size ≤ gb154)); have n7_ := Aside0.mk ((by rw [hg]; exact (below_size (by repeat (first | (with_reducible first | exact HB.out | apply below_alloc | apply pw_below_drewN | apply below_drew1 | refine below_set ?_ GE139.out | refine below_set ?_ GE140.out) | exact HB.out))) : w.heap.size ≤ gb154)); have n8_ := Aside0.mk ((by rw [hg]; exact Nat.ne_of_lt (blk_lt (g := gb139) (o := .cells #[.int .i64 t141, .int .i64 t142, .int .i64 t143, .slice Ao13 t144.length co13] 46 (0, 0)) (by (with_reducible repeat (first | refine blk_drewN ?_ _ | refine blk_drew ?_ | refine blk_alloc ?_ _)); exact BK139.out)) : gb139 ≠ gb154)); have n9_ := Aside0.mk ((by rw [hg]; exact Nat.ne_of_gt (blk_lt (g := gb139) (o := .cells #[.int .i64 t141, .int .i64 t142, .int .i64 t143, .slice Ao13 t144.length co13] 46 (0, 0)) (by (with_reducible repeat (first | refine blk_drewN ?_ _ | refine blk_drew ?_ | refine blk_alloc ?_ _)); exact BK139.out)) : gb154 ≠ gb139)); have n10_ := Aside0.mk ((by rw [hg]; exact Nat.ne_of_lt (blk_lt (g := gb140) (o := .cells #[.int .i64 a1_0, .int .i64 a1_1, .int .i64 a1_2, .int .i64 a1_3] 23 (0, 0)) (by (with_reducible repeat (first | refine blk_drewN ?_ _ | refine blk_drew ?_ | refine blk_alloc ?_ _)); exact BK140.out)) : gb140 ≠ gb154)); have n11_ := Aside0.mk ((by rw [hg]; exact Nat.ne_of_gt (blk_lt (g := gb140) (o := .cells #[.int .i64 a1_0, .int .i64 a1_1, .int .i64 a1_2, .int .i64 a1_3] 23 (0, 0)) (by (with_reducible repeat (first | refine blk_drewN ?_ _ | refine blk_drew ?_ | refine blk_alloc ?_ _)); exact BK140.out)) : gb154 ≠ gb140)); clear HO146; clear HO152; clear BK139; clear BK140; clear HB; have HO146 := n0_; have HO152 := n1_; have BK139 := n2_; have BK140 := n3_; have HB := n4_; have BK154 := n5_; have GW154 := n6_; have GE154 := n7_; have NB139_154 := n8_; have NB154_139 := n9_; have NB140_154 := n10_; have NB154_140 := n11_; clear n0_ n1_ n2_ n3_ n4_ n5_ n6_ n7_ n8_ n9_ n10_ n11_; clear hb hbox hg; have hnb17 := NB154_139.out; have hnc17 := NB139_154.out; have hnb18 := NB154_140.out; have hnc18 := NB140_154.out; have hcz19_0 : w16.cell? ⟨gb154, 0, none⟩ = some (.int .i64 0) := (blk_cell BK154.out 0).trans rfl; have hcz19_1 : w16.cell? ⟨gb154, 1, none⟩ = some (.int .i64 0) := (blk_cell BK154.out 1).trans rfl; have hcz19_2 : w16.cell? ⟨gb154, 2, none⟩ = some (.int .i64 0) := (blk_cell BK154.out 2).trans rfl; have hcz19_3 : w16.cell? ⟨gb154, 3, none⟩ = some (.slice none 0 0) := (blk_cell BK154.out 3).trans rfl; have hfz19_0 := blk_frozen BK154.out 0; have hfz19_1 := blk_frozen BK154.out 1; have hfz19_2 := blk_frozen BK154.out 2; have hfz19_3 := blk_frozen BK154.out 3; obtain ⟨Ao20, co20, eo20⟩ := Kd.R_slice HO152.out; subst eo20))
  (try simp only [Act.put, List.setIfInBounds_toArray, List.set_cons_zero, List.set_cons_succ])
  go_cut [37] (fun v37 wc => ∃ (kq : Nat) (x37_5 : Bool), v37 = .bool x37_5 ∧ Aside0 (bivouaclaw09_CraterFalls.j0 kq x37_5 t141 t142 t143 t144 a1_0 a1_1 a1_2 a1_3 t147 t148 t149 t150 = some r) ∧ Aside0 (kq ≤ k) ∧ Aside0 (Kd.V (Kd.int .u8) 5 wc w.heap.size (fun k_ => some k_ ≠ ((.slice Ao20 t150.length co20) : Value).ownBlock ∧ k_ ≠ gb139 ∧ k_ ≠ gb140 ∧ k_ ≠ gb154) (.slice Ao13 t144.length co13) t144) ∧ Aside0 (Kd.R (Kd.int .u8) 5 wc w.heap.size (fun _ => True) (.slice Ao20 t150.length co20) t150) ∧ Aside0 (wc.heap[gb139]? = some (.cells #[.int .i64 t141, .int .i64 t142, .int .i64 t143, (.slice Ao13 t144.length co13)] 46 (0, 0))) ∧ Aside0 (wc.heap[gb140]? = some (.cells #[.int .i64 a1_0, .int .i64 a1_1, .int .i64 a1_2, .int .i64 a1_3] 23 (0, 0))) ∧ Aside0 (wc.heap[gb154]? = some (.cells #[.int .i64 t147, .int .i64 t148, .int .i64 t149, (.slice Ao20 t150.length co20)] 46 (0, 0))) ∧ Aside0 (Below w.heap.size w wc))
  case first =>
   have H := HC6.out
   clear HC6
   replace H := Option.bind_eq_some_iff.mp H
   obtain ⟨t157, A210, H⟩ := H
   replace H : (if t157 = 0 then (bivouaclaw09_CraterFalls.j0 k ((t150.length : Int) != (t144.length : Int)) t141 t142 t143 t144 a1_0 a1_1 a1_2 a1_3 t147 t148 t149 t150) else (bivouaclaw09_CraterFalls.j0 k true t141 t142 t143 t144 a1_0 a1_1 a1_2 a1_3 t147 t148 t149 t150)) = some r := H
   have A21 := Aside0.mk A210
   clear A210
   by_cases c22 : t157 = 0
   ·
    rw [if_pos c22] at H
    have c22b0 : (t157 == 0) = true := beq_iff_eq.mpr c22
    have c22b1 : (t157 != 0) = false := bne_eq_false_iff_eq.mpr c22
    clear c22
    (first | rw [c22b0] | (simp only [i64_w, i32_w]; rw [c22b0]) | skip)
    have H' := Aside0.mk H
    clear H
    have hnb23 := NB154_139.out
    have hnc23 := NB139_154.out
    have hnb24 := NB154_140.out
    have hnc24 := NB140_154.out
    have hcz25_0 : w16.cell? ⟨gb154, 0, none⟩ = some (.int .i64 0) := (blk_cell BK154.out 0).trans rfl
    have hcz25_1 : w16.cell? ⟨gb154, 1, none⟩ = some (.int .i64 0) := (blk_cell BK154.out 1).trans rfl
    have hcz25_2 : w16.cell? ⟨gb154, 2, none⟩ = some (.int .i64 0) := (blk_cell BK154.out 2).trans rfl
    have hcz25_3 : w16.cell? ⟨gb154, 3, none⟩ = some (.slice none 0 0) := (blk_cell BK154.out 3).trans rfl
    have hfz25_0 := blk_frozen BK154.out 0
    have hfz25_1 := blk_frozen BK154.out 1
    have hfz25_2 := blk_frozen BK154.out 2
    have hfz25_3 := blk_frozen BK154.out 3
    go_wp2_with (first | ((with_reducible refine gate_callee (f := 29) rfl ?_); refine goesL_ (some 27) rfl rfl Try.func29 (by kernel_rfl) rfl #[.agg #[.int .i64 t147, .int .i64 t148, .int .i64 t149, .slice Ao20 t150.length co20]] rfl (by (try simp only [List.map_toArray, List.map_cons, List.map_nil]); first | done | rfl | (simp only [List.length_drop, List.length_take]; rfl)) ?_; (with_reducible refine (bivouacref06_Check.calls k t147 t148 t149 _ _ t150 t157 _ ?side1 ?side2 A21.out).mono ?_); (case side1 => refine (Kd.R_reads' (e := 5) (base := w.heap.size) (ok := fun k_ => True) (n := t150.length) (c := co20) ?_).2.2; exact (by (with_reducible repeat (first | apply Kd.R_alloc | apply Kd.R_drewN | apply Kd.R_drew)); exact (Kd.R_mono (Kd.R_far (p := ⟨gb154, 3, none⟩) (Kd.R_far (p := ⟨gb154, 2, none⟩) (Kd.R_far (p := ⟨gb154, 1, none⟩) (Kd.R_far (p := ⟨gb154, 0, none⟩) (Kd.R_types HO152.out BK154.out (by decide)) (fun _ hk => hk.2) (.int .i64 t147)) (fun _ hk => hk.2) (.int .i64 t148)) (fun _ hk => hk.2) (.int .i64 t149)) (fun _ hk => hk.2) (.slice Ao20 t150.length co20)) (fun _ h_ => h_.1)))); (case side2 => exact (Kd.R_reads' HO152.out).2.1); rintro e w26 ⟨rfl, hb⟩; refine ⟨_, rfl, ?_⟩; have n0_ := Aside0.mk (Kd.V_below (by (with_reducible repeat (first | apply Kd.V_alloc | apply Kd.V_drewN | apply Kd.V_drew)); exact (Kd.V_mono (Kd.V_far (p := ⟨gb154, 3, none⟩) (Kd.V_far (p := ⟨gb154, 2, none⟩) (Kd.V_far (p := ⟨gb154, 1, none⟩) (Kd.V_far (p := ⟨gb154, 0, none⟩) (Kd.V_mono HO146.out (fun k_ hk => (⟨hk, hk.2⟩ : _ ∧ k_ ≠ gb154))) (fun _ hk => hk.2) (.int .i64 t147)) (fun _ hk => hk.2) (.int .i64 t148)) (fun _ hk => hk.2) (.int .i64 t149)) (fun _ hk => hk.2) (.slice Ao20 t150.length co20)) (fun _ h_ => h_.1))) hb); have n1_ := Aside0.mk (Kd.R_below (by (with_reducible repeat (first | apply Kd.R_alloc | apply Kd.R_drewN | apply Kd.R_drew)); exact (Kd.R_mono (Kd.R_far (p := ⟨gb154, 3, none⟩) (Kd.R_far (p := ⟨gb154, 2, none⟩) (Kd.R_far (p := ⟨gb154, 1, none⟩) (Kd.R_far (p := ⟨gb154, 0, none⟩) (Kd.R_types HO152.out BK154.out (by decide)) (fun _ hk => hk.2) (.int .i64 t147)) (fun _ hk => hk.2) (.int .i64 t148)) (fun _ hk => hk.2) (.int .i64 t149)) (fun _ hk => hk.2) (.slice Ao20 t150.length co20)) (fun _ h_ => h_.1))) hb); have n2_ := Aside0.mk (blk_below (g := gb139) (o := .cells #[.int .i64 t141, .int .i64 t142, .int .i64 t143, .slice Ao13 t144.length co13] 46 (0, 0)) (by (with_reducible repeat (first | refine blk_drewN ?_ _ | refine blk_drew ?_ | refine blk_alloc ?_ _)); refine blk_far ?_ NB139_154.out _; (with_reducible repeat (first | refine blk_drewN ?_ _ | refine blk_drew ?_ | refine blk_alloc ?_ _)); refine blk_far ?_ NB139_154.out _; (with_reducible repeat (first | refine blk_drewN ?_ _ | refine blk_drew ?_ | refine blk_alloc ?_ _)); refine blk_far ?_ NB139_154.out _; (with_reducible repeat (first | refine blk_drewN ?_ _ | refine blk_drew ?_ | refine blk_alloc ?_ _)); refine blk_far ?_ NB139_154.out _; (with_reducible repeat (first | refine blk_drewN ?_ _ | refine blk_drew ?_ | refine blk_alloc ?_ _)); exact BK139.out) hb); have n3_ := Aside0.mk (blk_below (g := gb140) (o := .cells #[.int .i64 a1_0, .int .i64 a1_1, .int .i64 a1_2, .int .i64 a1_3] 23 (0, 0)) (by (with_reducible repeat (first | refine blk_drewN ?_ _ | refine blk_drew ?_ | refine blk_alloc ?_ _)); refine blk_far ?_ NB140_154.out _; (with_reducible repeat (first | refine blk_drewN ?_ _ | refine blk_drew ?_ | refine blk_alloc ?_ _)); refine blk_far ?_ NB140_154.out _; (with_reducible repeat (first | refine blk_drewN ?_ _ | refine blk_drew ?_ | refine blk_alloc ?_ _)); refine blk_far ?_ NB140_154.out _; (with_reducible repeat (first | refine blk_drewN ?_ _ | refine blk_drew ?_ | refine blk_alloc ?_ _)); refine blk_far ?_ NB140_154.out _; (with_reducible repeat (first | refine blk_drewN ?_ _ | refine blk_drew ?_ | refine blk_alloc ?_ _)); exact BK140.out) hb); have n4_ := Aside0.mk (blk_below (g := gb154) (o := .cells #[.int .i64 t147, .int .i64 t148, .int .i64 t149, .slice Ao20 t150.length co20] 46 (0, 0)) (by (with_reducible repeat (first | refine blk_drewN ?_ _ | refine blk_drew ?_ | refine blk_alloc ?_ _)); refine blk_put (cs := #[.int .i64 t147, .int .i64 t148, .int .i64 t149, .slice none 0 0]) ?_ 3 _ rfl; (with_reducible repeat (first | refine blk_drewN ?_ _ | refine blk_drew ?_ | refine blk_alloc ?_ _)); refine blk_put (cs := #[.int .i64 t147, .int .i64 t148, .int .i64 0, .slice none 0 0]) ?_ 2 _ rfl; (with_reducible repeat (first | refine blk_drewN ?_ _ | refine blk_drew ?_ | refine blk_alloc ?_ _)); refine blk_put (cs := #[.int .i64 t147, .int .i64 0, .int .i64 0, .slice none 0 0]) ?_ 1 _ rfl; (with_reducible repeat (first | refine blk_drewN ?_ _ | refine blk_drew ?_ | refine blk_alloc ?_ _)); refine blk_put (cs := #[.int .i64 0, .int .i64 0, .int .i64 0, .slice none 0 0]) ?_ 0 _ rfl; (with_reducible repeat (first | refine blk_drewN ?_ _ | refine blk_drew ?_ | refine blk_alloc ?_ _)); exact BK154.out) hb); have n5_ := Aside0.mk (below_step (by repeat (first | (with_reducible first | exact HB.out | apply below_alloc | apply pw_below_drewN | apply below_drew1 | refine below_set ?_ GE139.out | refine below_set ?_ GE140.out | refine below_set ?_ GE154.out) | exact HB.out)) hb); clear HO146; clear HO152; clear BK139; clear BK140; clear BK154; clear HB; have HO146 := n0_; have HO152 := n1_; have BK139 := n2_; have BK140 := n3_; have BK154 := n4_; have HB := n5_; clear n0_ n1_ n2_ n3_ n4_ n5_; (try clear hb); (try clear hb2); (try clear hk); (try clear hi); have hcz27_0 : w26.cell? ⟨gb154, 0, none⟩ = some (.int .i64 t147) := (blk_cell BK154.out 0).trans rfl; have hcz27_1 : w26.cell? ⟨gb154, 1, none⟩ = some (.int .i64 t148) := (blk_cell BK154.out 1).trans rfl; have hcz27_2 : w26.cell? ⟨gb154, 2, none⟩ = some (.int .i64 t149) := (blk_cell BK154.out 2).trans rfl; have hcz27_3 : w26.cell? ⟨gb154, 3, none⟩ = some (.slice Ao20 t150.length co20) := (blk_cell BK154.out 3).trans rfl; have hfz27_0 := blk_frozen BK154.out 0; have hfz27_1 := blk_frozen BK154.out 1; have hfz27_2 := blk_frozen BK154.out 2; have hfz27_3 := blk_frozen BK154.out 3; have hnb28 := NB139_140.out; have hnc28 := NB140_139.out; have hcz29_0 : w26.cell? ⟨gb139, 0, none⟩ = some (.int .i64 t141) := (blk_cell BK139.out 0).trans rfl; have hcz29_1 : w26.cell? ⟨gb139, 1, none⟩ = some (.int .i64 t142) := (blk_cell BK139.out 1).trans rfl; have hcz29_2 : w26.cell? ⟨gb139, 2, none⟩ = some (.int .i64 t143) := (blk_cell BK139.out 2).trans rfl; have hcz29_3 : w26.cell? ⟨gb139, 3, none⟩ = some (.slice Ao13 t144.length co13) := (blk_cell BK139.out 3).trans rfl; have hfz29_0 := blk_frozen BK139.out 0; have hfz29_1 := blk_frozen BK139.out 1; have hfz29_2 := blk_frozen BK139.out 2; have hfz29_3 := blk_frozen BK139.out 3))
    go_meet
    case rel => exact ⟨_, (((t150.length : Int) != (t144.length : Int))), (by first | rfl | (simp; done) | (simp [*]; done)), H', ⟨by first | omega | exact Nat.le_refl _⟩, ⟨by (with_reducible repeat (first | apply Kd.V_alloc | apply Kd.V_drewN | apply Kd.V_drew)); exact Kd.V_mono HO146.out (fun _ hk => ⟨hk.1.2, ⟨hk.1.1.1, ⟨hk.1.1.2, hk.2⟩⟩⟩)⟩, ⟨by (with_reducible repeat (first | apply Kd.R_alloc | apply Kd.R_drewN | apply Kd.R_drew)); exact HO152.out⟩, ⟨by (with_reducible repeat (first | refine blk_drewN ?_ _ | refine blk_drew ?_ | refine blk_alloc ?_ _)); exact BK139.out⟩, ⟨by (with_reducible repeat (first | refine blk_drewN ?_ _ | refine blk_drew ?_ | refine blk_alloc ?_ _)); exact BK140.out⟩, ⟨by (with_reducible repeat (first | refine blk_drewN ?_ _ | refine blk_drew ?_ | refine blk_alloc ?_ _)); exact BK154.out⟩, ⟨by repeat (first | (with_reducible first | exact HB.out | apply below_alloc | apply pw_below_drewN | apply below_drew1 | refine below_set ?_ GE139.out | refine below_set ?_ GE140.out | refine below_set ?_ GE154.out) | exact HB.out)⟩⟩
   ·
    rw [if_neg c22] at H
    have c22b0 : (t157 == 0) = false := beq_eq_false_iff_ne.mpr c22
    have c22b1 : (t157 != 0) = true := bne_iff_ne.mpr c22
    (first | rw [c22b0] | (simp only [i64_w, i32_w]; rw [c22b0]) | skip)
    have H' := Aside0.mk H
    clear H
    have hnb30 := NB154_139.out
    have hnc30 := NB139_154.out
    have hnb31 := NB154_140.out
    have hnc31 := NB140_154.out
    have hcz32_0 : w16.cell? ⟨gb154, 0, none⟩ = some (.int .i64 0) := (blk_cell BK154.out 0).trans rfl
    have hcz32_1 : w16.cell? ⟨gb154, 1, none⟩ = some (.int .i64 0) := (blk_cell BK154.out 1).trans rfl
    have hcz32_2 : w16.cell? ⟨gb154, 2, none⟩ = some (.int .i64 0) := (blk_cell BK154.out 2).trans rfl
    have hcz32_3 : w16.cell? ⟨gb154, 3, none⟩ = some (.slice none 0 0) := (blk_cell BK154.out 3).trans rfl
    have hfz32_0 := blk_frozen BK154.out 0
    have hfz32_1 := blk_frozen BK154.out 1
    have hfz32_2 := blk_frozen BK154.out 2
    have hfz32_3 := blk_frozen BK154.out 3
    go_wp2_with (first | ((with_reducible refine gate_callee (f := 29) rfl ?_); refine goesL_ (some 27) rfl rfl Try.func29 (by kernel_rfl) rfl #[.agg #[.int .i64 t147, .int .i64 t148, .int .i64 t149, .slice Ao20 t150.length co20]] rfl (by (try simp only [List.map_toArray, List.map_cons, List.map_nil]); first | done | rfl | (simp only [List.length_drop, List.length_take]; rfl)) ?_; (with_reducible refine (bivouacref06_Check.calls k t147 t148 t149 _ _ t150 t157 _ ?side1 ?side2 A21.out).mono ?_); (case side1 => refine (Kd.R_reads' (e := 5) (base := w.heap.size) (ok := fun k_ => True) (n := t150.length) (c := co20) ?_).2.2; exact (by (with_reducible repeat (first | apply Kd.R_alloc | apply Kd.R_drewN | apply Kd.R_drew)); exact (Kd.R_mono (Kd.R_far (p := ⟨gb154, 3, none⟩) (Kd.R_far (p := ⟨gb154, 2, none⟩) (Kd.R_far (p := ⟨gb154, 1, none⟩) (Kd.R_far (p := ⟨gb154, 0, none⟩) (Kd.R_types HO152.out BK154.out (by decide)) (fun _ hk => hk.2) (.int .i64 t147)) (fun _ hk => hk.2) (.int .i64 t148)) (fun _ hk => hk.2) (.int .i64 t149)) (fun _ hk => hk.2) (.slice Ao20 t150.length co20)) (fun _ h_ => h_.1)))); (case side2 => exact (Kd.R_reads' HO152.out).2.1); rintro e w33 ⟨rfl, hb⟩; refine ⟨_, rfl, ?_⟩; have n0_ := Aside0.mk (Kd.V_below (by (with_reducible repeat (first | apply Kd.V_alloc | apply Kd.V_drewN | apply Kd.V_drew)); exact (Kd.V_mono (Kd.V_far (p := ⟨gb154, 3, none⟩) (Kd.V_far (p := ⟨gb154, 2, none⟩) (Kd.V_far (p := ⟨gb154, 1, none⟩) (Kd.V_far (p := ⟨gb154, 0, none⟩) (Kd.V_mono HO146.out (fun k_ hk => (⟨hk, hk.2⟩ : _ ∧ k_ ≠ gb154))) (fun _ hk => hk.2) (.int .i64 t147)) (fun _ hk => hk.2) (.int .i64 t148)) (fun _ hk => hk.2) (.int .i64 t149)) (fun _ hk => hk.2) (.slice Ao20 t150.length co20)) (fun _ h_ => h_.1))) hb); have n1_ := Aside0.mk (Kd.R_below (by (with_reducible repeat (first | apply Kd.R_alloc | apply Kd.R_drewN | apply Kd.R_drew)); exact (Kd.R_mono (Kd.R_far (p := ⟨gb154, 3, none⟩) (Kd.R_far (p := ⟨gb154, 2, none⟩) (Kd.R_far (p := ⟨gb154, 1, none⟩) (Kd.R_far (p := ⟨gb154, 0, none⟩) (Kd.R_types HO152.out BK154.out (by decide)) (fun _ hk => hk.2) (.int .i64 t147)) (fun _ hk => hk.2) (.int .i64 t148)) (fun _ hk => hk.2) (.int .i64 t149)) (fun _ hk => hk.2) (.slice Ao20 t150.length co20)) (fun _ h_ => h_.1))) hb); have n2_ := Aside0.mk (blk_below (g := gb139) (o := .cells #[.int .i64 t141, .int .i64 t142, .int .i64 t143, .slice Ao13 t144.length co13] 46 (0, 0)) (by (with_reducible repeat (first | refine blk_drewN ?_ _ | refine blk_drew ?_ | refine blk_alloc ?_ _)); refine blk_far ?_ NB139_154.out _; (with_reducible repeat (first | refine blk_drewN ?_ _ | refine blk_drew ?_ | refine blk_alloc ?_ _)); refine blk_far ?_ NB139_154.out _; (with_reducible repeat (first | refine blk_drewN ?_ _ | refine blk_drew ?_ | refine blk_alloc ?_ _)); refine blk_far ?_ NB139_154.out _; (with_reducible repeat (first | refine blk_drewN ?_ _ | refine blk_drew ?_ | refine blk_alloc ?_ _)); refine blk_far ?_ NB139_154.out _; (with_reducible repeat (first | refine blk_drewN ?_ _ | refine blk_drew ?_ | refine blk_alloc ?_ _)); exact BK139.out) hb); have n3_ := Aside0.mk (blk_below (g := gb140) (o := .cells #[.int .i64 a1_0, .int .i64 a1_1, .int .i64 a1_2, .int .i64 a1_3] 23 (0, 0)) (by (with_reducible repeat (first | refine blk_drewN ?_ _ | refine blk_drew ?_ | refine blk_alloc ?_ _)); refine blk_far ?_ NB140_154.out _; (with_reducible repeat (first | refine blk_drewN ?_ _ | refine blk_drew ?_ | refine blk_alloc ?_ _)); refine blk_far ?_ NB140_154.out _; (with_reducible repeat (first | refine blk_drewN ?_ _ | refine blk_drew ?_ | refine blk_alloc ?_ _)); refine blk_far ?_ NB140_154.out _; (with_reducible repeat (first | refine blk_drewN ?_ _ | refine blk_drew ?_ | refine blk_alloc ?_ _)); refine blk_far ?_ NB140_154.out _; (with_reducible repeat (first | refine blk_drewN ?_ _ | refine blk_drew ?_ | refine blk_alloc ?_ _)); exact BK140.out) hb); have n4_ := Aside0.mk (blk_below (g := gb154) (o := .cells #[.int .i64 t147, .int .i64 t148, .int .i64 t149, .slice Ao20 t150.length co20] 46 (0, 0)) (by (with_reducible repeat (first | refine blk_drewN ?_ _ | refine blk_drew ?_ | refine blk_alloc ?_ _)); refine blk_put (cs := #[.int .i64 t147, .int .i64 t148, .int .i64 t149, .slice none 0 0]) ?_ 3 _ rfl; (with_reducible repeat (first | refine blk_drewN ?_ _ | refine blk_drew ?_ | refine blk_alloc ?_ _)); refine blk_put (cs := #[.int .i64 t147, .int .i64 t148, .int .i64 0, .slice none 0 0]) ?_ 2 _ rfl; (with_reducible repeat (first | refine blk_drewN ?_ _ | refine blk_drew ?_ | refine blk_alloc ?_ _)); refine blk_put (cs := #[.int .i64 t147, .int .i64 0, .int .i64 0, .slice none 0 0]) ?_ 1 _ rfl; (with_reducible repeat (first | refine blk_drewN ?_ _ | refine blk_drew ?_ | refine blk_alloc ?_ _)); refine blk_put (cs := #[.int .i64 0, .int .i64 0, .int .i64 0, .slice none 0 0]) ?_ 0 _ rfl; (with_reducible repeat (first | refine blk_drewN ?_ _ | refine blk_drew ?_ | refine blk_alloc ?_ _)); exact BK154.out) hb); have n5_ := Aside0.mk (below_step (by repeat (first | (with_reducible first | exact HB.out | apply below_alloc | apply pw_below_drewN | apply below_drew1 | refine below_set ?_ GE139.out | refine below_set ?_ GE140.out | refine below_set ?_ GE154.out) | exact HB.out)) hb); clear HO146; clear HO152; clear BK139; clear BK140; clear BK154; clear HB; have HO146 := n0_; have HO152 := n1_; have BK139 := n2_; have BK140 := n3_; have BK154 := n4_; have HB := n5_; clear n0_ n1_ n2_ n3_ n4_ n5_; (try clear hb); (try clear hb2); (try clear hk); (try clear hi)))
    go_meet
    case rel => exact ⟨_, (true), (by first | rfl | (simp; done) | (simp [*]; done)), H', ⟨by first | omega | exact Nat.le_refl _⟩, ⟨by (with_reducible repeat (first | apply Kd.V_alloc | apply Kd.V_drewN | apply Kd.V_drew)); exact Kd.V_mono HO146.out (fun _ hk => ⟨hk.1.2, ⟨hk.1.1.1, ⟨hk.1.1.2, hk.2⟩⟩⟩)⟩, ⟨by (with_reducible repeat (first | apply Kd.R_alloc | apply Kd.R_drewN | apply Kd.R_drew)); exact HO152.out⟩, ⟨by (with_reducible repeat (first | refine blk_drewN ?_ _ | refine blk_drew ?_ | refine blk_alloc ?_ _)); exact BK139.out⟩, ⟨by (with_reducible repeat (first | refine blk_drewN ?_ _ | refine blk_drew ?_ | refine blk_alloc ?_ _)); exact BK140.out⟩, ⟨by (with_reducible repeat (first | refine blk_drewN ?_ _ | refine blk_drew ?_ | refine blk_alloc ?_ _)); exact BK154.out⟩, ⟨by repeat (first | (with_reducible first | exact HB.out | apply below_alloc | apply pw_below_drewN | apply below_drew1 | refine below_set ?_ GE139.out | refine below_set ?_ GE140.out | refine below_set ?_ GE154.out) | exact HB.out)⟩⟩
  case rest =>
   clear HC6
   try clear c1
   try clear c2
   try clear p2
   try clear c3
   try clear c5
   try clear c5b0
   try clear c5b1
   try clear c9
   try clear c10
   try clear c17
   try clear c18
   try clear c22
   try clear c22b0
   try clear c22b1
   try clear c23
   try clear c24
   try clear c26
   try clear c27
   try clear c28
   try clear c29
   try clear c30
   try clear c31
   try clear hcz10_0
   try clear hcz10_1
   try clear hcz10_2
   try clear hcz10_3
   try clear hcz12_0
   try clear hcz12_1
   try clear hcz12_2
   try clear hcz12_3
   try clear hcz14_0
   try clear hcz14_1
   try clear hcz14_2
   try clear hcz14_3
   try clear hcz19_0
   try clear hcz19_1
   try clear hcz19_2
   try clear hcz19_3
   try clear hcz25_0
   try clear hcz25_1
   try clear hcz25_2
   try clear hcz25_3
   try clear hcz27_0
   try clear hcz27_1
   try clear hcz27_2
   try clear hcz27_3
   try clear hcz29_0
   try clear hcz29_1
   try clear hcz29_2
   try clear hcz29_3
   try clear hcz32_0
   try clear hcz32_1
   try clear hcz32_2
   try clear hcz32_3
   try clear hfz10_0
   try clear hfz10_1
   try clear hfz10_2
   try clear hfz10_3
   try clear hfz12_0
   try clear hfz12_1
   try clear hfz12_2
   try clear hfz12_3
   try clear hfz14_0
   try clear hfz14_1
   try clear hfz14_2
   try clear hfz14_3
   try clear hfz19_0
   try clear hfz19_1
   try clear hfz19_2
   try clear hfz19_3
   try clear hfz25_0
   try clear hfz25_1
   try clear hfz25_2
   try clear hfz25_3
   try clear hfz27_0
   try clear hfz27_1
   try clear hfz27_2
   try clear hfz27_3
   try clear hfz29_0
   try clear hfz29_1
   try clear hfz29_2
   try clear hfz29_3
   try clear hfz32_0
   try clear hfz32_1
   try clear hfz32_2
   try clear hfz32_3
   obtain ⟨kq, x37_5, rfl, HA, HJ5, HO_140003, HO_155003, BK139, BK140, BK154, HB⟩ := hcut
   cases kq with
   | zero => exact absurd HA.out (by simp [bivouaclaw09_CraterFalls.j0])
   | succ kj5 =>
    have H := HA.out
    clear HA
    simp only [bivouaclaw09_CraterFalls.j0] at H
    by_cases c34 : x37_5 = true
    ·
     subst c34
     have H1 : (some false) = some r := by rw [if_pos rfl] at H; exact H
     clear H
     have H := H1
     clear H1
     obtain rfl := Option.some.inj H
     go_wp2
     go_ret
     exact ⟨by first | rfl | (simp [errW_none, errW_some] <;> rfl) | (simp [*, errW_none, errW_some] <;> rfl) | (rw [Int.tdiv_eq_ediv_of_nonneg (by assumption)]; rfl), by repeat (first | (with_reducible first | exact HB.out | apply below_alloc | apply pw_below_drewN | apply below_drew1 | refine below_set ?_ GE139.out | refine below_set ?_ GE140.out | refine below_set ?_ GE154.out) | exact HB.out)⟩
    ·
     replace c34 := Bool.eq_false_iff.mpr c34
     subst c34
     have H1 : (bivouaclaw09_CraterFalls.l0 kj5 0 t141 t142 t143 t144 a1_0 a1_1 a1_2 a1_3 t147 t148 t149 t150) = some r := by rw [if_neg (show ¬ (false = true) by decide)] at H; exact H
     clear H
     have H := H1
     clear H1
     have H' := Aside0.mk H
     clear H
     go_wp2
     go_loopg [7] kj5 (fun kq v7 w' => ∃ (x7_2 : Int), v7 = .int .i64 x7_2 ∧ Aside0 (bivouaclaw09_CraterFalls.l0 kq x7_2 t141 t142 t143 t144 a1_0 a1_1 a1_2 a1_3 t147 t148 t149 t150 = some r) ∧ Aside0 (kq ≤ kj5) ∧ Aside0 (Kd.V (Kd.int .u8) 5 w' w.heap.size (fun k_ => some k_ ≠ ((.slice Ao20 t150.length co20) : Value).ownBlock ∧ k_ ≠ gb139 ∧ k_ ≠ gb140 ∧ k_ ≠ gb154) (.slice Ao13 t144.length co13) t144) ∧ Aside0 (Kd.R (Kd.int .u8) 5 w' w.heap.size (fun _ => True) (.slice Ao20 t150.length co20) t150) ∧ Aside0 (w'.heap[gb139]? = some (.cells #[.int .i64 t141, .int .i64 t142, .int .i64 t143, (.slice Ao13 t144.length co13)] 46 (0, 0))) ∧ Aside0 (w'.heap[gb140]? = some (.cells #[.int .i64 a1_0, .int .i64 a1_1, .int .i64 a1_2, .int .i64 a1_3] 23 (0, 0))) ∧ Aside0 (w'.heap[gb154]? = some (.cells #[.int .i64 t147, .int .i64 t148, .int .i64 t149, (.slice Ao20 t150.length co20)] 46 (0, 0))) ∧ Aside0 (Below w.heap.size w w'))
     case atStart => exact ⟨(0), (by first | rfl | (simp; done) | (simp [*]; done)), H', ⟨Nat.le_refl _⟩, ⟨by (with_reducible repeat (first | apply Kd.V_alloc | apply Kd.V_drewN | apply Kd.V_drew)); exact HO_140003.out⟩, ⟨by (with_reducible repeat (first | apply Kd.R_alloc | apply Kd.R_drewN | apply Kd.R_drew)); exact HO_155003.out⟩, ⟨by (with_reducible repeat (first | refine blk_drewN ?_ _ | refine blk_drew ?_ | refine blk_alloc ?_ _)); exact BK139.out⟩, ⟨by (with_reducible repeat (first | refine blk_drewN ?_ _ | refine blk_drew ?_ | refine blk_alloc ?_ _)); exact BK140.out⟩, ⟨by (with_reducible repeat (first | refine blk_drewN ?_ _ | refine blk_drew ?_ | refine blk_alloc ?_ _)); exact BK154.out⟩, ⟨by repeat (first | (with_reducible first | exact HB.out | apply below_alloc | apply pw_below_drewN | apply below_drew1 | refine below_set ?_ GE139.out | refine below_set ?_ GE140.out | refine below_set ?_ GE154.out) | exact HB.out)⟩⟩
     case round =>
      clear H'
      try clear c1
      try clear c2
      try clear p2
      try clear c3
      try clear c5
      try clear c5b0
      try clear c5b1
      try clear c9
      try clear c10
      try clear c17
      try clear c18
      try clear c22
      try clear c22b0
      try clear c22b1
      try clear c23
      try clear c24
      try clear c26
      try clear c27
      try clear c28
      try clear c29
      try clear c30
      try clear c31
      try clear c34
      try clear hcz10_0
      try clear hcz10_1
      try clear hcz10_2
      try clear hcz10_3
      try clear hcz12_0
      try clear hcz12_1
      try clear hcz12_2
      try clear hcz12_3
      try clear hcz14_0
      try clear hcz14_1
      try clear hcz14_2
      try clear hcz14_3
      try clear hcz19_0
      try clear hcz19_1
      try clear hcz19_2
      try clear hcz19_3
      try clear hcz25_0
      try clear hcz25_1
      try clear hcz25_2
      try clear hcz25_3
      try clear hcz27_0
      try clear hcz27_1
      try clear hcz27_2
      try clear hcz27_3
      try clear hcz29_0
      try clear hcz29_1
      try clear hcz29_2
      try clear hcz29_3
      try clear hcz32_0
      try clear hcz32_1
      try clear hcz32_2
      try clear hcz32_3
      try clear hfz10_0
      try clear hfz10_1
      try clear hfz10_2
      try clear hfz10_3
      try clear hfz12_0
      try clear hfz12_1
      try clear hfz12_2
      try clear hfz12_3
      try clear hfz14_0
      try clear hfz14_1
      try clear hfz14_2
      try clear hfz14_3
      try clear hfz19_0
      try clear hfz19_1
      try clear hfz19_2
      try clear hfz19_3
      try clear hfz25_0
      try clear hfz25_1
      try clear hfz25_2
      try clear hfz25_3
      try clear hfz27_0
      try clear hfz27_1
      try clear hfz27_2
      try clear hfz27_3
      try clear hfz29_0
      try clear hfz29_1
      try clear hfz29_2
      try clear hfz29_3
      try clear hfz32_0
      try clear hfz32_1
      try clear hfz32_2
      try clear hfz32_3
      try clear p2
      obtain ⟨x7_2, rfl, HA, HK2, HO_140003, HO_155003, BK139, BK140, BK154, HB⟩ := hrel
      cases gk with
      | zero => exact absurd HA.out (by simp [bivouaclaw09_CraterFalls.l0])
      | succ k2 =>
       have H := HA.out
       clear HA
       simp only [bivouaclaw09_CraterFalls.l0] at H
       by_cases c35 : x7_2 < (t144.length : Int)
       ·
        rw [if_pos c35] at H
        have c35b0 : decide (x7_2 < (t144.length : Int)) = true := decide_eq_true c35
        clear c35
        by_cases c36 : (wrap64 (t141 + 1)) = 0
        ·
         rw [if_pos c36] at H
         exact absurd H (by simp)
        ·
         rw [if_neg c36] at H
         have c36b0 : ((wrap64 (t141 + 1)) == 0) = false := beq_eq_false_iff_ne.mpr c36
         have c36b1 : ((wrap64 (t141 + 1)) != 0) = true := bne_iff_ne.mpr c36
         have HC37 := Aside0.mk H
         clear H
         have hnb38 := NB139_140.out
         have hnc38 := NB140_139.out
         have hnb39 := NB139_154.out
         have hnc39 := NB154_139.out
         have hcz40_0 : wr.cell? ⟨gb139, 0, none⟩ = some (.int .i64 t141) := (blk_cell BK139.out 0).trans rfl
         have hcz40_1 : wr.cell? ⟨gb139, 1, none⟩ = some (.int .i64 t142) := (blk_cell BK139.out 1).trans rfl
         have hcz40_2 : wr.cell? ⟨gb139, 2, none⟩ = some (.int .i64 t143) := (blk_cell BK139.out 2).trans rfl
         have hcz40_3 : wr.cell? ⟨gb139, 3, none⟩ = some (.slice Ao13 t144.length co13) := (blk_cell BK139.out 3).trans rfl
         have hfz40_0 := blk_frozen BK139.out 0
         have hfz40_1 := blk_frozen BK139.out 1
         have hfz40_2 := blk_frozen BK139.out 2
         have hfz40_3 := blk_frozen BK139.out 3
         try go_wp2
         have n0_ := Aside0.mk (Kd.V_drew HO_140003.out)
         have n1_ := Aside0.mk (Kd.R_drew HO_155003.out)
         have n2_ := Aside0.mk (blk_drew BK139.out)
         have n3_ := Aside0.mk (blk_drew BK140.out)
         have n4_ := Aside0.mk (blk_drew BK154.out)
         have n5_ := Aside0.mk (below_drew1 HB.out)
         clear HO_140003
         clear HO_155003
         clear BK139
         clear BK140
         clear BK154
         clear HB
         have HO_140003 := n0_
         have HO_155003 := n1_
         have BK139 := n2_
         have BK140 := n3_
         have BK154 := n4_
         have HB := n5_
         clear n0_ n1_ n2_ n3_ n4_ n5_
         refine start_ (n := 12) (S := fun w' => w'.cell? ⟨gb139, 0, none⟩ = some (.int .i64 t141) ∧ w'.cell? ⟨gb139, 1, none⟩ = some (.int .i64 t142) ∧ w'.cell? ⟨gb139, 2, none⟩ = some (.int .i64 t143) ∧ w'.cell? ⟨gb139, 3, none⟩ = some (.slice Ao13 t144.length co13)) (ds := []) (bA 12 0) (by kernel_rfl) rfl rfl ⟨(blk_cell BK139.out 0).trans rfl, (blk_cell BK139.out 1).trans rfl, (blk_cell BK139.out 2).trans rfl, (blk_cell BK139.out 3).trans rfl⟩ (fun hHeld => ?_); refine with_tabW bivouaclaw09_CraterFalls.tab10 bivouaclaw09_CraterFalls.bits10 (fun HT_ HW_ => ?_)
         generalize wr.drew = w41 at HO_140003 HO_155003 BK139 BK140 BK154 HB hHeld ⊢
         refine pure_ (i := 0) (N := some 45) (v := ?_) (a' := ?_) (bA 12 1) rfl rfl (any_of HT_.out (by kernel_rfl)) (fun _ _ _ h => h) (Or.inl ⟨by rfl, ?_⟩) ?_ ?_
         rotate_left
         ·
          intro w'
          go_simp
          with_reducible rfl
         rotate_left
         ·
          simp only [Act.put, sA, sB, sC, i64_w, i32_w]
          rfl
         refine pure_ (i := 1) (N := some 46) (v := ?_) (a' := ?_) (bA 12 3) rfl rfl (any_of HT_.out (by kernel_rfl)) (fun _ _ _ h => h) (Or.inl ⟨by rfl, ?_⟩) ?_ ?_
         rotate_left
         ·
          intro w'
          go_simp
          with_reducible rfl
         rotate_left
         ·
          simp only [Act.put, sA, sB, sC, i64_w, i32_w]
          rfl
         refine pure_ (i := 5) (N := some 50) (v := ?_) (a' := ?_) (bA 12 35) rfl rfl (any_of HT_.out (by kernel_rfl)) (fun _ _ _ h => h) (Or.inl ⟨by rfl, ?_⟩) ?_ ?_
         rotate_left
         ·
          intro w'
          go_simp
          with_reducible rfl
         rotate_left
         ·
          simp only [Act.put, sA, sB, sC, i64_w, i32_w]
          rfl
         refine pure_ (i := 6) (N := some 51) (v := ?_) (a' := ?_) (bA 12 99) rfl rfl (any_of HT_.out (by kernel_rfl)) (fun _ _ _ h => h) (Or.inl ⟨by rfl, ?_⟩) ?_ ?_
         rotate_left
         ·
          intro w'
          go_simp
          with_reducible rfl
         rotate_left
         ·
          simp only [Act.put, sA, sB, sC, i64_w, i32_w]
          rfl
         refine take_ (i := 2) (N := some 47) (v := ?_) (a' := ?_) (bA 12 103) rfl rfl (take_ofW HT_.out HW_.out (by kernel_rfl)) (fun _ _ _ h => h) (Or.inl ⟨by rfl, ?_⟩) hHeld ?_ ?_
         rotate_left
         ·
          rintro w' ⟨s0, s1, s2, s3⟩
          go_simp
          with_reducible rfl
         rotate_left
         ·
          simp only [Act.put, sA, sB, sC, i64_w, i32_w]
          rfl
         refine pure_ (i := 3) (N := some 48) (v := ?_) (a' := ?_) (bA 12 111) rfl rfl (any_of HT_.out (by kernel_rfl)) (fun _ _ _ h => h) (Or.inl ⟨by rfl, ?_⟩) ?_ ?_
         rotate_left
         ·
          intro w'
          go_simp
          with_reducible rfl
         rotate_left
         ·
          simp only [Act.put, sA, sB, sC, i64_w, i32_w]
          rfl
         refine pure_ (i := 4) (N := some 49) (v := ?_) (a' := ?_) (bA 12 127) rfl rfl (any_of HT_.out (by kernel_rfl)) (fun _ _ _ h => h) (Or.inl ⟨by rfl, ?_⟩) ?_ ?_
         rotate_left
         ·
          intro w'
          go_simp
          with_reducible rfl
         rotate_left
         ·
          simp only [Act.put, sA, sB, sC, i64_w, i32_w]
          rfl
         refine pure_ (i := 10) (N := some 8) (v := ?_) (a' := ?_) (bA 12 1151) rfl rfl (any_of HT_.out (by kernel_rfl)) (fun _ _ _ h => h) (Or.inl ⟨by rfl, ?_⟩) ?_ ?_
         rotate_left
         ·
          intro w'
          go_simp
          with_reducible rfl
         rotate_left
         ·
          simp only [Act.put, sA, sB, sC, i64_w, i32_w]
          rfl
         refine take_ (i := 7) (N := some 52) (v := ?_) (a' := ?_) (bA 12 1279) rfl rfl (take_ofW HT_.out HW_.out (by kernel_rfl)) (fun _ _ _ h => h) (Or.inl ⟨by rfl, ?_⟩) hHeld ?_ ?_
         rotate_left
         ·
          rintro w' ⟨s0, s1, s2, s3⟩
          go_simp
          with_reducible rfl
         rotate_left
         ·
          simp only [Act.put, sA, sB, sC, i64_w, i32_w]
          rfl
         refine pure_ (i := 8) (N := some 53) (v := ?_) (a' := ?_) (bA 12 1535) rfl rfl (any_of HT_.out (by kernel_rfl)) (fun _ _ _ h => h) (Or.inl ⟨by rfl, ?_⟩) ?_ ?_
         rotate_left
         ·
          intro w'
          go_simp
          with_reducible rfl
         rotate_left
         ·
          simp only [Act.put, sA, sB, sC, i64_w, i32_w]
          rfl
         refine pure_ (i := 9) (N := some 54) (v := ?_) (a' := ?_) (bA 12 2047) rfl rfl (any_of HT_.out (by kernel_rfl)) (fun _ _ _ h => h) (Or.inl ⟨by rfl, ?_⟩) ?_ ?_
         rotate_left
         ·
          intro w'
          go_simp
          with_reducible rfl
         rotate_left
         ·
          simp only [Act.put, sA, sB, sC, i64_w, i32_w]
          rfl
         refine pure_ (i := 11) (N := some 9) (v := ?_) (a' := ?_) (bA 12 4095) rfl rfl (any_of HT_.out (by kernel_rfl)) (fun _ _ _ h => h) (Or.inl ⟨by rfl, ?_⟩) ?_ ?_
         rotate_left
         ·
          intro w'
          go_simp
          with_reducible rfl
         rotate_left
         ·
          simp only [Act.put, sA, sB, sC, i64_w, i32_w]
          rfl
         refine done_ (done_of HT_.out (by kernel_rfl)) ?_
         go_upto_region 11 with (fail)
         go_cut [83] (fun v83 wc => ∃ (kq : Nat) (x83_36 : Bool), v83 = .bool x83_36 ∧ Aside0 (bivouaclaw09_CraterFalls.j2 kq x7_2 (Int.tmod x7_2 (wrap64 (t141 + 1))) (wrap64 (Int.tdiv x7_2 (wrap64 (t141 + 1)))) x83_36 t141 t142 t143 t144 a1_0 a1_1 a1_2 a1_3 t147 t148 t149 t150 = some r) ∧ Aside0 (kq ≤ k2) ∧ Aside0 (Kd.V (Kd.int .u8) 5 wc w.heap.size (fun k_ => some k_ ≠ ((.slice Ao20 t150.length co20) : Value).ownBlock ∧ k_ ≠ gb139 ∧ k_ ≠ gb140 ∧ k_ ≠ gb154) (.slice Ao13 t144.length co13) t144) ∧ Aside0 (Kd.R (Kd.int .u8) 5 wc w.heap.size (fun _ => True) (.slice Ao20 t150.length co20) t150) ∧ Aside0 (wc.heap[gb139]? = some (.cells #[.int .i64 t141, .int .i64 t142, .int .i64 t143, (.slice Ao13 t144.length co13)] 46 (0, 0))) ∧ Aside0 (wc.heap[gb140]? = some (.cells #[.int .i64 a1_0, .int .i64 a1_1, .int .i64 a1_2, .int .i64 a1_3] 23 (0, 0))) ∧ Aside0 (wc.heap[gb154]? = some (.cells #[.int .i64 t147, .int .i64 t148, .int .i64 t149, (.slice Ao20 t150.length co20)] 46 (0, 0))) ∧ Aside0 (Below w.heap.size w wc))
         case first =>
          have H := HC37.out
          clear HC37
          by_cases c42 : 0 ≤ x7_2
          ·
           rw [if_pos c42] at H
           have c42b0 : decide (0 ≤ x7_2) = true := decide_eq_true c42
           clear c42
           (first | rw [c42b0] | (simp only [i64_w, i32_w]; rw [c42b0]) | skip)
           by_cases c43 : x7_2 < (t150.length : Int)
           ·
            rw [if_pos c43] at H
            have c43b0 : decide (x7_2 < (t150.length : Int)) = true := decide_eq_true c43
            clear c43
            by_cases c44 : (rd t150 x7_2) > (rd t144 x7_2)
            ·
             rw [if_pos c44] at H
             have c44b0 : decide ((rd t144 x7_2) < (rd t150 x7_2)) = true := decide_eq_true c44
             clear c44
             have H' := Aside0.mk H
             clear H
             try go_wp2
             have n0_ := Aside0.mk (Kd.V_drew HO_140003.out)
             have n1_ := Aside0.mk (Kd.R_drew HO_155003.out)
             have n2_ := Aside0.mk (blk_drew BK139.out)
             have n3_ := Aside0.mk (blk_drew BK140.out)
             have n4_ := Aside0.mk (blk_drew BK154.out)
             have n5_ := Aside0.mk (below_drew1 HB.out)
             clear HO_140003
             clear HO_155003
             clear BK139
             clear BK140
             clear BK154
             clear HB
             have HO_140003 := n0_
             have HO_155003 := n1_
             have BK139 := n2_
             have BK140 := n3_
             have BK154 := n4_
             have HB := n5_
             clear n0_ n1_ n2_ n3_ n4_ n5_
             have p159 : 0 ≤ (x7_2 : Int) := of_decide_eq_true (by first | (with_reducible assumption) | assumption)
             have q159 : x7_2 < (t150.length : Int) := of_decide_eq_true (by first | (with_reducible assumption) | assumption)
             obtain ⟨ad159, e159, hx159_0⟩ := Kd.at_int (Kd.R_reads' HO_155003.out).2.2 x7_2 p159 q159
             cases e159
             replace p159 := eq_true p159
             replace q159 := eq_true q159
             have p160 : 0 ≤ (x7_2 : Int) := of_decide_eq_true (by first | (with_reducible assumption) | assumption)
             have q160 : x7_2 < (t144.length : Int) := of_decide_eq_true (by first | (with_reducible assumption) | assumption)
             obtain ⟨ad160, e160, hx160_0⟩ := Kd.at_int (Kd.V_reads' HO_140003.out).2.2 x7_2 p160 q160
             cases e160
             replace p160 := eq_true p160
             replace q160 := eq_true q160
             refine start_ (n := 29) (S := fun w' => w'.cell? ⟨gb154, 0, none⟩ = some (.int .i64 t147) ∧ w'.cell? ⟨gb154, 1, none⟩ = some (.int .i64 t148) ∧ w'.cell? ⟨gb154, 2, none⟩ = some (.int .i64 t149) ∧ w'.cell? ⟨gb154, 3, none⟩ = some (.slice (some ad159) t150.length co20) ∧ w'.cell? ⟨gb139, 0, none⟩ = some (.int .i64 t141) ∧ w'.cell? ⟨gb139, 1, none⟩ = some (.int .i64 t142) ∧ w'.cell? ⟨gb139, 2, none⟩ = some (.int .i64 t143) ∧ w'.cell? ⟨gb139, 3, none⟩ = some (.slice (some ad160) t144.length co13) ∧ w'.cell? (ad159.add (x7_2).toNat) = some (.int .u8 (rd t150 x7_2)) ∧ w'.cell? (ad160.add (x7_2).toNat) = some (.int .u8 (rd t144 x7_2))) (ds := []) (bA 29 0) (by kernel_rfl) rfl rfl ⟨(blk_cell BK154.out 0).trans rfl, (blk_cell BK154.out 1).trans rfl, (blk_cell BK154.out 2).trans rfl, (blk_cell BK154.out 3).trans rfl, (blk_cell BK139.out 0).trans rfl, (blk_cell BK139.out 1).trans rfl, (blk_cell BK139.out 2).trans rfl, (blk_cell BK139.out 3).trans rfl, hx159_0, hx160_0⟩ (fun hHeld => ?_); refine with_tabW bivouaclaw09_CraterFalls.tab11 bivouaclaw09_CraterFalls.bits11 (fun HT_ HW_ => ?_)
             generalize w41.drew = w45 at HO_140003 HO_155003 BK139 BK140 BK154 HB hx159_0 hx160_0 hHeld ⊢
             refine pure_ (i := 0) (N := some 55) (v := ?_) (a' := ?_) (bA 29 1) rfl rfl (any_of HT_.out (by kernel_rfl)) (fun _ _ _ h => h) (Or.inl ⟨by rfl, ?_⟩) ?_ ?_
             rotate_left
             ·
              intro w'
              go_simp
              with_reducible rfl
             rotate_left
             ·
              simp only [Act.put, sA, sB, sC, i64_w, i32_w]
              rfl
             refine pure_ (i := 2) (N := some 57) (v := ?_) (a' := ?_) (bA 29 5) rfl rfl (any_of HT_.out (by kernel_rfl)) (fun _ _ _ h => h) (Or.inl ⟨by rfl, ?_⟩) ?_ ?_
             rotate_left
             ·
              intro w'
              go_simp
              with_reducible rfl
             rotate_left
             ·
              simp only [Act.put, sA, sB, sC, i64_w, i32_w]
              rfl
             refine pure_ (i := 5) (N := some 60) (v := ?_) (a' := ?_) (bA 29 37) rfl rfl (any_of HT_.out (by kernel_rfl)) (fun _ _ _ h => h) (Or.inl ⟨by rfl, ?_⟩) ?_ ?_
             rotate_left
             ·
              intro w'
              go_simp
              with_reducible rfl
             rotate_left
             ·
              simp only [Act.put, sA, sB, sC, i64_w, i32_w]
              rfl
             refine pure_ (i := 7) (N := some 62) (v := ?_) (a' := ?_) (bA 29 165) rfl rfl (any_of HT_.out (by kernel_rfl)) (fun _ _ _ h => h) (Or.inl ⟨by rfl, ?_⟩) ?_ ?_
             rotate_left
             ·
              intro w'
              go_simp
              with_reducible rfl
             rotate_left
             ·
              simp only [Act.put, sA, sB, sC, i64_w, i32_w]
              rfl
             refine take_ (i := 1) (N := some 56) (v := ?_) (a' := ?_) (bA 29 167) rfl rfl (take_ofW HT_.out HW_.out (by kernel_rfl)) (fun _ _ _ h => h) (Or.inl ⟨by rfl, ?_⟩) hHeld ?_ ?_
             rotate_left
             ·
              rintro w' ⟨s0, s1, s2, s3, s4, s5, s6, s7, s8, s9⟩
              go_simp
              with_reducible rfl
             rotate_left
             ·
              simp only [Act.put, sA, sB, sC, i64_w, i32_w]
              rfl
             refine pure_ (i := 3) (N := some 58) (v := ?_) (a' := ?_) (bA 29 175) rfl rfl (any_of HT_.out (by kernel_rfl)) (fun _ _ _ h => h) (Or.inl ⟨by rfl, ?_⟩) ?_ ?_
             rotate_left
             ·
              intro w'
              go_simp
              with_reducible rfl
             rotate_left
             ·
              simp only [Act.put, sA, sB, sC, i64_w, i32_w]
              rfl
             refine take_ (i := 4) (N := some 59) (v := ?_) (a' := ?_) (bA 29 191) rfl rfl (take_ofW HT_.out HW_.out (by kernel_rfl)) (fun _ _ _ h => h) (Or.inl ⟨by rfl, ?_⟩) hHeld ?_ ?_
             rotate_left
             ·
              rintro w' ⟨s0, s1, s2, s3, s4, s5, s6, s7, s8, s9⟩
              go_simp
              with_reducible rfl
             rotate_left
             ·
              simp only [Act.put, sA, sB, sC, i64_w, i32_w]
              rfl
             refine take_ (i := 6) (N := some 61) (v := ?_) (a' := ?_) (bA 29 255) rfl rfl (take_ofW HT_.out HW_.out (by kernel_rfl)) (fun _ _ _ h => h) (Or.inl ⟨by rfl, ?_⟩) hHeld ?_ ?_
             rotate_left
             ·
              rintro w' ⟨s0, s1, s2, s3, s4, s5, s6, s7, s8, s9⟩
              go_simp
              with_reducible rfl
             rotate_left
             ·
              simp only [Act.put, sA, sB, sC, i64_w, i32_w]
              rfl
             refine pure_ (i := 8) (N := some 63) (v := ?_) (a' := ?_) (bA 29 511) rfl rfl (any_of HT_.out (by kernel_rfl)) (fun _ _ _ h => h) (Or.inl ⟨by rfl, ?_⟩) ?_ ?_
             rotate_left
             ·
              intro w'
              go_simp
              with_reducible rfl
             rotate_left
             ·
              simp only [Act.put, sA, sB, sC, i64_w, i32_w]
              rfl
             refine take_ (i := 9) (N := some 64) (v := ?_) (a' := ?_) (bA 29 1023) rfl rfl (take_ofW HT_.out HW_.out (by kernel_rfl)) (fun _ _ _ h => h) (Or.inl ⟨by rfl, ?_⟩) hHeld ?_ ?_
             rotate_left
             ·
              rintro w' ⟨s0, s1, s2, s3, s4, s5, s6, s7, s8, s9⟩
              go_simp
              with_reducible rfl
             rotate_left
             ·
              simp only [Act.put, sA, sB, sC, i64_w, i32_w]
              rfl
             refine pure_ (i := 10) (N := some 65) (v := ?_) (a' := ?_) (bA 29 2047) rfl rfl (any_of HT_.out (by kernel_rfl)) (fun _ _ _ h => h) (Or.inl ⟨by rfl, ?_⟩) ?_ ?_
             rotate_left
             ·
              intro w'
              go_simp
              with_reducible rfl
             rotate_left
             ·
              simp only [Act.put, sA, sB, sC, i64_w, i32_w]
              rfl
             refine pure_ (i := 11) (N := some 66) (v := ?_) (a' := ?_) (bA 29 4095) rfl rfl (any_of HT_.out (by kernel_rfl)) (fun _ _ _ h => h) (Or.inl ⟨by rfl, ?_⟩) ?_ ?_
             rotate_left
             ·
              intro w'
              go_simp
              with_reducible rfl
             rotate_left
             ·
              simp only [Act.put, sA, sB, sC, i64_w, i32_w]
              rfl
             refine pure_ (i := 12) (N := some 67) (v := undef) (a' := ?_) (bA 29 8191) rfl rfl (any_of HT_.out (by kernel_rfl)) (fun _ _ _ h => h) (Or.inr ⟨by rfl, rfl⟩) ?_ ?_
             rotate_left
             ·
              simp only [Act.put, sA, sB, sC, i64_w, i32_w]
              rfl
             refine pure_ (i := 13) (N := some 68) (v := undef) (a' := ?_) (bA 29 16383) rfl rfl (any_of HT_.out (by kernel_rfl)) (fun _ _ _ h => h) (Or.inr ⟨by rfl, rfl⟩) ?_ ?_
             rotate_left
             ·
              simp only [Act.put, sA, sB, sC, i64_w, i32_w]
              rfl
             refine pure_ (i := 14) (N := some 69) (v := undef) (a' := ?_) (bA 29 32767) rfl rfl (any_of HT_.out (by kernel_rfl)) (fun _ _ _ h => h) (Or.inr ⟨by rfl, rfl⟩) ?_ ?_
             rotate_left
             ·
              simp only [Act.put, sA, sB, sC, i64_w, i32_w]
              rfl
             refine pure_ (i := 15) (N := some 70) (v := undef) (a' := ?_) (bA 29 65535) rfl rfl (any_of HT_.out (by kernel_rfl)) (fun _ _ _ h => h) (Or.inr ⟨by rfl, rfl⟩) ?_ ?_
             rotate_left
             ·
              simp only [Act.put, sA, sB, sC, i64_w, i32_w]
              rfl
             refine pure_ (i := 16) (N := some 71) (v := undef) (a' := ?_) (bA 29 131071) rfl rfl (any_of HT_.out (by kernel_rfl)) (fun _ _ _ h => h) (Or.inr ⟨by rfl, rfl⟩) ?_ ?_
             rotate_left
             ·
              simp only [Act.put, sA, sB, sC, i64_w, i32_w]
              rfl
             refine pure_ (i := 17) (N := some 72) (v := undef) (a' := ?_) (bA 29 262143) rfl rfl (any_of HT_.out (by kernel_rfl)) (fun _ _ _ h => h) (Or.inr ⟨by rfl, rfl⟩) ?_ ?_
             rotate_left
             ·
              simp only [Act.put, sA, sB, sC, i64_w, i32_w]
              rfl
             refine pure_ (i := 18) (N := some 73) (v := undef) (a' := ?_) (bA 29 524287) rfl rfl (any_of HT_.out (by kernel_rfl)) (fun _ _ _ h => h) (Or.inr ⟨by rfl, rfl⟩) ?_ ?_
             rotate_left
             ·
              simp only [Act.put, sA, sB, sC, i64_w, i32_w]
              rfl
             refine pure_ (i := 19) (N := some 74) (v := undef) (a' := ?_) (bA 29 1048575) rfl rfl (any_of HT_.out (by kernel_rfl)) (fun _ _ _ h => h) (Or.inr ⟨by rfl, rfl⟩) ?_ ?_
             rotate_left
             ·
              simp only [Act.put, sA, sB, sC, i64_w, i32_w]
              rfl
             refine pure_ (i := 20) (N := some 75) (v := undef) (a' := ?_) (bA 29 2097151) rfl rfl (any_of HT_.out (by kernel_rfl)) (fun _ _ _ h => h) (Or.inr ⟨by rfl, rfl⟩) ?_ ?_
             rotate_left
             ·
              simp only [Act.put, sA, sB, sC, i64_w, i32_w]
              rfl
             refine pure_ (i := 21) (N := some 76) (v := undef) (a' := ?_) (bA 29 4194303) rfl rfl (any_of HT_.out (by kernel_rfl)) (fun _ _ _ h => h) (Or.inr ⟨by rfl, rfl⟩) ?_ ?_
             rotate_left
             ·
              simp only [Act.put, sA, sB, sC, i64_w, i32_w]
              rfl
             refine pure_ (i := 22) (N := some 77) (v := undef) (a' := ?_) (bA 29 8388607) rfl rfl (any_of HT_.out (by kernel_rfl)) (fun _ _ _ h => h) (Or.inr ⟨by rfl, rfl⟩) ?_ ?_
             rotate_left
             ·
              simp only [Act.put, sA, sB, sC, i64_w, i32_w]
              rfl
             refine pure_ (i := 23) (N := some 78) (v := undef) (a' := ?_) (bA 29 16777215) rfl rfl (any_of HT_.out (by kernel_rfl)) (fun _ _ _ h => h) (Or.inr ⟨by rfl, rfl⟩) ?_ ?_
             rotate_left
             ·
              simp only [Act.put, sA, sB, sC, i64_w, i32_w]
              rfl
             refine pure_ (i := 24) (N := some 79) (v := undef) (a' := ?_) (bA 29 33554431) rfl rfl (any_of HT_.out (by kernel_rfl)) (fun _ _ _ h => h) (Or.inr ⟨by rfl, rfl⟩) ?_ ?_
             rotate_left
             ·
              simp only [Act.put, sA, sB, sC, i64_w, i32_w]
              rfl
             refine pure_ (i := 25) (N := some 80) (v := undef) (a' := ?_) (bA 29 67108863) rfl rfl (any_of HT_.out (by kernel_rfl)) (fun _ _ _ h => h) (Or.inr ⟨by rfl, rfl⟩) ?_ ?_
             rotate_left
             ·
              simp only [Act.put, sA, sB, sC, i64_w, i32_w]
              rfl
             refine pure_ (i := 26) (N := some 81) (v := undef) (a' := ?_) (bA 29 134217727) rfl rfl (any_of HT_.out (by kernel_rfl)) (fun _ _ _ h => h) (Or.inr ⟨by rfl, rfl⟩) ?_ ?_
             rotate_left
             ·
              simp only [Act.put, sA, sB, sC, i64_w, i32_w]
              rfl
             refine pure_ (i := 27) (N := some 82) (v := undef) (a' := ?_) (bA 29 268435455) rfl rfl (any_of HT_.out (by kernel_rfl)) (fun _ _ _ h => h) (Or.inr ⟨by rfl, rfl⟩) ?_ ?_
             rotate_left
             ·
              simp only [Act.put, sA, sB, sC, i64_w, i32_w]
              rfl
             refine pure_ (i := 28) (N := some 83) (v := ?_) (a' := ?_) (bA 29 536870911) rfl rfl (any_of HT_.out (by kernel_rfl)) (fun _ _ _ h => h) (Or.inl ⟨by rfl, ?_⟩) ?_ ?_
             rotate_left
             ·
              intro w'
              go_simp
              with_reducible rfl
             rotate_left
             ·
              simp only [Act.put, sA, sB, sC, i64_w, i32_w]
              rfl
             refine done_ (done_of HT_.out (by kernel_rfl)) ?_
             try go_wp2
             go_meet
             case rel => exact ⟨_, (true), (by first | rfl | (simp; done) | (simp [*]; done)), H', ⟨by have := HJ5.out; have := HK2.out; first | omega | exact Nat.le_refl _⟩, ⟨by (with_reducible repeat (first | apply Kd.V_alloc | apply Kd.V_drewN | apply Kd.V_drew)); exact HO_140003.out⟩, ⟨by (with_reducible repeat (first | apply Kd.R_alloc | apply Kd.R_drewN | apply Kd.R_drew)); exact HO_155003.out⟩, ⟨by (with_reducible repeat (first | refine blk_drewN ?_ _ | refine blk_drew ?_ | refine blk_alloc ?_ _)); exact BK139.out⟩, ⟨by (with_reducible repeat (first | refine blk_drewN ?_ _ | refine blk_drew ?_ | refine blk_alloc ?_ _)); exact BK140.out⟩, ⟨by (with_reducible repeat (first | refine blk_drewN ?_ _ | refine blk_drew ?_ | refine blk_alloc ?_ _)); exact BK154.out⟩, ⟨by repeat (first | (with_reducible first | exact HB.out | apply below_alloc | apply pw_below_drewN | apply below_drew1 | refine below_set ?_ GE139.out | refine below_set ?_ GE140.out | refine below_set ?_ GE154.out) | exact HB.out)⟩⟩
            ·
             rw [if_neg c44] at H
             have c44b0 : decide ((rd t144 x7_2) < (rd t150 x7_2)) = false := decide_eq_false c44
             clear c44
             have H' := Aside0.mk H
             clear H
             try go_wp2
             have n0_ := Aside0.mk (Kd.V_drew HO_140003.out)
             have n1_ := Aside0.mk (Kd.R_drew HO_155003.out)
             have n2_ := Aside0.mk (blk_drew BK139.out)
             have n3_ := Aside0.mk (blk_drew BK140.out)
             have n4_ := Aside0.mk (blk_drew BK154.out)
             have n5_ := Aside0.mk (below_drew1 HB.out)
             clear HO_140003
             clear HO_155003
             clear BK139
             clear BK140
             clear BK154
             clear HB
             have HO_140003 := n0_
             have HO_155003 := n1_
             have BK139 := n2_
             have BK140 := n3_
             have BK154 := n4_
             have HB := n5_
             clear n0_ n1_ n2_ n3_ n4_ n5_
             have p159 : 0 ≤ (x7_2 : Int) := of_decide_eq_true (by first | (with_reducible assumption) | assumption)
             have q159 : x7_2 < (t150.length : Int) := of_decide_eq_true (by first | (with_reducible assumption) | assumption)
             obtain ⟨ad159, e159, hx159_0⟩ := Kd.at_int (Kd.R_reads' HO_155003.out).2.2 x7_2 p159 q159
             cases e159
             replace p159 := eq_true p159
             replace q159 := eq_true q159
             have p160 : 0 ≤ (x7_2 : Int) := of_decide_eq_true (by first | (with_reducible assumption) | assumption)
             have q160 : x7_2 < (t144.length : Int) := of_decide_eq_true (by first | (with_reducible assumption) | assumption)
             obtain ⟨ad160, e160, hx160_0⟩ := Kd.at_int (Kd.V_reads' HO_140003.out).2.2 x7_2 p160 q160
             cases e160
             replace p160 := eq_true p160
             replace q160 := eq_true q160
             have p161 : 0 ≤ (x7_2 : Int) := of_decide_eq_true (by first | (with_reducible assumption) | assumption)
             have q161 : x7_2 < (t144.length : Int) := of_decide_eq_true (by first | (with_reducible assumption) | assumption)
             obtain ⟨ad161, e161, hx161_0⟩ := Kd.at_int (Kd.V_reads' HO_140003.out).2.2 x7_2 p161 q161
             obtain rfl : ad160 = ad161 := (by injection e161)
             replace p161 := eq_true p161
             replace q161 := eq_true q161
             have p162 : 0 ≤ (x7_2 : Int) := of_decide_eq_true (by first | (with_reducible assumption) | assumption)
             have q162 : x7_2 < (t150.length : Int) := of_decide_eq_true (by first | (with_reducible assumption) | assumption)
             obtain ⟨ad162, e162, hx162_0⟩ := Kd.at_int (Kd.R_reads' HO_155003.out).2.2 x7_2 p162 q162
             obtain rfl : ad159 = ad162 := (by injection e162)
             replace p162 := eq_true p162
             replace q162 := eq_true q162
             refine start_ (n := 29) (S := fun w' => w'.cell? ⟨gb154, 0, none⟩ = some (.int .i64 t147) ∧ w'.cell? ⟨gb154, 1, none⟩ = some (.int .i64 t148) ∧ w'.cell? ⟨gb154, 2, none⟩ = some (.int .i64 t149) ∧ w'.cell? ⟨gb154, 3, none⟩ = some (.slice (some ad159) t150.length co20) ∧ w'.cell? ⟨gb139, 0, none⟩ = some (.int .i64 t141) ∧ w'.cell? ⟨gb139, 1, none⟩ = some (.int .i64 t142) ∧ w'.cell? ⟨gb139, 2, none⟩ = some (.int .i64 t143) ∧ w'.cell? ⟨gb139, 3, none⟩ = some (.slice (some ad160) t144.length co13) ∧ w'.cell? ⟨gb140, 0, none⟩ = some (.int .i64 a1_0) ∧ w'.cell? ⟨gb140, 1, none⟩ = some (.int .i64 a1_1) ∧ w'.cell? ⟨gb140, 2, none⟩ = some (.int .i64 a1_2) ∧ w'.cell? ⟨gb140, 3, none⟩ = some (.int .i64 a1_3) ∧ w'.cell? (ad159.add (x7_2).toNat) = some (.int .u8 (rd t150 x7_2)) ∧ w'.cell? (ad160.add (x7_2).toNat) = some (.int .u8 (rd t144 x7_2)) ∧ w'.cell? (ad160.add (x7_2).toNat) = some (.int .u8 (rd t144 x7_2)) ∧ w'.cell? (ad159.add (x7_2).toNat) = some (.int .u8 (rd t150 x7_2))) (ds := []) (bA 29 0) (by kernel_rfl) rfl rfl ⟨(blk_cell BK154.out 0).trans rfl, (blk_cell BK154.out 1).trans rfl, (blk_cell BK154.out 2).trans rfl, (blk_cell BK154.out 3).trans rfl, (blk_cell BK139.out 0).trans rfl, (blk_cell BK139.out 1).trans rfl, (blk_cell BK139.out 2).trans rfl, (blk_cell BK139.out 3).trans rfl, (blk_cell BK140.out 0).trans rfl, (blk_cell BK140.out 1).trans rfl, (blk_cell BK140.out 2).trans rfl, (blk_cell BK140.out 3).trans rfl, hx159_0, hx160_0, hx161_0, hx162_0⟩ (fun hHeld => ?_); refine with_tabW bivouaclaw09_CraterFalls.tab11 bivouaclaw09_CraterFalls.bits11 (fun HT_ HW_ => ?_)
             generalize w41.drew = w46 at HO_140003 HO_155003 BK139 BK140 BK154 HB hx159_0 hx160_0 hx161_0 hx162_0 hHeld ⊢
             refine pure_ (i := 0) (N := some 55) (v := ?_) (a' := ?_) (bA 29 1) rfl rfl (any_of HT_.out (by kernel_rfl)) (fun _ _ _ h => h) (Or.inl ⟨by rfl, ?_⟩) ?_ ?_
             rotate_left
             ·
              intro w'
              go_simp
              with_reducible rfl
             rotate_left
             ·
              simp only [Act.put, sA, sB, sC, i64_w, i32_w]
              rfl
             refine pure_ (i := 2) (N := some 57) (v := ?_) (a' := ?_) (bA 29 5) rfl rfl (any_of HT_.out (by kernel_rfl)) (fun _ _ _ h => h) (Or.inl ⟨by rfl, ?_⟩) ?_ ?_
             rotate_left
             ·
              intro w'
              go_simp
              with_reducible rfl
             rotate_left
             ·
              simp only [Act.put, sA, sB, sC, i64_w, i32_w]
              rfl
             refine pure_ (i := 5) (N := some 60) (v := ?_) (a' := ?_) (bA 29 37) rfl rfl (any_of HT_.out (by kernel_rfl)) (fun _ _ _ h => h) (Or.inl ⟨by rfl, ?_⟩) ?_ ?_
             rotate_left
             ·
              intro w'
              go_simp
              with_reducible rfl
             rotate_left
             ·
              simp only [Act.put, sA, sB, sC, i64_w, i32_w]
              rfl
             refine pure_ (i := 7) (N := some 62) (v := ?_) (a' := ?_) (bA 29 165) rfl rfl (any_of HT_.out (by kernel_rfl)) (fun _ _ _ h => h) (Or.inl ⟨by rfl, ?_⟩) ?_ ?_
             rotate_left
             ·
              intro w'
              go_simp
              with_reducible rfl
             rotate_left
             ·
              simp only [Act.put, sA, sB, sC, i64_w, i32_w]
              rfl
             refine take_ (i := 1) (N := some 56) (v := ?_) (a' := ?_) (bA 29 167) rfl rfl (take_ofW HT_.out HW_.out (by kernel_rfl)) (fun _ _ _ h => h) (Or.inl ⟨by rfl, ?_⟩) hHeld ?_ ?_
             rotate_left
             ·
              rintro w' ⟨s0, s1, s2, s3, s4, s5, s6, s7, s8, s9, s10, s11, s12, s13, s14, s15⟩
              go_simp
              with_reducible rfl
             rotate_left
             ·
              simp only [Act.put, sA, sB, sC, i64_w, i32_w]
              rfl
             refine pure_ (i := 3) (N := some 58) (v := ?_) (a' := ?_) (bA 29 175) rfl rfl (any_of HT_.out (by kernel_rfl)) (fun _ _ _ h => h) (Or.inl ⟨by rfl, ?_⟩) ?_ ?_
             rotate_left
             ·
              intro w'
              go_simp
              with_reducible rfl
             rotate_left
             ·
              simp only [Act.put, sA, sB, sC, i64_w, i32_w]
              rfl
             refine take_ (i := 4) (N := some 59) (v := ?_) (a' := ?_) (bA 29 191) rfl rfl (take_ofW HT_.out HW_.out (by kernel_rfl)) (fun _ _ _ h => h) (Or.inl ⟨by rfl, ?_⟩) hHeld ?_ ?_
             rotate_left
             ·
              rintro w' ⟨s0, s1, s2, s3, s4, s5, s6, s7, s8, s9, s10, s11, s12, s13, s14, s15⟩
              go_simp
              with_reducible rfl
             rotate_left
             ·
              simp only [Act.put, sA, sB, sC, i64_w, i32_w]
              rfl
             refine take_ (i := 6) (N := some 61) (v := ?_) (a' := ?_) (bA 29 255) rfl rfl (take_ofW HT_.out HW_.out (by kernel_rfl)) (fun _ _ _ h => h) (Or.inl ⟨by rfl, ?_⟩) hHeld ?_ ?_
             rotate_left
             ·
              rintro w' ⟨s0, s1, s2, s3, s4, s5, s6, s7, s8, s9, s10, s11, s12, s13, s14, s15⟩
              go_simp
              with_reducible rfl
             rotate_left
             ·
              simp only [Act.put, sA, sB, sC, i64_w, i32_w]
              rfl
             refine pure_ (i := 8) (N := some 63) (v := ?_) (a' := ?_) (bA 29 511) rfl rfl (any_of HT_.out (by kernel_rfl)) (fun _ _ _ h => h) (Or.inl ⟨by rfl, ?_⟩) ?_ ?_
             rotate_left
             ·
              intro w'
              go_simp
              with_reducible rfl
             rotate_left
             ·
              simp only [Act.put, sA, sB, sC, i64_w, i32_w]
              rfl
             refine take_ (i := 9) (N := some 64) (v := ?_) (a' := ?_) (bA 29 1023) rfl rfl (take_ofW HT_.out HW_.out (by kernel_rfl)) (fun _ _ _ h => h) (Or.inl ⟨by rfl, ?_⟩) hHeld ?_ ?_
             rotate_left
             ·
              rintro w' ⟨s0, s1, s2, s3, s4, s5, s6, s7, s8, s9, s10, s11, s12, s13, s14, s15⟩
              go_simp
              with_reducible rfl
             rotate_left
             ·
              simp only [Act.put, sA, sB, sC, i64_w, i32_w]
              rfl
             refine pure_ (i := 10) (N := some 65) (v := ?_) (a' := ?_) (bA 29 2047) rfl rfl (any_of HT_.out (by kernel_rfl)) (fun _ _ _ h => h) (Or.inl ⟨by rfl, ?_⟩) ?_ ?_
             rotate_left
             ·
              intro w'
              go_simp
              with_reducible rfl
             rotate_left
             ·
              simp only [Act.put, sA, sB, sC, i64_w, i32_w]
              rfl
             refine pure_ (i := 11) (N := some 66) (v := ?_) (a' := ?_) (bA 29 4095) rfl rfl (any_of HT_.out (by kernel_rfl)) (fun _ _ _ h => h) (Or.inl ⟨by rfl, ?_⟩) ?_ ?_
             rotate_left
             ·
              intro w'
              go_simp
              with_reducible rfl
             rotate_left
             ·
              simp only [Act.put, sA, sB, sC, i64_w, i32_w]
              rfl
             refine pure_ (i := 12) (N := some 67) (v := ?_) (a' := ?_) (bA 29 8191) rfl rfl (any_of HT_.out (by kernel_rfl)) (fun _ _ _ h => h) (Or.inl ⟨by rfl, ?_⟩) ?_ ?_
             rotate_left
             ·
              intro w'
              go_simp
              with_reducible rfl
             rotate_left
             ·
              simp only [Act.put, sA, sB, sC, i64_w, i32_w]
              rfl
             refine pure_ (i := 14) (N := some 69) (v := ?_) (a' := ?_) (bA 29 24575) rfl rfl (any_of HT_.out (by kernel_rfl)) (fun _ _ _ h => h) (Or.inl ⟨by rfl, ?_⟩) ?_ ?_
             rotate_left
             ·
              intro w'
              go_simp
              with_reducible rfl
             rotate_left
             ·
              simp only [Act.put, sA, sB, sC, i64_w, i32_w]
              rfl
             refine pure_ (i := 18) (N := some 73) (v := ?_) (a' := ?_) (bA 29 286719) rfl rfl (any_of HT_.out (by kernel_rfl)) (fun _ _ _ h => h) (Or.inl ⟨by rfl, ?_⟩) ?_ ?_
             rotate_left
             ·
              intro w'
              go_simp
              with_reducible rfl
             rotate_left
             ·
              simp only [Act.put, sA, sB, sC, i64_w, i32_w]
              rfl
             refine pure_ (i := 20) (N := some 75) (v := ?_) (a' := ?_) (bA 29 1335295) rfl rfl (any_of HT_.out (by kernel_rfl)) (fun _ _ _ h => h) (Or.inl ⟨by rfl, ?_⟩) ?_ ?_
             rotate_left
             ·
              intro w'
              go_simp
              with_reducible rfl
             rotate_left
             ·
              simp only [Act.put, sA, sB, sC, i64_w, i32_w]
              rfl
             refine pure_ (i := 25) (N := some 80) (v := ?_) (a' := ?_) (bA 29 34889727) rfl rfl (any_of HT_.out (by kernel_rfl)) (fun _ _ _ h => h) (Or.inl ⟨by rfl, ?_⟩) ?_ ?_
             rotate_left
             ·
              intro w'
              go_simp
              with_reducible rfl
             rotate_left
             ·
              simp only [Act.put, sA, sB, sC, i64_w, i32_w]
              rfl
             refine take_ (i := 13) (N := some 68) (v := ?_) (a' := ?_) (bA 29 34897919) rfl rfl (take_ofW HT_.out HW_.out (by kernel_rfl)) (fun _ _ _ h => h) (Or.inl ⟨by rfl, ?_⟩) hHeld ?_ ?_
             rotate_left
             ·
              rintro w' ⟨s0, s1, s2, s3, s4, s5, s6, s7, s8, s9, s10, s11, s12, s13, s14, s15⟩
              go_simp
              with_reducible rfl
             rotate_left
             ·
              simp only [Act.put, sA, sB, sC, i64_w, i32_w]
              rfl
             refine pure_ (i := 15) (N := some 70) (v := ?_) (a' := ?_) (bA 29 34930687) rfl rfl (any_of HT_.out (by kernel_rfl)) (fun _ _ _ h => h) (Or.inl ⟨by rfl, ?_⟩) ?_ ?_
             rotate_left
             ·
              intro w'
              go_simp
              with_reducible rfl
             rotate_left
             ·
              simp only [Act.put, sA, sB, sC, i64_w, i32_w]
              rfl
             refine take_ (i := 16) (N := some 71) (v := ?_) (a' := ?_) (bA 29 34996223) rfl rfl (take_ofW HT_.out HW_.out (by kernel_rfl)) (fun _ _ _ h => h) (Or.inl ⟨by rfl, ?_⟩) hHeld ?_ ?_
             rotate_left
             ·
              rintro w' ⟨s0, s1, s2, s3, s4, s5, s6, s7, s8, s9, s10, s11, s12, s13, s14, s15⟩
              go_simp
              with_reducible rfl
             rotate_left
             ·
              simp only [Act.put, sA, sB, sC, i64_w, i32_w]
              rfl
             refine pure_ (i := 17) (N := some 72) (v := ?_) (a' := ?_) (bA 29 35127295) rfl rfl (any_of HT_.out (by kernel_rfl)) (fun _ _ _ h => h) (Or.inl ⟨by rfl, ?_⟩) ?_ ?_
             rotate_left
             ·
              intro w'
              go_simp
              with_reducible rfl
             rotate_left
             ·
              simp only [Act.put, sA, sB, sC, i64_w, i32_w]
              rfl
             refine take_ (i := 19) (N := some 74) (v := ?_) (a' := ?_) (bA 29 35651583) rfl rfl (take_ofW HT_.out HW_.out (by kernel_rfl)) (fun _ _ _ h => h) (Or.inl ⟨by rfl, ?_⟩) hHeld ?_ ?_
             rotate_left
             ·
              rintro w' ⟨s0, s1, s2, s3, s4, s5, s6, s7, s8, s9, s10, s11, s12, s13, s14, s15⟩
              go_simp
              with_reducible rfl
             rotate_left
             ·
              simp only [Act.put, sA, sB, sC, i64_w, i32_w]
              rfl
             refine pure_ (i := 21) (N := some 76) (v := ?_) (a' := ?_) (bA 29 37748735) rfl rfl (any_of HT_.out (by kernel_rfl)) (fun _ _ _ h => h) (Or.inl ⟨by rfl, ?_⟩) ?_ ?_
             rotate_left
             ·
              intro w'
              go_simp
              with_reducible rfl
             rotate_left
             ·
              simp only [Act.put, sA, sB, sC, i64_w, i32_w]
              rfl
             refine take_ (i := 22) (N := some 77) (v := ?_) (a' := ?_) (bA 29 41943039) rfl rfl (take_ofW HT_.out HW_.out (by kernel_rfl)) (fun _ _ _ h => h) (Or.inl ⟨by rfl, ?_⟩) hHeld ?_ ?_
             rotate_left
             ·
              rintro w' ⟨s0, s1, s2, s3, s4, s5, s6, s7, s8, s9, s10, s11, s12, s13, s14, s15⟩
              go_simp
              with_reducible rfl
             rotate_left
             ·
              simp only [Act.put, sA, sB, sC, i64_w, i32_w]
              rfl
             refine pure_ (i := 23) (N := some 78) (v := ?_) (a' := ?_) (bA 29 50331647) rfl rfl (any_of HT_.out (by kernel_rfl)) (fun _ _ _ h => h) (Or.inl ⟨by rfl, ?_⟩) ?_ ?_
             rotate_left
             ·
              intro w'
              go_simp
              with_reducible rfl
             rotate_left
             ·
              simp only [Act.put, sA, sB, sC, i64_w, i32_w]
              rfl
             refine pure_ (i := 24) (N := some 79) (v := ?_) (a' := ?_) (bA 29 67108863) rfl rfl (any_of HT_.out (by kernel_rfl)) (fun _ _ _ h => h) (Or.inl ⟨by rfl, ?_⟩) ?_ ?_
             rotate_left
             ·
              intro w'
              go_simp
              with_reducible rfl
             rotate_left
             ·
              simp only [Act.put, sA, sB, sC, i64_w, i32_w]
              rfl
             refine take_ (i := 26) (N := some 81) (v := ?_) (a' := ?_) (bA 29 134217727) rfl rfl (take_ofW HT_.out HW_.out (by kernel_rfl)) (fun _ _ _ h => h) (Or.inl ⟨by rfl, ?_⟩) hHeld ?_ ?_
             rotate_left
             ·
              rintro w' ⟨s0, s1, s2, s3, s4, s5, s6, s7, s8, s9, s10, s11, s12, s13, s14, s15⟩
              go_simp
              with_reducible rfl
             rotate_left
             ·
              simp only [Act.put, sA, sB, sC, i64_w, i32_w]
              rfl
             refine pure_ (i := 27) (N := some 82) (v := ?_) (a' := ?_) (bA 29 268435455) rfl rfl (any_of HT_.out (by kernel_rfl)) (fun _ _ _ h => h) (Or.inl ⟨by rfl, ?_⟩) ?_ ?_
             rotate_left
             ·
              intro w'
              go_simp
              with_reducible rfl
             rotate_left
             ·
              simp only [Act.put, sA, sB, sC, i64_w, i32_w]
              rfl
             refine pure_ (i := 28) (N := some 83) (v := ?_) (a' := ?_) (bA 29 536870911) rfl rfl (any_of HT_.out (by kernel_rfl)) (fun _ _ _ h => h) (Or.inl ⟨by rfl, ?_⟩) ?_ ?_
             rotate_left
             ·
              intro w'
              go_simp
              with_reducible rfl
             rotate_left
             ·
              simp only [Act.put, sA, sB, sC, i64_w, i32_w]
              rfl
             refine done_ (done_of HT_.out (by kernel_rfl)) ?_
             try go_wp2
             go_meet
             case rel => exact ⟨_, (decide ((wrap64 ((wrap64 (rd t144 x7_2)) - (wrap64 (rd t150 x7_2)))) > a1_3)), (by first | rfl | (simp; done) | (simp [*]; done)), H', ⟨by have := HJ5.out; have := HK2.out; first | omega | exact Nat.le_refl _⟩, ⟨by (with_reducible repeat (first | apply Kd.V_alloc | apply Kd.V_drewN | apply Kd.V_drew)); exact HO_140003.out⟩, ⟨by (with_reducible repeat (first | apply Kd.R_alloc | apply Kd.R_drewN | apply Kd.R_drew)); exact HO_155003.out⟩, ⟨by (with_reducible repeat (first | refine blk_drewN ?_ _ | refine blk_drew ?_ | refine blk_alloc ?_ _)); exact BK139.out⟩, ⟨by (with_reducible repeat (first | refine blk_drewN ?_ _ | refine blk_drew ?_ | refine blk_alloc ?_ _)); exact BK140.out⟩, ⟨by (with_reducible repeat (first | refine blk_drewN ?_ _ | refine blk_drew ?_ | refine blk_alloc ?_ _)); exact BK154.out⟩, ⟨by repeat (first | (with_reducible first | exact HB.out | apply below_alloc | apply pw_below_drewN | apply below_drew1 | refine below_set ?_ GE139.out | refine below_set ?_ GE140.out | refine below_set ?_ GE154.out) | exact HB.out)⟩⟩
           ·
            rw [if_neg c43] at H
            exact absurd H (by simp)
          ·
           rw [if_neg c42] at H
           exact absurd H (by simp)
         case rest =>
          clear HC37
          try clear p1
          try clear q1
          try clear hx1
          try clear p2
          try clear c4
          try clear p6
          try clear p15
          try clear q15
          try clear hx15
          try clear p16
          try clear q16
          try clear hx16
          try clear c42
          try clear c42b0
          try clear c43
          try clear c43b0
          try clear c44
          try clear c44b0
          try clear hx159_0
          try clear hx160_0
          try clear hx161_0
          try clear hx162_0
          try clear p159
          try clear p160
          try clear p161
          try clear p162
          try clear q159
          try clear q160
          try clear q161
          try clear q162
          obtain ⟨kq, x83_36, rfl, HA, HJ36, HO_140003, HO_155003, BK139, BK140, BK154, HB⟩ := hcut
          cases kq with
          | zero => exact absurd HA.out (by simp [bivouaclaw09_CraterFalls.j2])
          | succ kj36 =>
           have H := HA.out
           clear HA
           simp only [bivouaclaw09_CraterFalls.j2] at H
           by_cases c47 : x83_36 = true
           ·
            subst c47
            have H1 : (some false) = some r := by rw [if_pos rfl] at H; exact H
            clear H
            have H := H1
            clear H1
            obtain rfl := Option.some.inj H
            go_wp2
            go_ret
            exact ⟨by first | rfl | (simp [errW_none, errW_some] <;> rfl) | (simp [*, errW_none, errW_some] <;> rfl) | (rw [Int.tdiv_eq_ediv_of_nonneg (by assumption)]; rfl), by repeat (first | (with_reducible first | exact HB.out | apply below_alloc | apply pw_below_drewN | apply below_drew1 | refine below_set ?_ GE139.out | refine below_set ?_ GE140.out | refine below_set ?_ GE154.out) | exact HB.out)⟩
           ·
            replace c47 := Bool.eq_false_iff.mpr c47
            subst c47
            have H1 : (if (Int.tmod x7_2 (wrap64 (t141 + 1))) ≥ a1_0 then ((crater_Lowers.f a1_0 a1_1 a1_2 a1_3 (wrap64 ((Int.tmod x7_2 (wrap64 (t141 + 1))) + 1)) (wrap64 (Int.tdiv x7_2 (wrap64 (t141 + 1))))).bind fun t163 => ((crater_Lowers.f a1_0 a1_1 a1_2 a1_3 (Int.tmod x7_2 (wrap64 (t141 + 1))) (wrap64 (Int.tdiv x7_2 (wrap64 (t141 + 1))))).bind fun t164 => (if t163 > t164 then (bivouaclaw09_CraterFalls.j3 kj36 x7_2 true t141 t142 t143 t144 a1_0 a1_1 a1_2 a1_3 t147 t148 t149 t150) else (if (wrap64 (Int.tdiv x7_2 (wrap64 (t141 + 1)))) ≤ a1_1 then ((crater_Lowers.f a1_0 a1_1 a1_2 a1_3 (Int.tmod x7_2 (wrap64 (t141 + 1))) (wrap64 ((wrap64 (Int.tdiv x7_2 (wrap64 (t141 + 1)))) - 1))).bind fun t165 => ((crater_Lowers.f a1_0 a1_1 a1_2 a1_3 (Int.tmod x7_2 (wrap64 (t141 + 1))) (wrap64 (Int.tdiv x7_2 (wrap64 (t141 + 1))))).bind fun t166 => (bivouaclaw09_CraterFalls.j3 kj36 x7_2 (decide (t165 > t166)) t141 t142 t143 t144 a1_0 a1_1 a1_2 a1_3 t147 t148 t149 t150))) else (bivouaclaw09_CraterFalls.j3 kj36 x7_2 false t141 t142 t143 t144 a1_0 a1_1 a1_2 a1_3 t147 t148 t149 t150))))) else (if (wrap64 (Int.tdiv x7_2 (wrap64 (t141 + 1)))) ≤ a1_1 then ((crater_Lowers.f a1_0 a1_1 a1_2 a1_3 (Int.tmod x7_2 (wrap64 (t141 + 1))) (wrap64 ((wrap64 (Int.tdiv x7_2 (wrap64 (t141 + 1)))) - 1))).bind fun t167 => ((crater_Lowers.f a1_0 a1_1 a1_2 a1_3 (Int.tmod x7_2 (wrap64 (t141 + 1))) (wrap64 (Int.tdiv x7_2 (wrap64 (t141 + 1))))).bind fun t168 => (bivouaclaw09_CraterFalls.j3 kj36 x7_2 (decide (t167 > t168)) t141 t142 t143 t144 a1_0 a1_1 a1_2 a1_3 t147 t148 t149 t150))) else (bivouaclaw09_CraterFalls.j3 kj36 x7_2 false t141 t142 t143 t144 a1_0 a1_1 a1_2 a1_3 t147 t148 t149 t150))) = some r := by rw [if_neg (show ¬ (false = true) by decide)] at H; exact H
            clear H
            have H := H1
            clear H1
            have HC48 := Aside0.mk H
            clear H
            go_upto_region 13 with (fail)
            go_cut [117] (fun v117 wc => ∃ (kq : Nat) (x117_47 : Bool), v117 = .bool x117_47 ∧ Aside0 (bivouaclaw09_CraterFalls.j3 kq x7_2 x117_47 t141 t142 t143 t144 a1_0 a1_1 a1_2 a1_3 t147 t148 t149 t150 = some r) ∧ Aside0 (kq ≤ kj36) ∧ Aside0 (Kd.V (Kd.int .u8) 5 wc w.heap.size (fun k_ => some k_ ≠ ((.slice Ao20 t150.length co20) : Value).ownBlock ∧ k_ ≠ gb139 ∧ k_ ≠ gb140 ∧ k_ ≠ gb154) (.slice Ao13 t144.length co13) t144) ∧ Aside0 (Kd.R (Kd.int .u8) 5 wc w.heap.size (fun _ => True) (.slice Ao20 t150.length co20) t150) ∧ Aside0 (wc.heap[gb139]? = some (.cells #[.int .i64 t141, .int .i64 t142, .int .i64 t143, (.slice Ao13 t144.length co13)] 46 (0, 0))) ∧ Aside0 (wc.heap[gb140]? = some (.cells #[.int .i64 a1_0, .int .i64 a1_1, .int .i64 a1_2, .int .i64 a1_3] 23 (0, 0))) ∧ Aside0 (wc.heap[gb154]? = some (.cells #[.int .i64 t147, .int .i64 t148, .int .i64 t149, (.slice Ao20 t150.length co20)] 46 (0, 0))) ∧ Aside0 (Below w.heap.size w wc))
            case first =>
             have H := HC48.out
             clear HC48
             by_cases c49 : (Int.tmod x7_2 (wrap64 (t141 + 1))) ≥ a1_0
             ·
              rw [if_pos c49] at H
              have c49b0 : decide (a1_0 ≤ (Int.tmod x7_2 (wrap64 (t141 + 1)))) = true := decide_eq_true c49
              clear c49
              (first | rw [c49b0] | (simp only [i64_w, i32_w]; rw [c49b0]) | skip)
              replace H := Option.bind_eq_some_iff.mp H
              obtain ⟨t163, A500, H⟩ := H
              replace H : ((crater_Lowers.f a1_0 a1_1 a1_2 a1_3 (Int.tmod x7_2 (wrap64 (t141 + 1))) (wrap64 (Int.tdiv x7_2 (wrap64 (t141 + 1))))).bind fun t164 => (if t163 > t164 then (bivouaclaw09_CraterFalls.j3 kj36 x7_2 true t141 t142 t143 t144 a1_0 a1_1 a1_2 a1_3 t147 t148 t149 t150) else (if (wrap64 (Int.tdiv x7_2 (wrap64 (t141 + 1)))) ≤ a1_1 then ((crater_Lowers.f a1_0 a1_1 a1_2 a1_3 (Int.tmod x7_2 (wrap64 (t141 + 1))) (wrap64 ((wrap64 (Int.tdiv x7_2 (wrap64 (t141 + 1)))) - 1))).bind fun t165 => ((crater_Lowers.f a1_0 a1_1 a1_2 a1_3 (Int.tmod x7_2 (wrap64 (t141 + 1))) (wrap64 (Int.tdiv x7_2 (wrap64 (t141 + 1))))).bind fun t166 => (bivouaclaw09_CraterFalls.j3 kj36 x7_2 (decide (t165 > t166)) t141 t142 t143 t144 a1_0 a1_1 a1_2 a1_3 t147 t148 t149 t150))) else (bivouaclaw09_CraterFalls.j3 kj36 x7_2 false t141 t142 t143 t144 a1_0 a1_1 a1_2 a1_3 t147 t148 t149 t150)))) = some r := H
              have A50 := Aside0.mk A500
              clear A500
              replace H := Option.bind_eq_some_iff.mp H
              obtain ⟨t164, A510, H⟩ := H
              replace H : (if t163 > t164 then (bivouaclaw09_CraterFalls.j3 kj36 x7_2 true t141 t142 t143 t144 a1_0 a1_1 a1_2 a1_3 t147 t148 t149 t150) else (if (wrap64 (Int.tdiv x7_2 (wrap64 (t141 + 1)))) ≤ a1_1 then ((crater_Lowers.f a1_0 a1_1 a1_2 a1_3 (Int.tmod x7_2 (wrap64 (t141 + 1))) (wrap64 ((wrap64 (Int.tdiv x7_2 (wrap64 (t141 + 1)))) - 1))).bind fun t165 => ((crater_Lowers.f a1_0 a1_1 a1_2 a1_3 (Int.tmod x7_2 (wrap64 (t141 + 1))) (wrap64 (Int.tdiv x7_2 (wrap64 (t141 + 1))))).bind fun t166 => (bivouaclaw09_CraterFalls.j3 kj36 x7_2 (decide (t165 > t166)) t141 t142 t143 t144 a1_0 a1_1 a1_2 a1_3 t147 t148 t149 t150))) else (bivouaclaw09_CraterFalls.j3 kj36 x7_2 false t141 t142 t143 t144 a1_0 a1_1 a1_2 a1_3 t147 t148 t149 t150))) = some r := H
              have A51 := Aside0.mk A510
              clear A510
              by_cases c52 : t163 > t164
              ·
               rw [if_pos c52] at H
               have c52b0 : decide (t164 < t163) = true := decide_eq_true c52
               clear c52
               have H' := Aside0.mk H
               clear H
               try go_wp2
               have n0_ := Aside0.mk (Kd.V_drew HO_140003.out)
               have n1_ := Aside0.mk (Kd.R_drew HO_155003.out)
               have n2_ := Aside0.mk (blk_drew BK139.out)
               have n3_ := Aside0.mk (blk_drew BK140.out)
               have n4_ := Aside0.mk (blk_drew BK154.out)
               have n5_ := Aside0.mk (below_drew1 HB.out)
               clear HO_140003
               clear HO_155003
               clear BK139
               clear BK140
               clear BK154
               clear HB
               have HO_140003 := n0_
               have HO_155003 := n1_
               have BK139 := n2_
               have BK140 := n3_
               have BK154 := n4_
               have HB := n5_
               clear n0_ n1_ n2_ n3_ n4_ n5_
               refine start_ (n := 34) (S := fun w' => w'.cell? ⟨gb140, 0, none⟩ = some (.int .i64 a1_0) ∧ w'.cell? ⟨gb140, 1, none⟩ = some (.int .i64 a1_1) ∧ w'.cell? ⟨gb140, 2, none⟩ = some (.int .i64 a1_2) ∧ w'.cell? ⟨gb140, 3, none⟩ = some (.int .i64 a1_3)) (ds := []) (bA 34 0) (by kernel_rfl) rfl rfl ⟨(blk_cell BK140.out 0).trans rfl, (blk_cell BK140.out 1).trans rfl, (blk_cell BK140.out 2).trans rfl, (blk_cell BK140.out 3).trans rfl⟩ (fun hHeld => ?_); refine with_tabW bivouaclaw09_CraterFalls.tab13 bivouaclaw09_CraterFalls.bits13 (fun HT_ HW_ => ?_)
               generalize wc.drew = w53 at HO_140003 HO_155003 BK139 BK140 BK154 HB hHeld ⊢
               refine pure_ (i := 0) (N := some 84) (v := ?_) (a' := ?_) (bA 34 1) rfl rfl (any_of HT_.out (by kernel_rfl)) (fun _ _ _ h => h) (Or.inl ⟨by rfl, ?_⟩) ?_ ?_
               rotate_left
               ·
                intro w'
                go_simp
                with_reducible rfl
               rotate_left
               ·
                simp only [Act.put, sA, sB, sC, i64_w, i32_w]
                rfl
               refine pure_ (i := 1) (N := some 85) (v := ?_) (a' := ?_) (bA 34 3) rfl rfl (any_of HT_.out (by kernel_rfl)) (fun _ _ _ h => h) (Or.inl ⟨by rfl, ?_⟩) ?_ ?_
               rotate_left
               ·
                intro w'
                go_simp
                with_reducible rfl
               rotate_left
               ·
                simp only [Act.put, sA, sB, sC, i64_w, i32_w]
                rfl
               refine take_ (i := 2) (N := some 86) (v := ?_) (a' := ?_) (bA 34 7) rfl rfl (take_ofW HT_.out HW_.out (by kernel_rfl)) (fun _ _ _ h => h) (Or.inl ⟨by rfl, ?_⟩) hHeld ?_ ?_
               rotate_left
               ·
                rintro w' ⟨s0, s1, s2, s3⟩
                go_simp
                with_reducible rfl
               rotate_left
               ·
                simp only [Act.put, sA, sB, sC, i64_w, i32_w]
                rfl
               refine pure_ (i := 3) (N := some 87) (v := ?_) (a' := ?_) (bA 34 15) rfl rfl (any_of HT_.out (by kernel_rfl)) (fun _ _ _ h => h) (Or.inl ⟨by rfl, ?_⟩) ?_ ?_
               rotate_left
               ·
                intro w'
                go_simp
                with_reducible rfl
               rotate_left
               ·
                simp only [Act.put, sA, sB, sC, i64_w, i32_w]
                rfl
               refine pure_ (i := 4) (N := some 88) (v := ?_) (a' := ?_) (bA 34 31) rfl rfl (any_of HT_.out (by kernel_rfl)) (fun _ _ _ h => h) (Or.inl ⟨by rfl, ?_⟩) ?_ ?_
               rotate_left
               ·
                intro w'
                go_simp
                with_reducible rfl
               rotate_left
               ·
                simp only [Act.put, sA, sB, sC, i64_w, i32_w]
                rfl
               refine pure_ (i := 6) (N := some 90) (v := ?_) (a' := ?_) (bA 34 95) rfl rfl (any_of HT_.out (by kernel_rfl)) (fun _ _ _ h => h) (Or.inl ⟨by rfl, ?_⟩) ?_ ?_
               rotate_left
               ·
                intro w'
                go_simp
                with_reducible rfl
               rotate_left
               ·
                simp only [Act.put, sA, sB, sC, i64_w, i32_w]
                rfl
               refine pure_ (i := 7) (N := some 91) (v := ?_) (a' := ?_) (bA 34 223) rfl rfl (any_of HT_.out (by kernel_rfl)) (fun _ _ _ h => h) (Or.inl ⟨by rfl, ?_⟩) ?_ ?_
               rotate_left
               ·
                intro w'
                go_simp
                with_reducible rfl
               rotate_left
               ·
                simp only [Act.put, sA, sB, sC, i64_w, i32_w]
                rfl
               refine pure_ (i := 8) (N := some 92) (v := ?_) (a' := ?_) (bA 34 479) rfl rfl (any_of HT_.out (by kernel_rfl)) (fun _ _ _ h => h) (Or.inl ⟨by rfl, ?_⟩) ?_ ?_
               rotate_left
               ·
                intro w'
                go_simp
                with_reducible rfl
               rotate_left
               ·
                simp only [Act.put, sA, sB, sC, i64_w, i32_w]
                rfl
               refine pure_ (i := 11) (N := some 95) (v := ?_) (a' := ?_) (bA 34 2527) rfl rfl (any_of HT_.out (by kernel_rfl)) (fun _ _ _ h => h) (Or.inl ⟨by rfl, ?_⟩) ?_ ?_
               rotate_left
               ·
                intro w'
                go_simp
                with_reducible rfl
               rotate_left
               ·
                simp only [Act.put, sA, sB, sC, i64_w, i32_w]
                rfl
               refine pure_ (i := 12) (N := some 96) (v := ?_) (a' := ?_) (bA 34 6623) rfl rfl (any_of HT_.out (by kernel_rfl)) (fun _ _ _ h => h) (Or.inl ⟨by rfl, ?_⟩) ?_ ?_
               rotate_left
               ·
                intro w'
                go_simp
                with_reducible rfl
               rotate_left
               ·
                simp only [Act.put, sA, sB, sC, i64_w, i32_w]
                rfl
               refine take_ (i := 5) (N := some 89) (v := ?_) (a' := ?_) (bA 34 6655) rfl rfl (take_ofW HT_.out HW_.out (by kernel_rfl)) (fun _ _ _ h => h) (Or.inl ⟨by rfl, ?_⟩) hHeld ?_ ?_
               rotate_left
               ·
                rintro w' ⟨s0, s1, s2, s3⟩
                go_simp
                with_reducible rfl
               rotate_left
               ·
                simp only [Act.put, sA, sB, sC, i64_w, i32_w]
                rfl
               refine take_ (i := 10) (N := some 94) (v := ?_) (a' := ?_) (bA 34 7679) rfl rfl (take_ofW HT_.out HW_.out (by kernel_rfl)) (fun _ _ _ h => h) (Or.inl ⟨by rfl, ?_⟩) hHeld ?_ ?_
               rotate_left
               ·
                rintro w' ⟨s0, s1, s2, s3⟩
                go_simp
                with_reducible rfl
               rotate_left
               ·
                simp only [Act.put, sA, sB, sC, i64_w, i32_w]
                rfl
               refine one_ (i := 9) (N := some 93) (bA 34 8191) rfl rfl (one_of HT_.out (by kernel_rfl)) (by decide) (fun K hK => ?_)
               refine goes_ Try.func15 (by kernel_rfl) rfl #[.agg #[.int .i64 a1_0, .int .i64 a1_1, .int .i64 a1_2, .int .i64 a1_3], .int .i64 (wrap64 ((Int.tmod x7_2 (wrap64 (t141 + 1))) + 1)), .int .i64 (wrap64 (Int.tdiv x7_2 (wrap64 (t141 + 1))))] (by rfl) rfl rfl (by (try simp only [List.map_toArray, List.map_cons, List.map_nil]); first | done | rfl | (simp only [List.length_drop, List.length_take]; rfl)) ?_
               with_reducible refine (crater_Lowers.calls a1_0 a1_1 a1_2 a1_3 (wrap64 ((Int.tmod x7_2 (wrap64 (t141 + 1))) + 1)) (wrap64 (Int.tdiv x7_2 (wrap64 (t141 + 1)))) t163 _ A50.out).mono ?_
               rintro e w54 ⟨rfl, hb⟩
               refine ⟨_, rfl, ?_⟩
               have n0_ := Aside0.mk (Kd.V_below (by (with_reducible repeat (first | apply Kd.V_alloc | apply Kd.V_drewN | apply Kd.V_drew)); exact HO_140003.out) hb)
               have n1_ := Aside0.mk (Kd.R_below (by (with_reducible repeat (first | apply Kd.R_alloc | apply Kd.R_drewN | apply Kd.R_drew)); exact HO_155003.out) hb)
               have n2_ := Aside0.mk (blk_below (g := gb139) (o := .cells #[.int .i64 t141, .int .i64 t142, .int .i64 t143, .slice Ao13 t144.length co13] 46 (0, 0)) (by (with_reducible repeat (first | refine blk_drewN ?_ _ | refine blk_drew ?_ | refine blk_alloc ?_ _)); exact BK139.out) hb)
               have n3_ := Aside0.mk (blk_below (g := gb140) (o := .cells #[.int .i64 a1_0, .int .i64 a1_1, .int .i64 a1_2, .int .i64 a1_3] 23 (0, 0)) (by (with_reducible repeat (first | refine blk_drewN ?_ _ | refine blk_drew ?_ | refine blk_alloc ?_ _)); exact BK140.out) hb)
               have n4_ := Aside0.mk (blk_below (g := gb154) (o := .cells #[.int .i64 t147, .int .i64 t148, .int .i64 t149, .slice Ao20 t150.length co20] 46 (0, 0)) (by (with_reducible repeat (first | refine blk_drewN ?_ _ | refine blk_drew ?_ | refine blk_alloc ?_ _)); exact BK154.out) hb)
               have n5_ := Aside0.mk (below_step (by repeat (first | (with_reducible first | exact HB.out | apply below_alloc | apply pw_below_drewN | apply below_drew1 | refine below_set ?_ GE139.out | refine below_set ?_ GE140.out | refine below_set ?_ GE154.out) | exact HB.out)) hb)
               clear HO_140003
               clear HO_155003
               clear BK139
               clear BK140
               clear BK154
               clear HB
               have HO_140003 := n0_
               have HO_155003 := n1_
               have BK139 := n2_
               have BK140 := n3_
               have BK154 := n4_
               have HB := n5_
               clear n0_ n1_ n2_ n3_ n4_ n5_
               (try clear hb)
               (try clear hb2)
               (try clear hk)
               (try clear hi)
               refine hK.out _ _ ⟨(blk_cell BK140.out 0).trans rfl, (blk_cell BK140.out 1).trans rfl, (blk_cell BK140.out 2).trans rfl, (blk_cell BK140.out 3).trans rfl⟩ (fun hHeld => ?_)
               clear hK K
               refine norm_ (a' := ?_) ?_ ?_
               rotate_left
               ·
                show Act.put _ (some 93) _ = _
                simp only [Act.put, sA, sB, sC, i64_w, i32_w]
                rfl
               refine one_ (i := 13) (N := some 97) (bA 34 16383) rfl rfl (one_of HT_.out (by kernel_rfl)) (by decide) (fun K hK => ?_)
               refine goes_ Try.func15 (by kernel_rfl) rfl #[.agg #[.int .i64 a1_0, .int .i64 a1_1, .int .i64 a1_2, .int .i64 a1_3], .int .i64 (Int.tmod x7_2 (wrap64 (t141 + 1))), .int .i64 (wrap64 (Int.tdiv x7_2 (wrap64 (t141 + 1))))] (by rfl) rfl rfl (by (try simp only [List.map_toArray, List.map_cons, List.map_nil]); first | done | rfl | (simp only [List.length_drop, List.length_take]; rfl)) ?_
               with_reducible refine (crater_Lowers.calls a1_0 a1_1 a1_2 a1_3 (Int.tmod x7_2 (wrap64 (t141 + 1))) (wrap64 (Int.tdiv x7_2 (wrap64 (t141 + 1)))) t164 _ A51.out).mono ?_
               rintro e w55 ⟨rfl, hb⟩
               refine ⟨_, rfl, ?_⟩
               have n0_ := Aside0.mk (Kd.V_below (by (with_reducible repeat (first | apply Kd.V_alloc | apply Kd.V_drewN | apply Kd.V_drew)); exact HO_140003.out) hb)
               have n1_ := Aside0.mk (Kd.R_below (by (with_reducible repeat (first | apply Kd.R_alloc | apply Kd.R_drewN | apply Kd.R_drew)); exact HO_155003.out) hb)
               have n2_ := Aside0.mk (blk_below (g := gb139) (o := .cells #[.int .i64 t141, .int .i64 t142, .int .i64 t143, .slice Ao13 t144.length co13] 46 (0, 0)) (by (with_reducible repeat (first | refine blk_drewN ?_ _ | refine blk_drew ?_ | refine blk_alloc ?_ _)); exact BK139.out) hb)
               have n3_ := Aside0.mk (blk_below (g := gb140) (o := .cells #[.int .i64 a1_0, .int .i64 a1_1, .int .i64 a1_2, .int .i64 a1_3] 23 (0, 0)) (by (with_reducible repeat (first | refine blk_drewN ?_ _ | refine blk_drew ?_ | refine blk_alloc ?_ _)); exact BK140.out) hb)
               have n4_ := Aside0.mk (blk_below (g := gb154) (o := .cells #[.int .i64 t147, .int .i64 t148, .int .i64 t149, .slice Ao20 t150.length co20] 46 (0, 0)) (by (with_reducible repeat (first | refine blk_drewN ?_ _ | refine blk_drew ?_ | refine blk_alloc ?_ _)); exact BK154.out) hb)
               have n5_ := Aside0.mk (below_step (by repeat (first | (with_reducible first | exact HB.out | apply below_alloc | apply pw_below_drewN | apply below_drew1 | refine below_set ?_ GE139.out | refine below_set ?_ GE140.out | refine below_set ?_ GE154.out) | exact HB.out)) hb)
               clear HO_140003
               clear HO_155003
               clear BK139
               clear BK140
               clear BK154
               clear HB
               have HO_140003 := n0_
               have HO_155003 := n1_
               have BK139 := n2_
               have BK140 := n3_
               have BK154 := n4_
               have HB := n5_
               clear n0_ n1_ n2_ n3_ n4_ n5_
               (try clear hb)
               (try clear hb2)
               (try clear hk)
               (try clear hi)
               refine hK.out _ _ ⟨(blk_cell BK140.out 0).trans rfl, (blk_cell BK140.out 1).trans rfl, (blk_cell BK140.out 2).trans rfl, (blk_cell BK140.out 3).trans rfl⟩ (fun hHeld => ?_)
               clear hK K
               refine norm_ (a' := ?_) ?_ ?_
               rotate_left
               ·
                show Act.put _ (some 97) _ = _
                simp only [Act.put, sA, sB, sC, i64_w, i32_w]
                rfl
               refine pure_ (i := 14) (N := some 98) (v := ?_) (a' := ?_) (bA 34 32767) rfl rfl (any_of HT_.out (by kernel_rfl)) (fun _ _ _ h => h) (Or.inl ⟨by rfl, ?_⟩) ?_ ?_
               rotate_left
               ·
                intro w'
                go_simp
                with_reducible rfl
               rotate_left
               ·
                simp only [Act.put, sA, sB, sC, i64_w, i32_w]
                rfl
               refine pure_ (i := 15) (N := some 99) (v := ?_) (a' := ?_) (bA 34 65535) rfl rfl (any_of HT_.out (by kernel_rfl)) (fun _ _ _ h => h) (Or.inl ⟨by rfl, ?_⟩) ?_ ?_
               rotate_left
               ·
                intro w'
                go_simp
                with_reducible rfl
               rotate_left
               ·
                simp only [Act.put, sA, sB, sC, i64_w, i32_w]
                rfl
               refine pure_ (i := 16) (N := some 100) (v := ?_) (a' := ?_) (bA 34 131071) rfl rfl (any_of HT_.out (by kernel_rfl)) (fun _ _ _ h => h) (Or.inl ⟨by rfl, ?_⟩) ?_ ?_
               rotate_left
               ·
                intro w'
                go_simp
                with_reducible rfl
               rotate_left
               ·
                simp only [Act.put, sA, sB, sC, i64_w, i32_w]
                rfl
               refine pure_ (i := 17) (N := some 101) (v := undef) (a' := ?_) (bA 34 262143) rfl rfl (any_of HT_.out (by kernel_rfl)) (fun _ _ _ h => h) (Or.inr ⟨by rfl, rfl⟩) ?_ ?_
               rotate_left
               ·
                simp only [Act.put, sA, sB, sC, i64_w, i32_w]
                rfl
               refine pure_ (i := 18) (N := some 102) (v := undef) (a' := ?_) (bA 34 524287) rfl rfl (any_of HT_.out (by kernel_rfl)) (fun _ _ _ h => h) (Or.inr ⟨by rfl, rfl⟩) ?_ ?_
               rotate_left
               ·
                simp only [Act.put, sA, sB, sC, i64_w, i32_w]
                rfl
               refine pure_ (i := 19) (N := some 103) (v := undef) (a' := ?_) (bA 34 1048575) rfl rfl (any_of HT_.out (by kernel_rfl)) (fun _ _ _ h => h) (Or.inr ⟨by rfl, rfl⟩) ?_ ?_
               rotate_left
               ·
                simp only [Act.put, sA, sB, sC, i64_w, i32_w]
                rfl
               refine pure_ (i := 20) (N := some 104) (v := undef) (a' := ?_) (bA 34 2097151) rfl rfl (any_of HT_.out (by kernel_rfl)) (fun _ _ _ h => h) (Or.inr ⟨by rfl, rfl⟩) ?_ ?_
               rotate_left
               ·
                simp only [Act.put, sA, sB, sC, i64_w, i32_w]
                rfl
               refine pure_ (i := 21) (N := some 105) (v := undef) (a' := ?_) (bA 34 4194303) rfl rfl (any_of HT_.out (by kernel_rfl)) (fun _ _ _ h => h) (Or.inr ⟨by rfl, rfl⟩) ?_ ?_
               rotate_left
               ·
                simp only [Act.put, sA, sB, sC, i64_w, i32_w]
                rfl
               refine pure_ (i := 22) (N := some 106) (v := undef) (a' := ?_) (bA 34 8388607) rfl rfl (any_of HT_.out (by kernel_rfl)) (fun _ _ _ h => h) (Or.inr ⟨by rfl, rfl⟩) ?_ ?_
               rotate_left
               ·
                simp only [Act.put, sA, sB, sC, i64_w, i32_w]
                rfl
               refine pure_ (i := 23) (N := some 107) (v := undef) (a' := ?_) (bA 34 16777215) rfl rfl (any_of HT_.out (by kernel_rfl)) (fun _ _ _ h => h) (Or.inr ⟨by rfl, rfl⟩) ?_ ?_
               rotate_left
               ·
                simp only [Act.put, sA, sB, sC, i64_w, i32_w]
                rfl
               refine pure_ (i := 24) (N := some 108) (v := undef) (a' := ?_) (bA 34 33554431) rfl rfl (any_of HT_.out (by kernel_rfl)) (fun _ _ _ h => h) (Or.inr ⟨by rfl, rfl⟩) ?_ ?_
               rotate_left
               ·
                simp only [Act.put, sA, sB, sC, i64_w, i32_w]
                rfl
               refine pure_ (i := 25) (N := some 109) (v := undef) (a' := ?_) (bA 34 67108863) rfl rfl (any_of HT_.out (by kernel_rfl)) (fun _ _ _ h => h) (Or.inr ⟨by rfl, rfl⟩) ?_ ?_
               rotate_left
               ·
                simp only [Act.put, sA, sB, sC, i64_w, i32_w]
                rfl
               refine pure_ (i := 26) (N := some 110) (v := undef) (a' := ?_) (bA 34 134217727) rfl rfl (any_of HT_.out (by kernel_rfl)) (fun _ _ _ h => h) (Or.inr ⟨by rfl, rfl⟩) ?_ ?_
               rotate_left
               ·
                simp only [Act.put, sA, sB, sC, i64_w, i32_w]
                rfl
               refine pure_ (i := 27) (N := some 111) (v := undef) (a' := ?_) (bA 34 268435455) rfl rfl (any_of HT_.out (by kernel_rfl)) (fun _ _ _ h => h) (Or.inr ⟨by rfl, rfl⟩) ?_ ?_
               rotate_left
               ·
                simp only [Act.put, sA, sB, sC, i64_w, i32_w]
                rfl
               refine pure_ (i := 28) (N := some 112) (v := undef) (a' := ?_) (bA 34 536870911) rfl rfl (any_of HT_.out (by kernel_rfl)) (fun _ _ _ h => h) (Or.inr ⟨by rfl, rfl⟩) ?_ ?_
               rotate_left
               ·
                simp only [Act.put, sA, sB, sC, i64_w, i32_w]
                rfl
               refine pure_ (i := 29) (N := some 113) (v := undef) (a' := ?_) (bA 34 1073741823) rfl rfl (any_of HT_.out (by kernel_rfl)) (fun _ _ _ h => h) (Or.inr ⟨by rfl, rfl⟩) ?_ ?_
               rotate_left
               ·
                simp only [Act.put, sA, sB, sC, i64_w, i32_w]
                rfl
               refine pure_ (i := 30) (N := some 114) (v := undef) (a' := ?_) (bA 34 2147483647) rfl rfl (any_of HT_.out (by kernel_rfl)) (fun _ _ _ h => h) (Or.inr ⟨by rfl, rfl⟩) ?_ ?_
               rotate_left
               ·
                simp only [Act.put, sA, sB, sC, i64_w, i32_w]
                rfl
               refine pure_ (i := 31) (N := some 115) (v := undef) (a' := ?_) (bA 34 4294967295) rfl rfl (any_of HT_.out (by kernel_rfl)) (fun _ _ _ h => h) (Or.inr ⟨by rfl, rfl⟩) ?_ ?_
               rotate_left
               ·
                simp only [Act.put, sA, sB, sC, i64_w, i32_w]
                rfl
               refine pure_ (i := 32) (N := some 116) (v := undef) (a' := ?_) (bA 34 8589934591) rfl rfl (any_of HT_.out (by kernel_rfl)) (fun _ _ _ h => h) (Or.inr ⟨by rfl, rfl⟩) ?_ ?_
               rotate_left
               ·
                simp only [Act.put, sA, sB, sC, i64_w, i32_w]
                rfl
               refine pure_ (i := 33) (N := some 117) (v := ?_) (a' := ?_) (bA 34 17179869183) rfl rfl (any_of HT_.out (by kernel_rfl)) (fun _ _ _ h => h) (Or.inl ⟨by rfl, ?_⟩) ?_ ?_
               rotate_left
               ·
                intro w'
                go_simp
                with_reducible rfl
               rotate_left
               ·
                simp only [Act.put, sA, sB, sC, i64_w, i32_w]
                rfl
               refine done_ (done_of HT_.out (by kernel_rfl)) ?_
               try go_wp2
               go_meet
               case rel => exact ⟨_, (true), (by first | rfl | (simp; done) | (simp [*]; done)), H', ⟨by have := HJ5.out; have := HK2.out; have := HJ36.out; first | omega | exact Nat.le_refl _⟩, ⟨by (with_reducible repeat (first | apply Kd.V_alloc | apply Kd.V_drewN | apply Kd.V_drew)); exact HO_140003.out⟩, ⟨by (with_reducible repeat (first | apply Kd.R_alloc | apply Kd.R_drewN | apply Kd.R_drew)); exact HO_155003.out⟩, ⟨by (with_reducible repeat (first | refine blk_drewN ?_ _ | refine blk_drew ?_ | refine blk_alloc ?_ _)); exact BK139.out⟩, ⟨by (with_reducible repeat (first | refine blk_drewN ?_ _ | refine blk_drew ?_ | refine blk_alloc ?_ _)); exact BK140.out⟩, ⟨by (with_reducible repeat (first | refine blk_drewN ?_ _ | refine blk_drew ?_ | refine blk_alloc ?_ _)); exact BK154.out⟩, ⟨by repeat (first | (with_reducible first | exact HB.out | apply below_alloc | apply pw_below_drewN | apply below_drew1 | refine below_set ?_ GE139.out | refine below_set ?_ GE140.out | refine below_set ?_ GE154.out) | exact HB.out)⟩⟩
              ·
               rw [if_neg c52] at H
               have c52b0 : decide (t164 < t163) = false := decide_eq_false c52
               clear c52
               by_cases c56 : (wrap64 (Int.tdiv x7_2 (wrap64 (t141 + 1)))) ≤ a1_1
               ·
                rw [if_pos c56] at H
                have c56b0 : decide ((wrap64 (Int.tdiv x7_2 (wrap64 (t141 + 1)))) ≤ a1_1) = true := decide_eq_true c56
                clear c56
                replace H := Option.bind_eq_some_iff.mp H
                obtain ⟨t165, A570, H⟩ := H
                replace H : ((crater_Lowers.f a1_0 a1_1 a1_2 a1_3 (Int.tmod x7_2 (wrap64 (t141 + 1))) (wrap64 (Int.tdiv x7_2 (wrap64 (t141 + 1))))).bind fun t166 => (bivouaclaw09_CraterFalls.j3 kj36 x7_2 (decide (t165 > t166)) t141 t142 t143 t144 a1_0 a1_1 a1_2 a1_3 t147 t148 t149 t150)) = some r := H
                have A57 := Aside0.mk A570
                clear A570
                replace H := Option.bind_eq_some_iff.mp H
                obtain ⟨t166, A580, H⟩ := H
                replace H : (bivouaclaw09_CraterFalls.j3 kj36 x7_2 (decide (t165 > t166)) t141 t142 t143 t144 a1_0 a1_1 a1_2 a1_3 t147 t148 t149 t150) = some r := H
                have A58 := Aside0.mk A580
                clear A580
                have H' := Aside0.mk H
                clear H
                try go_wp2
                have n0_ := Aside0.mk (Kd.V_drew HO_140003.out)
                have n1_ := Aside0.mk (Kd.R_drew HO_155003.out)
                have n2_ := Aside0.mk (blk_drew BK139.out)
                have n3_ := Aside0.mk (blk_drew BK140.out)
                have n4_ := Aside0.mk (blk_drew BK154.out)
                have n5_ := Aside0.mk (below_drew1 HB.out)
                clear HO_140003
                clear HO_155003
                clear BK139
                clear BK140
                clear BK154
                clear HB
                have HO_140003 := n0_
                have HO_155003 := n1_
                have BK139 := n2_
                have BK140 := n3_
                have BK154 := n4_
                have HB := n5_
                clear n0_ n1_ n2_ n3_ n4_ n5_
                refine start_ (n := 34) (S := fun w' => w'.cell? ⟨gb140, 0, none⟩ = some (.int .i64 a1_0) ∧ w'.cell? ⟨gb140, 1, none⟩ = some (.int .i64 a1_1) ∧ w'.cell? ⟨gb140, 2, none⟩ = some (.int .i64 a1_2) ∧ w'.cell? ⟨gb140, 3, none⟩ = some (.int .i64 a1_3)) (ds := []) (bA 34 0) (by kernel_rfl) rfl rfl ⟨(blk_cell BK140.out 0).trans rfl, (blk_cell BK140.out 1).trans rfl, (blk_cell BK140.out 2).trans rfl, (blk_cell BK140.out 3).trans rfl⟩ (fun hHeld => ?_); refine with_tabW bivouaclaw09_CraterFalls.tab13 bivouaclaw09_CraterFalls.bits13 (fun HT_ HW_ => ?_)
                generalize wc.drew = w59 at HO_140003 HO_155003 BK139 BK140 BK154 HB hHeld ⊢
                refine pure_ (i := 0) (N := some 84) (v := ?_) (a' := ?_) (bA 34 1) rfl rfl (any_of HT_.out (by kernel_rfl)) (fun _ _ _ h => h) (Or.inl ⟨by rfl, ?_⟩) ?_ ?_
                rotate_left
                ·
                 intro w'
                 go_simp
                 with_reducible rfl
                rotate_left
                ·
                 simp only [Act.put, sA, sB, sC, i64_w, i32_w]
                 rfl
                refine pure_ (i := 1) (N := some 85) (v := ?_) (a' := ?_) (bA 34 3) rfl rfl (any_of HT_.out (by kernel_rfl)) (fun _ _ _ h => h) (Or.inl ⟨by rfl, ?_⟩) ?_ ?_
                rotate_left
                ·
                 intro w'
                 go_simp
                 with_reducible rfl
                rotate_left
                ·
                 simp only [Act.put, sA, sB, sC, i64_w, i32_w]
                 rfl
                refine take_ (i := 2) (N := some 86) (v := ?_) (a' := ?_) (bA 34 7) rfl rfl (take_ofW HT_.out HW_.out (by kernel_rfl)) (fun _ _ _ h => h) (Or.inl ⟨by rfl, ?_⟩) hHeld ?_ ?_
                rotate_left
                ·
                 rintro w' ⟨s0, s1, s2, s3⟩
                 go_simp
                 with_reducible rfl
                rotate_left
                ·
                 simp only [Act.put, sA, sB, sC, i64_w, i32_w]
                 rfl
                refine pure_ (i := 3) (N := some 87) (v := ?_) (a' := ?_) (bA 34 15) rfl rfl (any_of HT_.out (by kernel_rfl)) (fun _ _ _ h => h) (Or.inl ⟨by rfl, ?_⟩) ?_ ?_
                rotate_left
                ·
                 intro w'
                 go_simp
                 with_reducible rfl
                rotate_left
                ·
                 simp only [Act.put, sA, sB, sC, i64_w, i32_w]
                 rfl
                refine pure_ (i := 4) (N := some 88) (v := ?_) (a' := ?_) (bA 34 31) rfl rfl (any_of HT_.out (by kernel_rfl)) (fun _ _ _ h => h) (Or.inl ⟨by rfl, ?_⟩) ?_ ?_
                rotate_left
                ·
                 intro w'
                 go_simp
                 with_reducible rfl
                rotate_left
                ·
                 simp only [Act.put, sA, sB, sC, i64_w, i32_w]
                 rfl
                refine pure_ (i := 6) (N := some 90) (v := ?_) (a' := ?_) (bA 34 95) rfl rfl (any_of HT_.out (by kernel_rfl)) (fun _ _ _ h => h) (Or.inl ⟨by rfl, ?_⟩) ?_ ?_
                rotate_left
                ·
                 intro w'
                 go_simp
                 with_reducible rfl
                rotate_left
                ·
                 simp only [Act.put, sA, sB, sC, i64_w, i32_w]
                 rfl
                refine pure_ (i := 7) (N := some 91) (v := ?_) (a' := ?_) (bA 34 223) rfl rfl (any_of HT_.out (by kernel_rfl)) (fun _ _ _ h => h) (Or.inl ⟨by rfl, ?_⟩) ?_ ?_
                rotate_left
                ·
                 intro w'
                 go_simp
                 with_reducible rfl
                rotate_left
                ·
                 simp only [Act.put, sA, sB, sC, i64_w, i32_w]
                 rfl
                refine pure_ (i := 8) (N := some 92) (v := ?_) (a' := ?_) (bA 34 479) rfl rfl (any_of HT_.out (by kernel_rfl)) (fun _ _ _ h => h) (Or.inl ⟨by rfl, ?_⟩) ?_ ?_
                rotate_left
                ·
                 intro w'
                 go_simp
                 with_reducible rfl
                rotate_left
                ·
                 simp only [Act.put, sA, sB, sC, i64_w, i32_w]
                 rfl
                refine pure_ (i := 11) (N := some 95) (v := ?_) (a' := ?_) (bA 34 2527) rfl rfl (any_of HT_.out (by kernel_rfl)) (fun _ _ _ h => h) (Or.inl ⟨by rfl, ?_⟩) ?_ ?_
                rotate_left
                ·
                 intro w'
                 go_simp
                 with_reducible rfl
                rotate_left
                ·
                 simp only [Act.put, sA, sB, sC, i64_w, i32_w]
                 rfl
                refine pure_ (i := 12) (N := some 96) (v := ?_) (a' := ?_) (bA 34 6623) rfl rfl (any_of HT_.out (by kernel_rfl)) (fun _ _ _ h => h) (Or.inl ⟨by rfl, ?_⟩) ?_ ?_
                rotate_left
                ·
                 intro w'
                 go_simp
                 with_reducible rfl
                rotate_left
                ·
                 simp only [Act.put, sA, sB, sC, i64_w, i32_w]
                 rfl
                refine take_ (i := 5) (N := some 89) (v := ?_) (a' := ?_) (bA 34 6655) rfl rfl (take_ofW HT_.out HW_.out (by kernel_rfl)) (fun _ _ _ h => h) (Or.inl ⟨by rfl, ?_⟩) hHeld ?_ ?_
                rotate_left
                ·
                 rintro w' ⟨s0, s1, s2, s3⟩
                 go_simp
                 with_reducible rfl
                rotate_left
                ·
                 simp only [Act.put, sA, sB, sC, i64_w, i32_w]
                 rfl
                refine take_ (i := 10) (N := some 94) (v := ?_) (a' := ?_) (bA 34 7679) rfl rfl (take_ofW HT_.out HW_.out (by kernel_rfl)) (fun _ _ _ h => h) (Or.inl ⟨by rfl, ?_⟩) hHeld ?_ ?_
                rotate_left
                ·
                 rintro w' ⟨s0, s1, s2, s3⟩
                 go_simp
                 with_reducible rfl
                rotate_left
                ·
                 simp only [Act.put, sA, sB, sC, i64_w, i32_w]
                 rfl
                refine one_ (i := 9) (N := some 93) (bA 34 8191) rfl rfl (one_of HT_.out (by kernel_rfl)) (by decide) (fun K hK => ?_)
                refine goes_ Try.func15 (by kernel_rfl) rfl #[.agg #[.int .i64 a1_0, .int .i64 a1_1, .int .i64 a1_2, .int .i64 a1_3], .int .i64 (wrap64 ((Int.tmod x7_2 (wrap64 (t141 + 1))) + 1)), .int .i64 (wrap64 (Int.tdiv x7_2 (wrap64 (t141 + 1))))] (by rfl) rfl rfl (by (try simp only [List.map_toArray, List.map_cons, List.map_nil]); first | done | rfl | (simp only [List.length_drop, List.length_take]; rfl)) ?_
                with_reducible refine (crater_Lowers.calls a1_0 a1_1 a1_2 a1_3 (wrap64 ((Int.tmod x7_2 (wrap64 (t141 + 1))) + 1)) (wrap64 (Int.tdiv x7_2 (wrap64 (t141 + 1)))) t163 _ A50.out).mono ?_
                rintro e w60 ⟨rfl, hb⟩
                refine ⟨_, rfl, ?_⟩
                have n0_ := Aside0.mk (Kd.V_below (by (with_reducible repeat (first | apply Kd.V_alloc | apply Kd.V_drewN | apply Kd.V_drew)); exact HO_140003.out) hb)
                have n1_ := Aside0.mk (Kd.R_below (by (with_reducible repeat (first | apply Kd.R_alloc | apply Kd.R_drewN | apply Kd.R_drew)); exact HO_155003.out) hb)
                have n2_ := Aside0.mk (blk_below (g := gb139) (o := .cells #[.int .i64 t141, .int .i64 t142, .int .i64 t143, .slice Ao13 t144.length co13] 46 (0, 0)) (by (with_reducible repeat (first | refine blk_drewN ?_ _ | refine blk_drew ?_ | refine blk_alloc ?_ _)); exact BK139.out) hb)
                have n3_ := Aside0.mk (blk_below (g := gb140) (o := .cells #[.int .i64 a1_0, .int .i64 a1_1, .int .i64 a1_2, .int .i64 a1_3] 23 (0, 0)) (by (with_reducible repeat (first | refine blk_drewN ?_ _ | refine blk_drew ?_ | refine blk_alloc ?_ _)); exact BK140.out) hb)
                have n4_ := Aside0.mk (blk_below (g := gb154) (o := .cells #[.int .i64 t147, .int .i64 t148, .int .i64 t149, .slice Ao20 t150.length co20] 46 (0, 0)) (by (with_reducible repeat (first | refine blk_drewN ?_ _ | refine blk_drew ?_ | refine blk_alloc ?_ _)); exact BK154.out) hb)
                have n5_ := Aside0.mk (below_step (by repeat (first | (with_reducible first | exact HB.out | apply below_alloc | apply pw_below_drewN | apply below_drew1 | refine below_set ?_ GE139.out | refine below_set ?_ GE140.out | refine below_set ?_ GE154.out) | exact HB.out)) hb)
                clear HO_140003
                clear HO_155003
                clear BK139
                clear BK140
                clear BK154
                clear HB
                have HO_140003 := n0_
                have HO_155003 := n1_
                have BK139 := n2_
                have BK140 := n3_
                have BK154 := n4_
                have HB := n5_
                clear n0_ n1_ n2_ n3_ n4_ n5_
                (try clear hb)
                (try clear hb2)
                (try clear hk)
                (try clear hi)
                refine hK.out _ _ ⟨(blk_cell BK140.out 0).trans rfl, (blk_cell BK140.out 1).trans rfl, (blk_cell BK140.out 2).trans rfl, (blk_cell BK140.out 3).trans rfl⟩ (fun hHeld => ?_)
                clear hK K
                refine norm_ (a' := ?_) ?_ ?_
                rotate_left
                ·
                 show Act.put _ (some 93) _ = _
                 simp only [Act.put, sA, sB, sC, i64_w, i32_w]
                 rfl
                refine one_ (i := 13) (N := some 97) (bA 34 16383) rfl rfl (one_of HT_.out (by kernel_rfl)) (by decide) (fun K hK => ?_)
                refine goes_ Try.func15 (by kernel_rfl) rfl #[.agg #[.int .i64 a1_0, .int .i64 a1_1, .int .i64 a1_2, .int .i64 a1_3], .int .i64 (Int.tmod x7_2 (wrap64 (t141 + 1))), .int .i64 (wrap64 (Int.tdiv x7_2 (wrap64 (t141 + 1))))] (by rfl) rfl rfl (by (try simp only [List.map_toArray, List.map_cons, List.map_nil]); first | done | rfl | (simp only [List.length_drop, List.length_take]; rfl)) ?_
                with_reducible refine (crater_Lowers.calls a1_0 a1_1 a1_2 a1_3 (Int.tmod x7_2 (wrap64 (t141 + 1))) (wrap64 (Int.tdiv x7_2 (wrap64 (t141 + 1)))) t164 _ A51.out).mono ?_
                rintro e w61 ⟨rfl, hb⟩
                refine ⟨_, rfl, ?_⟩
                have n0_ := Aside0.mk (Kd.V_below (by (with_reducible repeat (first | apply Kd.V_alloc | apply Kd.V_drewN | apply Kd.V_drew)); exact HO_140003.out) hb)
                have n1_ := Aside0.mk (Kd.R_below (by (with_reducible repeat (first | apply Kd.R_alloc | apply Kd.R_drewN | apply Kd.R_drew)); exact HO_155003.out) hb)
                have n2_ := Aside0.mk (blk_below (g := gb139) (o := .cells #[.int .i64 t141, .int .i64 t142, .int .i64 t143, .slice Ao13 t144.length co13] 46 (0, 0)) (by (with_reducible repeat (first | refine blk_drewN ?_ _ | refine blk_drew ?_ | refine blk_alloc ?_ _)); exact BK139.out) hb)
                have n3_ := Aside0.mk (blk_below (g := gb140) (o := .cells #[.int .i64 a1_0, .int .i64 a1_1, .int .i64 a1_2, .int .i64 a1_3] 23 (0, 0)) (by (with_reducible repeat (first | refine blk_drewN ?_ _ | refine blk_drew ?_ | refine blk_alloc ?_ _)); exact BK140.out) hb)
                have n4_ := Aside0.mk (blk_below (g := gb154) (o := .cells #[.int .i64 t147, .int .i64 t148, .int .i64 t149, .slice Ao20 t150.length co20] 46 (0, 0)) (by (with_reducible repeat (first | refine blk_drewN ?_ _ | refine blk_drew ?_ | refine blk_alloc ?_ _)); exact BK154.out) hb)
                have n5_ := Aside0.mk (below_step (by repeat (first | (with_reducible first | exact HB.out | apply below_alloc | apply pw_below_drewN | apply below_drew1 | refine below_set ?_ GE139.out | refine below_set ?_ GE140.out | refine below_set ?_ GE154.out) | exact HB.out)) hb)
                clear HO_140003
                clear HO_155003
                clear BK139
                clear BK140
                clear BK154
                clear HB
                have HO_140003 := n0_
                have HO_155003 := n1_
                have BK139 := n2_
                have BK140 := n3_
                have BK154 := n4_
                have HB := n5_
                clear n0_ n1_ n2_ n3_ n4_ n5_
                (try clear hb)
                (try clear hb2)
                (try clear hk)
                (try clear hi)
                refine hK.out _ _ ⟨(blk_cell BK140.out 0).trans rfl, (blk_cell BK140.out 1).trans rfl, (blk_cell BK140.out 2).trans rfl, (blk_cell BK140.out 3).trans rfl⟩ (fun hHeld => ?_)
                clear hK K
                refine norm_ (a' := ?_) ?_ ?_
                rotate_left
                ·
                 show Act.put _ (some 97) _ = _
                 simp only [Act.put, sA, sB, sC, i64_w, i32_w]
                 rfl
                refine pure_ (i := 14) (N := some 98) (v := ?_) (a' := ?_) (bA 34 32767) rfl rfl (any_of HT_.out (by kernel_rfl)) (fun _ _ _ h => h) (Or.inl ⟨by rfl, ?_⟩) ?_ ?_
                rotate_left
                ·
                 intro w'
                 go_simp
                 with_reducible rfl
                rotate_left
                ·
                 simp only [Act.put, sA, sB, sC, i64_w, i32_w]
                 rfl
                refine pure_ (i := 15) (N := some 99) (v := ?_) (a' := ?_) (bA 34 65535) rfl rfl (any_of HT_.out (by kernel_rfl)) (fun _ _ _ h => h) (Or.inl ⟨by rfl, ?_⟩) ?_ ?_
                rotate_left
                ·
                 intro w'
                 go_simp
                 with_reducible rfl
                rotate_left
                ·
                 simp only [Act.put, sA, sB, sC, i64_w, i32_w]
                 rfl
                refine pure_ (i := 16) (N := some 100) (v := ?_) (a' := ?_) (bA 34 131071) rfl rfl (any_of HT_.out (by kernel_rfl)) (fun _ _ _ h => h) (Or.inl ⟨by rfl, ?_⟩) ?_ ?_
                rotate_left
                ·
                 intro w'
                 go_simp
                 with_reducible rfl
                rotate_left
                ·
                 simp only [Act.put, sA, sB, sC, i64_w, i32_w]
                 rfl
                refine pure_ (i := 17) (N := some 101) (v := ?_) (a' := ?_) (bA 34 262143) rfl rfl (any_of HT_.out (by kernel_rfl)) (fun _ _ _ h => h) (Or.inl ⟨by rfl, ?_⟩) ?_ ?_
                rotate_left
                ·
                 intro w'
                 go_simp
                 with_reducible rfl
                rotate_left
                ·
                 simp only [Act.put, sA, sB, sC, i64_w, i32_w]
                 rfl
                refine pure_ (i := 18) (N := some 102) (v := ?_) (a' := ?_) (bA 34 524287) rfl rfl (any_of HT_.out (by kernel_rfl)) (fun _ _ _ h => h) (Or.inl ⟨by rfl, ?_⟩) ?_ ?_
                rotate_left
                ·
                 intro w'
                 go_simp
                 with_reducible rfl
                rotate_left
                ·
                 simp only [Act.put, sA, sB, sC, i64_w, i32_w]
                 rfl
                refine take_ (i := 19) (N := some 103) (v := ?_) (a' := ?_) (bA 34 1048575) rfl rfl (take_ofW HT_.out HW_.out (by kernel_rfl)) (fun _ _ _ h => h) (Or.inl ⟨by rfl, ?_⟩) hHeld ?_ ?_
                rotate_left
                ·
                 rintro w' ⟨s0, s1, s2, s3⟩
                 go_simp
                 with_reducible rfl
                rotate_left
                ·
                 simp only [Act.put, sA, sB, sC, i64_w, i32_w]
                 rfl
                refine pure_ (i := 20) (N := some 104) (v := ?_) (a' := ?_) (bA 34 2097151) rfl rfl (any_of HT_.out (by kernel_rfl)) (fun _ _ _ h => h) (Or.inl ⟨by rfl, ?_⟩) ?_ ?_
                rotate_left
                ·
                 intro w'
                 go_simp
                 with_reducible rfl
                rotate_left
                ·
                 simp only [Act.put, sA, sB, sC, i64_w, i32_w]
                 rfl
                refine pure_ (i := 21) (N := some 105) (v := ?_) (a' := ?_) (bA 34 4194303) rfl rfl (any_of HT_.out (by kernel_rfl)) (fun _ _ _ h => h) (Or.inl ⟨by rfl, ?_⟩) ?_ ?_
                rotate_left
                ·
                 intro w'
                 go_simp
                 with_reducible rfl
                rotate_left
                ·
                 simp only [Act.put, sA, sB, sC, i64_w, i32_w]
                 rfl
                refine pure_ (i := 23) (N := some 107) (v := ?_) (a' := ?_) (bA 34 12582911) rfl rfl (any_of HT_.out (by kernel_rfl)) (fun _ _ _ h => h) (Or.inl ⟨by rfl, ?_⟩) ?_ ?_
                rotate_left
                ·
                 intro w'
                 go_simp
                 with_reducible rfl
                rotate_left
                ·
                 simp only [Act.put, sA, sB, sC, i64_w, i32_w]
                 rfl
                refine pure_ (i := 24) (N := some 108) (v := ?_) (a' := ?_) (bA 34 29360127) rfl rfl (any_of HT_.out (by kernel_rfl)) (fun _ _ _ h => h) (Or.inl ⟨by rfl, ?_⟩) ?_ ?_
                rotate_left
                ·
                 intro w'
                 go_simp
                 with_reducible rfl
                rotate_left
                ·
                 simp only [Act.put, sA, sB, sC, i64_w, i32_w]
                 rfl
                refine pure_ (i := 25) (N := some 109) (v := ?_) (a' := ?_) (bA 34 62914559) rfl rfl (any_of HT_.out (by kernel_rfl)) (fun _ _ _ h => h) (Or.inl ⟨by rfl, ?_⟩) ?_ ?_
                rotate_left
                ·
                 intro w'
                 go_simp
                 with_reducible rfl
                rotate_left
                ·
                 simp only [Act.put, sA, sB, sC, i64_w, i32_w]
                 rfl
                refine pure_ (i := 28) (N := some 112) (v := ?_) (a' := ?_) (bA 34 331350015) rfl rfl (any_of HT_.out (by kernel_rfl)) (fun _ _ _ h => h) (Or.inl ⟨by rfl, ?_⟩) ?_ ?_
                rotate_left
                ·
                 intro w'
                 go_simp
                 with_reducible rfl
                rotate_left
                ·
                 simp only [Act.put, sA, sB, sC, i64_w, i32_w]
                 rfl
                refine pure_ (i := 29) (N := some 113) (v := ?_) (a' := ?_) (bA 34 868220927) rfl rfl (any_of HT_.out (by kernel_rfl)) (fun _ _ _ h => h) (Or.inl ⟨by rfl, ?_⟩) ?_ ?_
                rotate_left
                ·
                 intro w'
                 go_simp
                 with_reducible rfl
                rotate_left
                ·
                 simp only [Act.put, sA, sB, sC, i64_w, i32_w]
                 rfl
                refine take_ (i := 22) (N := some 106) (v := ?_) (a' := ?_) (bA 34 872415231) rfl rfl (take_ofW HT_.out HW_.out (by kernel_rfl)) (fun _ _ _ h => h) (Or.inl ⟨by rfl, ?_⟩) hHeld ?_ ?_
                rotate_left
                ·
                 rintro w' ⟨s0, s1, s2, s3⟩
                 go_simp
                 with_reducible rfl
                rotate_left
                ·
                 simp only [Act.put, sA, sB, sC, i64_w, i32_w]
                 rfl
                refine take_ (i := 27) (N := some 111) (v := ?_) (a' := ?_) (bA 34 1006632959) rfl rfl (take_ofW HT_.out HW_.out (by kernel_rfl)) (fun _ _ _ h => h) (Or.inl ⟨by rfl, ?_⟩) hHeld ?_ ?_
                rotate_left
                ·
                 rintro w' ⟨s0, s1, s2, s3⟩
                 go_simp
                 with_reducible rfl
                rotate_left
                ·
                 simp only [Act.put, sA, sB, sC, i64_w, i32_w]
                 rfl
                refine one_ (i := 26) (N := some 110) (bA 34 1073741823) rfl rfl (one_of HT_.out (by kernel_rfl)) (by decide) (fun K hK => ?_)
                refine goes_ Try.func15 (by kernel_rfl) rfl #[.agg #[.int .i64 a1_0, .int .i64 a1_1, .int .i64 a1_2, .int .i64 a1_3], .int .i64 (Int.tmod x7_2 (wrap64 (t141 + 1))), .int .i64 (wrap64 ((wrap64 (Int.tdiv x7_2 (wrap64 (t141 + 1)))) - 1))] (by rfl) rfl rfl (by (try simp only [List.map_toArray, List.map_cons, List.map_nil]); first | done | rfl | (simp only [List.length_drop, List.length_take]; rfl)) ?_
                with_reducible refine (crater_Lowers.calls a1_0 a1_1 a1_2 a1_3 (Int.tmod x7_2 (wrap64 (t141 + 1))) (wrap64 ((wrap64 (Int.tdiv x7_2 (wrap64 (t141 + 1)))) - 1)) t165 _ A57.out).mono ?_
                rintro e w62 ⟨rfl, hb⟩
                refine ⟨_, rfl, ?_⟩
                have n0_ := Aside0.mk (Kd.V_below (by (with_reducible repeat (first | apply Kd.V_alloc | apply Kd.V_drewN | apply Kd.V_drew)); exact HO_140003.out) hb)
                have n1_ := Aside0.mk (Kd.R_below (by (with_reducible repeat (first | apply Kd.R_alloc | apply Kd.R_drewN | apply Kd.R_drew)); exact HO_155003.out) hb)
                have n2_ := Aside0.mk (blk_below (g := gb139) (o := .cells #[.int .i64 t141, .int .i64 t142, .int .i64 t143, .slice Ao13 t144.length co13] 46 (0, 0)) (by (with_reducible repeat (first | refine blk_drewN ?_ _ | refine blk_drew ?_ | refine blk_alloc ?_ _)); exact BK139.out) hb)
                have n3_ := Aside0.mk (blk_below (g := gb140) (o := .cells #[.int .i64 a1_0, .int .i64 a1_1, .int .i64 a1_2, .int .i64 a1_3] 23 (0, 0)) (by (with_reducible repeat (first | refine blk_drewN ?_ _ | refine blk_drew ?_ | refine blk_alloc ?_ _)); exact BK140.out) hb)
                have n4_ := Aside0.mk (blk_below (g := gb154) (o := .cells #[.int .i64 t147, .int .i64 t148, .int .i64 t149, .slice Ao20 t150.length co20] 46 (0, 0)) (by (with_reducible repeat (first | refine blk_drewN ?_ _ | refine blk_drew ?_ | refine blk_alloc ?_ _)); exact BK154.out) hb)
                have n5_ := Aside0.mk (below_step (by repeat (first | (with_reducible first | exact HB.out | apply below_alloc | apply pw_below_drewN | apply below_drew1 | refine below_set ?_ GE139.out | refine below_set ?_ GE140.out | refine below_set ?_ GE154.out) | exact HB.out)) hb)
                clear HO_140003
                clear HO_155003
                clear BK139
                clear BK140
                clear BK154
                clear HB
                have HO_140003 := n0_
                have HO_155003 := n1_
                have BK139 := n2_
                have BK140 := n3_
                have BK154 := n4_
                have HB := n5_
                clear n0_ n1_ n2_ n3_ n4_ n5_
                (try clear hb)
                (try clear hb2)
                (try clear hk)
                (try clear hi)
                refine hK.out _ _ ⟨(blk_cell BK140.out 0).trans rfl, (blk_cell BK140.out 1).trans rfl, (blk_cell BK140.out 2).trans rfl, (blk_cell BK140.out 3).trans rfl⟩ (fun hHeld => ?_)
                clear hK K
                refine norm_ (a' := ?_) ?_ ?_
                rotate_left
                ·
                 show Act.put _ (some 110) _ = _
                 simp only [Act.put, sA, sB, sC, i64_w, i32_w]
                 rfl
                refine one_ (i := 30) (N := some 114) (bA 34 2147483647) rfl rfl (one_of HT_.out (by kernel_rfl)) (by decide) (fun K hK => ?_)
                refine goes_ Try.func15 (by kernel_rfl) rfl #[.agg #[.int .i64 a1_0, .int .i64 a1_1, .int .i64 a1_2, .int .i64 a1_3], .int .i64 (Int.tmod x7_2 (wrap64 (t141 + 1))), .int .i64 (wrap64 (Int.tdiv x7_2 (wrap64 (t141 + 1))))] (by rfl) rfl rfl (by (try simp only [List.map_toArray, List.map_cons, List.map_nil]); first | done | rfl | (simp only [List.length_drop, List.length_take]; rfl)) ?_
                with_reducible refine (crater_Lowers.calls a1_0 a1_1 a1_2 a1_3 (Int.tmod x7_2 (wrap64 (t141 + 1))) (wrap64 (Int.tdiv x7_2 (wrap64 (t141 + 1)))) t166 _ A58.out).mono ?_
                rintro e w63 ⟨rfl, hb⟩
                refine ⟨_, rfl, ?_⟩
                have n0_ := Aside0.mk (Kd.V_below (by (with_reducible repeat (first | apply Kd.V_alloc | apply Kd.V_drewN | apply Kd.V_drew)); exact HO_140003.out) hb)
                have n1_ := Aside0.mk (Kd.R_below (by (with_reducible repeat (first | apply Kd.R_alloc | apply Kd.R_drewN | apply Kd.R_drew)); exact HO_155003.out) hb)
                have n2_ := Aside0.mk (blk_below (g := gb139) (o := .cells #[.int .i64 t141, .int .i64 t142, .int .i64 t143, .slice Ao13 t144.length co13] 46 (0, 0)) (by (with_reducible repeat (first | refine blk_drewN ?_ _ | refine blk_drew ?_ | refine blk_alloc ?_ _)); exact BK139.out) hb)
                have n3_ := Aside0.mk (blk_below (g := gb140) (o := .cells #[.int .i64 a1_0, .int .i64 a1_1, .int .i64 a1_2, .int .i64 a1_3] 23 (0, 0)) (by (with_reducible repeat (first | refine blk_drewN ?_ _ | refine blk_drew ?_ | refine blk_alloc ?_ _)); exact BK140.out) hb)
                have n4_ := Aside0.mk (blk_below (g := gb154) (o := .cells #[.int .i64 t147, .int .i64 t148, .int .i64 t149, .slice Ao20 t150.length co20] 46 (0, 0)) (by (with_reducible repeat (first | refine blk_drewN ?_ _ | refine blk_drew ?_ | refine blk_alloc ?_ _)); exact BK154.out) hb)
                have n5_ := Aside0.mk (below_step (by repeat (first | (with_reducible first | exact HB.out | apply below_alloc | apply pw_below_drewN | apply below_drew1 | refine below_set ?_ GE139.out | refine below_set ?_ GE140.out | refine below_set ?_ GE154.out) | exact HB.out)) hb)
                clear HO_140003
                clear HO_155003
                clear BK139
                clear BK140
                clear BK154
                clear HB
                have HO_140003 := n0_
                have HO_155003 := n1_
                have BK139 := n2_
                have BK140 := n3_
                have BK154 := n4_
                have HB := n5_
                clear n0_ n1_ n2_ n3_ n4_ n5_
                (try clear hb)
                (try clear hb2)
                (try clear hk)
                (try clear hi)
                refine hK.out _ _ ⟨(blk_cell BK140.out 0).trans rfl, (blk_cell BK140.out 1).trans rfl, (blk_cell BK140.out 2).trans rfl, (blk_cell BK140.out 3).trans rfl⟩ (fun hHeld => ?_)
                clear hK K
                refine norm_ (a' := ?_) ?_ ?_
                rotate_left
                ·
                 show Act.put _ (some 114) _ = _
                 simp only [Act.put, sA, sB, sC, i64_w, i32_w]
                 rfl
                refine pure_ (i := 31) (N := some 115) (v := ?_) (a' := ?_) (bA 34 4294967295) rfl rfl (any_of HT_.out (by kernel_rfl)) (fun _ _ _ h => h) (Or.inl ⟨by rfl, ?_⟩) ?_ ?_
                rotate_left
                ·
                 intro w'
                 go_simp
                 with_reducible rfl
                rotate_left
                ·
                 simp only [Act.put, sA, sB, sC, i64_w, i32_w]
                 rfl
                refine pure_ (i := 32) (N := some 116) (v := ?_) (a' := ?_) (bA 34 8589934591) rfl rfl (any_of HT_.out (by kernel_rfl)) (fun _ _ _ h => h) (Or.inl ⟨by rfl, ?_⟩) ?_ ?_
                rotate_left
                ·
                 intro w'
                 go_simp
                 with_reducible rfl
                rotate_left
                ·
                 simp only [Act.put, sA, sB, sC, i64_w, i32_w]
                 rfl
                refine pure_ (i := 33) (N := some 117) (v := ?_) (a' := ?_) (bA 34 17179869183) rfl rfl (any_of HT_.out (by kernel_rfl)) (fun _ _ _ h => h) (Or.inl ⟨by rfl, ?_⟩) ?_ ?_
                rotate_left
                ·
                 intro w'
                 go_simp
                 with_reducible rfl
                rotate_left
                ·
                 simp only [Act.put, sA, sB, sC, i64_w, i32_w]
                 rfl
                refine done_ (done_of HT_.out (by kernel_rfl)) ?_
                try go_wp2
                go_meet
                case rel => exact ⟨_, (decide (t165 > t166)), (by first | rfl | (simp; done) | (simp [*]; done)), H', ⟨by have := HJ5.out; have := HK2.out; have := HJ36.out; first | omega | exact Nat.le_refl _⟩, ⟨by (with_reducible repeat (first | apply Kd.V_alloc | apply Kd.V_drewN | apply Kd.V_drew)); exact HO_140003.out⟩, ⟨by (with_reducible repeat (first | apply Kd.R_alloc | apply Kd.R_drewN | apply Kd.R_drew)); exact HO_155003.out⟩, ⟨by (with_reducible repeat (first | refine blk_drewN ?_ _ | refine blk_drew ?_ | refine blk_alloc ?_ _)); exact BK139.out⟩, ⟨by (with_reducible repeat (first | refine blk_drewN ?_ _ | refine blk_drew ?_ | refine blk_alloc ?_ _)); exact BK140.out⟩, ⟨by (with_reducible repeat (first | refine blk_drewN ?_ _ | refine blk_drew ?_ | refine blk_alloc ?_ _)); exact BK154.out⟩, ⟨by repeat (first | (with_reducible first | exact HB.out | apply below_alloc | apply pw_below_drewN | apply below_drew1 | refine below_set ?_ GE139.out | refine below_set ?_ GE140.out | refine below_set ?_ GE154.out) | exact HB.out)⟩⟩
               ·
                rw [if_neg c56] at H
                have c56b0 : decide ((wrap64 (Int.tdiv x7_2 (wrap64 (t141 + 1)))) ≤ a1_1) = false := decide_eq_false c56
                clear c56
                have H' := Aside0.mk H
                clear H
                try go_wp2
                have n0_ := Aside0.mk (Kd.V_drew HO_140003.out)
                have n1_ := Aside0.mk (Kd.R_drew HO_155003.out)
                have n2_ := Aside0.mk (blk_drew BK139.out)
                have n3_ := Aside0.mk (blk_drew BK140.out)
                have n4_ := Aside0.mk (blk_drew BK154.out)
                have n5_ := Aside0.mk (below_drew1 HB.out)
                clear HO_140003
                clear HO_155003
                clear BK139
                clear BK140
                clear BK154
                clear HB
                have HO_140003 := n0_
                have HO_155003 := n1_
                have BK139 := n2_
                have BK140 := n3_
                have BK154 := n4_
                have HB := n5_
                clear n0_ n1_ n2_ n3_ n4_ n5_
                refine start_ (n := 34) (S := fun w' => w'.cell? ⟨gb140, 0, none⟩ = some (.int .i64 a1_0) ∧ w'.cell? ⟨gb140, 1, none⟩ = some (.int .i64 a1_1) ∧ w'.cell? ⟨gb140, 2, none⟩ = some (.int .i64 a1_2) ∧ w'.cell? ⟨gb140, 3, none⟩ = some (.int .i64 a1_3)) (ds := []) (bA 34 0) (by kernel_rfl) rfl rfl ⟨(blk_cell BK140.out 0).trans rfl, (blk_cell BK140.out 1).trans rfl, (blk_cell BK140.out 2).trans rfl, (blk_cell BK140.out 3).trans rfl⟩ (fun hHeld => ?_); refine with_tabW bivouaclaw09_CraterFalls.tab13 bivouaclaw09_CraterFalls.bits13 (fun HT_ HW_ => ?_)
                generalize wc.drew = w64 at HO_140003 HO_155003 BK139 BK140 BK154 HB hHeld ⊢
                refine pure_ (i := 0) (N := some 84) (v := ?_) (a' := ?_) (bA 34 1) rfl rfl (any_of HT_.out (by kernel_rfl)) (fun _ _ _ h => h) (Or.inl ⟨by rfl, ?_⟩) ?_ ?_
                rotate_left
                ·
                 intro w'
                 go_simp
                 with_reducible rfl
                rotate_left
                ·
                 simp only [Act.put, sA, sB, sC, i64_w, i32_w]
                 rfl
                refine pure_ (i := 1) (N := some 85) (v := ?_) (a' := ?_) (bA 34 3) rfl rfl (any_of HT_.out (by kernel_rfl)) (fun _ _ _ h => h) (Or.inl ⟨by rfl, ?_⟩) ?_ ?_
                rotate_left
                ·
                 intro w'
                 go_simp
                 with_reducible rfl
                rotate_left
                ·
                 simp only [Act.put, sA, sB, sC, i64_w, i32_w]
                 rfl
                refine take_ (i := 2) (N := some 86) (v := ?_) (a' := ?_) (bA 34 7) rfl rfl (take_ofW HT_.out HW_.out (by kernel_rfl)) (fun _ _ _ h => h) (Or.inl ⟨by rfl, ?_⟩) hHeld ?_ ?_
                rotate_left
                ·
                 rintro w' ⟨s0, s1, s2, s3⟩
                 go_simp
                 with_reducible rfl
                rotate_left
                ·
                 simp only [Act.put, sA, sB, sC, i64_w, i32_w]
                 rfl
                refine pure_ (i := 3) (N := some 87) (v := ?_) (a' := ?_) (bA 34 15) rfl rfl (any_of HT_.out (by kernel_rfl)) (fun _ _ _ h => h) (Or.inl ⟨by rfl, ?_⟩) ?_ ?_
                rotate_left
                ·
                 intro w'
                 go_simp
                 with_reducible rfl
                rotate_left
                ·
                 simp only [Act.put, sA, sB, sC, i64_w, i32_w]
                 rfl
                refine pure_ (i := 4) (N := some 88) (v := ?_) (a' := ?_) (bA 34 31) rfl rfl (any_of HT_.out (by kernel_rfl)) (fun _ _ _ h => h) (Or.inl ⟨by rfl, ?_⟩) ?_ ?_
                rotate_left
                ·
                 intro w'
                 go_simp
                 with_reducible rfl
                rotate_left
                ·
                 simp only [Act.put, sA, sB, sC, i64_w, i32_w]
                 rfl
                refine pure_ (i := 6) (N := some 90) (v := ?_) (a' := ?_) (bA 34 95) rfl rfl (any_of HT_.out (by kernel_rfl)) (fun _ _ _ h => h) (Or.inl ⟨by rfl, ?_⟩) ?_ ?_
                rotate_left
                ·
                 intro w'
                 go_simp
                 with_reducible rfl
                rotate_left
                ·
                 simp only [Act.put, sA, sB, sC, i64_w, i32_w]
                 rfl
                refine pure_ (i := 7) (N := some 91) (v := ?_) (a' := ?_) (bA 34 223) rfl rfl (any_of HT_.out (by kernel_rfl)) (fun _ _ _ h => h) (Or.inl ⟨by rfl, ?_⟩) ?_ ?_
                rotate_left
                ·
                 intro w'
                 go_simp
                 with_reducible rfl
                rotate_left
                ·
                 simp only [Act.put, sA, sB, sC, i64_w, i32_w]
                 rfl
                refine pure_ (i := 8) (N := some 92) (v := ?_) (a' := ?_) (bA 34 479) rfl rfl (any_of HT_.out (by kernel_rfl)) (fun _ _ _ h => h) (Or.inl ⟨by rfl, ?_⟩) ?_ ?_
                rotate_left
                ·
                 intro w'
                 go_simp
                 with_reducible rfl
                rotate_left
                ·
                 simp only [Act.put, sA, sB, sC, i64_w, i32_w]
                 rfl
                refine pure_ (i := 11) (N := some 95) (v := ?_) (a' := ?_) (bA 34 2527) rfl rfl (any_of HT_.out (by kernel_rfl)) (fun _ _ _ h => h) (Or.inl ⟨by rfl, ?_⟩) ?_ ?_
                rotate_left
                ·
                 intro w'
                 go_simp
                 with_reducible rfl
                rotate_left
                ·
                 simp only [Act.put, sA, sB, sC, i64_w, i32_w]
                 rfl
                refine pure_ (i := 12) (N := some 96) (v := ?_) (a' := ?_) (bA 34 6623) rfl rfl (any_of HT_.out (by kernel_rfl)) (fun _ _ _ h => h) (Or.inl ⟨by rfl, ?_⟩) ?_ ?_
                rotate_left
                ·
                 intro w'
                 go_simp
                 with_reducible rfl
                rotate_left
                ·
                 simp only [Act.put, sA, sB, sC, i64_w, i32_w]
                 rfl
                refine take_ (i := 5) (N := some 89) (v := ?_) (a' := ?_) (bA 34 6655) rfl rfl (take_ofW HT_.out HW_.out (by kernel_rfl)) (fun _ _ _ h => h) (Or.inl ⟨by rfl, ?_⟩) hHeld ?_ ?_
                rotate_left
                ·
                 rintro w' ⟨s0, s1, s2, s3⟩
                 go_simp
                 with_reducible rfl
                rotate_left
                ·
                 simp only [Act.put, sA, sB, sC, i64_w, i32_w]
                 rfl
                refine take_ (i := 10) (N := some 94) (v := ?_) (a' := ?_) (bA 34 7679) rfl rfl (take_ofW HT_.out HW_.out (by kernel_rfl)) (fun _ _ _ h => h) (Or.inl ⟨by rfl, ?_⟩) hHeld ?_ ?_
                rotate_left
                ·
                 rintro w' ⟨s0, s1, s2, s3⟩
                 go_simp
                 with_reducible rfl
                rotate_left
                ·
                 simp only [Act.put, sA, sB, sC, i64_w, i32_w]
                 rfl
                refine one_ (i := 9) (N := some 93) (bA 34 8191) rfl rfl (one_of HT_.out (by kernel_rfl)) (by decide) (fun K hK => ?_)
                refine goes_ Try.func15 (by kernel_rfl) rfl #[.agg #[.int .i64 a1_0, .int .i64 a1_1, .int .i64 a1_2, .int .i64 a1_3], .int .i64 (wrap64 ((Int.tmod x7_2 (wrap64 (t141 + 1))) + 1)), .int .i64 (wrap64 (Int.tdiv x7_2 (wrap64 (t141 + 1))))] (by rfl) rfl rfl (by (try simp only [List.map_toArray, List.map_cons, List.map_nil]); first | done | rfl | (simp only [List.length_drop, List.length_take]; rfl)) ?_
                with_reducible refine (crater_Lowers.calls a1_0 a1_1 a1_2 a1_3 (wrap64 ((Int.tmod x7_2 (wrap64 (t141 + 1))) + 1)) (wrap64 (Int.tdiv x7_2 (wrap64 (t141 + 1)))) t163 _ A50.out).mono ?_
                rintro e w65 ⟨rfl, hb⟩
                refine ⟨_, rfl, ?_⟩
                have n0_ := Aside0.mk (Kd.V_below (by (with_reducible repeat (first | apply Kd.V_alloc | apply Kd.V_drewN | apply Kd.V_drew)); exact HO_140003.out) hb)
                have n1_ := Aside0.mk (Kd.R_below (by (with_reducible repeat (first | apply Kd.R_alloc | apply Kd.R_drewN | apply Kd.R_drew)); exact HO_155003.out) hb)
                have n2_ := Aside0.mk (blk_below (g := gb139) (o := .cells #[.int .i64 t141, .int .i64 t142, .int .i64 t143, .slice Ao13 t144.length co13] 46 (0, 0)) (by (with_reducible repeat (first | refine blk_drewN ?_ _ | refine blk_drew ?_ | refine blk_alloc ?_ _)); exact BK139.out) hb)
                have n3_ := Aside0.mk (blk_below (g := gb140) (o := .cells #[.int .i64 a1_0, .int .i64 a1_1, .int .i64 a1_2, .int .i64 a1_3] 23 (0, 0)) (by (with_reducible repeat (first | refine blk_drewN ?_ _ | refine blk_drew ?_ | refine blk_alloc ?_ _)); exact BK140.out) hb)
                have n4_ := Aside0.mk (blk_below (g := gb154) (o := .cells #[.int .i64 t147, .int .i64 t148, .int .i64 t149, .slice Ao20 t150.length co20] 46 (0, 0)) (by (with_reducible repeat (first | refine blk_drewN ?_ _ | refine blk_drew ?_ | refine blk_alloc ?_ _)); exact BK154.out) hb)
                have n5_ := Aside0.mk (below_step (by repeat (first | (with_reducible first | exact HB.out | apply below_alloc | apply pw_below_drewN | apply below_drew1 | refine below_set ?_ GE139.out | refine below_set ?_ GE140.out | refine below_set ?_ GE154.out) | exact HB.out)) hb)
                clear HO_140003
                clear HO_155003
                clear BK139
                clear BK140
                clear BK154
                clear HB
                have HO_140003 := n0_
                have HO_155003 := n1_
                have BK139 := n2_
                have BK140 := n3_
                have BK154 := n4_
                have HB := n5_
                clear n0_ n1_ n2_ n3_ n4_ n5_
                (try clear hb)
                (try clear hb2)
                (try clear hk)
                (try clear hi)
                refine hK.out _ _ ⟨(blk_cell BK140.out 0).trans rfl, (blk_cell BK140.out 1).trans rfl, (blk_cell BK140.out 2).trans rfl, (blk_cell BK140.out 3).trans rfl⟩ (fun hHeld => ?_)
                clear hK K
                refine norm_ (a' := ?_) ?_ ?_
                rotate_left
                ·
                 show Act.put _ (some 93) _ = _
                 simp only [Act.put, sA, sB, sC, i64_w, i32_w]
                 rfl
                refine one_ (i := 13) (N := some 97) (bA 34 16383) rfl rfl (one_of HT_.out (by kernel_rfl)) (by decide) (fun K hK => ?_)
                refine goes_ Try.func15 (by kernel_rfl) rfl #[.agg #[.int .i64 a1_0, .int .i64 a1_1, .int .i64 a1_2, .int .i64 a1_3], .int .i64 (Int.tmod x7_2 (wrap64 (t141 + 1))), .int .i64 (wrap64 (Int.tdiv x7_2 (wrap64 (t141 + 1))))] (by rfl) rfl rfl (by (try simp only [List.map_toArray, List.map_cons, List.map_nil]); first | done | rfl | (simp only [List.length_drop, List.length_take]; rfl)) ?_
                with_reducible refine (crater_Lowers.calls a1_0 a1_1 a1_2 a1_3 (Int.tmod x7_2 (wrap64 (t141 + 1))) (wrap64 (Int.tdiv x7_2 (wrap64 (t141 + 1)))) t164 _ A51.out).mono ?_
                rintro e w66 ⟨rfl, hb⟩
                refine ⟨_, rfl, ?_⟩
                have n0_ := Aside0.mk (Kd.V_below (by (with_reducible repeat (first | apply Kd.V_alloc | apply Kd.V_drewN | apply Kd.V_drew)); exact HO_140003.out) hb)
                have n1_ := Aside0.mk (Kd.R_below (by (with_reducible repeat (first | apply Kd.R_alloc | apply Kd.R_drewN | apply Kd.R_drew)); exact HO_155003.out) hb)
                have n2_ := Aside0.mk (blk_below (g := gb139) (o := .cells #[.int .i64 t141, .int .i64 t142, .int .i64 t143, .slice Ao13 t144.length co13] 46 (0, 0)) (by (with_reducible repeat (first | refine blk_drewN ?_ _ | refine blk_drew ?_ | refine blk_alloc ?_ _)); exact BK139.out) hb)
                have n3_ := Aside0.mk (blk_below (g := gb140) (o := .cells #[.int .i64 a1_0, .int .i64 a1_1, .int .i64 a1_2, .int .i64 a1_3] 23 (0, 0)) (by (with_reducible repeat (first | refine blk_drewN ?_ _ | refine blk_drew ?_ | refine blk_alloc ?_ _)); exact BK140.out) hb)
                have n4_ := Aside0.mk (blk_below (g := gb154) (o := .cells #[.int .i64 t147, .int .i64 t148, .int .i64 t149, .slice Ao20 t150.length co20] 46 (0, 0)) (by (with_reducible repeat (first | refine blk_drewN ?_ _ | refine blk_drew ?_ | refine blk_alloc ?_ _)); exact BK154.out) hb)
                have n5_ := Aside0.mk (below_step (by repeat (first | (with_reducible first | exact HB.out | apply below_alloc | apply pw_below_drewN | apply below_drew1 | refine below_set ?_ GE139.out | refine below_set ?_ GE140.out | refine below_set ?_ GE154.out) | exact HB.out)) hb)
                clear HO_140003
                clear HO_155003
                clear BK139
                clear BK140
                clear BK154
                clear HB
                have HO_140003 := n0_
                have HO_155003 := n1_
                have BK139 := n2_
                have BK140 := n3_
                have BK154 := n4_
                have HB := n5_
                clear n0_ n1_ n2_ n3_ n4_ n5_
                (try clear hb)
                (try clear hb2)
                (try clear hk)
                (try clear hi)
                refine hK.out _ _ ⟨(blk_cell BK140.out 0).trans rfl, (blk_cell BK140.out 1).trans rfl, (blk_cell BK140.out 2).trans rfl, (blk_cell BK140.out 3).trans rfl⟩ (fun hHeld => ?_)
                clear hK K
                refine norm_ (a' := ?_) ?_ ?_
                rotate_left
                ·
                 show Act.put _ (some 97) _ = _
                 simp only [Act.put, sA, sB, sC, i64_w, i32_w]
                 rfl
                refine pure_ (i := 14) (N := some 98) (v := ?_) (a' := ?_) (bA 34 32767) rfl rfl (any_of HT_.out (by kernel_rfl)) (fun _ _ _ h => h) (Or.inl ⟨by rfl, ?_⟩) ?_ ?_
                rotate_left
                ·
                 intro w'
                 go_simp
                 with_reducible rfl
                rotate_left
                ·
                 simp only [Act.put, sA, sB, sC, i64_w, i32_w]
                 rfl
                refine pure_ (i := 15) (N := some 99) (v := ?_) (a' := ?_) (bA 34 65535) rfl rfl (any_of HT_.out (by kernel_rfl)) (fun _ _ _ h => h) (Or.inl ⟨by rfl, ?_⟩) ?_ ?_
                rotate_left
                ·
                 intro w'
                 go_simp
                 with_reducible rfl
                rotate_left
                ·
                 simp only [Act.put, sA, sB, sC, i64_w, i32_w]
                 rfl
                refine pure_ (i := 16) (N := some 100) (v := ?_) (a' := ?_) (bA 34 131071) rfl rfl (any_of HT_.out (by kernel_rfl)) (fun _ _ _ h => h) (Or.inl ⟨by rfl, ?_⟩) ?_ ?_
                rotate_left
                ·
                 intro w'
                 go_simp
                 with_reducible rfl
                rotate_left
                ·
                 simp only [Act.put, sA, sB, sC, i64_w, i32_w]
                 rfl
                refine pure_ (i := 17) (N := some 101) (v := ?_) (a' := ?_) (bA 34 262143) rfl rfl (any_of HT_.out (by kernel_rfl)) (fun _ _ _ h => h) (Or.inl ⟨by rfl, ?_⟩) ?_ ?_
                rotate_left
                ·
                 intro w'
                 go_simp
                 with_reducible rfl
                rotate_left
                ·
                 simp only [Act.put, sA, sB, sC, i64_w, i32_w]
                 rfl
                refine pure_ (i := 18) (N := some 102) (v := ?_) (a' := ?_) (bA 34 524287) rfl rfl (any_of HT_.out (by kernel_rfl)) (fun _ _ _ h => h) (Or.inl ⟨by rfl, ?_⟩) ?_ ?_
                rotate_left
                ·
                 intro w'
                 go_simp
                 with_reducible rfl
                rotate_left
                ·
                 simp only [Act.put, sA, sB, sC, i64_w, i32_w]
                 rfl
                refine take_ (i := 19) (N := some 103) (v := ?_) (a' := ?_) (bA 34 1048575) rfl rfl (take_ofW HT_.out HW_.out (by kernel_rfl)) (fun _ _ _ h => h) (Or.inl ⟨by rfl, ?_⟩) hHeld ?_ ?_
                rotate_left
                ·
                 rintro w' ⟨s0, s1, s2, s3⟩
                 go_simp
                 with_reducible rfl
                rotate_left
                ·
                 simp only [Act.put, sA, sB, sC, i64_w, i32_w]
                 rfl
                refine pure_ (i := 20) (N := some 104) (v := ?_) (a' := ?_) (bA 34 2097151) rfl rfl (any_of HT_.out (by kernel_rfl)) (fun _ _ _ h => h) (Or.inl ⟨by rfl, ?_⟩) ?_ ?_
                rotate_left
                ·
                 intro w'
                 go_simp
                 with_reducible rfl
                rotate_left
                ·
                 simp only [Act.put, sA, sB, sC, i64_w, i32_w]
                 rfl
                refine pure_ (i := 21) (N := some 105) (v := ?_) (a' := ?_) (bA 34 4194303) rfl rfl (any_of HT_.out (by kernel_rfl)) (fun _ _ _ h => h) (Or.inl ⟨by rfl, ?_⟩) ?_ ?_
                rotate_left
                ·
                 intro w'
                 go_simp
                 with_reducible rfl
                rotate_left
                ·
                 simp only [Act.put, sA, sB, sC, i64_w, i32_w]
                 rfl
                refine pure_ (i := 22) (N := some 106) (v := undef) (a' := ?_) (bA 34 8388607) rfl rfl (any_of HT_.out (by kernel_rfl)) (fun _ _ _ h => h) (Or.inr ⟨by rfl, rfl⟩) ?_ ?_
                rotate_left
                ·
                 simp only [Act.put, sA, sB, sC, i64_w, i32_w]
                 rfl
                refine pure_ (i := 23) (N := some 107) (v := undef) (a' := ?_) (bA 34 16777215) rfl rfl (any_of HT_.out (by kernel_rfl)) (fun _ _ _ h => h) (Or.inr ⟨by rfl, rfl⟩) ?_ ?_
                rotate_left
                ·
                 simp only [Act.put, sA, sB, sC, i64_w, i32_w]
                 rfl
                refine pure_ (i := 24) (N := some 108) (v := undef) (a' := ?_) (bA 34 33554431) rfl rfl (any_of HT_.out (by kernel_rfl)) (fun _ _ _ h => h) (Or.inr ⟨by rfl, rfl⟩) ?_ ?_
                rotate_left
                ·
                 simp only [Act.put, sA, sB, sC, i64_w, i32_w]
                 rfl
                refine pure_ (i := 25) (N := some 109) (v := undef) (a' := ?_) (bA 34 67108863) rfl rfl (any_of HT_.out (by kernel_rfl)) (fun _ _ _ h => h) (Or.inr ⟨by rfl, rfl⟩) ?_ ?_
                rotate_left
                ·
                 simp only [Act.put, sA, sB, sC, i64_w, i32_w]
                 rfl
                refine pure_ (i := 26) (N := some 110) (v := undef) (a' := ?_) (bA 34 134217727) rfl rfl (any_of HT_.out (by kernel_rfl)) (fun _ _ _ h => h) (Or.inr ⟨by rfl, rfl⟩) ?_ ?_
                rotate_left
                ·
                 simp only [Act.put, sA, sB, sC, i64_w, i32_w]
                 rfl
                refine pure_ (i := 27) (N := some 111) (v := undef) (a' := ?_) (bA 34 268435455) rfl rfl (any_of HT_.out (by kernel_rfl)) (fun _ _ _ h => h) (Or.inr ⟨by rfl, rfl⟩) ?_ ?_
                rotate_left
                ·
                 simp only [Act.put, sA, sB, sC, i64_w, i32_w]
                 rfl
                refine pure_ (i := 28) (N := some 112) (v := undef) (a' := ?_) (bA 34 536870911) rfl rfl (any_of HT_.out (by kernel_rfl)) (fun _ _ _ h => h) (Or.inr ⟨by rfl, rfl⟩) ?_ ?_
                rotate_left
                ·
                 simp only [Act.put, sA, sB, sC, i64_w, i32_w]
                 rfl
                refine pure_ (i := 29) (N := some 113) (v := undef) (a' := ?_) (bA 34 1073741823) rfl rfl (any_of HT_.out (by kernel_rfl)) (fun _ _ _ h => h) (Or.inr ⟨by rfl, rfl⟩) ?_ ?_
                rotate_left
                ·
                 simp only [Act.put, sA, sB, sC, i64_w, i32_w]
                 rfl
                refine pure_ (i := 30) (N := some 114) (v := undef) (a' := ?_) (bA 34 2147483647) rfl rfl (any_of HT_.out (by kernel_rfl)) (fun _ _ _ h => h) (Or.inr ⟨by rfl, rfl⟩) ?_ ?_
                rotate_left
                ·
                 simp only [Act.put, sA, sB, sC, i64_w, i32_w]
                 rfl
                refine pure_ (i := 31) (N := some 115) (v := undef) (a' := ?_) (bA 34 4294967295) rfl rfl (any_of HT_.out (by kernel_rfl)) (fun _ _ _ h => h) (Or.inr ⟨by rfl, rfl⟩) ?_ ?_
                rotate_left
                ·
                 simp only [Act.put, sA, sB, sC, i64_w, i32_w]
                 rfl
                refine pure_ (i := 32) (N := some 116) (v := ?_) (a' := ?_) (bA 34 8589934591) rfl rfl (any_of HT_.out (by kernel_rfl)) (fun _ _ _ h => h) (Or.inl ⟨by rfl, ?_⟩) ?_ ?_
                rotate_left
                ·
                 intro w'
                 go_simp
                 with_reducible rfl
                rotate_left
                ·
                 simp only [Act.put, sA, sB, sC, i64_w, i32_w]
                 rfl
                refine pure_ (i := 33) (N := some 117) (v := ?_) (a' := ?_) (bA 34 17179869183) rfl rfl (any_of HT_.out (by kernel_rfl)) (fun _ _ _ h => h) (Or.inl ⟨by rfl, ?_⟩) ?_ ?_
                rotate_left
                ·
                 intro w'
                 go_simp
                 with_reducible rfl
                rotate_left
                ·
                 simp only [Act.put, sA, sB, sC, i64_w, i32_w]
                 rfl
                refine done_ (done_of HT_.out (by kernel_rfl)) ?_
                try go_wp2
                go_meet
                case rel => exact ⟨_, (false), (by first | rfl | (simp; done) | (simp [*]; done)), H', ⟨by have := HJ5.out; have := HK2.out; have := HJ36.out; first | omega | exact Nat.le_refl _⟩, ⟨by (with_reducible repeat (first | apply Kd.V_alloc | apply Kd.V_drewN | apply Kd.V_drew)); exact HO_140003.out⟩, ⟨by (with_reducible repeat (first | apply Kd.R_alloc | apply Kd.R_drewN | apply Kd.R_drew)); exact HO_155003.out⟩, ⟨by (with_reducible repeat (first | refine blk_drewN ?_ _ | refine blk_drew ?_ | refine blk_alloc ?_ _)); exact BK139.out⟩, ⟨by (with_reducible repeat (first | refine blk_drewN ?_ _ | refine blk_drew ?_ | refine blk_alloc ?_ _)); exact BK140.out⟩, ⟨by (with_reducible repeat (first | refine blk_drewN ?_ _ | refine blk_drew ?_ | refine blk_alloc ?_ _)); exact BK154.out⟩, ⟨by repeat (first | (with_reducible first | exact HB.out | apply below_alloc | apply pw_below_drewN | apply below_drew1 | refine below_set ?_ GE139.out | refine below_set ?_ GE140.out | refine below_set ?_ GE154.out) | exact HB.out)⟩⟩
             ·
              rw [if_neg c49] at H
              have c49b0 : decide (a1_0 ≤ (Int.tmod x7_2 (wrap64 (t141 + 1)))) = false := decide_eq_false c49
              clear c49
              (first | rw [c49b0] | (simp only [i64_w, i32_w]; rw [c49b0]) | skip)
              by_cases c67 : (wrap64 (Int.tdiv x7_2 (wrap64 (t141 + 1)))) ≤ a1_1
              ·
               rw [if_pos c67] at H
               have c67b0 : decide ((wrap64 (Int.tdiv x7_2 (wrap64 (t141 + 1)))) ≤ a1_1) = true := decide_eq_true c67
               clear c67
               replace H := Option.bind_eq_some_iff.mp H
               obtain ⟨t167, A680, H⟩ := H
               replace H : ((crater_Lowers.f a1_0 a1_1 a1_2 a1_3 (Int.tmod x7_2 (wrap64 (t141 + 1))) (wrap64 (Int.tdiv x7_2 (wrap64 (t141 + 1))))).bind fun t168 => (bivouaclaw09_CraterFalls.j3 kj36 x7_2 (decide (t167 > t168)) t141 t142 t143 t144 a1_0 a1_1 a1_2 a1_3 t147 t148 t149 t150)) = some r := H
               have A68 := Aside0.mk A680
               clear A680
               replace H := Option.bind_eq_some_iff.mp H
               obtain ⟨t168, A690, H⟩ := H
               replace H : (bivouaclaw09_CraterFalls.j3 kj36 x7_2 (decide (t167 > t168)) t141 t142 t143 t144 a1_0 a1_1 a1_2 a1_3 t147 t148 t149 t150) = some r := H
               have A69 := Aside0.mk A690
               clear A690
               have H' := Aside0.mk H
               clear H
               try go_wp2
               have n0_ := Aside0.mk (Kd.V_drew HO_140003.out)
               have n1_ := Aside0.mk (Kd.R_drew HO_155003.out)
               have n2_ := Aside0.mk (blk_drew BK139.out)
               have n3_ := Aside0.mk (blk_drew BK140.out)
               have n4_ := Aside0.mk (blk_drew BK154.out)
               have n5_ := Aside0.mk (below_drew1 HB.out)
               clear HO_140003
               clear HO_155003
               clear BK139
               clear BK140
               clear BK154
               clear HB
               have HO_140003 := n0_
               have HO_155003 := n1_
               have BK139 := n2_
               have BK140 := n3_
               have BK154 := n4_
               have HB := n5_
               clear n0_ n1_ n2_ n3_ n4_ n5_
               refine start_ (n := 34) (S := fun w' => w'.cell? ⟨gb140, 0, none⟩ = some (.int .i64 a1_0) ∧ w'.cell? ⟨gb140, 1, none⟩ = some (.int .i64 a1_1) ∧ w'.cell? ⟨gb140, 2, none⟩ = some (.int .i64 a1_2) ∧ w'.cell? ⟨gb140, 3, none⟩ = some (.int .i64 a1_3)) (ds := []) (bA 34 0) (by kernel_rfl) rfl rfl ⟨(blk_cell BK140.out 0).trans rfl, (blk_cell BK140.out 1).trans rfl, (blk_cell BK140.out 2).trans rfl, (blk_cell BK140.out 3).trans rfl⟩ (fun hHeld => ?_); refine with_tabW bivouaclaw09_CraterFalls.tab13 bivouaclaw09_CraterFalls.bits13 (fun HT_ HW_ => ?_)
               generalize wc.drew = w70 at HO_140003 HO_155003 BK139 BK140 BK154 HB hHeld ⊢
               refine pure_ (i := 0) (N := some 84) (v := ?_) (a' := ?_) (bA 34 1) rfl rfl (any_of HT_.out (by kernel_rfl)) (fun _ _ _ h => h) (Or.inl ⟨by rfl, ?_⟩) ?_ ?_
               rotate_left
               ·
                intro w'
                go_simp
                with_reducible rfl
               rotate_left
               ·
                simp only [Act.put, sA, sB, sC, i64_w, i32_w]
                rfl
               refine pure_ (i := 1) (N := some 85) (v := ?_) (a' := ?_) (bA 34 3) rfl rfl (any_of HT_.out (by kernel_rfl)) (fun _ _ _ h => h) (Or.inl ⟨by rfl, ?_⟩) ?_ ?_
               rotate_left
               ·
                intro w'
                go_simp
                with_reducible rfl
               rotate_left
               ·
                simp only [Act.put, sA, sB, sC, i64_w, i32_w]
                rfl
               refine take_ (i := 2) (N := some 86) (v := ?_) (a' := ?_) (bA 34 7) rfl rfl (take_ofW HT_.out HW_.out (by kernel_rfl)) (fun _ _ _ h => h) (Or.inl ⟨by rfl, ?_⟩) hHeld ?_ ?_
               rotate_left
               ·
                rintro w' ⟨s0, s1, s2, s3⟩
                go_simp
                with_reducible rfl
               rotate_left
               ·
                simp only [Act.put, sA, sB, sC, i64_w, i32_w]
                rfl
               refine pure_ (i := 3) (N := some 87) (v := ?_) (a' := ?_) (bA 34 15) rfl rfl (any_of HT_.out (by kernel_rfl)) (fun _ _ _ h => h) (Or.inl ⟨by rfl, ?_⟩) ?_ ?_
               rotate_left
               ·
                intro w'
                go_simp
                with_reducible rfl
               rotate_left
               ·
                simp only [Act.put, sA, sB, sC, i64_w, i32_w]
                rfl
               refine pure_ (i := 4) (N := some 88) (v := ?_) (a' := ?_) (bA 34 31) rfl rfl (any_of HT_.out (by kernel_rfl)) (fun _ _ _ h => h) (Or.inl ⟨by rfl, ?_⟩) ?_ ?_
               rotate_left
               ·
                intro w'
                go_simp
                with_reducible rfl
               rotate_left
               ·
                simp only [Act.put, sA, sB, sC, i64_w, i32_w]
                rfl
               refine pure_ (i := 5) (N := some 89) (v := undef) (a' := ?_) (bA 34 63) rfl rfl (any_of HT_.out (by kernel_rfl)) (fun _ _ _ h => h) (Or.inr ⟨by rfl, rfl⟩) ?_ ?_
               rotate_left
               ·
                simp only [Act.put, sA, sB, sC, i64_w, i32_w]
                rfl
               refine pure_ (i := 6) (N := some 90) (v := undef) (a' := ?_) (bA 34 127) rfl rfl (any_of HT_.out (by kernel_rfl)) (fun _ _ _ h => h) (Or.inr ⟨by rfl, rfl⟩) ?_ ?_
               rotate_left
               ·
                simp only [Act.put, sA, sB, sC, i64_w, i32_w]
                rfl
               refine pure_ (i := 7) (N := some 91) (v := undef) (a' := ?_) (bA 34 255) rfl rfl (any_of HT_.out (by kernel_rfl)) (fun _ _ _ h => h) (Or.inr ⟨by rfl, rfl⟩) ?_ ?_
               rotate_left
               ·
                simp only [Act.put, sA, sB, sC, i64_w, i32_w]
                rfl
               refine pure_ (i := 8) (N := some 92) (v := undef) (a' := ?_) (bA 34 511) rfl rfl (any_of HT_.out (by kernel_rfl)) (fun _ _ _ h => h) (Or.inr ⟨by rfl, rfl⟩) ?_ ?_
               rotate_left
               ·
                simp only [Act.put, sA, sB, sC, i64_w, i32_w]
                rfl
               refine pure_ (i := 9) (N := some 93) (v := undef) (a' := ?_) (bA 34 1023) rfl rfl (any_of HT_.out (by kernel_rfl)) (fun _ _ _ h => h) (Or.inr ⟨by rfl, rfl⟩) ?_ ?_
               rotate_left
               ·
                simp only [Act.put, sA, sB, sC, i64_w, i32_w]
                rfl
               refine pure_ (i := 10) (N := some 94) (v := undef) (a' := ?_) (bA 34 2047) rfl rfl (any_of HT_.out (by kernel_rfl)) (fun _ _ _ h => h) (Or.inr ⟨by rfl, rfl⟩) ?_ ?_
               rotate_left
               ·
                simp only [Act.put, sA, sB, sC, i64_w, i32_w]
                rfl
               refine pure_ (i := 11) (N := some 95) (v := undef) (a' := ?_) (bA 34 4095) rfl rfl (any_of HT_.out (by kernel_rfl)) (fun _ _ _ h => h) (Or.inr ⟨by rfl, rfl⟩) ?_ ?_
               rotate_left
               ·
                simp only [Act.put, sA, sB, sC, i64_w, i32_w]
                rfl
               refine pure_ (i := 12) (N := some 96) (v := undef) (a' := ?_) (bA 34 8191) rfl rfl (any_of HT_.out (by kernel_rfl)) (fun _ _ _ h => h) (Or.inr ⟨by rfl, rfl⟩) ?_ ?_
               rotate_left
               ·
                simp only [Act.put, sA, sB, sC, i64_w, i32_w]
                rfl
               refine pure_ (i := 13) (N := some 97) (v := undef) (a' := ?_) (bA 34 16383) rfl rfl (any_of HT_.out (by kernel_rfl)) (fun _ _ _ h => h) (Or.inr ⟨by rfl, rfl⟩) ?_ ?_
               rotate_left
               ·
                simp only [Act.put, sA, sB, sC, i64_w, i32_w]
                rfl
               refine pure_ (i := 14) (N := some 98) (v := undef) (a' := ?_) (bA 34 32767) rfl rfl (any_of HT_.out (by kernel_rfl)) (fun _ _ _ h => h) (Or.inr ⟨by rfl, rfl⟩) ?_ ?_
               rotate_left
               ·
                simp only [Act.put, sA, sB, sC, i64_w, i32_w]
                rfl
               refine pure_ (i := 15) (N := some 99) (v := ?_) (a' := ?_) (bA 34 65535) rfl rfl (any_of HT_.out (by kernel_rfl)) (fun _ _ _ h => h) (Or.inl ⟨by rfl, ?_⟩) ?_ ?_
               rotate_left
               ·
                intro w'
                go_simp
                with_reducible rfl
               rotate_left
               ·
                simp only [Act.put, sA, sB, sC, i64_w, i32_w]
                rfl
               refine pure_ (i := 16) (N := some 100) (v := ?_) (a' := ?_) (bA 34 131071) rfl rfl (any_of HT_.out (by kernel_rfl)) (fun _ _ _ h => h) (Or.inl ⟨by rfl, ?_⟩) ?_ ?_
               rotate_left
               ·
                intro w'
                go_simp
                with_reducible rfl
               rotate_left
               ·
                simp only [Act.put, sA, sB, sC, i64_w, i32_w]
                rfl
               refine pure_ (i := 17) (N := some 101) (v := ?_) (a' := ?_) (bA 34 262143) rfl rfl (any_of HT_.out (by kernel_rfl)) (fun _ _ _ h => h) (Or.inl ⟨by rfl, ?_⟩) ?_ ?_
               rotate_left
               ·
                intro w'
                go_simp
                with_reducible rfl
               rotate_left
               ·
                simp only [Act.put, sA, sB, sC, i64_w, i32_w]
                rfl
               refine pure_ (i := 18) (N := some 102) (v := ?_) (a' := ?_) (bA 34 524287) rfl rfl (any_of HT_.out (by kernel_rfl)) (fun _ _ _ h => h) (Or.inl ⟨by rfl, ?_⟩) ?_ ?_
               rotate_left
               ·
                intro w'
                go_simp
                with_reducible rfl
               rotate_left
               ·
                simp only [Act.put, sA, sB, sC, i64_w, i32_w]
                rfl
               refine take_ (i := 19) (N := some 103) (v := ?_) (a' := ?_) (bA 34 1048575) rfl rfl (take_ofW HT_.out HW_.out (by kernel_rfl)) (fun _ _ _ h => h) (Or.inl ⟨by rfl, ?_⟩) hHeld ?_ ?_
               rotate_left
               ·
                rintro w' ⟨s0, s1, s2, s3⟩
                go_simp
                with_reducible rfl
               rotate_left
               ·
                simp only [Act.put, sA, sB, sC, i64_w, i32_w]
                rfl
               refine pure_ (i := 20) (N := some 104) (v := ?_) (a' := ?_) (bA 34 2097151) rfl rfl (any_of HT_.out (by kernel_rfl)) (fun _ _ _ h => h) (Or.inl ⟨by rfl, ?_⟩) ?_ ?_
               rotate_left
               ·
                intro w'
                go_simp
                with_reducible rfl
               rotate_left
               ·
                simp only [Act.put, sA, sB, sC, i64_w, i32_w]
                rfl
               refine pure_ (i := 21) (N := some 105) (v := ?_) (a' := ?_) (bA 34 4194303) rfl rfl (any_of HT_.out (by kernel_rfl)) (fun _ _ _ h => h) (Or.inl ⟨by rfl, ?_⟩) ?_ ?_
               rotate_left
               ·
                intro w'
                go_simp
                with_reducible rfl
               rotate_left
               ·
                simp only [Act.put, sA, sB, sC, i64_w, i32_w]
                rfl
               refine pure_ (i := 23) (N := some 107) (v := ?_) (a' := ?_) (bA 34 12582911) rfl rfl (any_of HT_.out (by kernel_rfl)) (fun _ _ _ h => h) (Or.inl ⟨by rfl, ?_⟩) ?_ ?_
               rotate_left
               ·
                intro w'
                go_simp
                with_reducible rfl
               rotate_left
               ·
                simp only [Act.put, sA, sB, sC, i64_w, i32_w]
                rfl
               refine pure_ (i := 24) (N := some 108) (v := ?_) (a' := ?_) (bA 34 29360127) rfl rfl (any_of HT_.out (by kernel_rfl)) (fun _ _ _ h => h) (Or.inl ⟨by rfl, ?_⟩) ?_ ?_
               rotate_left
               ·
                intro w'
                go_simp
                with_reducible rfl
               rotate_left
               ·
                simp only [Act.put, sA, sB, sC, i64_w, i32_w]
                rfl
               refine pure_ (i := 25) (N := some 109) (v := ?_) (a' := ?_) (bA 34 62914559) rfl rfl (any_of HT_.out (by kernel_rfl)) (fun _ _ _ h => h) (Or.inl ⟨by rfl, ?_⟩) ?_ ?_
               rotate_left
               ·
                intro w'
                go_simp
                with_reducible rfl
               rotate_left
               ·
                simp only [Act.put, sA, sB, sC, i64_w, i32_w]
                rfl
               refine pure_ (i := 28) (N := some 112) (v := ?_) (a' := ?_) (bA 34 331350015) rfl rfl (any_of HT_.out (by kernel_rfl)) (fun _ _ _ h => h) (Or.inl ⟨by rfl, ?_⟩) ?_ ?_
               rotate_left
               ·
                intro w'
                go_simp
                with_reducible rfl
               rotate_left
               ·
                simp only [Act.put, sA, sB, sC, i64_w, i32_w]
                rfl
               refine pure_ (i := 29) (N := some 113) (v := ?_) (a' := ?_) (bA 34 868220927) rfl rfl (any_of HT_.out (by kernel_rfl)) (fun _ _ _ h => h) (Or.inl ⟨by rfl, ?_⟩) ?_ ?_
               rotate_left
               ·
                intro w'
                go_simp
                with_reducible rfl
               rotate_left
               ·
                simp only [Act.put, sA, sB, sC, i64_w, i32_w]
                rfl
               refine take_ (i := 22) (N := some 106) (v := ?_) (a' := ?_) (bA 34 872415231) rfl rfl (take_ofW HT_.out HW_.out (by kernel_rfl)) (fun _ _ _ h => h) (Or.inl ⟨by rfl, ?_⟩) hHeld ?_ ?_
               rotate_left
               ·
                rintro w' ⟨s0, s1, s2, s3⟩
                go_simp
                with_reducible rfl
               rotate_left
               ·
                simp only [Act.put, sA, sB, sC, i64_w, i32_w]
                rfl
               refine take_ (i := 27) (N := some 111) (v := ?_) (a' := ?_) (bA 34 1006632959) rfl rfl (take_ofW HT_.out HW_.out (by kernel_rfl)) (fun _ _ _ h => h) (Or.inl ⟨by rfl, ?_⟩) hHeld ?_ ?_
               rotate_left
               ·
                rintro w' ⟨s0, s1, s2, s3⟩
                go_simp
                with_reducible rfl
               rotate_left
               ·
                simp only [Act.put, sA, sB, sC, i64_w, i32_w]
                rfl
               refine one_ (i := 26) (N := some 110) (bA 34 1073741823) rfl rfl (one_of HT_.out (by kernel_rfl)) (by decide) (fun K hK => ?_)
               refine goes_ Try.func15 (by kernel_rfl) rfl #[.agg #[.int .i64 a1_0, .int .i64 a1_1, .int .i64 a1_2, .int .i64 a1_3], .int .i64 (Int.tmod x7_2 (wrap64 (t141 + 1))), .int .i64 (wrap64 ((wrap64 (Int.tdiv x7_2 (wrap64 (t141 + 1)))) - 1))] (by rfl) rfl rfl (by (try simp only [List.map_toArray, List.map_cons, List.map_nil]); first | done | rfl | (simp only [List.length_drop, List.length_take]; rfl)) ?_
               with_reducible refine (crater_Lowers.calls a1_0 a1_1 a1_2 a1_3 (Int.tmod x7_2 (wrap64 (t141 + 1))) (wrap64 ((wrap64 (Int.tdiv x7_2 (wrap64 (t141 + 1)))) - 1)) t167 _ A68.out).mono ?_
               rintro e w71 ⟨rfl, hb⟩
               refine ⟨_, rfl, ?_⟩
               have n0_ := Aside0.mk (Kd.V_below (by (with_reducible repeat (first | apply Kd.V_alloc | apply Kd.V_drewN | apply Kd.V_drew)); exact HO_140003.out) hb)
               have n1_ := Aside0.mk (Kd.R_below (by (with_reducible repeat (first | apply Kd.R_alloc | apply Kd.R_drewN | apply Kd.R_drew)); exact HO_155003.out) hb)
               have n2_ := Aside0.mk (blk_below (g := gb139) (o := .cells #[.int .i64 t141, .int .i64 t142, .int .i64 t143, .slice Ao13 t144.length co13] 46 (0, 0)) (by (with_reducible repeat (first | refine blk_drewN ?_ _ | refine blk_drew ?_ | refine blk_alloc ?_ _)); exact BK139.out) hb)
               have n3_ := Aside0.mk (blk_below (g := gb140) (o := .cells #[.int .i64 a1_0, .int .i64 a1_1, .int .i64 a1_2, .int .i64 a1_3] 23 (0, 0)) (by (with_reducible repeat (first | refine blk_drewN ?_ _ | refine blk_drew ?_ | refine blk_alloc ?_ _)); exact BK140.out) hb)
               have n4_ := Aside0.mk (blk_below (g := gb154) (o := .cells #[.int .i64 t147, .int .i64 t148, .int .i64 t149, .slice Ao20 t150.length co20] 46 (0, 0)) (by (with_reducible repeat (first | refine blk_drewN ?_ _ | refine blk_drew ?_ | refine blk_alloc ?_ _)); exact BK154.out) hb)
               have n5_ := Aside0.mk (below_step (by repeat (first | (with_reducible first | exact HB.out | apply below_alloc | apply pw_below_drewN | apply below_drew1 | refine below_set ?_ GE139.out | refine below_set ?_ GE140.out | refine below_set ?_ GE154.out) | exact HB.out)) hb)
               clear HO_140003
               clear HO_155003
               clear BK139
               clear BK140
               clear BK154
               clear HB
               have HO_140003 := n0_
               have HO_155003 := n1_
               have BK139 := n2_
               have BK140 := n3_
               have BK154 := n4_
               have HB := n5_
               clear n0_ n1_ n2_ n3_ n4_ n5_
               (try clear hb)
               (try clear hb2)
               (try clear hk)
               (try clear hi)
               refine hK.out _ _ ⟨(blk_cell BK140.out 0).trans rfl, (blk_cell BK140.out 1).trans rfl, (blk_cell BK140.out 2).trans rfl, (blk_cell BK140.out 3).trans rfl⟩ (fun hHeld => ?_)
               clear hK K
               refine norm_ (a' := ?_) ?_ ?_
               rotate_left
               ·
                show Act.put _ (some 110) _ = _
                simp only [Act.put, sA, sB, sC, i64_w, i32_w]
                rfl
               refine one_ (i := 30) (N := some 114) (bA 34 2147483647) rfl rfl (one_of HT_.out (by kernel_rfl)) (by decide) (fun K hK => ?_)
               refine goes_ Try.func15 (by kernel_rfl) rfl #[.agg #[.int .i64 a1_0, .int .i64 a1_1, .int .i64 a1_2, .int .i64 a1_3], .int .i64 (Int.tmod x7_2 (wrap64 (t141 + 1))), .int .i64 (wrap64 (Int.tdiv x7_2 (wrap64 (t141 + 1))))] (by rfl) rfl rfl (by (try simp only [List.map_toArray, List.map_cons, List.map_nil]); first | done | rfl | (simp only [List.length_drop, List.length_take]; rfl)) ?_
               with_reducible refine (crater_Lowers.calls a1_0 a1_1 a1_2 a1_3 (Int.tmod x7_2 (wrap64 (t141 + 1))) (wrap64 (Int.tdiv x7_2 (wrap64 (t141 + 1)))) t168 _ A69.out).mono ?_
               rintro e w72 ⟨rfl, hb⟩
               refine ⟨_, rfl, ?_⟩
               have n0_ := Aside0.mk (Kd.V_below (by (with_reducible repeat (first | apply Kd.V_alloc | apply Kd.V_drewN | apply Kd.V_drew)); exact HO_140003.out) hb)
               have n1_ := Aside0.mk (Kd.R_below (by (with_reducible repeat (first | apply Kd.R_alloc | apply Kd.R_drewN | apply Kd.R_drew)); exact HO_155003.out) hb)
               have n2_ := Aside0.mk (blk_below (g := gb139) (o := .cells #[.int .i64 t141, .int .i64 t142, .int .i64 t143, .slice Ao13 t144.length co13] 46 (0, 0)) (by (with_reducible repeat (first | refine blk_drewN ?_ _ | refine blk_drew ?_ | refine blk_alloc ?_ _)); exact BK139.out) hb)
               have n3_ := Aside0.mk (blk_below (g := gb140) (o := .cells #[.int .i64 a1_0, .int .i64 a1_1, .int .i64 a1_2, .int .i64 a1_3] 23 (0, 0)) (by (with_reducible repeat (first | refine blk_drewN ?_ _ | refine blk_drew ?_ | refine blk_alloc ?_ _)); exact BK140.out) hb)
               have n4_ := Aside0.mk (blk_below (g := gb154) (o := .cells #[.int .i64 t147, .int .i64 t148, .int .i64 t149, .slice Ao20 t150.length co20] 46 (0, 0)) (by (with_reducible repeat (first | refine blk_drewN ?_ _ | refine blk_drew ?_ | refine blk_alloc ?_ _)); exact BK154.out) hb)
               have n5_ := Aside0.mk (below_step (by repeat (first | (with_reducible first | exact HB.out | apply below_alloc | apply pw_below_drewN | apply below_drew1 | refine below_set ?_ GE139.out | refine below_set ?_ GE140.out | refine below_set ?_ GE154.out) | exact HB.out)) hb)
               clear HO_140003
               clear HO_155003
               clear BK139
               clear BK140
               clear BK154
               clear HB
               have HO_140003 := n0_
               have HO_155003 := n1_
               have BK139 := n2_
               have BK140 := n3_
               have BK154 := n4_
               have HB := n5_
               clear n0_ n1_ n2_ n3_ n4_ n5_
               (try clear hb)
               (try clear hb2)
               (try clear hk)
               (try clear hi)
               refine hK.out _ _ ⟨(blk_cell BK140.out 0).trans rfl, (blk_cell BK140.out 1).trans rfl, (blk_cell BK140.out 2).trans rfl, (blk_cell BK140.out 3).trans rfl⟩ (fun hHeld => ?_)
               clear hK K
               refine norm_ (a' := ?_) ?_ ?_
               rotate_left
               ·
                show Act.put _ (some 114) _ = _
                simp only [Act.put, sA, sB, sC, i64_w, i32_w]
                rfl
               refine pure_ (i := 31) (N := some 115) (v := ?_) (a' := ?_) (bA 34 4294967295) rfl rfl (any_of HT_.out (by kernel_rfl)) (fun _ _ _ h => h) (Or.inl ⟨by rfl, ?_⟩) ?_ ?_
               rotate_left
               ·
                intro w'
                go_simp
                with_reducible rfl
               rotate_left
               ·
                simp only [Act.put, sA, sB, sC, i64_w, i32_w]
                rfl
               refine pure_ (i := 32) (N := some 116) (v := ?_) (a' := ?_) (bA 34 8589934591) rfl rfl (any_of HT_.out (by kernel_rfl)) (fun _ _ _ h => h) (Or.inl ⟨by rfl, ?_⟩) ?_ ?_
               rotate_left
               ·
                intro w'
                go_simp
                with_reducible rfl
               rotate_left
               ·
                simp only [Act.put, sA, sB, sC, i64_w, i32_w]
                rfl
               refine pure_ (i := 33) (N := some 117) (v := ?_) (a' := ?_) (bA 34 17179869183) rfl rfl (any_of HT_.out (by kernel_rfl)) (fun _ _ _ h => h) (Or.inl ⟨by rfl, ?_⟩) ?_ ?_
               rotate_left
               ·
                intro w'
                go_simp
                with_reducible rfl
               rotate_left
               ·
                simp only [Act.put, sA, sB, sC, i64_w, i32_w]
                rfl
               refine done_ (done_of HT_.out (by kernel_rfl)) ?_
               try go_wp2
               go_meet
               case rel => exact ⟨_, (decide (t167 > t168)), (by first | rfl | (simp; done) | (simp [*]; done)), H', ⟨by have := HJ5.out; have := HK2.out; have := HJ36.out; first | omega | exact Nat.le_refl _⟩, ⟨by (with_reducible repeat (first | apply Kd.V_alloc | apply Kd.V_drewN | apply Kd.V_drew)); exact HO_140003.out⟩, ⟨by (with_reducible repeat (first | apply Kd.R_alloc | apply Kd.R_drewN | apply Kd.R_drew)); exact HO_155003.out⟩, ⟨by (with_reducible repeat (first | refine blk_drewN ?_ _ | refine blk_drew ?_ | refine blk_alloc ?_ _)); exact BK139.out⟩, ⟨by (with_reducible repeat (first | refine blk_drewN ?_ _ | refine blk_drew ?_ | refine blk_alloc ?_ _)); exact BK140.out⟩, ⟨by (with_reducible repeat (first | refine blk_drewN ?_ _ | refine blk_drew ?_ | refine blk_alloc ?_ _)); exact BK154.out⟩, ⟨by repeat (first | (with_reducible first | exact HB.out | apply below_alloc | apply pw_below_drewN | apply below_drew1 | refine below_set ?_ GE139.out | refine below_set ?_ GE140.out | refine below_set ?_ GE154.out) | exact HB.out)⟩⟩
              ·
               rw [if_neg c67] at H
               have c67b0 : decide ((wrap64 (Int.tdiv x7_2 (wrap64 (t141 + 1)))) ≤ a1_1) = false := decide_eq_false c67
               clear c67
               have H' := Aside0.mk H
               clear H
               try go_wp2
               have n0_ := Aside0.mk (Kd.V_drew HO_140003.out)
               have n1_ := Aside0.mk (Kd.R_drew HO_155003.out)
               have n2_ := Aside0.mk (blk_drew BK139.out)
               have n3_ := Aside0.mk (blk_drew BK140.out)
               have n4_ := Aside0.mk (blk_drew BK154.out)
               have n5_ := Aside0.mk (below_drew1 HB.out)
               clear HO_140003
               clear HO_155003
               clear BK139
               clear BK140
               clear BK154
               clear HB
               have HO_140003 := n0_
               have HO_155003 := n1_
               have BK139 := n2_
               have BK140 := n3_
               have BK154 := n4_
               have HB := n5_
               clear n0_ n1_ n2_ n3_ n4_ n5_
               refine start_ (n := 34) (S := fun w' => w'.cell? ⟨gb140, 0, none⟩ = some (.int .i64 a1_0) ∧ w'.cell? ⟨gb140, 1, none⟩ = some (.int .i64 a1_1) ∧ w'.cell? ⟨gb140, 2, none⟩ = some (.int .i64 a1_2) ∧ w'.cell? ⟨gb140, 3, none⟩ = some (.int .i64 a1_3)) (ds := []) (bA 34 0) (by kernel_rfl) rfl rfl ⟨(blk_cell BK140.out 0).trans rfl, (blk_cell BK140.out 1).trans rfl, (blk_cell BK140.out 2).trans rfl, (blk_cell BK140.out 3).trans rfl⟩ (fun hHeld => ?_); refine with_tabW bivouaclaw09_CraterFalls.tab13 bivouaclaw09_CraterFalls.bits13 (fun HT_ HW_ => ?_)
               generalize wc.drew = w73 at HO_140003 HO_155003 BK139 BK140 BK154 HB hHeld ⊢
               refine pure_ (i := 0) (N := some 84) (v := ?_) (a' := ?_) (bA 34 1) rfl rfl (any_of HT_.out (by kernel_rfl)) (fun _ _ _ h => h) (Or.inl ⟨by rfl, ?_⟩) ?_ ?_
               rotate_left
               ·
                intro w'
                go_simp
                with_reducible rfl
               rotate_left
               ·
                simp only [Act.put, sA, sB, sC, i64_w, i32_w]
                rfl
               refine pure_ (i := 1) (N := some 85) (v := ?_) (a' := ?_) (bA 34 3) rfl rfl (any_of HT_.out (by kernel_rfl)) (fun _ _ _ h => h) (Or.inl ⟨by rfl, ?_⟩) ?_ ?_
               rotate_left
               ·
                intro w'
                go_simp
                with_reducible rfl
               rotate_left
               ·
                simp only [Act.put, sA, sB, sC, i64_w, i32_w]
                rfl
               refine take_ (i := 2) (N := some 86) (v := ?_) (a' := ?_) (bA 34 7) rfl rfl (take_ofW HT_.out HW_.out (by kernel_rfl)) (fun _ _ _ h => h) (Or.inl ⟨by rfl, ?_⟩) hHeld ?_ ?_
               rotate_left
               ·
                rintro w' ⟨s0, s1, s2, s3⟩
                go_simp
                with_reducible rfl
               rotate_left
               ·
                simp only [Act.put, sA, sB, sC, i64_w, i32_w]
                rfl
               refine pure_ (i := 3) (N := some 87) (v := ?_) (a' := ?_) (bA 34 15) rfl rfl (any_of HT_.out (by kernel_rfl)) (fun _ _ _ h => h) (Or.inl ⟨by rfl, ?_⟩) ?_ ?_
               rotate_left
               ·
                intro w'
                go_simp
                with_reducible rfl
               rotate_left
               ·
                simp only [Act.put, sA, sB, sC, i64_w, i32_w]
                rfl
               refine pure_ (i := 4) (N := some 88) (v := ?_) (a' := ?_) (bA 34 31) rfl rfl (any_of HT_.out (by kernel_rfl)) (fun _ _ _ h => h) (Or.inl ⟨by rfl, ?_⟩) ?_ ?_
               rotate_left
               ·
                intro w'
                go_simp
                with_reducible rfl
               rotate_left
               ·
                simp only [Act.put, sA, sB, sC, i64_w, i32_w]
                rfl
               refine pure_ (i := 5) (N := some 89) (v := undef) (a' := ?_) (bA 34 63) rfl rfl (any_of HT_.out (by kernel_rfl)) (fun _ _ _ h => h) (Or.inr ⟨by rfl, rfl⟩) ?_ ?_
               rotate_left
               ·
                simp only [Act.put, sA, sB, sC, i64_w, i32_w]
                rfl
               refine pure_ (i := 6) (N := some 90) (v := undef) (a' := ?_) (bA 34 127) rfl rfl (any_of HT_.out (by kernel_rfl)) (fun _ _ _ h => h) (Or.inr ⟨by rfl, rfl⟩) ?_ ?_
               rotate_left
               ·
                simp only [Act.put, sA, sB, sC, i64_w, i32_w]
                rfl
               refine pure_ (i := 7) (N := some 91) (v := undef) (a' := ?_) (bA 34 255) rfl rfl (any_of HT_.out (by kernel_rfl)) (fun _ _ _ h => h) (Or.inr ⟨by rfl, rfl⟩) ?_ ?_
               rotate_left
               ·
                simp only [Act.put, sA, sB, sC, i64_w, i32_w]
                rfl
               refine pure_ (i := 8) (N := some 92) (v := undef) (a' := ?_) (bA 34 511) rfl rfl (any_of HT_.out (by kernel_rfl)) (fun _ _ _ h => h) (Or.inr ⟨by rfl, rfl⟩) ?_ ?_
               rotate_left
               ·
                simp only [Act.put, sA, sB, sC, i64_w, i32_w]
                rfl
               refine pure_ (i := 9) (N := some 93) (v := undef) (a' := ?_) (bA 34 1023) rfl rfl (any_of HT_.out (by kernel_rfl)) (fun _ _ _ h => h) (Or.inr ⟨by rfl, rfl⟩) ?_ ?_
               rotate_left
               ·
                simp only [Act.put, sA, sB, sC, i64_w, i32_w]
                rfl
               refine pure_ (i := 10) (N := some 94) (v := undef) (a' := ?_) (bA 34 2047) rfl rfl (any_of HT_.out (by kernel_rfl)) (fun _ _ _ h => h) (Or.inr ⟨by rfl, rfl⟩) ?_ ?_
               rotate_left
               ·
                simp only [Act.put, sA, sB, sC, i64_w, i32_w]
                rfl
               refine pure_ (i := 11) (N := some 95) (v := undef) (a' := ?_) (bA 34 4095) rfl rfl (any_of HT_.out (by kernel_rfl)) (fun _ _ _ h => h) (Or.inr ⟨by rfl, rfl⟩) ?_ ?_
               rotate_left
               ·
                simp only [Act.put, sA, sB, sC, i64_w, i32_w]
                rfl
               refine pure_ (i := 12) (N := some 96) (v := undef) (a' := ?_) (bA 34 8191) rfl rfl (any_of HT_.out (by kernel_rfl)) (fun _ _ _ h => h) (Or.inr ⟨by rfl, rfl⟩) ?_ ?_
               rotate_left
               ·
                simp only [Act.put, sA, sB, sC, i64_w, i32_w]
                rfl
               refine pure_ (i := 13) (N := some 97) (v := undef) (a' := ?_) (bA 34 16383) rfl rfl (any_of HT_.out (by kernel_rfl)) (fun _ _ _ h => h) (Or.inr ⟨by rfl, rfl⟩) ?_ ?_
               rotate_left
               ·
                simp only [Act.put, sA, sB, sC, i64_w, i32_w]
                rfl
               refine pure_ (i := 14) (N := some 98) (v := undef) (a' := ?_) (bA 34 32767) rfl rfl (any_of HT_.out (by kernel_rfl)) (fun _ _ _ h => h) (Or.inr ⟨by rfl, rfl⟩) ?_ ?_
               rotate_left
               ·
                simp only [Act.put, sA, sB, sC, i64_w, i32_w]
                rfl
               refine pure_ (i := 15) (N := some 99) (v := ?_) (a' := ?_) (bA 34 65535) rfl rfl (any_of HT_.out (by kernel_rfl)) (fun _ _ _ h => h) (Or.inl ⟨by rfl, ?_⟩) ?_ ?_
               rotate_left
               ·
                intro w'
                go_simp
                with_reducible rfl
               rotate_left
               ·
                simp only [Act.put, sA, sB, sC, i64_w, i32_w]
                rfl
               refine pure_ (i := 16) (N := some 100) (v := ?_) (a' := ?_) (bA 34 131071) rfl rfl (any_of HT_.out (by kernel_rfl)) (fun _ _ _ h => h) (Or.inl ⟨by rfl, ?_⟩) ?_ ?_
               rotate_left
               ·
                intro w'
                go_simp
                with_reducible rfl
               rotate_left
               ·
                simp only [Act.put, sA, sB, sC, i64_w, i32_w]
                rfl
               refine pure_ (i := 17) (N := some 101) (v := ?_) (a' := ?_) (bA 34 262143) rfl rfl (any_of HT_.out (by kernel_rfl)) (fun _ _ _ h => h) (Or.inl ⟨by rfl, ?_⟩) ?_ ?_
               rotate_left
               ·
                intro w'
                go_simp
                with_reducible rfl
               rotate_left
               ·
                simp only [Act.put, sA, sB, sC, i64_w, i32_w]
                rfl
               refine pure_ (i := 18) (N := some 102) (v := ?_) (a' := ?_) (bA 34 524287) rfl rfl (any_of HT_.out (by kernel_rfl)) (fun _ _ _ h => h) (Or.inl ⟨by rfl, ?_⟩) ?_ ?_
               rotate_left
               ·
                intro w'
                go_simp
                with_reducible rfl
               rotate_left
               ·
                simp only [Act.put, sA, sB, sC, i64_w, i32_w]
                rfl
               refine take_ (i := 19) (N := some 103) (v := ?_) (a' := ?_) (bA 34 1048575) rfl rfl (take_ofW HT_.out HW_.out (by kernel_rfl)) (fun _ _ _ h => h) (Or.inl ⟨by rfl, ?_⟩) hHeld ?_ ?_
               rotate_left
               ·
                rintro w' ⟨s0, s1, s2, s3⟩
                go_simp
                with_reducible rfl
               rotate_left
               ·
                simp only [Act.put, sA, sB, sC, i64_w, i32_w]
                rfl
               refine pure_ (i := 20) (N := some 104) (v := ?_) (a' := ?_) (bA 34 2097151) rfl rfl (any_of HT_.out (by kernel_rfl)) (fun _ _ _ h => h) (Or.inl ⟨by rfl, ?_⟩) ?_ ?_
               rotate_left
               ·
                intro w'
                go_simp
                with_reducible rfl
               rotate_left
               ·
                simp only [Act.put, sA, sB, sC, i64_w, i32_w]
                rfl
               refine pure_ (i := 21) (N := some 105) (v := ?_) (a' := ?_) (bA 34 4194303) rfl rfl (any_of HT_.out (by kernel_rfl)) (fun _ _ _ h => h) (Or.inl ⟨by rfl, ?_⟩) ?_ ?_
               rotate_left
               ·
                intro w'
                go_simp
                with_reducible rfl
               rotate_left
               ·
                simp only [Act.put, sA, sB, sC, i64_w, i32_w]
                rfl
               refine pure_ (i := 22) (N := some 106) (v := undef) (a' := ?_) (bA 34 8388607) rfl rfl (any_of HT_.out (by kernel_rfl)) (fun _ _ _ h => h) (Or.inr ⟨by rfl, rfl⟩) ?_ ?_
               rotate_left
               ·
                simp only [Act.put, sA, sB, sC, i64_w, i32_w]
                rfl
               refine pure_ (i := 23) (N := some 107) (v := undef) (a' := ?_) (bA 34 16777215) rfl rfl (any_of HT_.out (by kernel_rfl)) (fun _ _ _ h => h) (Or.inr ⟨by rfl, rfl⟩) ?_ ?_
               rotate_left
               ·
                simp only [Act.put, sA, sB, sC, i64_w, i32_w]
                rfl
               refine pure_ (i := 24) (N := some 108) (v := undef) (a' := ?_) (bA 34 33554431) rfl rfl (any_of HT_.out (by kernel_rfl)) (fun _ _ _ h => h) (Or.inr ⟨by rfl, rfl⟩) ?_ ?_
               rotate_left
               ·
                simp only [Act.put, sA, sB, sC, i64_w, i32_w]
                rfl
               refine pure_ (i := 25) (N := some 109) (v := undef) (a' := ?_) (bA 34 67108863) rfl rfl (any_of HT_.out (by kernel_rfl)) (fun _ _ _ h => h) (Or.inr ⟨by rfl, rfl⟩) ?_ ?_
               rotate_left
               ·
                simp only [Act.put, sA, sB, sC, i64_w, i32_w]
                rfl
               refine pure_ (i := 26) (N := some 110) (v := undef) (a' := ?_) (bA 34 134217727) rfl rfl (any_of HT_.out (by kernel_rfl)) (fun _ _ _ h => h) (Or.inr ⟨by rfl, rfl⟩) ?_ ?_
               rotate_left
               ·
                simp only [Act.put, sA, sB, sC, i64_w, i32_w]
                rfl
               refine pure_ (i := 27) (N := some 111) (v := undef) (a' := ?_) (bA 34 268435455) rfl rfl (any_of HT_.out (by kernel_rfl)) (fun _ _ _ h => h) (Or.inr ⟨by rfl, rfl⟩) ?_ ?_
               rotate_left
               ·
                simp only [Act.put, sA, sB, sC, i64_w, i32_w]
                rfl
               refine pure_ (i := 28) (N := some 112) (v := undef) (a' := ?_) (bA 34 536870911) rfl rfl (any_of HT_.out (by kernel_rfl)) (fun _ _ _ h => h) (Or.inr ⟨by rfl, rfl⟩) ?_ ?_
               rotate_left
               ·
                simp only [Act.put, sA, sB, sC, i64_w, i32_w]
                rfl
               refine pure_ (i := 29) (N := some 113) (v := undef) (a' := ?_) (bA 34 1073741823) rfl rfl (any_of HT_.out (by kernel_rfl)) (fun _ _ _ h => h) (Or.inr ⟨by rfl, rfl⟩) ?_ ?_
               rotate_left
               ·
                simp only [Act.put, sA, sB, sC, i64_w, i32_w]
                rfl
               refine pure_ (i := 30) (N := some 114) (v := undef) (a' := ?_) (bA 34 2147483647) rfl rfl (any_of HT_.out (by kernel_rfl)) (fun _ _ _ h => h) (Or.inr ⟨by rfl, rfl⟩) ?_ ?_
               rotate_left
               ·
                simp only [Act.put, sA, sB, sC, i64_w, i32_w]
                rfl
               refine pure_ (i := 31) (N := some 115) (v := undef) (a' := ?_) (bA 34 4294967295) rfl rfl (any_of HT_.out (by kernel_rfl)) (fun _ _ _ h => h) (Or.inr ⟨by rfl, rfl⟩) ?_ ?_
               rotate_left
               ·
                simp only [Act.put, sA, sB, sC, i64_w, i32_w]
                rfl
               refine pure_ (i := 32) (N := some 116) (v := ?_) (a' := ?_) (bA 34 8589934591) rfl rfl (any_of HT_.out (by kernel_rfl)) (fun _ _ _ h => h) (Or.inl ⟨by rfl, ?_⟩) ?_ ?_
               rotate_left
               ·
                intro w'
                go_simp
                with_reducible rfl
               rotate_left
               ·
                simp only [Act.put, sA, sB, sC, i64_w, i32_w]
                rfl
               refine pure_ (i := 33) (N := some 117) (v := ?_) (a' := ?_) (bA 34 17179869183) rfl rfl (any_of HT_.out (by kernel_rfl)) (fun _ _ _ h => h) (Or.inl ⟨by rfl, ?_⟩) ?_ ?_
               rotate_left
               ·
                intro w'
                go_simp
                with_reducible rfl
               rotate_left
               ·
                simp only [Act.put, sA, sB, sC, i64_w, i32_w]
                rfl
               refine done_ (done_of HT_.out (by kernel_rfl)) ?_
               try go_wp2
               go_meet
               case rel => exact ⟨_, (false), (by first | rfl | (simp; done) | (simp [*]; done)), H', ⟨by have := HJ5.out; have := HK2.out; have := HJ36.out; first | omega | exact Nat.le_refl _⟩, ⟨by (with_reducible repeat (first | apply Kd.V_alloc | apply Kd.V_drewN | apply Kd.V_drew)); exact HO_140003.out⟩, ⟨by (with_reducible repeat (first | apply Kd.R_alloc | apply Kd.R_drewN | apply Kd.R_drew)); exact HO_155003.out⟩, ⟨by (with_reducible repeat (first | refine blk_drewN ?_ _ | refine blk_drew ?_ | refine blk_alloc ?_ _)); exact BK139.out⟩, ⟨by (with_reducible repeat (first | refine blk_drewN ?_ _ | refine blk_drew ?_ | refine blk_alloc ?_ _)); exact BK140.out⟩, ⟨by (with_reducible repeat (first | refine blk_drewN ?_ _ | refine blk_drew ?_ | refine blk_alloc ?_ _)); exact BK154.out⟩, ⟨by repeat (first | (with_reducible first | exact HB.out | apply below_alloc | apply pw_below_drewN | apply below_drew1 | refine below_set ?_ GE139.out | refine below_set ?_ GE140.out | refine below_set ?_ GE154.out) | exact HB.out)⟩⟩
            case rest =>
             clear HC48
             try clear c1
             try clear p2
             try clear c4
             try clear c6
             try clear p6
             try clear c15
             try clear c49
             try clear c49b0
             try clear p64
             try clear c67
             try clear c67b0
             obtain ⟨kq, x117_47, rfl, HA, HJ47, HO_140003, HO_155003, BK139, BK140, BK154, HB⟩ := hcut
             cases kq with
             | zero => exact absurd HA.out (by simp [bivouaclaw09_CraterFalls.j3])
             | succ kj47 =>
              have H := HA.out
              clear HA
              simp only [bivouaclaw09_CraterFalls.j3] at H
              by_cases c74 : x117_47 = true
              ·
               subst c74
               have H1 : (some false) = some r := by rw [if_pos rfl] at H; exact H
               clear H
               have H := H1
               clear H1
               obtain rfl := Option.some.inj H
               go_wp2
               go_ret
               exact ⟨by first | rfl | (simp [errW_none, errW_some] <;> rfl) | (simp [*, errW_none, errW_some] <;> rfl) | (rw [Int.tdiv_eq_ediv_of_nonneg (by assumption)]; rfl), by repeat (first | (with_reducible first | exact HB.out | apply below_alloc | apply pw_below_drewN | apply below_drew1 | refine below_set ?_ GE139.out | refine below_set ?_ GE140.out | refine below_set ?_ GE154.out) | exact HB.out)⟩
              ·
               replace c74 := Bool.eq_false_iff.mpr c74
               subst c74
               have H1 : (bivouaclaw09_CraterFalls.l0 kj47 (wrap64 (x7_2 + 1)) t141 t142 t143 t144 a1_0 a1_1 a1_2 a1_3 t147 t148 t149 t150) = some r := by rw [if_neg (show ¬ (false = true) by decide)] at H; exact H
               clear H
               have H := H1
               clear H1
               have H' := Aside0.mk H
               clear H
               go_wp2
               go_roundg kj47
               case measure => have := HJ5.out; have := HK2.out; have := HJ36.out; have := HJ47.out; omega
               case rel => exact ⟨(wrap64 (x7_2 + 1)), (by first | rfl | (simp; done) | (simp [*]; done)), H', ⟨by have := HJ5.out; have := HK2.out; have := HJ36.out; have := HJ47.out; omega⟩, ⟨by (with_reducible repeat (first | apply Kd.V_alloc | apply Kd.V_drewN | apply Kd.V_drew)); exact HO_140003.out⟩, ⟨by (with_reducible repeat (first | apply Kd.R_alloc | apply Kd.R_drewN | apply Kd.R_drew)); exact HO_155003.out⟩, ⟨by (with_reducible repeat (first | refine blk_drewN ?_ _ | refine blk_drew ?_ | refine blk_alloc ?_ _)); exact BK139.out⟩, ⟨by (with_reducible repeat (first | refine blk_drewN ?_ _ | refine blk_drew ?_ | refine blk_alloc ?_ _)); exact BK140.out⟩, ⟨by (with_reducible repeat (first | refine blk_drewN ?_ _ | refine blk_drew ?_ | refine blk_alloc ?_ _)); exact BK154.out⟩, ⟨by repeat (first | (with_reducible first | exact HB.out | apply below_alloc | apply pw_below_drewN | apply below_drew1 | refine below_set ?_ GE139.out | refine below_set ?_ GE140.out | refine below_set ?_ GE154.out) | exact HB.out)⟩⟩
       ·
        rw [if_neg c35] at H
        have c35b0 : decide (x7_2 < (t144.length : Int)) = false := decide_eq_false c35
        clear c35
        replace H := Option.bind_eq_some_iff.mp H
        obtain ⟨t158, A750, H⟩ := H
        replace H : (some t158) = some r := H
        have A75 := Aside0.mk A750
        clear A750
        obtain rfl := Option.some.inj H
        have hnb76 := NB139_140.out
        have hnc76 := NB140_139.out
        have hnb77 := NB139_154.out
        have hnc77 := NB154_139.out
        have hcz78_0 : wr.cell? ⟨gb139, 0, none⟩ = some (.int .i64 t141) := (blk_cell BK139.out 0).trans rfl
        have hcz78_1 : wr.cell? ⟨gb139, 1, none⟩ = some (.int .i64 t142) := (blk_cell BK139.out 1).trans rfl
        have hcz78_2 : wr.cell? ⟨gb139, 2, none⟩ = some (.int .i64 t143) := (blk_cell BK139.out 2).trans rfl
        have hcz78_3 : wr.cell? ⟨gb139, 3, none⟩ = some (.slice Ao13 t144.length co13) := (blk_cell BK139.out 3).trans rfl
        have hfz78_0 := blk_frozen BK139.out 0
        have hfz78_1 := blk_frozen BK139.out 1
        have hfz78_2 := blk_frozen BK139.out 2
        have hfz78_3 := blk_frozen BK139.out 3
        go_wp2_with (first | ((with_reducible refine gate_callee (f := 17) rfl ?_); refine goesL_ (some 118) rfl rfl Try.func17 (by kernel_rfl) rfl #[] rfl (by (try simp only [List.map_toArray, List.map_cons, List.map_nil]); first | done | rfl | (simp only [List.length_drop, List.length_take]; rfl)) ?_; (with_reducible refine (bivouaclaw09_awake.calls  t158 _ A75.out).mono ?_); rintro e w79 ⟨rfl, hb⟩; refine ⟨_, rfl, ?_⟩; have n0_ := Aside0.mk (Kd.V_below (by (with_reducible repeat (first | apply Kd.V_alloc | apply Kd.V_drewN | apply Kd.V_drew)); exact HO_140003.out) hb); have n1_ := Aside0.mk (Kd.R_below (by (with_reducible repeat (first | apply Kd.R_alloc | apply Kd.R_drewN | apply Kd.R_drew)); exact HO_155003.out) hb); have n2_ := Aside0.mk (blk_below (g := gb139) (o := .cells #[.int .i64 t141, .int .i64 t142, .int .i64 t143, .slice Ao13 t144.length co13] 46 (0, 0)) (by (with_reducible repeat (first | refine blk_drewN ?_ _ | refine blk_drew ?_ | refine blk_alloc ?_ _)); exact BK139.out) hb); have n3_ := Aside0.mk (blk_below (g := gb140) (o := .cells #[.int .i64 a1_0, .int .i64 a1_1, .int .i64 a1_2, .int .i64 a1_3] 23 (0, 0)) (by (with_reducible repeat (first | refine blk_drewN ?_ _ | refine blk_drew ?_ | refine blk_alloc ?_ _)); exact BK140.out) hb); have n4_ := Aside0.mk (blk_below (g := gb154) (o := .cells #[.int .i64 t147, .int .i64 t148, .int .i64 t149, .slice Ao20 t150.length co20] 46 (0, 0)) (by (with_reducible repeat (first | refine blk_drewN ?_ _ | refine blk_drew ?_ | refine blk_alloc ?_ _)); exact BK154.out) hb); have n5_ := Aside0.mk (below_step (by repeat (first | (with_reducible first | exact HB.out | apply below_alloc | apply pw_below_drewN | apply below_drew1 | refine below_set ?_ GE139.out | refine below_set ?_ GE140.out | refine below_set ?_ GE154.out) | exact HB.out)) hb); clear HO_140003; clear HO_155003; clear BK139; clear BK140; clear BK154; clear HB; have HO_140003 := n0_; have HO_155003 := n1_; have BK139 := n2_; have BK140 := n3_; have BK154 := n4_; have HB := n5_; clear n0_ n1_ n2_ n3_ n4_ n5_; (try clear hb); (try clear hb2); (try clear hk); (try clear hi)))
        go_ret
        exact ⟨by first | rfl | (simp [errW_none, errW_some] <;> rfl) | (simp [*, errW_none, errW_some] <;> rfl) | (rw [Int.tdiv_eq_ediv_of_nonneg (by assumption)]; rfl), by repeat (first | (with_reducible first | exact HB.out | apply below_alloc | apply pw_below_drewN | apply below_drew1 | refine below_set ?_ GE139.out | refine below_set ?_ GE140.out | refine below_set ?_ GE154.out) | exact HB.out)⟩
 ·
  rw [if_neg c5] at H
  have c5b0 : (t153 == 0) = false := beq_eq_false_iff_ne.mpr c5
  have c5b1 : (t153 != 0) = true := bne_iff_ne.mpr c5
  replace H := Option.bind_eq_some_iff.mp H
  obtain ⟨t155, A800, H⟩ := H
  replace H : (if t155 = true then ((bivouaclaw09_awake.f).bind fun t156 => (some t156)) else (some false)) = some r := H
  have A80 := Aside0.mk A800
  clear A800
  by_cases c81 : t155 = true
  ·
   subst c81
   have H1 : ((bivouaclaw09_awake.f).bind fun t156 => (some t156)) = some r := by rw [if_pos rfl] at H; exact H
   clear H
   have H := H1
   clear H1
   replace H := Option.bind_eq_some_iff.mp H
   obtain ⟨t156, A820, H⟩ := H
   replace H : (some t156) = some r := H
   have A82 := Aside0.mk A820
   clear A820
   obtain rfl := Option.some.inj H
   go_enter Try.func10, Try.ntmps10
   go_wp2_with (first | ((with_reducible refine gate_dst (N := 2) rfl ?_); (try (refine gate_guard (by rfl) ?_; dsimp only)); refine box_event ?hg (N := 2) ?hd (cs := #[.int .i64 a0_0, .int .i64 a0_1, .int .i64 a0_2, .slice A0_3 l0_3.length c0_3]) (t := 46) ?hr ?_; (case hd => rfl); (case hg => rfl); (case hr => first | (go_simp; done) | (go_simp; rfl)); intro gb139 hg w83 hbox hb; have n0_ := Aside0.mk (below_step (by repeat (first | (with_reducible first | exact HB.out | apply below_alloc | apply pw_below_drewN | apply below_drew1) | exact HB.out)) hb); have n1_ := Aside0.mk (hbox); have n2_ := Aside0.mk ((by rw [hg]; exact (below_size (by repeat (first | (with_reducible first | exact HB.out | apply below_alloc | apply pw_below_drewN | apply below_drew1) | exact HB.out))) : w.heap.size ≤ gb139)); have n3_ := Aside0.mk ((by rw [hg]; exact (below_size (by repeat (first | (with_reducible first | exact HB.out | apply below_alloc | apply pw_below_drewN | apply below_drew1) | exact HB.out))) : w.heap.size ≤ gb139)); clear HB; have HB := n0_; have BK139 := n1_; have GW139 := n2_; have GE139 := n3_; clear n0_ n1_ n2_ n3_; clear hb hbox hg) | ((with_reducible refine gate_dst (N := 3) rfl ?_); (try (refine gate_guard (by rfl) ?_; dsimp only)); refine box_event ?hg (N := 3) ?hd (cs := #[.int .i64 a1_0, .int .i64 a1_1, .int .i64 a1_2, .int .i64 a1_3]) (t := 23) ?hr ?_; (case hd => rfl); (case hg => rfl); (case hr => first | (go_simp; done) | (go_simp; rfl)); intro gb140 hg w84 hbox hb; have n0_ := Aside0.mk (blk_below (g := gb139) (o := .cells #[.int .i64 a0_0, .int .i64 a0_1, .int .i64 a0_2, .slice A0_3 l0_3.length c0_3] 46 (0, 0)) (by (with_reducible repeat (first | refine blk_drewN ?_ _ | refine blk_drew ?_ | refine blk_alloc ?_ _)); exact BK139.out) hb); have n1_ := Aside0.mk (below_step (by repeat (first | (with_reducible first | exact HB.out | apply below_alloc | apply pw_below_drewN | apply below_drew1 | refine below_set ?_ GE139.out) | exact HB.out)) hb); have n2_ := Aside0.mk (hbox); have n3_ := Aside0.mk ((by rw [hg]; exact (below_size (by repeat (first | (with_reducible first | exact HB.out | apply below_alloc | apply pw_below_drewN | apply below_drew1 | refine below_set ?_ GE139.out) | exact HB.out))) : w.heap.size ≤ gb140)); have n4_ := Aside0.mk ((by rw [hg]; exact (below_size (by repeat (first | (with_reducible first | exact HB.out | apply below_alloc | apply pw_below_drewN | apply below_drew1 | refine below_set ?_ GE139.out) | exact HB.out))) : w.heap.size ≤ gb140)); have n5_ := Aside0.mk ((by rw [hg]; exact Nat.ne_of_lt (blk_lt (g := gb139) (o := .cells #[.int .i64 a0_0, .int .i64 a0_1, .int .i64 a0_2, .slice A0_3 l0_3.length c0_3] 46 (0, 0)) (by (with_reducible repeat (first | refine blk_drewN ?_ _ | refine blk_drew ?_ | refine blk_alloc ?_ _)); exact BK139.out)) : gb139 ≠ gb140)); have n6_ := Aside0.mk ((by rw [hg]; exact Nat.ne_of_gt (blk_lt (g := gb139) (o := .cells #[.int .i64 a0_0, .int .i64 a0_1, .int .i64 a0_2, .slice A0_3 l0_3.length c0_3] 46 (0, 0)) (by (with_reducible repeat (first | refine blk_drewN ?_ _ | refine blk_drew ?_ | refine blk_alloc ?_ _)); exact BK139.out)) : gb140 ≠ gb139)); clear BK139; clear HB; have BK139 := n0_; have HB := n1_; have BK140 := n2_; have GW140 := n3_; have GE140 := n4_; have NB139_140 := n5_; have NB140_139 := n6_; clear n0_ n1_ n2_ n3_ n4_ n5_ n6_; clear hb hbox hg; have hnb85 := NB139_140.out; have hnc85 := NB140_139.out; have hcz86_0 : w84.cell? ⟨gb139, 0, none⟩ = some (.int .i64 a0_0) := (blk_cell BK139.out 0).trans rfl; have hcz86_1 : w84.cell? ⟨gb139, 1, none⟩ = some (.int .i64 a0_1) := (blk_cell BK139.out 1).trans rfl; have hcz86_2 : w84.cell? ⟨gb139, 2, none⟩ = some (.int .i64 a0_2) := (blk_cell BK139.out 2).trans rfl; have hcz86_3 : w84.cell? ⟨gb139, 3, none⟩ = some (.slice A0_3 l0_3.length c0_3) := (blk_cell BK139.out 3).trans rfl; have hfz86_0 := blk_frozen BK139.out 0; have hfz86_1 := blk_frozen BK139.out 1; have hfz86_2 := blk_frozen BK139.out 2; have hfz86_3 := blk_frozen BK139.out 3) | ((with_reducible refine gate_callee (f := 26) rfl ?_); refine goesL_ (some 11) rfl rfl Try.func26 (by kernel_rfl) rfl #[.agg #[.int .i64 a0_0, .int .i64 a0_1, .int .i64 a0_2, .slice A0_3 l0_3.length c0_3]] rfl (by (try simp only [List.map_toArray, List.map_cons, List.map_nil]); first | done | rfl | (simp only [List.length_drop, List.length_take]; rfl)) ?_; (with_reducible refine (bivouaclaw09_few.calls a0_0 a0_1 a0_2 (fun k_ => k_ < w.heap.size) _ _ l0_3 t141 t142 t143 t144 _ ?side1 A3.out).mono ?_); (case side1 => exact Kd.V_mk HC0_3.out (Kd.F_below (Kd.C_F (Kd.heap_int .u8) HR0_3.out) (by repeat (first | (with_reducible first | exact HB.out | apply below_alloc | apply pw_below_drewN | apply below_drew1 | refine below_set ?_ GE139.out | refine below_set ?_ GE140.out) | exact HB.out)))); rintro e w87 ⟨v145, rfl, ho0, hb⟩; refine ⟨_, rfl, ?_⟩; have n0_ := Aside0.mk (Kd.V_lower (Kd.V_mono (ok' := fun k_ => k_ ≠ gb139 ∧ k_ ≠ gb140) ho0 (fun k_ hk_ => ⟨Or.elim hk_ (fun hs_ => fun e_ => Nat.not_le.2 hs_ (by rw [e_]; exact GW139.out)) (fun hn_ => (Kd.freshB (g := gb139) (o := .cells #[.int .i64 a0_0, .int .i64 a0_1, .int .i64 a0_2, .slice A0_3 l0_3.length c0_3] 46 (0, 0)) (by (with_reducible repeat (first | refine blk_drewN ?_ _ | refine blk_drew ?_ | refine blk_alloc ?_ _)); exact BK139.out) k_ hn_)), Or.elim hk_ (fun hs_ => fun e_ => Nat.not_le.2 hs_ (by rw [e_]; exact GW140.out)) (fun hn_ => (Kd.freshB (g := gb140) (o := .cells #[.int .i64 a1_0, .int .i64 a1_1, .int .i64 a1_2, .int .i64 a1_3] 23 (0, 0)) (by (with_reducible repeat (first | refine blk_drewN ?_ _ | refine blk_drew ?_ | refine blk_alloc ?_ _)); exact BK140.out) k_ hn_))⟩)) (below_size (by repeat (first | (with_reducible first | exact HB.out | apply below_alloc | apply pw_below_drewN | apply below_drew1 | refine below_set ?_ GE139.out | refine below_set ?_ GE140.out) | exact HB.out)))); have n1_ := Aside0.mk (blk_below (g := gb139) (o := .cells #[.int .i64 a0_0, .int .i64 a0_1, .int .i64 a0_2, .slice A0_3 l0_3.length c0_3] 46 (0, 0)) (by (with_reducible repeat (first | refine blk_drewN ?_ _ | refine blk_drew ?_ | refine blk_alloc ?_ _)); exact BK139.out) hb); have n2_ := Aside0.mk (blk_below (g := gb140) (o := .cells #[.int .i64 a1_0, .int .i64 a1_1, .int .i64 a1_2, .int .i64 a1_3] 23 (0, 0)) (by (with_reducible repeat (first | refine blk_drewN ?_ _ | refine blk_drew ?_ | refine blk_alloc ?_ _)); exact BK140.out) hb); have n3_ := Aside0.mk (below_step (by repeat (first | (with_reducible first | exact HB.out | apply below_alloc | apply pw_below_drewN | apply below_drew1 | refine below_set ?_ GE139.out | refine below_set ?_ GE140.out) | exact HB.out)) hb); clear BK139; clear BK140; clear HB; have HO146 := n0_; have BK139 := n1_; have BK140 := n2_; have HB := n3_; clear n0_ n1_ n2_ n3_; (try clear hb); (try clear hb2); (try clear hk); (try clear hi); (try clear ho0); have hcz88_0 : w87.cell? ⟨gb139, 0, none⟩ = some (.int .i64 a0_0) := (blk_cell BK139.out 0).trans rfl; have hcz88_1 : w87.cell? ⟨gb139, 1, none⟩ = some (.int .i64 a0_1) := (blk_cell BK139.out 1).trans rfl; have hcz88_2 : w87.cell? ⟨gb139, 2, none⟩ = some (.int .i64 a0_2) := (blk_cell BK139.out 2).trans rfl; have hcz88_3 : w87.cell? ⟨gb139, 3, none⟩ = some (.slice A0_3 l0_3.length c0_3) := (blk_cell BK139.out 3).trans rfl; have hfz88_0 := blk_frozen BK139.out 0; have hfz88_1 := blk_frozen BK139.out 1; have hfz88_2 := blk_frozen BK139.out 2; have hfz88_3 := blk_frozen BK139.out 3; obtain ⟨Ao89, co89, eo89⟩ := Kd.V_slice HO146.out; subst eo89; have hcz90_0 : w87.cell? ⟨gb140, 0, none⟩ = some (.int .i64 a1_0) := (blk_cell BK140.out 0).trans rfl; have hcz90_1 : w87.cell? ⟨gb140, 1, none⟩ = some (.int .i64 a1_1) := (blk_cell BK140.out 1).trans rfl; have hcz90_2 : w87.cell? ⟨gb140, 2, none⟩ = some (.int .i64 a1_2) := (blk_cell BK140.out 2).trans rfl; have hcz90_3 : w87.cell? ⟨gb140, 3, none⟩ = some (.int .i64 a1_3) := (blk_cell BK140.out 3).trans rfl; have hfz90_0 := blk_frozen BK140.out 0; have hfz90_1 := blk_frozen BK140.out 1; have hfz90_2 := blk_frozen BK140.out 2; have hfz90_3 := blk_frozen BK140.out 3) | ((with_reducible refine gate_callee (f := 27) rfl ?_); refine goesL_ (some 15) rfl rfl Try.func27 (by kernel_rfl) rfl #[.agg #[.int .i64 t141, .int .i64 t142, .int .i64 t143, .slice Ao89 t144.length co89], .agg #[.int .i64 a1_0, .int .i64 a1_1, .int .i64 a1_2, .int .i64 a1_3]] rfl (by (try simp only [List.map_toArray, List.map_cons, List.map_nil]); first | done | rfl | (simp only [List.length_drop, List.length_take]; rfl)) ?_; (with_reducible refine (crater_Strike.calls k t141 t142 t143 _ _ t144 a1_0 a1_1 a1_2 a1_3 t147 t148 t149 t150 t153 _ ?side1 ?side2 A4.out).mono ?_); (case side1 => refine (Kd.V_reads' (e := 5) (base := w.heap.size) (ok := fun k_ => (k_ ≠ gb139 ∧ k_ ≠ gb140)) (n := t144.length) (c := co89) ?_).2.2; exact (by (with_reducible repeat (first | apply Kd.V_alloc | apply Kd.V_drewN | apply Kd.V_drew)); exact (Kd.V_mono (Kd.V_far (p := ⟨gb139, 3, none⟩) (Kd.V_far (p := ⟨gb139, 2, none⟩) (Kd.V_far (p := ⟨gb139, 1, none⟩) (Kd.V_far (p := ⟨gb139, 0, none⟩) (Kd.V_mono HO146.out (fun k_ hk => (⟨hk, hk.1⟩ : _ ∧ k_ ≠ gb139))) (fun _ hk => hk.2) (.int .i64 t141)) (fun _ hk => hk.2) (.int .i64 t142)) (fun _ hk => hk.2) (.int .i64 t143)) (fun _ hk => hk.2) (.slice Ao89 t144.length co89)) (fun _ h_ => h_.1)))); (case side2 => exact (Kd.V_reads' HO146.out).2.1); rintro e w91 ⟨v151, rfl, ho0, hb⟩; refine ⟨_, rfl, ?_⟩; have n0_ := Aside0.mk (Kd.V_elder' (by (with_reducible repeat (first | apply Kd.V_alloc | apply Kd.V_drewN | apply Kd.V_drew)); exact (Kd.V_mono (Kd.V_far (p := ⟨gb139, 3, none⟩) (Kd.V_far (p := ⟨gb139, 2, none⟩) (Kd.V_far (p := ⟨gb139, 1, none⟩) (Kd.V_far (p := ⟨gb139, 0, none⟩) (Kd.V_mono HO146.out (fun k_ hk => (⟨hk, hk.1⟩ : _ ∧ k_ ≠ gb139))) (fun _ hk => hk.2) (.int .i64 t141)) (fun _ hk => hk.2) (.int .i64 t142)) (fun _ hk => hk.2) (.int .i64 t143)) (fun _ hk => hk.2) (.slice Ao89 t144.length co89)) (fun _ h_ => h_.1))) (Kd.R_base ho0) hb); have n1_ := Aside0.mk (Kd.R_lower ho0 (below_size (by repeat (first | (with_reducible first | exact HB.out | apply below_alloc | apply pw_below_drewN | apply below_drew1 | refine below_set ?_ GE139.out | refine below_set ?_ GE140.out) | exact HB.out)))); have n2_ := Aside0.mk (blk_below (g := gb139) (o := .cells #[.int .i64 t141, .int .i64 t142, .int .i64 t143, .slice Ao89 t144.length co89] 46 (0, 0)) (by (with_reducible repeat (first | refine blk_drewN ?_ _ | refine blk_drew ?_ | refine blk_alloc ?_ _)); refine blk_put (cs := #[.int .i64 t141, .int .i64 t142, .int .i64 t143, .slice A0_3 l0_3.length c0_3]) ?_ 3 _ rfl; (with_reducible repeat (first | refine blk_drewN ?_ _ | refine blk_drew ?_ | refine blk_alloc ?_ _)); refine blk_put (cs := #[.int .i64 t141, .int .i64 t142, .int .i64 a0_2, .slice A0_3 l0_3.length c0_3]) ?_ 2 _ rfl; (with_reducible repeat (first | refine blk_drewN ?_ _ | refine blk_drew ?_ | refine blk_alloc ?_ _)); refine blk_put (cs := #[.int .i64 t141, .int .i64 a0_1, .int .i64 a0_2, .slice A0_3 l0_3.length c0_3]) ?_ 1 _ rfl; (with_reducible repeat (first | refine blk_drewN ?_ _ | refine blk_drew ?_ | refine blk_alloc ?_ _)); refine blk_put (cs := #[.int .i64 a0_0, .int .i64 a0_1, .int .i64 a0_2, .slice A0_3 l0_3.length c0_3]) ?_ 0 _ rfl; (with_reducible repeat (first | refine blk_drewN ?_ _ | refine blk_drew ?_ | refine blk_alloc ?_ _)); exact BK139.out) hb); have n3_ := Aside0.mk (blk_below (g := gb140) (o := .cells #[.int .i64 a1_0, .int .i64 a1_1, .int .i64 a1_2, .int .i64 a1_3] 23 (0, 0)) (by (with_reducible repeat (first | refine blk_drewN ?_ _ | refine blk_drew ?_ | refine blk_alloc ?_ _)); refine blk_far ?_ NB140_139.out _; (with_reducible repeat (first | refine blk_drewN ?_ _ | refine blk_drew ?_ | refine blk_alloc ?_ _)); refine blk_far ?_ NB140_139.out _; (with_reducible repeat (first | refine blk_drewN ?_ _ | refine blk_drew ?_ | refine blk_alloc ?_ _)); refine blk_far ?_ NB140_139.out _; (with_reducible repeat (first | refine blk_drewN ?_ _ | refine blk_drew ?_ | refine blk_alloc ?_ _)); refine blk_far ?_ NB140_139.out _; (with_reducible repeat (first | refine blk_drewN ?_ _ | refine blk_drew ?_ | refine blk_alloc ?_ _)); exact BK140.out) hb); have n4_ := Aside0.mk (below_step (by repeat (first | (with_reducible first | exact HB.out | apply below_alloc | apply pw_below_drewN | apply below_drew1 | refine below_set ?_ GE139.out | refine below_set ?_ GE140.out) | exact HB.out)) hb); clear HO146; clear BK139; clear BK140; clear HB; have HO146 := n0_; have HO152 := n1_; have BK139 := n2_; have BK140 := n3_; have HB := n4_; clear n0_ n1_ n2_ n3_ n4_; (try clear hb); (try clear hb2); (try clear hk); (try clear hi); (try clear ho0)) | ((with_reducible refine gate_dst (N := 5) rfl ?_); (try (refine gate_guard (by rfl) ?_; dsimp only)); refine box_event ?hg (N := 5) ?hd (cs := #[.int .i64 0, .int .i64 0, .int .i64 0, .slice none 0 0]) (t := 46) ?hr ?_; (case hd => rfl); (case hg => rfl); (case hr => first | (go_simp; done) | (go_simp; rfl)); intro gb154 hg w92 hbox hb; have n0_ := Aside0.mk (Kd.V_below (Kd.V_elderB (by (with_reducible repeat (first | apply Kd.V_alloc | apply Kd.V_drewN | apply Kd.V_drew)); exact HO146.out) gb154 (Nat.le_of_eq hg.symm)) hb); have n1_ := Aside0.mk (Kd.R_below (by (with_reducible repeat (first | apply Kd.R_alloc | apply Kd.R_drewN | apply Kd.R_drew)); exact HO152.out) hb); have n2_ := Aside0.mk (blk_below (g := gb139) (o := .cells #[.int .i64 t141, .int .i64 t142, .int .i64 t143, .slice Ao89 t144.length co89] 46 (0, 0)) (by (with_reducible repeat (first | refine blk_drewN ?_ _ | refine blk_drew ?_ | refine blk_alloc ?_ _)); exact BK139.out) hb); have n3_ := Aside0.mk (blk_below (g := gb140) (o := .cells #[.int .i64 a1_0, .int .i64 a1_1, .int .i64 a1_2, .int .i64 a1_3] 23 (0, 0)) (by (with_reducible repeat (first | refine blk_drewN ?_ _ | refine blk_drew ?_ | refine blk_alloc ?_ _)); exact BK140.out) hb); have n4_ := Aside0.mk (below_step (by repeat (first | (with_reducible first | exact HB.out | apply below_alloc | apply pw_below_drewN | apply below_drew1 | refine below_set ?_ GE139.out | refine below_set ?_ GE140.out) | exact HB.out)) hb); have n5_ := Aside0.mk (hbox); have n6_ := Aside0.mk ((by rw [hg]; exact (below_size (by repeat (first | (with_reducible first | exact HB.out | apply below_alloc | apply pw_below_drewN | apply below_drew1 | refine below_set ?_ GE139.out | refine below_set ?_ GE140.out) | exact HB.out))) : w.heap.size ≤ gb154)); have n7_ := Aside0.mk ((by rw [hg]; exact (below_size (by repeat (first | (with_reducible first | exact HB.out | apply below_alloc | apply pw_below_drewN | apply below_drew1 | refine below_set ?_ GE139.out | refine below_set ?_ GE140.out) | exact HB.out))) : w.heap.size ≤ gb154)); have n8_ := Aside0.mk ((by rw [hg]; exact Nat.ne_of_lt (blk_lt (g := gb139) (o := .cells #[.int .i64 t141, .int .i64 t142, .int .i64 t143, .slice Ao89 t144.length co89] 46 (0, 0)) (by (with_reducible repeat (first | refine blk_drewN ?_ _ | refine blk_drew ?_ | refine blk_alloc ?_ _)); exact BK139.out)) : gb139 ≠ gb154)); have n9_ := Aside0.mk ((by rw [hg]; exact Nat.ne_of_gt (blk_lt (g := gb139) (o := .cells #[.int .i64 t141, .int .i64 t142, .int .i64 t143, .slice Ao89 t144.length co89] 46 (0, 0)) (by (with_reducible repeat (first | refine blk_drewN ?_ _ | refine blk_drew ?_ | refine blk_alloc ?_ _)); exact BK139.out)) : gb154 ≠ gb139)); have n10_ := Aside0.mk ((by rw [hg]; exact Nat.ne_of_lt (blk_lt (g := gb140) (o := .cells #[.int .i64 a1_0, .int .i64 a1_1, .int .i64 a1_2, .int .i64 a1_3] 23 (0, 0)) (by (with_reducible repeat (first | refine blk_drewN ?_ _ | refine blk_drew ?_ | refine blk_alloc ?_ _)); exact BK140.out)) : gb140 ≠ gb154)); have n11_ := Aside0.mk ((by rw [hg]; exact Nat.ne_of_gt (blk_lt (g := gb140) (o := .cells #[.int .i64 a1_0, .int .i64 a1_1, .int .i64 a1_2, .int .i64 a1_3] 23 (0, 0)) (by (with_reducible repeat (first | refine blk_drewN ?_ _ | refine blk_drew ?_ | refine blk_alloc ?_ _)); exact BK140.out)) : gb154 ≠ gb140)); clear HO146; clear HO152; clear BK139; clear BK140; clear HB; have HO146 := n0_; have HO152 := n1_; have BK139 := n2_; have BK140 := n3_; have HB := n4_; have BK154 := n5_; have GW154 := n6_; have GE154 := n7_; have NB139_154 := n8_; have NB154_139 := n9_; have NB140_154 := n10_; have NB154_140 := n11_; clear n0_ n1_ n2_ n3_ n4_ n5_ n6_ n7_ n8_ n9_ n10_ n11_; clear hb hbox hg; have hnb93 := NB154_139.out; have hnc93 := NB139_154.out; have hnb94 := NB154_140.out; have hnc94 := NB140_154.out; have hcz95_0 : w92.cell? ⟨gb154, 0, none⟩ = some (.int .i64 0) := (blk_cell BK154.out 0).trans rfl; have hcz95_1 : w92.cell? ⟨gb154, 1, none⟩ = some (.int .i64 0) := (blk_cell BK154.out 1).trans rfl; have hcz95_2 : w92.cell? ⟨gb154, 2, none⟩ = some (.int .i64 0) := (blk_cell BK154.out 2).trans rfl; have hcz95_3 : w92.cell? ⟨gb154, 3, none⟩ = some (.slice none 0 0) := (blk_cell BK154.out 3).trans rfl; have hfz95_0 := blk_frozen BK154.out 0; have hfz95_1 := blk_frozen BK154.out 1; have hfz95_2 := blk_frozen BK154.out 2; have hfz95_3 := blk_frozen BK154.out 3; obtain ⟨Ao96, co96, eo96⟩ := Kd.R_slice HO152.out; subst eo96) | ((with_reducible refine gate_callee (f := 28) rfl ?_); refine goesL_ (some 22) rfl rfl Try.func28 (by kernel_rfl) rfl #[.agg #[.int .i64 t147, .int .i64 t148, .int .i64 t149, .slice Ao96 t150.length co96], .agg #[.int .i64 0, .int .i64 0, .int .i64 0, .slice none 0 0]] rfl (by (try simp only [List.map_toArray, List.map_cons, List.map_nil]); first | done | rfl | (simp only [List.length_drop, List.length_take]; rfl)) ?_; (refine (bivouacref06_Same.calls t147 t148 t149 _ _ t150 0 0 0 _ _ ([] : List Int) true _ ?side1 ?side2 ?side3 ?side4 A80.out).mono ?_); (case side1 => refine (Kd.R_reads' (e := 5) (base := w.heap.size) (ok := fun k_ => True) (n := t150.length) (c := co96) ?_).2.2; exact (by (with_reducible repeat (first | apply Kd.R_alloc | apply Kd.R_drewN | apply Kd.R_drew)); exact (Kd.R_mono (Kd.R_far (p := ⟨gb154, 3, none⟩) (Kd.R_far (p := ⟨gb154, 2, none⟩) (Kd.R_far (p := ⟨gb154, 1, none⟩) (Kd.R_far (p := ⟨gb154, 0, none⟩) (Kd.R_types HO152.out BK154.out (by decide)) (fun _ hk => hk.2) (.int .i64 t147)) (fun _ hk => hk.2) (.int .i64 t148)) (fun _ hk => hk.2) (.int .i64 t149)) (fun _ hk => hk.2) (.slice Ao96 t150.length co96)) (fun _ h_ => h_.1)))); (case side2 => exact (Kd.R_reads' HO152.out).2.1); (case side3 => exact Kd.C_nil _ _); (case side4 => exact Nat.le_refl _); rintro e w97 ⟨rfl, hb⟩; refine ⟨_, rfl, ?_⟩; have n0_ := Aside0.mk (Kd.V_below (by (with_reducible repeat (first | apply Kd.V_alloc | apply Kd.V_drewN | apply Kd.V_drew)); exact (Kd.V_mono (Kd.V_far (p := ⟨gb154, 3, none⟩) (Kd.V_far (p := ⟨gb154, 2, none⟩) (Kd.V_far (p := ⟨gb154, 1, none⟩) (Kd.V_far (p := ⟨gb154, 0, none⟩) (Kd.V_mono HO146.out (fun k_ hk => (⟨hk, hk.2⟩ : _ ∧ k_ ≠ gb154))) (fun _ hk => hk.2) (.int .i64 t147)) (fun _ hk => hk.2) (.int .i64 t148)) (fun _ hk => hk.2) (.int .i64 t149)) (fun _ hk => hk.2) (.slice Ao96 t150.length co96)) (fun _ h_ => h_.1))) hb); have n1_ := Aside0.mk (Kd.R_below (by (with_reducible repeat (first | apply Kd.R_alloc | apply Kd.R_drewN | apply Kd.R_drew)); exact (Kd.R_mono (Kd.R_far (p := ⟨gb154, 3, none⟩) (Kd.R_far (p := ⟨gb154, 2, none⟩) (Kd.R_far (p := ⟨gb154, 1, none⟩) (Kd.R_far (p := ⟨gb154, 0, none⟩) (Kd.R_types HO152.out BK154.out (by decide)) (fun _ hk => hk.2) (.int .i64 t147)) (fun _ hk => hk.2) (.int .i64 t148)) (fun _ hk => hk.2) (.int .i64 t149)) (fun _ hk => hk.2) (.slice Ao96 t150.length co96)) (fun _ h_ => h_.1))) hb); have n2_ := Aside0.mk (blk_below (g := gb139) (o := .cells #[.int .i64 t141, .int .i64 t142, .int .i64 t143, .slice Ao89 t144.length co89] 46 (0, 0)) (by (with_reducible repeat (first | refine blk_drewN ?_ _ | refine blk_drew ?_ | refine blk_alloc ?_ _)); refine blk_far ?_ NB139_154.out _; (with_reducible repeat (first | refine blk_drewN ?_ _ | refine blk_drew ?_ | refine blk_alloc ?_ _)); refine blk_far ?_ NB139_154.out _; (with_reducible repeat (first | refine blk_drewN ?_ _ | refine blk_drew ?_ | refine blk_alloc ?_ _)); refine blk_far ?_ NB139_154.out _; (with_reducible repeat (first | refine blk_drewN ?_ _ | refine blk_drew ?_ | refine blk_alloc ?_ _)); refine blk_far ?_ NB139_154.out _; (with_reducible repeat (first | refine blk_drewN ?_ _ | refine blk_drew ?_ | refine blk_alloc ?_ _)); exact BK139.out) hb); have n3_ := Aside0.mk (blk_below (g := gb140) (o := .cells #[.int .i64 a1_0, .int .i64 a1_1, .int .i64 a1_2, .int .i64 a1_3] 23 (0, 0)) (by (with_reducible repeat (first | refine blk_drewN ?_ _ | refine blk_drew ?_ | refine blk_alloc ?_ _)); refine blk_far ?_ NB140_154.out _; (with_reducible repeat (first | refine blk_drewN ?_ _ | refine blk_drew ?_ | refine blk_alloc ?_ _)); refine blk_far ?_ NB140_154.out _; (with_reducible repeat (first | refine blk_drewN ?_ _ | refine blk_drew ?_ | refine blk_alloc ?_ _)); refine blk_far ?_ NB140_154.out _; (with_reducible repeat (first | refine blk_drewN ?_ _ | refine blk_drew ?_ | refine blk_alloc ?_ _)); refine blk_far ?_ NB140_154.out _; (with_reducible repeat (first | refine blk_drewN ?_ _ | refine blk_drew ?_ | refine blk_alloc ?_ _)); exact BK140.out) hb); have n4_ := Aside0.mk (blk_below (g := gb154) (o := .cells #[.int .i64 t147, .int .i64 t148, .int .i64 t149, .slice Ao96 t150.length co96] 46 (0, 0)) (by (with_reducible repeat (first | refine blk_drewN ?_ _ | refine blk_drew ?_ | refine blk_alloc ?_ _)); refine blk_put (cs := #[.int .i64 t147, .int .i64 t148, .int .i64 t149, .slice none 0 0]) ?_ 3 _ rfl; (with_reducible repeat (first | refine blk_drewN ?_ _ | refine blk_drew ?_ | refine blk_alloc ?_ _)); refine blk_put (cs := #[.int .i64 t147, .int .i64 t148, .int .i64 0, .slice none 0 0]) ?_ 2 _ rfl; (with_reducible repeat (first | refine blk_drewN ?_ _ | refine blk_drew ?_ | refine blk_alloc ?_ _)); refine blk_put (cs := #[.int .i64 t147, .int .i64 0, .int .i64 0, .slice none 0 0]) ?_ 1 _ rfl; (with_reducible repeat (first | refine blk_drewN ?_ _ | refine blk_drew ?_ | refine blk_alloc ?_ _)); refine blk_put (cs := #[.int .i64 0, .int .i64 0, .int .i64 0, .slice none 0 0]) ?_ 0 _ rfl; (with_reducible repeat (first | refine blk_drewN ?_ _ | refine blk_drew ?_ | refine blk_alloc ?_ _)); exact BK154.out) hb); have n5_ := Aside0.mk (below_step (by repeat (first | (with_reducible first | exact HB.out | apply below_alloc | apply pw_below_drewN | apply below_drew1 | refine below_set ?_ GE139.out | refine below_set ?_ GE140.out | refine below_set ?_ GE154.out) | exact HB.out)) hb); clear HO146; clear HO152; clear BK139; clear BK140; clear BK154; clear HB; have HO146 := n0_; have HO152 := n1_; have BK139 := n2_; have BK140 := n3_; have BK154 := n4_; have HB := n5_; clear n0_ n1_ n2_ n3_ n4_ n5_; (try clear hb); (try clear hb2); (try clear hk); (try clear hi)) | (go_at_call 17; (with_reducible refine (bivouaclaw09_awake.calls  t156 _ A82.out).mono ?_); rintro e w98 ⟨rfl, hb⟩; have n0_ := Aside0.mk (Kd.V_below (by (with_reducible repeat (first | apply Kd.V_alloc | apply Kd.V_drewN | apply Kd.V_drew)); exact HO146.out) hb); have n1_ := Aside0.mk (Kd.R_below (by (with_reducible repeat (first | apply Kd.R_alloc | apply Kd.R_drewN | apply Kd.R_drew)); exact HO152.out) hb); have n2_ := Aside0.mk (blk_below (g := gb139) (o := .cells #[.int .i64 t141, .int .i64 t142, .int .i64 t143, .slice Ao89 t144.length co89] 46 (0, 0)) (by (with_reducible repeat (first | refine blk_drewN ?_ _ | refine blk_drew ?_ | refine blk_alloc ?_ _)); exact BK139.out) hb); have n3_ := Aside0.mk (blk_below (g := gb140) (o := .cells #[.int .i64 a1_0, .int .i64 a1_1, .int .i64 a1_2, .int .i64 a1_3] 23 (0, 0)) (by (with_reducible repeat (first | refine blk_drewN ?_ _ | refine blk_drew ?_ | refine blk_alloc ?_ _)); exact BK140.out) hb); have n4_ := Aside0.mk (blk_below (g := gb154) (o := .cells #[.int .i64 t147, .int .i64 t148, .int .i64 t149, .slice Ao96 t150.length co96] 46 (0, 0)) (by (with_reducible repeat (first | refine blk_drewN ?_ _ | refine blk_drew ?_ | refine blk_alloc ?_ _)); exact BK154.out) hb); have n5_ := Aside0.mk (below_step (by repeat (first | (with_reducible first | exact HB.out | apply below_alloc | apply pw_below_drewN | apply below_drew1 | refine below_set ?_ GE139.out | refine below_set ?_ GE140.out | refine below_set ?_ GE154.out) | exact HB.out)) hb); clear HO146; clear HO152; clear BK139; clear BK140; clear BK154; clear HB; have HO146 := n0_; have HO152 := n1_; have BK139 := n2_; have BK140 := n3_; have BK154 := n4_; have HB := n5_; clear n0_ n1_ n2_ n3_ n4_ n5_; (try clear hb); (try clear hb2); (try clear hk); (try clear hi)))
   go_ret
   exact ⟨by first | rfl | (simp [errW_none, errW_some] <;> rfl) | (simp [*, errW_none, errW_some] <;> rfl) | (rw [Int.tdiv_eq_ediv_of_nonneg (by assumption)]; rfl), by repeat (first | (with_reducible first | exact HB.out | apply below_alloc | apply pw_below_drewN | apply below_drew1 | refine below_set ?_ GE139.out | refine below_set ?_ GE140.out | refine below_set ?_ GE154.out) | exact HB.out)⟩
  ·
   replace c81 := Bool.eq_false_iff.mpr c81
   subst c81
   have H1 : (some false) = some r := by rw [if_neg (show ¬ (false = true) by decide)] at H; exact H
   clear H
   have H := H1
   clear H1
   obtain rfl := Option.some.inj H
   go_enter Try.func10, Try.ntmps10
   go_wp2_with (first | ((with_reducible refine gate_dst (N := 2) rfl ?_); (try (refine gate_guard (by rfl) ?_; dsimp only)); refine box_event ?hg (N := 2) ?hd (cs := #[.int .i64 a0_0, .int .i64 a0_1, .int .i64 a0_2, .slice A0_3 l0_3.length c0_3]) (t := 46) ?hr ?_; (case hd => rfl); (case hg => rfl); (case hr => first | (go_simp; done) | (go_simp; rfl)); intro gb139 hg w99 hbox hb; have n0_ := Aside0.mk (below_step (by repeat (first | (with_reducible first | exact HB.out | apply below_alloc | apply pw_below_drewN | apply below_drew1) | exact HB.out)) hb); have n1_ := Aside0.mk (hbox); have n2_ := Aside0.mk ((by rw [hg]; exact (below_size (by repeat (first | (with_reducible first | exact HB.out | apply below_alloc | apply pw_below_drewN | apply below_drew1) | exact HB.out))) : w.heap.size ≤ gb139)); have n3_ := Aside0.mk ((by rw [hg]; exact (below_size (by repeat (first | (with_reducible first | exact HB.out | apply below_alloc | apply pw_below_drewN | apply below_drew1) | exact HB.out))) : w.heap.size ≤ gb139)); clear HB; have HB := n0_; have BK139 := n1_; have GW139 := n2_; have GE139 := n3_; clear n0_ n1_ n2_ n3_; clear hb hbox hg) | ((with_reducible refine gate_dst (N := 3) rfl ?_); (try (refine gate_guard (by rfl) ?_; dsimp only)); refine box_event ?hg (N := 3) ?hd (cs := #[.int .i64 a1_0, .int .i64 a1_1, .int .i64 a1_2, .int .i64 a1_3]) (t := 23) ?hr ?_; (case hd => rfl); (case hg => rfl); (case hr => first | (go_simp; done) | (go_simp; rfl)); intro gb140 hg w100 hbox hb; have n0_ := Aside0.mk (blk_below (g := gb139) (o := .cells #[.int .i64 a0_0, .int .i64 a0_1, .int .i64 a0_2, .slice A0_3 l0_3.length c0_3] 46 (0, 0)) (by (with_reducible repeat (first | refine blk_drewN ?_ _ | refine blk_drew ?_ | refine blk_alloc ?_ _)); exact BK139.out) hb); have n1_ := Aside0.mk (below_step (by repeat (first | (with_reducible first | exact HB.out | apply below_alloc | apply pw_below_drewN | apply below_drew1 | refine below_set ?_ GE139.out) | exact HB.out)) hb); have n2_ := Aside0.mk (hbox); have n3_ := Aside0.mk ((by rw [hg]; exact (below_size (by repeat (first | (with_reducible first | exact HB.out | apply below_alloc | apply pw_below_drewN | apply below_drew1 | refine below_set ?_ GE139.out) | exact HB.out))) : w.heap.size ≤ gb140)); have n4_ := Aside0.mk ((by rw [hg]; exact (below_size (by repeat (first | (with_reducible first | exact HB.out | apply below_alloc | apply pw_below_drewN | apply below_drew1 | refine below_set ?_ GE139.out) | exact HB.out))) : w.heap.size ≤ gb140)); have n5_ := Aside0.mk ((by rw [hg]; exact Nat.ne_of_lt (blk_lt (g := gb139) (o := .cells #[.int .i64 a0_0, .int .i64 a0_1, .int .i64 a0_2, .slice A0_3 l0_3.length c0_3] 46 (0, 0)) (by (with_reducible repeat (first | refine blk_drewN ?_ _ | refine blk_drew ?_ | refine blk_alloc ?_ _)); exact BK139.out)) : gb139 ≠ gb140)); have n6_ := Aside0.mk ((by rw [hg]; exact Nat.ne_of_gt (blk_lt (g := gb139) (o := .cells #[.int .i64 a0_0, .int .i64 a0_1, .int .i64 a0_2, .slice A0_3 l0_3.length c0_3] 46 (0, 0)) (by (with_reducible repeat (first | refine blk_drewN ?_ _ | refine blk_drew ?_ | refine blk_alloc ?_ _)); exact BK139.out)) : gb140 ≠ gb139)); clear BK139; clear HB; have BK139 := n0_; have HB := n1_; have BK140 := n2_; have GW140 := n3_; have GE140 := n4_; have NB139_140 := n5_; have NB140_139 := n6_; clear n0_ n1_ n2_ n3_ n4_ n5_ n6_; clear hb hbox hg; have hnb101 := NB139_140.out; have hnc101 := NB140_139.out; have hcz102_0 : w100.cell? ⟨gb139, 0, none⟩ = some (.int .i64 a0_0) := (blk_cell BK139.out 0).trans rfl; have hcz102_1 : w100.cell? ⟨gb139, 1, none⟩ = some (.int .i64 a0_1) := (blk_cell BK139.out 1).trans rfl; have hcz102_2 : w100.cell? ⟨gb139, 2, none⟩ = some (.int .i64 a0_2) := (blk_cell BK139.out 2).trans rfl; have hcz102_3 : w100.cell? ⟨gb139, 3, none⟩ = some (.slice A0_3 l0_3.length c0_3) := (blk_cell BK139.out 3).trans rfl; have hfz102_0 := blk_frozen BK139.out 0; have hfz102_1 := blk_frozen BK139.out 1; have hfz102_2 := blk_frozen BK139.out 2; have hfz102_3 := blk_frozen BK139.out 3) | ((with_reducible refine gate_callee (f := 26) rfl ?_); refine goesL_ (some 11) rfl rfl Try.func26 (by kernel_rfl) rfl #[.agg #[.int .i64 a0_0, .int .i64 a0_1, .int .i64 a0_2, .slice A0_3 l0_3.length c0_3]] rfl (by (try simp only [List.map_toArray, List.map_cons, List.map_nil]); first | done | rfl | (simp only [List.length_drop, List.length_take]; rfl)) ?_; (with_reducible refine (bivouaclaw09_few.calls a0_0 a0_1 a0_2 (fun k_ => k_ < w.heap.size) _ _ l0_3 t141 t142 t143 t144 _ ?side1 A3.out).mono ?_); (case side1 => exact Kd.V_mk HC0_3.out (Kd.F_below (Kd.C_F (Kd.heap_int .u8) HR0_3.out) (by repeat (first | (with_reducible first | exact HB.out | apply below_alloc | apply pw_below_drewN | apply below_drew1 | refine below_set ?_ GE139.out | refine below_set ?_ GE140.out) | exact HB.out)))); rintro e w103 ⟨v145, rfl, ho0, hb⟩; refine ⟨_, rfl, ?_⟩; have n0_ := Aside0.mk (Kd.V_lower (Kd.V_mono (ok' := fun k_ => k_ ≠ gb139 ∧ k_ ≠ gb140) ho0 (fun k_ hk_ => ⟨Or.elim hk_ (fun hs_ => fun e_ => Nat.not_le.2 hs_ (by rw [e_]; exact GW139.out)) (fun hn_ => (Kd.freshB (g := gb139) (o := .cells #[.int .i64 a0_0, .int .i64 a0_1, .int .i64 a0_2, .slice A0_3 l0_3.length c0_3] 46 (0, 0)) (by (with_reducible repeat (first | refine blk_drewN ?_ _ | refine blk_drew ?_ | refine blk_alloc ?_ _)); exact BK139.out) k_ hn_)), Or.elim hk_ (fun hs_ => fun e_ => Nat.not_le.2 hs_ (by rw [e_]; exact GW140.out)) (fun hn_ => (Kd.freshB (g := gb140) (o := .cells #[.int .i64 a1_0, .int .i64 a1_1, .int .i64 a1_2, .int .i64 a1_3] 23 (0, 0)) (by (with_reducible repeat (first | refine blk_drewN ?_ _ | refine blk_drew ?_ | refine blk_alloc ?_ _)); exact BK140.out) k_ hn_))⟩)) (below_size (by repeat (first | (with_reducible first | exact HB.out | apply below_alloc | apply pw_below_drewN | apply below_drew1 | refine below_set ?_ GE139.out | refine below_set ?_ GE140.out) | exact HB.out)))); have n1_ := Aside0.mk (blk_below (g := gb139) (o := .cells #[.int .i64 a0_0, .int .i64 a0_1, .int .i64 a0_2, .slice A0_3 l0_3.length c0_3] 46 (0, 0)) (by (with_reducible repeat (first | refine blk_drewN ?_ _ | refine blk_drew ?_ | refine blk_alloc ?_ _)); exact BK139.out) hb); have n2_ := Aside0.mk (blk_below (g := gb140) (o := .cells #[.int .i64 a1_0, .int .i64 a1_1, .int .i64 a1_2, .int .i64 a1_3] 23 (0, 0)) (by (with_reducible repeat (first | refine blk_drewN ?_ _ | refine blk_drew ?_ | refine blk_alloc ?_ _)); exact BK140.out) hb); have n3_ := Aside0.mk (below_step (by repeat (first | (with_reducible first | exact HB.out | apply below_alloc | apply pw_below_drewN | apply below_drew1 | refine below_set ?_ GE139.out | refine below_set ?_ GE140.out) | exact HB.out)) hb); clear BK139; clear BK140; clear HB; have HO146 := n0_; have BK139 := n1_; have BK140 := n2_; have HB := n3_; clear n0_ n1_ n2_ n3_; (try clear hb); (try clear hb2); (try clear hk); (try clear hi); (try clear ho0); have hcz104_0 : w103.cell? ⟨gb139, 0, none⟩ = some (.int .i64 a0_0) := (blk_cell BK139.out 0).trans rfl; have hcz104_1 : w103.cell? ⟨gb139, 1, none⟩ = some (.int .i64 a0_1) := (blk_cell BK139.out 1).trans rfl; have hcz104_2 : w103.cell? ⟨gb139, 2, none⟩ = some (.int .i64 a0_2) := (blk_cell BK139.out 2).trans rfl; have hcz104_3 : w103.cell? ⟨gb139, 3, none⟩ = some (.slice A0_3 l0_3.length c0_3) := (blk_cell BK139.out 3).trans rfl; have hfz104_0 := blk_frozen BK139.out 0; have hfz104_1 := blk_frozen BK139.out 1; have hfz104_2 := blk_frozen BK139.out 2; have hfz104_3 := blk_frozen BK139.out 3; obtain ⟨Ao105, co105, eo105⟩ := Kd.V_slice HO146.out; subst eo105; have hcz106_0 : w103.cell? ⟨gb140, 0, none⟩ = some (.int .i64 a1_0) := (blk_cell BK140.out 0).trans rfl; have hcz106_1 : w103.cell? ⟨gb140, 1, none⟩ = some (.int .i64 a1_1) := (blk_cell BK140.out 1).trans rfl; have hcz106_2 : w103.cell? ⟨gb140, 2, none⟩ = some (.int .i64 a1_2) := (blk_cell BK140.out 2).trans rfl; have hcz106_3 : w103.cell? ⟨gb140, 3, none⟩ = some (.int .i64 a1_3) := (blk_cell BK140.out 3).trans rfl; have hfz106_0 := blk_frozen BK140.out 0; have hfz106_1 := blk_frozen BK140.out 1; have hfz106_2 := blk_frozen BK140.out 2; have hfz106_3 := blk_frozen BK140.out 3) | ((with_reducible refine gate_callee (f := 27) rfl ?_); refine goesL_ (some 15) rfl rfl Try.func27 (by kernel_rfl) rfl #[.agg #[.int .i64 t141, .int .i64 t142, .int .i64 t143, .slice Ao105 t144.length co105], .agg #[.int .i64 a1_0, .int .i64 a1_1, .int .i64 a1_2, .int .i64 a1_3]] rfl (by (try simp only [List.map_toArray, List.map_cons, List.map_nil]); first | done | rfl | (simp only [List.length_drop, List.length_take]; rfl)) ?_; (with_reducible refine (crater_Strike.calls k t141 t142 t143 _ _ t144 a1_0 a1_1 a1_2 a1_3 t147 t148 t149 t150 t153 _ ?side1 ?side2 A4.out).mono ?_); (case side1 => refine (Kd.V_reads' (e := 5) (base := w.heap.size) (ok := fun k_ => (k_ ≠ gb139 ∧ k_ ≠ gb140)) (n := t144.length) (c := co105) ?_).2.2; exact (by (with_reducible repeat (first | apply Kd.V_alloc | apply Kd.V_drewN | apply Kd.V_drew)); exact (Kd.V_mono (Kd.V_far (p := ⟨gb139, 3, none⟩) (Kd.V_far (p := ⟨gb139, 2, none⟩) (Kd.V_far (p := ⟨gb139, 1, none⟩) (Kd.V_far (p := ⟨gb139, 0, none⟩) (Kd.V_mono HO146.out (fun k_ hk => (⟨hk, hk.1⟩ : _ ∧ k_ ≠ gb139))) (fun _ hk => hk.2) (.int .i64 t141)) (fun _ hk => hk.2) (.int .i64 t142)) (fun _ hk => hk.2) (.int .i64 t143)) (fun _ hk => hk.2) (.slice Ao105 t144.length co105)) (fun _ h_ => h_.1)))); (case side2 => exact (Kd.V_reads' HO146.out).2.1); rintro e w107 ⟨v151, rfl, ho0, hb⟩; refine ⟨_, rfl, ?_⟩; have n0_ := Aside0.mk (Kd.V_elder' (by (with_reducible repeat (first | apply Kd.V_alloc | apply Kd.V_drewN | apply Kd.V_drew)); exact (Kd.V_mono (Kd.V_far (p := ⟨gb139, 3, none⟩) (Kd.V_far (p := ⟨gb139, 2, none⟩) (Kd.V_far (p := ⟨gb139, 1, none⟩) (Kd.V_far (p := ⟨gb139, 0, none⟩) (Kd.V_mono HO146.out (fun k_ hk => (⟨hk, hk.1⟩ : _ ∧ k_ ≠ gb139))) (fun _ hk => hk.2) (.int .i64 t141)) (fun _ hk => hk.2) (.int .i64 t142)) (fun _ hk => hk.2) (.int .i64 t143)) (fun _ hk => hk.2) (.slice Ao105 t144.length co105)) (fun _ h_ => h_.1))) (Kd.R_base ho0) hb); have n1_ := Aside0.mk (Kd.R_lower ho0 (below_size (by repeat (first | (with_reducible first | exact HB.out | apply below_alloc | apply pw_below_drewN | apply below_drew1 | refine below_set ?_ GE139.out | refine below_set ?_ GE140.out) | exact HB.out)))); have n2_ := Aside0.mk (blk_below (g := gb139) (o := .cells #[.int .i64 t141, .int .i64 t142, .int .i64 t143, .slice Ao105 t144.length co105] 46 (0, 0)) (by (with_reducible repeat (first | refine blk_drewN ?_ _ | refine blk_drew ?_ | refine blk_alloc ?_ _)); refine blk_put (cs := #[.int .i64 t141, .int .i64 t142, .int .i64 t143, .slice A0_3 l0_3.length c0_3]) ?_ 3 _ rfl; (with_reducible repeat (first | refine blk_drewN ?_ _ | refine blk_drew ?_ | refine blk_alloc ?_ _)); refine blk_put (cs := #[.int .i64 t141, .int .i64 t142, .int .i64 a0_2, .slice A0_3 l0_3.length c0_3]) ?_ 2 _ rfl; (with_reducible repeat (first | refine blk_drewN ?_ _ | refine blk_drew ?_ | refine blk_alloc ?_ _)); refine blk_put (cs := #[.int .i64 t141, .int .i64 a0_1, .int .i64 a0_2, .slice A0_3 l0_3.length c0_3]) ?_ 1 _ rfl; (with_reducible repeat (first | refine blk_drewN ?_ _ | refine blk_drew ?_ | refine blk_alloc ?_ _)); refine blk_put (cs := #[.int .i64 a0_0, .int .i64 a0_1, .int .i64 a0_2, .slice A0_3 l0_3.length c0_3]) ?_ 0 _ rfl; (with_reducible repeat (first | refine blk_drewN ?_ _ | refine blk_drew ?_ | refine blk_alloc ?_ _)); exact BK139.out) hb); have n3_ := Aside0.mk (blk_below (g := gb140) (o := .cells #[.int .i64 a1_0, .int .i64 a1_1, .int .i64 a1_2, .int .i64 a1_3] 23 (0, 0)) (by (with_reducible repeat (first | refine blk_drewN ?_ _ | refine blk_drew ?_ | refine blk_alloc ?_ _)); refine blk_far ?_ NB140_139.out _; (with_reducible repeat (first | refine blk_drewN ?_ _ | refine blk_drew ?_ | refine blk_alloc ?_ _)); refine blk_far ?_ NB140_139.out _; (with_reducible repeat (first | refine blk_drewN ?_ _ | refine blk_drew ?_ | refine blk_alloc ?_ _)); refine blk_far ?_ NB140_139.out _; (with_reducible repeat (first | refine blk_drewN ?_ _ | refine blk_drew ?_ | refine blk_alloc ?_ _)); refine blk_far ?_ NB140_139.out _; (with_reducible repeat (first | refine blk_drewN ?_ _ | refine blk_drew ?_ | refine blk_alloc ?_ _)); exact BK140.out) hb); have n4_ := Aside0.mk (below_step (by repeat (first | (with_reducible first | exact HB.out | apply below_alloc | apply pw_below_drewN | apply below_drew1 | refine below_set ?_ GE139.out | refine below_set ?_ GE140.out) | exact HB.out)) hb); clear HO146; clear BK139; clear BK140; clear HB; have HO146 := n0_; have HO152 := n1_; have BK139 := n2_; have BK140 := n3_; have HB := n4_; clear n0_ n1_ n2_ n3_ n4_; (try clear hb); (try clear hb2); (try clear hk); (try clear hi); (try clear ho0)) | ((with_reducible refine gate_dst (N := 5) rfl ?_); (try (refine gate_guard (by rfl) ?_; dsimp only)); refine box_event ?hg (N := 5) ?hd (cs := #[.int .i64 0, .int .i64 0, .int .i64 0, .slice none 0 0]) (t := 46) ?hr ?_; (case hd => rfl); (case hg => rfl); (case hr => first | (go_simp; done) | (go_simp; rfl)); intro gb154 hg w108 hbox hb; have n0_ := Aside0.mk (Kd.V_below (Kd.V_elderB (by (with_reducible repeat (first | apply Kd.V_alloc | apply Kd.V_drewN | apply Kd.V_drew)); exact HO146.out) gb154 (Nat.le_of_eq hg.symm)) hb); have n1_ := Aside0.mk (Kd.R_below (by (with_reducible repeat (first | apply Kd.R_alloc | apply Kd.R_drewN | apply Kd.R_drew)); exact HO152.out) hb); have n2_ := Aside0.mk (blk_below (g := gb139) (o := .cells #[.int .i64 t141, .int .i64 t142, .int .i64 t143, .slice Ao105 t144.length co105] 46 (0, 0)) (by (with_reducible repeat (first | refine blk_drewN ?_ _ | refine blk_drew ?_ | refine blk_alloc ?_ _)); exact BK139.out) hb); have n3_ := Aside0.mk (blk_below (g := gb140) (o := .cells #[.int .i64 a1_0, .int .i64 a1_1, .int .i64 a1_2, .int .i64 a1_3] 23 (0, 0)) (by (with_reducible repeat (first | refine blk_drewN ?_ _ | refine blk_drew ?_ | refine blk_alloc ?_ _)); exact BK140.out) hb); have n4_ := Aside0.mk (below_step (by repeat (first | (with_reducible first | exact HB.out | apply below_alloc | apply pw_below_drewN | apply below_drew1 | refine below_set ?_ GE139.out | refine below_set ?_ GE140.out) | exact HB.out)) hb); have n5_ := Aside0.mk (hbox); have n6_ := Aside0.mk ((by rw [hg]; exact (below_size (by repeat (first | (with_reducible first | exact HB.out | apply below_alloc | apply pw_below_drewN | apply below_drew1 | refine below_set ?_ GE139.out | refine below_set ?_ GE140.out) | exact HB.out))) : w.heap.size ≤ gb154)); have n7_ := Aside0.mk ((by rw [hg]; exact (below_size (by repeat (first | (with_reducible first | exact HB.out | apply below_alloc | apply pw_below_drewN | apply below_drew1 | refine below_set ?_ GE139.out | refine below_set ?_ GE140.out) | exact HB.out))) : w.heap.size ≤ gb154)); have n8_ := Aside0.mk ((by rw [hg]; exact Nat.ne_of_lt (blk_lt (g := gb139) (o := .cells #[.int .i64 t141, .int .i64 t142, .int .i64 t143, .slice Ao105 t144.length co105] 46 (0, 0)) (by (with_reducible repeat (first | refine blk_drewN ?_ _ | refine blk_drew ?_ | refine blk_alloc ?_ _)); exact BK139.out)) : gb139 ≠ gb154)); have n9_ := Aside0.mk ((by rw [hg]; exact Nat.ne_of_gt (blk_lt (g := gb139) (o := .cells #[.int .i64 t141, .int .i64 t142, .int .i64 t143, .slice Ao105 t144.length co105] 46 (0, 0)) (by (with_reducible repeat (first | refine blk_drewN ?_ _ | refine blk_drew ?_ | refine blk_alloc ?_ _)); exact BK139.out)) : gb154 ≠ gb139)); have n10_ := Aside0.mk ((by rw [hg]; exact Nat.ne_of_lt (blk_lt (g := gb140) (o := .cells #[.int .i64 a1_0, .int .i64 a1_1, .int .i64 a1_2, .int .i64 a1_3] 23 (0, 0)) (by (with_reducible repeat (first | refine blk_drewN ?_ _ | refine blk_drew ?_ | refine blk_alloc ?_ _)); exact BK140.out)) : gb140 ≠ gb154)); have n11_ := Aside0.mk ((by rw [hg]; exact Nat.ne_of_gt (blk_lt (g := gb140) (o := .cells #[.int .i64 a1_0, .int .i64 a1_1, .int .i64 a1_2, .int .i64 a1_3] 23 (0, 0)) (by (with_reducible repeat (first | refine blk_drewN ?_ _ | refine blk_drew ?_ | refine blk_alloc ?_ _)); exact BK140.out)) : gb154 ≠ gb140)); clear HO146; clear HO152; clear BK139; clear BK140; clear HB; have HO146 := n0_; have HO152 := n1_; have BK139 := n2_; have BK140 := n3_; have HB := n4_; have BK154 := n5_; have GW154 := n6_; have GE154 := n7_; have NB139_154 := n8_; have NB154_139 := n9_; have NB140_154 := n10_; have NB154_140 := n11_; clear n0_ n1_ n2_ n3_ n4_ n5_ n6_ n7_ n8_ n9_ n10_ n11_; clear hb hbox hg; have hnb109 := NB154_139.out; have hnc109 := NB139_154.out; have hnb110 := NB154_140.out; have hnc110 := NB140_154.out; have hcz111_0 : w108.cell? ⟨gb154, 0, none⟩ = some (.int .i64 0) := (blk_cell BK154.out 0).trans rfl; have hcz111_1 : w108.cell? ⟨gb154, 1, none⟩ = some (.int .i64 0) := (blk_cell BK154.out 1).trans rfl; have hcz111_2 : w108.cell? ⟨gb154, 2, none⟩ = some (.int .i64 0) := (blk_cell BK154.out 2).trans rfl; have hcz111_3 : w108.cell? ⟨gb154, 3, none⟩ = some (.slice none 0 0) := (blk_cell BK154.out 3).trans rfl; have hfz111_0 := blk_frozen BK154.out 0; have hfz111_1 := blk_frozen BK154.out 1; have hfz111_2 := blk_frozen BK154.out 2; have hfz111_3 := blk_frozen BK154.out 3; obtain ⟨Ao112, co112, eo112⟩ := Kd.R_slice HO152.out; subst eo112) | ((with_reducible refine gate_callee (f := 28) rfl ?_); refine goesL_ (some 22) rfl rfl Try.func28 (by kernel_rfl) rfl #[.agg #[.int .i64 t147, .int .i64 t148, .int .i64 t149, .slice Ao112 t150.length co112], .agg #[.int .i64 0, .int .i64 0, .int .i64 0, .slice none 0 0]] rfl (by (try simp only [List.map_toArray, List.map_cons, List.map_nil]); first | done | rfl | (simp only [List.length_drop, List.length_take]; rfl)) ?_; (refine (bivouacref06_Same.calls t147 t148 t149 _ _ t150 0 0 0 _ _ ([] : List Int) false _ ?side1 ?side2 ?side3 ?side4 A80.out).mono ?_); (case side1 => refine (Kd.R_reads' (e := 5) (base := w.heap.size) (ok := fun k_ => True) (n := t150.length) (c := co112) ?_).2.2; exact (by (with_reducible repeat (first | apply Kd.R_alloc | apply Kd.R_drewN | apply Kd.R_drew)); exact (Kd.R_mono (Kd.R_far (p := ⟨gb154, 3, none⟩) (Kd.R_far (p := ⟨gb154, 2, none⟩) (Kd.R_far (p := ⟨gb154, 1, none⟩) (Kd.R_far (p := ⟨gb154, 0, none⟩) (Kd.R_types HO152.out BK154.out (by decide)) (fun _ hk => hk.2) (.int .i64 t147)) (fun _ hk => hk.2) (.int .i64 t148)) (fun _ hk => hk.2) (.int .i64 t149)) (fun _ hk => hk.2) (.slice Ao112 t150.length co112)) (fun _ h_ => h_.1)))); (case side2 => exact (Kd.R_reads' HO152.out).2.1); (case side3 => exact Kd.C_nil _ _); (case side4 => exact Nat.le_refl _); rintro e w113 ⟨rfl, hb⟩; refine ⟨_, rfl, ?_⟩; have n0_ := Aside0.mk (Kd.V_below (by (with_reducible repeat (first | apply Kd.V_alloc | apply Kd.V_drewN | apply Kd.V_drew)); exact (Kd.V_mono (Kd.V_far (p := ⟨gb154, 3, none⟩) (Kd.V_far (p := ⟨gb154, 2, none⟩) (Kd.V_far (p := ⟨gb154, 1, none⟩) (Kd.V_far (p := ⟨gb154, 0, none⟩) (Kd.V_mono HO146.out (fun k_ hk => (⟨hk, hk.2⟩ : _ ∧ k_ ≠ gb154))) (fun _ hk => hk.2) (.int .i64 t147)) (fun _ hk => hk.2) (.int .i64 t148)) (fun _ hk => hk.2) (.int .i64 t149)) (fun _ hk => hk.2) (.slice Ao112 t150.length co112)) (fun _ h_ => h_.1))) hb); have n1_ := Aside0.mk (Kd.R_below (by (with_reducible repeat (first | apply Kd.R_alloc | apply Kd.R_drewN | apply Kd.R_drew)); exact (Kd.R_mono (Kd.R_far (p := ⟨gb154, 3, none⟩) (Kd.R_far (p := ⟨gb154, 2, none⟩) (Kd.R_far (p := ⟨gb154, 1, none⟩) (Kd.R_far (p := ⟨gb154, 0, none⟩) (Kd.R_types HO152.out BK154.out (by decide)) (fun _ hk => hk.2) (.int .i64 t147)) (fun _ hk => hk.2) (.int .i64 t148)) (fun _ hk => hk.2) (.int .i64 t149)) (fun _ hk => hk.2) (.slice Ao112 t150.length co112)) (fun _ h_ => h_.1))) hb); have n2_ := Aside0.mk (blk_below (g := gb139) (o := .cells #[.int .i64 t141, .int .i64 t142, .int .i64 t143, .slice Ao105 t144.length co105] 46 (0, 0)) (by (with_reducible repeat (first | refine blk_drewN ?_ _ | refine blk_drew ?_ | refine blk_alloc ?_ _)); refine blk_far ?_ NB139_154.out _; (with_reducible repeat (first | refine blk_drewN ?_ _ | refine blk_drew ?_ | refine blk_alloc ?_ _)); refine blk_far ?_ NB139_154.out _; (with_reducible repeat (first | refine blk_drewN ?_ _ | refine blk_drew ?_ | refine blk_alloc ?_ _)); refine blk_far ?_ NB139_154.out _; (with_reducible repeat (first | refine blk_drewN ?_ _ | refine blk_drew ?_ | refine blk_alloc ?_ _)); refine blk_far ?_ NB139_154.out _; (with_reducible repeat (first | refine blk_drewN ?_ _ | refine blk_drew ?_ | refine blk_alloc ?_ _)); exact BK139.out) hb); have n3_ := Aside0.mk (blk_below (g := gb140) (o := .cells #[.int .i64 a1_0, .int .i64 a1_1, .int .i64 a1_2, .int .i64 a1_3] 23 (0, 0)) (by (with_reducible repeat (first | refine blk_drewN ?_ _ | refine blk_drew ?_ | refine blk_alloc ?_ _)); refine blk_far ?_ NB140_154.out _; (with_reducible repeat (first | refine blk_drewN ?_ _ | refine blk_drew ?_ | refine blk_alloc ?_ _)); refine blk_far ?_ NB140_154.out _; (with_reducible repeat (first | refine blk_drewN ?_ _ | refine blk_drew ?_ | refine blk_alloc ?_ _)); refine blk_far ?_ NB140_154.out _; (with_reducible repeat (first | refine blk_drewN ?_ _ | refine blk_drew ?_ | refine blk_alloc ?_ _)); refine blk_far ?_ NB140_154.out _; (with_reducible repeat (first | refine blk_drewN ?_ _ | refine blk_drew ?_ | refine blk_alloc ?_ _)); exact BK140.out) hb); have n4_ := Aside0.mk (blk_below (g := gb154) (o := .cells #[.int .i64 t147, .int .i64 t148, .int .i64 t149, .slice Ao112 t150.length co112] 46 (0, 0)) (by (with_reducible repeat (first | refine blk_drewN ?_ _ | refine blk_drew ?_ | refine blk_alloc ?_ _)); refine blk_put (cs := #[.int .i64 t147, .int .i64 t148, .int .i64 t149, .slice none 0 0]) ?_ 3 _ rfl; (with_reducible repeat (first | refine blk_drewN ?_ _ | refine blk_drew ?_ | refine blk_alloc ?_ _)); refine blk_put (cs := #[.int .i64 t147, .int .i64 t148, .int .i64 0, .slice none 0 0]) ?_ 2 _ rfl; (with_reducible repeat (first | refine blk_drewN ?_ _ | refine blk_drew ?_ | refine blk_alloc ?_ _)); refine blk_put (cs := #[.int .i64 t147, .int .i64 0, .int .i64 0, .slice none 0 0]) ?_ 1 _ rfl; (with_reducible repeat (first | refine blk_drewN ?_ _ | refine blk_drew ?_ | refine blk_alloc ?_ _)); refine blk_put (cs := #[.int .i64 0, .int .i64 0, .int .i64 0, .slice none 0 0]) ?_ 0 _ rfl; (with_reducible repeat (first | refine blk_drewN ?_ _ | refine blk_drew ?_ | refine blk_alloc ?_ _)); exact BK154.out) hb); have n5_ := Aside0.mk (below_step (by repeat (first | (with_reducible first | exact HB.out | apply below_alloc | apply pw_below_drewN | apply below_drew1 | refine below_set ?_ GE139.out | refine below_set ?_ GE140.out | refine below_set ?_ GE154.out) | exact HB.out)) hb); clear HO146; clear HO152; clear BK139; clear BK140; clear BK154; clear HB; have HO146 := n0_; have HO152 := n1_; have BK139 := n2_; have BK140 := n3_; have BK154 := n4_; have HB := n5_; clear n0_ n1_ n2_ n3_ n4_ n5_; (try clear hb); (try clear hb2); (try clear hk); (try clear hi)))
   go_ret
   exact ⟨by first | rfl | (simp [errW_none, errW_some] <;> rfl) | (simp [*, errW_none, errW_some] <;> rfl) | (rw [Int.tdiv_eq_ediv_of_nonneg (by assumption)]; rfl), by repeat (first | (with_reducible first | exact HB.out | apply below_alloc | apply pw_below_drewN | apply below_drew1 | refine below_set ?_ GE139.out | refine below_set ?_ GE140.out | refine below_set ?_ GE154.out) | exact HB.out)⟩

/-- THE ONE PURE STATEMENT of bivouaclaw09_CraterFalls. -/
def bivouaclaw09_CraterFalls.Pure : Prop := ∀ (a0_0 : Int) (a0_1 : Int) (a0_2 : Int) (l0_3 : List Int) (a1_0 : Int) (a1_1 : Int) (a1_2 : Int) (a1_3 : Int), (Lit.int .i64 a0_0).wf = true → (Lit.int .i64 a0_1).wf = true → (Lit.int .i64 a0_2).wf = true → l0_3.length ≤ maxLen → (∀ x ∈ l0_3, (Lit.int .u8 x).wf = true) → (Lit.int .i64 a1_0).wf = true → (Lit.int .i64 a1_1).wf = true → (Lit.int .i64 a1_2).wf = true → (Lit.int .i64 a1_3).wf = true → ∃ k, bivouaclaw09_CraterFalls.f k a0_0 a0_1 a0_2 l0_3 a1_0 a1_1 a1_2 a1_3 = some true
theorem bivouaclaw09_CraterFalls.walked : True := trivial

end Go.Proofs.Ytlhcakepaaeaoaa.PCr
