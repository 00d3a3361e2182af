-- WRITTEN BY A PROGRAM OF THIS SESSION (a turned copy of the kit's printer), for this claim. Nothing here is trusted: Lean checks it.
import Derived.Test.YtfcocbkfodmmbaaPAx0
import Derived.Test.YtfcocbkfodmmbaaPAx1
import Derived.Test.YtfcocbkfodmmbaaPAx12
import Derived.Test.YtfcocbkfodmmbaaPAx15
import Derived.Test.YtfcocbkfodmmbaaPAx16
import Derived.Test.YtfcocbkfodmmbaaPAx17
import Derived.Test.YtfcocbkfodmmbaaPAx18
import Derived.Test.YtfcocbkfodmmbaaGAbivouaclaw16awake
namespace Go.Proofs.Ytfcocbkfodmmbaa.PA
open Go.RowKit Go.Proofs.YtfcocbkfodmmbaaW.PrintWords Go.Proofs.YtfcocbkfodmmbaaW.PrintLast Go.Proofs.YtfcocbkfodmmbaaW.PrintMore
attribute [local go_sem] max2_int min2_int max_two min_two max_three min_three max_four min_four   -- for this text's walks alone
set_option linter.unusedVariables false
set_option linter.unusedSimpArgs false
theorem aM19 {p : Prop} (h : p) : Aside0 p := Aside0.mk h
theorem bN19 {w : World} {g : Nat} {o : Obj} (h : w.heap[g]? = some o) (n : Nat) : (w.drewN n).heap[g]? = some o := h
theorem bD19 {w : World} {g : Nat} {o : Obj} (h : w.heap[g]? = some o) : w.drew.heap[g]? = some o := h
theorem bK19 {w : World} {g : Nat} {o : Obj} (h : w.heap[g]? = some o) (o' : Obj) : (w.alloc o').heap[g]? = some o := blk_alloc h o'
theorem bC19 {w : World} {g : Nat} {t : TypeId} {cs : Array Value} (h : w.heap[g]? = some (.cells cs t (0, 0))) (i : Nat) : w.cell? ⟨g, i, none⟩ = cs[i]? := blk_cell h i
theorem bF19 {w : World} {g : Nat} {t : TypeId} {cs : Array Value} (h : w.heap[g]? = some (.cells cs t (0, 0))) (i : Nat) : w.frozen? ⟨g, i, none⟩ = false := blk_frozen h i

attribute [local go_sem high] eqA38
/-! ### bivouaclaw16_ShotAbove: function 9 -/
def bivouaclaw16_ShotAbove.j0 : Nat → Int → Int → Int → Bool → Int → Int → Int → Int → Int → Int → Int → Int → Int → Int → Int → Int → Int → Int → Int → Int → Option (Bool)
 | 0, _, _, _, _, _, _, _, _, _, _, _, _, _, _, _, _, _, _, _, _ => none
 | k + 1, x5, x6, x10, x127, x209000, x209001, x209002, x209003, x209004, x209005, x209006, x209007, x219000, x219001, x219002, x219003, x219004, x219005, x219006, x219007 => if x127 = true then (none) else (if x10 = 0 then (if x209000 = (wrap64 (x5)) then (if x219000 ≥ x209000 then (if x6 > 0 then ((bivouaclaw16_awake.f).bind fun t224 => (some t224)) else (if (x219000 == x209000 && (x219001 == x209001 && ((x219002 == x209002 && (x219003 == x209003 && (x219004 == x209004 && (x219005 == x209005 && (x219006 == x209006 && (x219007 == x209007))))))))) = true then ((bivouaclaw16_awake.f).bind fun t225 => (some t225)) else (none))) else (none)) else (none)) else (none))
def bivouaclaw16_ShotAbove.f (k : Nat) (a0_0 : Int) (a0_1 : Int) (a0_2 : Int) (l0_3 : List Int) (a0_4 : Int) (a0_5 : Int) (a0_6 : Int) (a0_7 : Int) (a0_8 : Int) (a0_9 : Int) (a0_10 : Int) (a0_11 : Int) : Option (Bool) := (bivouaclaw16_few.f a0_0 a0_1 a0_2 l0_3).bind fun bt189 => ((bivouacref06_Check.f k bt189.1 bt189.2.1 bt189.2.2.1 bt189.2.2.2).bind fun t197 => (if t197 = 0 then ((shot_Fly.f k bt189.1 bt189.2.1 bt189.2.2.1 bt189.2.2.2 a0_4 a0_5 a0_6 a0_7 a0_8 a0_9 ((a0_10) % 256)).bind fun bt199 => ((shot_Fly.f k bt189.1 bt189.2.1 bt189.2.2.1 bt189.2.2.2 a0_4 a0_5 a0_6 a0_7 a0_8 a0_9 (wrap64 (((a0_10) % 256) + (wrap64 (a0_11))))).bind fun bt209 => (if bt199.2.2.2.2.2.2.2.2 = 0 then (if bt199.2.1 = 0 then (if ((a0_10) % 256) > 0 then ((bivouacref06_On.f bt189.1 bt189.2.1 bt189.2.2.1 bt189.2.2.2 bt199.2.2.1 bt199.2.2.2.1).bind fun t222 => (if t222 = true then ((bivouacref06_Height.f bt189.1 bt189.2.1 bt189.2.2.1 bt189.2.2.2 bt199.2.2.1 bt199.2.2.2.1).bind fun t223 => (if bt199.2.2.2.2.1 ≤ t223 then (bivouaclaw16_ShotAbove.j0 k ((a0_10) % 256) a0_11 bt209.2.2.2.2.2.2.2.2 true bt199.1 bt199.2.1 bt199.2.2.1 bt199.2.2.2.1 bt199.2.2.2.2.1 bt199.2.2.2.2.2.1 bt199.2.2.2.2.2.2.1 bt199.2.2.2.2.2.2.2.1 bt209.1 bt209.2.1 bt209.2.2.1 bt209.2.2.2.1 bt209.2.2.2.2.1 bt209.2.2.2.2.2.1 bt209.2.2.2.2.2.2.1 bt209.2.2.2.2.2.2.2.1) else (bivouaclaw16_ShotAbove.j0 k ((a0_10) % 256) a0_11 bt209.2.2.2.2.2.2.2.2 (decide (bt199.2.2.2.2.1 ≤ (wrap64 (bt189.2.2.1 * 65536)))) bt199.1 bt199.2.1 bt199.2.2.1 bt199.2.2.2.1 bt199.2.2.2.2.1 bt199.2.2.2.2.2.1 bt199.2.2.2.2.2.2.1 bt199.2.2.2.2.2.2.2.1 bt209.1 bt209.2.1 bt209.2.2.1 bt209.2.2.2.1 bt209.2.2.2.2.1 bt209.2.2.2.2.2.1 bt209.2.2.2.2.2.2.1 bt209.2.2.2.2.2.2.2.1))) else (bivouaclaw16_ShotAbove.j0 k ((a0_10) % 256) a0_11 bt209.2.2.2.2.2.2.2.2 true bt199.1 bt199.2.1 bt199.2.2.1 bt199.2.2.2.1 bt199.2.2.2.2.1 bt199.2.2.2.2.2.1 bt199.2.2.2.2.2.2.1 bt199.2.2.2.2.2.2.2.1 bt209.1 bt209.2.1 bt209.2.2.1 bt209.2.2.2.1 bt209.2.2.2.2.1 bt209.2.2.2.2.2.1 bt209.2.2.2.2.2.2.1 bt209.2.2.2.2.2.2.2.1))) else (bivouaclaw16_ShotAbove.j0 k ((a0_10) % 256) a0_11 bt209.2.2.2.2.2.2.2.2 false bt199.1 bt199.2.1 bt199.2.2.1 bt199.2.2.2.1 bt199.2.2.2.2.1 bt199.2.2.2.2.2.1 bt199.2.2.2.2.2.2.1 bt199.2.2.2.2.2.2.2.1 bt209.1 bt209.2.1 bt209.2.2.1 bt209.2.2.2.1 bt209.2.2.2.2.1 bt209.2.2.2.2.2.1 bt209.2.2.2.2.2.2.1 bt209.2.2.2.2.2.2.2.1)) else (if bt209.2.2.2.2.2.2.2.2 = 0 then (if (bt209.1 == bt199.1 && (bt209.2.1 == bt199.2.1 && ((bt209.2.2.1 == bt199.2.2.1 && (bt209.2.2.2.1 == bt199.2.2.2.1 && (bt209.2.2.2.2.1 == bt199.2.2.2.2.1 && (bt209.2.2.2.2.2.1 == bt199.2.2.2.2.2.1 && (bt209.2.2.2.2.2.2.1 == bt199.2.2.2.2.2.2.1 && (bt209.2.2.2.2.2.2.2.1 == bt199.2.2.2.2.2.2.2.1))))))))) = true then (if bt199.1 ≥ 1 then (if bt199.1 ≤ ((a0_10) % 256) then ((bivouacref06_On.f bt189.1 bt189.2.1 bt189.2.2.1 bt189.2.2.2 bt199.2.2.1 bt199.2.2.2.1).bind fun t220 => (if ((bt199.2.1 == 3) == (!t220)) = true then ((bivouaclaw16_awake.f).bind fun t221 => (some t221)) else (none))) else (none)) else (none)) else (none)) else (none))) else (if bt209.2.2.2.2.2.2.2.2 = bt199.2.2.2.2.2.2.2.2 then ((bivouaclaw16_awake.f).bind fun t219 => (some t219)) else (none))))) else ((bivouaclaw16_awake.f).bind fun t198 => (some t198))))
theorem bivouaclaw16_ShotAbove.mono_l : ∀ k, (∀ y0 y1 y2 y3 y4 y5 y6 y7 y8 y9 y10 y11 y12 y13 y14 y15 y16 y17 y18 y19, LeO (bivouaclaw16_ShotAbove.j0 k y0 y1 y2 y3 y4 y5 y6 y7 y8 y9 y10 y11 y12 y13 y14 y15 y16 y17 y18 y19) (bivouaclaw16_ShotAbove.j0 (k + 1) y0 y1 y2 y3 y4 y5 y6 y7 y8 y9 y10 y11 y12 y13 y14 y15 y16 y17 y18 y19))
 | 0 => fun _ _ _ _ _ _ _ _ _ _ _ _ _ _ _ _ _ _ _ _ r h => by simp [bivouaclaw16_ShotAbove.j0] at h
 | k + 1 => by
  have ih0 := bivouaclaw16_ShotAbove.mono_l k
  ·
   intro y0 y1 y2 y3 y4 y5 y6 y7 y8 y9 y10 y11 y12 y13 y14 y15 y16 y17 y18 y19
   unfold bivouaclaw16_ShotAbove.j0
   repeat' first
   | (with_reducible exact ih0 _ _ _ _ _ _ _ _ _ _ _ _ _ _ _ _ _ _ _ _)
   | (with_reducible exact bivouacref06_Check.mono _ _ _ _ _)
   | (with_reducible exact shot_Fly.mono _ _ _ _ _ _ _ _ _ _ _ _)
   | (with_reducible exact LeO.refl _)
   | (with_reducible exact LeO.none _)
   | (with_reducible refine LeO.ite ?_ ?_)
   | (with_reducible refine LeO.bind ?_ (fun _ => ?_))
   | exact ih0 _ _ _ _ _ _ _ _ _ _ _ _ _ _ _ _ _ _ _ _
   | exact bivouacref06_Check.mono _ _ _ _ _
   | exact shot_Fly.mono _ _ _ _ _ _ _ _ _ _ _ _
   | exact LeO.none _
   | refine LeO.ite ?_ ?_
   | refine LeO.bind ?_ (fun _ => ?_)
theorem bivouaclaw16_ShotAbove.mono : ∀ a0 a1 a2 a3 a4 a5 a6 a7 a8 a9 a10 a11 k, LeO (bivouaclaw16_ShotAbove.f k a0 a1 a2 a3 a4 a5 a6 a7 a8 a9 a10 a11) (bivouaclaw16_ShotAbove.f (k + 1) a0 a1 a2 a3 a4 a5 a6 a7 a8 a9 a10 a11) := by
 intro a0 a1 a2 a3 a4 a5 a6 a7 a8 a9 a10 a11 k
 have ih0 := bivouaclaw16_ShotAbove.mono_l k
 unfold bivouaclaw16_ShotAbove.f
 repeat' first
   | (with_reducible exact ih0 _ _ _ _ _ _ _ _ _ _ _ _ _ _ _ _ _ _ _ _)
   | (with_reducible exact bivouacref06_Check.mono _ _ _ _ _)
   | (with_reducible exact shot_Fly.mono _ _ _ _ _ _ _ _ _ _ _ _)
   | (with_reducible exact LeO.refl _)
   | (with_reducible exact LeO.none _)
   | (with_reducible refine LeO.ite ?_ ?_)
   | (with_reducible refine LeO.bind ?_ (fun _ => ?_))
   | exact ih0 _ _ _ _ _ _ _ _ _ _ _ _ _ _ _ _ _ _ _ _
   | exact bivouacref06_Check.mono _ _ _ _ _
   | exact shot_Fly.mono _ _ _ _ _ _ _ _ _ _ _ _
   | exact LeO.none _
   | refine LeO.ite ?_ ?_
   | refine LeO.bind ?_ (fun _ => ?_)
def bivouaclaw16_ShotAbove.T1 : Bool × List (List Nat × List Nat) := (true, [([], []), ([0], [0]), ([1], [1]), ([], []), ([3], [3]), ([], []), ([5], [5]), ([6], [6]), ([], []), ([8], [8]), ([], []), ([], []), ([10, 2, 2, 0, 1, 2, 10, 11], [2, 10]), ([11, 4, 12, 0, 1, 2, 3, 4, 10, 11, 12], [4, 11]), ([7, 13, 0, 1, 2, 3, 4, 5, 6, 7, 10, 11, 12, 13], [7]), ([9, 14, 0, 1, 2, 3, 4, 5, 6, 7, 8, 9, 10, 11, 12, 13, 14], [9])])
def bivouaclaw16_ShotAbove.B1 : List Nat := [0, 1, 3, 0, 8, 0, 32, 96, 0, 256, 0, 0, 3079, 7199, 15615, 32767]
theorem bivouaclaw16_ShotAbove.tab1 : rtab .any (opsOf Try.f9 1) = bivouaclaw16_ShotAbove.T1 := by kernel_rfl
theorem bivouaclaw16_ShotAbove.bits1 : waitsOk bivouaclaw16_ShotAbove.T1.2 bivouaclaw16_ShotAbove.B1 = true := by kernel_rfl
def bivouaclaw16_ShotAbove.T9 : Bool × List (List Nat × List Nat) := (true, [([], []), ([0], [0]), ([1], [1]), ([2], [2]), ([2], [2]), ([3, 4, 2], [2, 3, 4]), ([2, 5], [2, 5]), ([6, 2], [6]), ([7], [7]), ([8, 7], [7, 8]), ([9, 7], [7, 9]), ([7, 10], [7, 10]), ([11, 7], [11]), ([12], [12]), ([13, 12], [12, 13]), ([12], [12]), ([15, 12], [12, 15]), ([14, 16, 12], [12, 14, 16]), ([12, 17], [12, 17]), ([18, 12], [18]), ([19], [19]), ([20, 19], [19, 20]), ([21, 19], [19, 21]), ([19], [19]), ([19], [19]), ([24, 19], [19, 24]), ([25, 19], [19, 25]), ([19], [19]), ([27, 19], [19, 27]), ([28, 19], [19, 28]), ([23, 26, 29, 19, 19], [19, 23, 26, 29]), ([30, 19], [19, 30]), ([22, 31, 19], [19, 22, 31]), ([19, 32], [19, 32]), ([33, 30], [33]), ([34, 34], [34]), ([34, 35], [34, 35]), ([36, 35, 0, 1, 2, 3, 4, 5, 6, 7, 8, 9, 10, 11, 12, 13, 14, 15, 16, 17, 18, 19, 20, 21, 22, 23, 24, 25, 26, 27, 28, 29, 30, 31, 32, 33, 34, 35, 36], [36])])
def bivouaclaw16_ShotAbove.B9 : List Nat := [0, 1, 3, 7, 7, 31, 63, 127, 255, 511, 1023, 2047, 4095, 8191, 16383, 8191, 40959, 131071, 262143, 524287, 1048575, 2097151, 4194303, 1048575, 1048575, 17825791, 51380223, 1048575, 135266303, 403701759, 1066401791, 2140143615, 4294967295, 8589934591, 17179869183, 34359738367, 68719476735, 137438953471]
theorem bivouaclaw16_ShotAbove.tab9 : rtab .any (opsOf Try.f9 9) = bivouaclaw16_ShotAbove.T9 := by kernel_rfl
theorem bivouaclaw16_ShotAbove.bits9 : waitsOk bivouaclaw16_ShotAbove.T9.2 bivouaclaw16_ShotAbove.B9 = true := by kernel_rfl
def bivouaclaw16_ShotAbove.T10 : Bool × List (List Nat × List Nat) := (true, [([], []), ([0], [0]), ([1], [1]), ([2], [2]), ([2], [2]), ([4, 2], [2, 4]), ([5, 2], [2, 5]), ([2], [2]), ([7, 2], [2, 7]), ([8, 2], [2, 8]), ([3, 6, 9, 2, 2], [2, 3, 6, 9]), ([10, 2], [2, 10]), ([11, 10, 2], [2, 11]), ([12], [12]), ([13, 12], [12, 13]), ([14, 12], [12, 14]), ([12], [12]), ([12], [12]), ([17, 12], [12, 17]), ([18, 12], [12, 18]), ([12], [12]), ([20, 12], [12, 20]), ([21, 12], [12, 21]), ([16, 19, 22, 12, 12], [12, 16, 19, 22]), ([15, 23, 12], [12, 15, 23]), ([12, 24, 2], [2, 12, 24]), ([25, 23, 2], [2, 25]), ([26], [26]), ([27, 26], [26, 27]), ([28, 26], [26, 28]), ([26], [26]), ([30, 26], [26, 30]), ([31, 26], [26, 31]), ([29, 32, 26], [26, 29, 32]), ([26, 33, 2], [2, 26, 33]), ([2, 34], [2, 34])])
def bivouaclaw16_ShotAbove.B10 : List Nat := [0, 1, 3, 7, 7, 23, 55, 7, 135, 391, 1023, 2047, 4095, 8191, 16383, 32767, 8191, 8191, 139263, 401407, 8191, 1056767, 3153919, 8331263, 16777215, 33554431, 67108863, 134217727, 268435455, 536870911, 134217727, 1207959551, 3355443199, 8589934591, 17179869183, 34359738367]
theorem bivouaclaw16_ShotAbove.tab10 : rtab .any (opsOf Try.f9 10) = bivouaclaw16_ShotAbove.T10 := by kernel_rfl
theorem bivouaclaw16_ShotAbove.bits10 : waitsOk bivouaclaw16_ShotAbove.T10.2 bivouaclaw16_ShotAbove.B10 = true := by kernel_rfl
/-- THE ONE PURE STATEMENT of bivouaclaw16_ShotAbove. -/
def bivouaclaw16_ShotAbove.Pure : Prop := ∀ (a0_0 : Int) (a0_1 : Int) (a0_2 : Int) (l0_3 : List Int) (a0_4 : Int) (a0_5 : Int) (a0_6 : Int) (a0_7 : Int) (a0_8 : Int) (a0_9 : Int) (a0_10 : Int) (a0_11 : Int), (Lit.int .i64 a0_0).wf = true → (Lit.int .i64 a0_1).wf = true → (Lit.int .i64 a0_2).wf = true → l0_3.length ≤ maxLen → (∀ x ∈ l0_3, (Lit.int .u8 x).wf = true) → (Lit.int .i64 a0_4).wf = true → (Lit.int .i64 a0_5).wf = true → (Lit.int .i64 a0_6).wf = true → (Lit.int .i64 a0_7).wf = true → (Lit.int .i64 a0_8).wf = true → (Lit.int .i64 a0_9).wf = true → (Lit.int .i64 a0_10).wf = true → (Lit.int .u8 a0_11).wf = true → ∃ k, bivouaclaw16_ShotAbove.f k a0_0 a0_1 a0_2 l0_3 a0_4 a0_5 a0_6 a0_7 a0_8 a0_9 a0_10 a0_11 = some true
end Go.Proofs.Ytfcocbkfodmmbaa.PA
