/- Printed functions, merged. -/
import Derived.Test.YteihieihoeijdaaGAraySees
import Derived.Test.YteihieihoeijdaaGAreliefDepth
import Derived.Test.YteihieihoeijdaaGAreliefSlope
import Derived.Test.YteihieihoeijdaaPAx10
import Derived.Test.YteihieihoeijdaaPAx11
import Derived.Test.YteihieihoeijdaaPAxS
import Derived.Test.YteihieihoeijdaaPAx14
import Derived.Test.YteihieihoeijdaaPAx15
import Derived.Test.YteihieihoeijdaaPAx17
import Derived.Test.YteihieihoeijdaaPAx7
import Derived.Test.YteihieihoeijdaaPAx8
import Derived.OpenShut
import Derived.Test.YteihieihoeijdaaGAsightView
import Derived.Test.YteihieihoeijdaaPAx22
import Derived.Test.YteihieihoeijdaaPAx28
import Derived.Test.YteihieihoeijdaaPAx37
import Derived.Test.YteihieihoeijdaaGAbivouaclaw21few
import Derived.Test.YteihieihoeijdaaPAx25
import Derived.Test.YteihieihoeijdaaPAx30
import Derived.Test.YteihieihoeijdaaPAx38
namespace Go.Proofs.Yteihieihoeijdaa.L
open Go.RowKit Go.Proofs.Yteihieihoeijdaa.PA Go.Proofs.YteihieihoeijdaaW.PrintWords Go.Proofs.YteihieihoeijdaaW.PrintLast Go.Proofs.YteihieihoeijdaaW.PrintMore
set_option linter.unusedVariables false
set_option linter.unusedSimpArgs false
theorem w64 {i : Int} (h0 : -9223372036854775808 ≤ i) (h1 : i ≤ 9223372036854775807) : wrap64 i = i := by unfold wrap64; omega
theorem mulb {a b A B : Int} (ha : 0 ≤ a) (hA : a ≤ A) (hb : 0 ≤ b) (hB : b ≤ B) : 0 ≤ a * b ∧ a * b ≤ A * B :=
  ⟨Int.mul_nonneg ha hb, Int.le_trans (Int.mul_le_mul_of_nonneg_right hA hb) (Int.mul_le_mul_of_nonneg_left hB (Int.le_trans ha hA))⟩

structure Ok (W H Wt : Int) (l : List Int) : Prop where
  w0 : 1 ≤ W
  w1 : W ≤ 64
  h0 : 1 ≤ H
  h1 : H ≤ 64
  t0 : 0 ≤ Wt
  t1 : Wt ≤ 255
  n : (l.length : Int) = (W + 1) * (H + 1)
  b : ∀ x ∈ l, 0 ≤ x ∧ x ≤ 255

def chk (W H Wt : Int) (l : List Int) : Int :=
  if 1 ≤ W ∧ W ≤ 64 ∧ 1 ≤ H ∧ H ≤ 64 ∧ 0 ≤ Wt ∧ Wt ≤ 255 then if (l.length : Int) < (W + 1) * (H + 1) then 2 else if (l.length : Int) > (W + 1) * (H + 1) then 7 else 0 else 1

theorem area {W H : Int} (w0 : 1 ≤ W) (w1 : W ≤ 64) (h0 : 1 ≤ H) (h1 : H ≤ 64) : wrap64 (wrap64 (W + 1) * wrap64 (H + 1)) = (W + 1) * (H + 1) ∧ 4 ≤ (W + 1) * (H + 1) ∧ (W + 1) * (H + 1) ≤ 4225 := by
  have h := mulb (a := W + 1) (b := H + 1) (A := 65) (B := 65) (by omega) (by omega) (by omega) (by omega)
  have g := mulb (a := W - 1) (b := H - 1) (A := 63) (B := 63) (by omega) (by omega) (by omega) (by omega)
  have e : (W + 1) * (H + 1) = (W - 1) * (H - 1) + 2 * W + 2 * H := by grind
  refine ⟨?_, by omega, by omega⟩
  rw [w64 (i := W + 1) (by omega) (by omega), w64 (i := H + 1) (by omega) (by omega), w64 (by omega) (by omega)]

theorem chk_zero {W H Wt : Int} {l : List Int} (hb : ∀ x ∈ l, 0 ≤ x ∧ x ≤ 255) : chk W H Wt l = 0 ↔ Ok W H Wt l := by
  unfold chk
  constructor
  · intro h
    split at h
    · rename_i hr
      obtain ⟨a, b, c, d, e, f⟩ := hr
      split at h
      · omega
      · split at h
        · omega
        · exact ⟨a, b, c, d, e, f, by omega, hb⟩
    · omega
  · intro h
    rw [if_pos ⟨h.w0, h.w1, h.h0, h.h1, h.t0, h.t1⟩, if_neg (by have := h.n; omega), if_neg (by have := h.n; omega)]

theorem check_eq {k : Nat} (hk : 1 ≤ k) (W H Wt : Int) (l : List Int) : relief_Check.f k W H Wt l = some (chk W H Wt l) := by
  obtain ⟨k, rfl⟩ : ∃ m, k = m + 1 := ⟨k - 1, by omega⟩
  unfold relief_Check.f chk
  simp only [relief_Check.j0]
  by_cases hr : 1 ≤ W ∧ W ≤ 64 ∧ 1 ≤ H ∧ H ≤ 64 ∧ 0 ≤ Wt ∧ Wt ≤ 255
  · have hr2 := hr
    obtain ⟨a, b, c, d, e, f⟩ := hr2
    rw [if_pos hr, if_neg (by omega), if_neg (by omega), if_neg (by omega), if_neg (by omega), if_neg (by omega), if_neg (by simpa using f), (area a b c d).1]
    repeat' split
    all_goals first | rfl | (exfalso; omega)
  · rw [if_neg hr]
    by_cases h1 : W < 1
    · rw [if_pos h1]; simp
    rw [if_neg h1]
    by_cases h2 : W > 64
    · rw [if_pos h2]; simp
    rw [if_neg h2]
    by_cases h3 : H < 1
    · rw [if_pos h3]; simp
    rw [if_neg h3]
    by_cases h4 : H > 64
    · rw [if_pos h4]; simp
    rw [if_neg h4]
    by_cases h5 : Wt < 0
    · rw [if_pos h5]; simp
    rw [if_neg h5, if_pos (by simp; omega)]

theorem take_b {l : List Int} (h : ∀ x ∈ l, (Lit.int .u8 x).wf = true) : ∀ x ∈ l.take 4300, 0 ≤ x ∧ x ≤ 255 := fun x hx => Go.bounds_u8 (h x (List.mem_of_mem_take hx))

def cor (W : Int) (l : List Int) (i j : Int) : Int := rd l ((W + 1) * j + i)

theorem rd_b {l : List Int} (hb : ∀ x ∈ l, 0 ≤ x ∧ x ≤ 255) (i : Int) : 0 ≤ rd l i ∧ rd l i ≤ 255 := by
  unfold rd
  rw [List.getD_eq_getElem?_getD]
  rcases Nat.lt_or_ge i.toNat l.length with h | h
  · rw [List.getElem?_eq_getElem h]; exact hb _ (List.getElem_mem h)
  · rw [List.getElem?_eq_none h]; decide

theorem Ok.idx {W H Wt : Int} {l : List Int} (h : Ok W H Wt l) {i j : Int} (i0 : 0 ≤ i) (i1 : i ≤ W) (j0 : 0 ≤ j) (j1 : j ≤ H) :
    wrap64 (wrap64 (wrap64 (W + 1) * j) + i) = (W + 1) * j + i ∧ 0 ≤ (W + 1) * j + i ∧ (W + 1) * j + i < (l.length : Int) ∧ (l.length : Int) ≤ 4225 := by
  have hw := h.w1
  have hw0 := h.w0
  have hh := h.h1
  have a := (area h.w0 h.w1 h.h0 h.h1)
  have e := h.n
  have b := mulb (a := W + 1) (b := j) (A := W + 1) (B := H) (by omega) (by omega) j0 j1
  have f : (W + 1) * (H + 1) = (W + 1) * H + W + 1 := by grind
  refine ⟨?_, by omega, by omega, by omega⟩
  rw [w64 (i := W + 1) (by omega) (by omega), w64 (i := (W + 1) * j) (by omega) (by omega), w64 (by omega) (by omega)]

theorem Ok.cor_b {W H Wt : Int} {l : List Int} (h : Ok W H Wt l) (i j : Int) : 0 ≤ cor W l i j ∧ cor W l i j ≤ 255 := rd_b h.b _

theorem corners_eq {W H Wt : Int} {l : List Int} (h : Ok W H Wt l) {i j : Int} (i0 : 0 ≤ i) (i1 : i < W) (j0 : 0 ≤ j) (j1 : j < H) :
    relief_corners.f W H Wt l i j = some (cor W l i j, cor W l (i + 1) j, cor W l i (j + 1), cor W l (i + 1) (j + 1)) := by
  obtain ⟨e, a, b, c⟩ := h.idx (i := i) (j := j) i0 (by omega) j0 (by omega)
  obtain ⟨_, a1, b1, _⟩ := h.idx (i := i + 1) (j := j) (by omega) (by omega) j0 (by omega)
  obtain ⟨_, a2, b2, _⟩ := h.idx (i := i) (j := j + 1) (by omega) (by omega) (by omega) (by omega)
  obtain ⟨_, a3, b3, _⟩ := h.idx (i := i + 1) (j := j + 1) (by omega) (by omega) (by omega) (by omega)
  have q0 := h.cor_b i j
  have q1 := h.cor_b (i + 1) j
  have q2 := h.cor_b i (j + 1)
  have q3 := h.cor_b (i + 1) (j + 1)
  unfold relief_corners.f cor at *
  have f : (W + 1) * (j + 1) = (W + 1) * j + W + 1 := by grind
  rw [f] at a2 b2 a3 b3 q2 q3 ⊢
  rw [e]
  have w0 := h.w0
  have w1 := h.w1
  generalize (W + 1) * j = m at *
  have e1 : wrap64 (m + i + 1) = m + (i + 1) := by rw [w64 (by omega) (by omega)]; omega
  have e2 : wrap64 (wrap64 (m + i + W) + 1) = m + W + 1 + i := by rw [w64 (i := m + i + W) (by omega) (by omega), w64 (by omega) (by omega)]; omega
  have e3 : wrap64 (m + W + 1 + i + 1) = m + W + 1 + (i + 1) := by rw [w64 (by omega) (by omega)]; omega
  rw [e1, e2, e3, if_pos a, if_pos b, if_pos a1, if_pos b1]
  rw [if_pos a2, if_pos b2, if_pos a3, if_pos b3]
  rw [w64 (by omega) (by omega), w64 (by omega) (by omega), w64 (by omega) (by omega), w64 (by omega) (by omega)]

theorem mn_self (a : Int) : mn a a = a := by unfold mn; split <;> rfl
theorem mx_self (a : Int) : mx a a = a := by unfold mx; split <;> rfl
theorem mn_le (a b : Int) : mn a b ≤ a ∧ mn a b ≤ b ∧ (mn a b = a ∨ mn a b = b) := by unfold mn; split <;> omega
theorem mx_ge (a b : Int) : a ≤ mx a b ∧ b ≤ mx a b ∧ (mx a b = a ∨ mx a b = b) := by unfold mx; split <;> omega

theorem cell_eq {k : Nat} (hk : 1 ≤ k) {W H Wt : Int} {l : List Int} (hb : ∀ x ∈ l, 0 ≤ x ∧ x ≤ 255) (i j : Int) :
    relief_cell.f k W H Wt l i j = some (if chk W H Wt l = 0 then if 0 ≤ i ∧ i < W ∧ 0 ≤ j ∧ j < H then (cor W l i j, cor W l (i + 1) j, cor W l i (j + 1), cor W l (i + 1) (j + 1), 0) else (0, 0, 0, 0, 4) else (0, 0, 0, 0, 1)) := by
  unfold relief_cell.f
  rw [check_eq hk]
  simp only [Option.bind_some]
  by_cases h : chk W H Wt l = 0
  · have ok := (chk_zero hb).1 h
    rw [if_pos h, if_pos h]
    by_cases hc : 0 ≤ i ∧ i < W ∧ 0 ≤ j ∧ j < H
    · have hc2 := hc
      obtain ⟨a, b, c, d⟩ := hc2
      rw [if_pos hc, if_neg (by omega), if_neg (by omega), if_neg (by omega), if_neg (by omega), corners_eq ok a b c d]
      rfl
    · rw [if_neg hc]
      by_cases h1 : i < 0
      · rw [if_pos h1]
      rw [if_neg h1]
      by_cases h2 : i ≥ W
      · rw [if_pos h2]
      rw [if_neg h2]
      by_cases h3 : j < 0
      · rw [if_pos h3]
      rw [if_neg h3, if_pos (by omega)]
  · rw [if_neg h, if_neg h]

def lo (W : Int) (l : List Int) (i j : Int) : Int := mn (mn (mn (cor W l i j) (cor W l (i + 1) j)) (cor W l i (j + 1))) (cor W l (i + 1) (j + 1))
def hi (W : Int) (l : List Int) (i j : Int) : Int := mx (mx (mx (cor W l i j) (cor W l (i + 1) j)) (cor W l i (j + 1))) (cor W l (i + 1) (j + 1))
theorem lo_hi {W H Wt : Int} {l : List Int} (h : Ok W H Wt l) (i j : Int) : 0 ≤ lo W l i j ∧ lo W l i j ≤ hi W l i j ∧ hi W l i j ≤ 255 ∧
    lo W l i j ≤ cor W l i j ∧ cor W l i j ≤ hi W l i j ∧ lo W l i j ≤ cor W l (i + 1) j ∧ cor W l (i + 1) j ≤ hi W l i j ∧
    lo W l i j ≤ cor W l i (j + 1) ∧ cor W l i (j + 1) ≤ hi W l i j ∧ lo W l i j ≤ cor W l (i + 1) (j + 1) ∧ cor W l (i + 1) (j + 1) ≤ hi W l i j := by
  have q0 := h.cor_b i j
  have q1 := h.cor_b (i + 1) j
  have q2 := h.cor_b i (j + 1)
  have q3 := h.cor_b (i + 1) (j + 1)
  unfold lo hi
  generalize cor W l i j = a at *
  generalize cor W l (i + 1) j = b at *
  generalize cor W l i (j + 1) = c at *
  generalize cor W l (i + 1) (j + 1) = d at *
  have m1 := mn_le a b
  have m2 := mn_le (mn a b) c
  have m3 := mn_le (mn (mn a b) c) d
  have n1 := mx_ge a b
  have n2 := mx_ge (mx a b) c
  have n3 := mx_ge (mx (mx a b) c) d
  omega

theorem slope_eq {k : Nat} (hk : 1 ≤ k) {W H Wt : Int} {l : List Int} (hb : ∀ x ∈ l, 0 ≤ x ∧ x ≤ 255) (i j : Int) :
    relief_Slope.f k W H Wt l i j = some (if chk W H Wt l = 0 then if 0 ≤ i ∧ i < W ∧ 0 ≤ j ∧ j < H then (hi W l i j - lo W l i j, 0) else (0, 4) else (0, 1)) := by
  unfold relief_Slope.f
  rw [cell_eq hk hb]
  simp only [Option.bind_some]
  by_cases h : chk W H Wt l = 0
  · rw [if_pos h, if_pos h]
    by_cases hc : 0 ≤ i ∧ i < W ∧ 0 ≤ j ∧ j < H
    · rw [if_pos hc, if_pos hc]
      have g := lo_hi ((chk_zero hb).1 h) i j
      simp only [mn_self, mx_self]
      unfold lo hi at *
      rw [w64 (by omega) (by omega)]
    · rw [if_neg hc, if_neg hc]; simp only [mn_self, mx_self]; decide +kernel
  · rw [if_neg h, if_neg h]; simp only [mn_self, mx_self]; decide +kernel

theorem depth_eq {k : Nat} (hk : 1 ≤ k) {W H Wt : Int} {l : List Int} (hb : ∀ x ∈ l, 0 ≤ x ∧ x ≤ 255) (i j : Int) :
    relief_Depth.f k W H Wt l i j = some (if chk W H Wt l = 0 then if 0 ≤ i ∧ i < W ∧ 0 ≤ j ∧ j < H then (mx 0 (Wt - lo W l i j), 0) else (0, 4) else (0, 1)) := by
  unfold relief_Depth.f
  rw [cell_eq hk hb]
  simp only [Option.bind_some]
  by_cases h : chk W H Wt l = 0
  · rw [if_pos h, if_pos h]
    by_cases hc : 0 ≤ i ∧ i < W ∧ 0 ≤ j ∧ j < H
    · rw [if_pos hc, if_pos hc]
      have ok := (chk_zero hb).1 h
      have g := lo_hi ok i j
      have t0 := ok.t0
      have t1 := ok.t1
      simp only [mn_self, if_true]
      unfold lo hi at *
      rw [w64 (by omega) (by omega)]
    · rw [if_neg hc, if_neg hc]; rfl
  · rw [if_neg h, if_neg h]; rfl


theorem up {α : Type} {F : Nat → Option α} (m : ∀ k, LeO (F k) (F (k + 1))) {k : Nat} {r : α} (h : F k = some r) {k' : Nat} (hk : k ≤ k') : F k' = some r := by
  obtain ⟨d, rfl⟩ : ∃ d, k' = k + d := ⟨k' - k, by omega⟩
  clear hk
  induction d with
  | zero => exact h
  | succ d ih => exact m _ _ ih

theorem l2_0 (k : Nat) (x2 x3 n : Int) (out : List S57) (y a0 a1 d0 d1 r0 r1 : Int) : ray_Line.l2 (k + 1) x2 x3 n out 0 y a0 a1 d0 d1 r0 r1 = if r0 ≥ wrap64 (2 * n) then ray_Line.l2 k x2 x3 n out 0 y (wrap64 (a0 + 1)) a1 d0 d1 (wrap64 (r0 - wrap64 (2 * n))) r1 else ray_Line.j3 k x2 x3 n out 0 y a0 a1 d0 d1 r0 r1 := rfl
theorem l2_1 (k : Nat) (x2 x3 n : Int) (out : List S57) (y a0 a1 d0 d1 r0 r1 : Int) : ray_Line.l2 (k + 1) x2 x3 n out 1 y a0 a1 d0 d1 r0 r1 = if r1 ≥ wrap64 (2 * n) then ray_Line.l2 k x2 x3 n out 1 y a0 (wrap64 (a1 + 1)) d0 d1 r0 (wrap64 (r1 - wrap64 (2 * n))) else ray_Line.j3 k x2 x3 n out 1 y a0 a1 d0 d1 r0 r1 := rfl
theorem j3_ (k : Nat) (x2 x3 n : Int) (out : List S57) (x y a0 a1 d0 d1 r0 r1 : Int) : ray_Line.j3 (k + 1) x2 x3 n out x y a0 a1 d0 d1 r0 r1 = ray_Line.l3 k x2 x3 n out x y a0 a1 d0 d1 r0 r1 := rfl
theorem l3_0 (k : Nat) (x2 x3 n : Int) (out : List S57) (y a0 a1 d0 d1 r0 r1 : Int) : ray_Line.l3 (k + 1) x2 x3 n out 0 y a0 a1 d0 d1 r0 r1 = if r0 < 0 then ray_Line.l3 k x2 x3 n out 0 y (wrap64 (a0 - 1)) a1 d0 d1 (wrap64 (r0 + wrap64 (2 * n))) r1 else ray_Line.l1 k x2 x3 n out (wrap64 (y + 1)) a0 a1 d0 d1 r0 r1 := rfl
theorem l3_1 (k : Nat) (x2 x3 n : Int) (out : List S57) (y a0 a1 d0 d1 r0 r1 : Int) : ray_Line.l3 (k + 1) x2 x3 n out 1 y a0 a1 d0 d1 r0 r1 = if r1 < 0 then ray_Line.l3 k x2 x3 n out 1 y a0 (wrap64 (a1 - 1)) d0 d1 r0 (wrap64 (r1 + wrap64 (2 * n))) else ray_Line.l1 k x2 x3 n out (wrap64 (y + 1)) a0 a1 d0 d1 r0 r1 := rfl
theorem l1_0 (k : Nat) (x2 x3 n : Int) (out : List S57) (a0 a1 d0 d1 r0 r1 : Int) : ray_Line.l1 (k + 1) x2 x3 n out 0 a0 a1 d0 d1 r0 r1 = ray_Line.l2 k x2 x3 n out 0 0 a0 a1 d0 d1 (wrap64 (r0 + wrap64 (2 * d0))) r1 := rfl
theorem l1_1 (k : Nat) (x2 x3 n : Int) (out : List S57) (a0 a1 d0 d1 r0 r1 : Int) : ray_Line.l1 (k + 1) x2 x3 n out 1 a0 a1 d0 d1 r0 r1 = ray_Line.l2 k x2 x3 n out 1 1 a0 a1 d0 d1 r0 (wrap64 (r1 + wrap64 (2 * d1))) := rfl
theorem l1_2 (k : Nat) (x2 x3 n : Int) (out : List S57) (a0 a1 d0 d1 r0 r1 : Int) : ray_Line.l1 (k + 1) x2 x3 n out 2 a0 a1 d0 d1 r0 r1 = if out.length < 8796093022208 then ray_Line.l0 k x2 x3 n (out ++ [(⟨a0, a1⟩ : S57)]) a0 a1 d0 d1 r0 r1 else none := rfl

theorem div1 {n r : Int} (hn : 1 ≤ n) (b : -(2 * n) ≤ r ∧ r < 4 * n) :
    (r ≥ 2 * n → r / (2 * n) = 1 ∧ r % (2 * n) = r - 2 * n) ∧ (0 ≤ r → r < 2 * n → r / (2 * n) = 0 ∧ r % (2 * n) = r) ∧ (r < 0 → r / (2 * n) = -1 ∧ r % (2 * n) = r + 2 * n) := by
  have key : ∀ a t : Int, 0 ≤ t → t < 2 * n → r = 2 * n * a + t → r / (2 * n) = a ∧ r % (2 * n) = t := by
    intro a t h0 h1 e
    have e' : r = t + 2 * n * a := by omega
    rw [e', Int.add_mul_ediv_left _ _ (by omega), Int.add_mul_emod_self_left, Int.ediv_eq_zero_of_lt h0 h1, Int.emod_eq_of_lt h0 h1]
    exact ⟨by omega, rfl⟩
  refine ⟨fun h => key 1 _ (by omega) (by omega) (by omega), fun h g => key 0 _ h g (by omega), fun h => key (-1) _ (by omega) (by omega) (by omega)⟩

theorem s0 {k : Nat} {x2 x3 n : Int} {out : List S57} {a0 a1 d0 d1 r0 r1 : Int} {r : List S57 × Int} (hn : 1 ≤ n) (hm : n ≤ 63) (a : -1000 ≤ a0 ∧ a0 ≤ 1000) (b : -(2 * n) ≤ r0 ∧ r0 < 4 * n)
    (h : ray_Line.l1 k x2 x3 n out 1 (a0 + r0 / (2 * n)) a1 d0 d1 (r0 % (2 * n)) r1 = some r) : ray_Line.l2 (k + 4) x2 x3 n out 0 0 a0 a1 d0 d1 r0 r1 = some r := by
  have hD : wrap64 (2 * n) = 2 * n := w64 (by omega) (by omega)
  obtain ⟨q1, q2, q3⟩ := div1 hn b
  have up1 := (ray_Line.mono_l k).2.1 _ _ _ _ _ _ _ _ _ _ _ _ h
  by_cases c : r0 ≥ 2 * n
  · obtain ⟨e1, e2⟩ := q1 c
    rw [e1, e2] at h
    rw [l2_0, hD, if_pos c, w64 (i := a0 + 1) (by omega) (by omega), w64 (i := r0 - 2 * n) (by omega) (by omega), l2_0, hD, if_neg (by omega), j3_, l3_0, if_neg (by omega), show wrap64 ((0 : Int) + 1) = 1 from w64 (by omega) (by omega)]
    exact h
  · by_cases g : r0 < 0
    · obtain ⟨e1, e2⟩ := q3 g
      rw [e1, e2] at h
      rw [l2_0, hD, if_neg c, j3_, l3_0, hD, if_pos g, w64 (i := a0 - 1) (by omega) (by omega), w64 (i := r0 + 2 * n) (by omega) (by omega), l3_0, if_neg (by omega), show wrap64 ((0 : Int) + 1) = 1 from w64 (by omega) (by omega)]
      exact h
    · obtain ⟨e1, e2⟩ := q2 (by omega) (by omega)
      rw [e1, e2, Int.add_zero] at up1
      rw [l2_0, hD, if_neg c, j3_, l3_0, if_neg g, show wrap64 ((0 : Int) + 1) = 1 from w64 (by omega) (by omega)]
      exact up1

theorem s1 {k : Nat} {x2 x3 n : Int} {out : List S57} {a0 a1 d0 d1 r0 r1 : Int} {r : List S57 × Int} (hn : 1 ≤ n) (hm : n ≤ 63) (a : -1000 ≤ a1 ∧ a1 ≤ 1000) (b : -(2 * n) ≤ r1 ∧ r1 < 4 * n)
    (h : ray_Line.l1 k x2 x3 n out 2 a0 (a1 + r1 / (2 * n)) d0 d1 r0 (r1 % (2 * n)) = some r) : ray_Line.l2 (k + 4) x2 x3 n out 1 1 a0 a1 d0 d1 r0 r1 = some r := by
  have hD : wrap64 (2 * n) = 2 * n := w64 (by omega) (by omega)
  obtain ⟨q1, q2, q3⟩ := div1 hn b
  have up1 := (ray_Line.mono_l k).2.1 _ _ _ _ _ _ _ _ _ _ _ _ h
  by_cases c : r1 ≥ 2 * n
  · obtain ⟨e1, e2⟩ := q1 c
    rw [e1, e2] at h
    rw [l2_1, hD, if_pos c, w64 (i := a1 + 1) (by omega) (by omega), w64 (i := r1 - 2 * n) (by omega) (by omega), l2_1, hD, if_neg (by omega), j3_, l3_1, if_neg (by omega), show wrap64 ((1 : Int) + 1) = 2 from w64 (by omega) (by omega)]
    exact h
  · by_cases g : r1 < 0
    · obtain ⟨e1, e2⟩ := q3 g
      rw [e1, e2] at h
      rw [l2_1, hD, if_neg c, j3_, l3_1, hD, if_pos g, w64 (i := a1 - 1) (by omega) (by omega), w64 (i := r1 + 2 * n) (by omega) (by omega), l3_1, if_neg (by omega), show wrap64 ((1 : Int) + 1) = 2 from w64 (by omega) (by omega)]
      exact h
    · obtain ⟨e1, e2⟩ := q2 (by omega) (by omega)
      rw [e1, e2, Int.add_zero] at up1
      rw [l2_1, hD, if_neg c, j3_, l3_1, if_neg g, show wrap64 ((1 : Int) + 1) = 2 from w64 (by omega) (by omega)]
      exact up1

def pos (n i d q : Int) : Int := i + (2 * q * d + n) / (2 * n)
def rst (n d q : Int) : Int := (2 * q * d + n) % (2 * n)

theorem rst_b {n d q : Int} (hn : 1 ≤ n) : 0 ≤ rst n d q ∧ rst n d q < 2 * n := ⟨Int.emod_nonneg _ (by omega), Int.emod_lt_of_pos _ (by omega)⟩

theorem pos_next {n i d q : Int} (hn : 1 ≤ n) : pos n i d q + (rst n d q + 2 * d) / (2 * n) = pos n i d (q + 1) ∧ (rst n d q + 2 * d) % (2 * n) = rst n d (q + 1) := by
  unfold pos rst
  have e : 2 * (q + 1) * d + n = (2 * q * d + n) + 2 * d := by grind
  rw [e]
  generalize 2 * q * d + n = p
  have h := Int.mul_ediv_add_emod p (2 * n)
  have e2 : p + 2 * d = (p % (2 * n) + 2 * d) + 2 * n * (p / (2 * n)) := by omega
  generalize hq : p / (2 * n) = a at *
  generalize hr : p % (2 * n) = b at *
  rw [e2, Int.add_mul_ediv_left _ _ (by omega : 2 * n ≠ 0), Int.add_mul_emod_self_left]
  exact ⟨by omega, rfl⟩

theorem pos_end {n i d : Int} (hn : 1 ≤ n) : pos n i d n = i + d := by
  unfold pos
  rw [show 2 * n * d + n = n + 2 * n * d by omega, Int.add_mul_ediv_left _ _ (by omega : 2 * n ≠ 0), Int.ediv_eq_zero_of_lt (by omega) (by omega)]
  omega

theorem pos_b {n i d q : Int} (hn : 1 ≤ n) (d0 : -n ≤ d) (d1 : d ≤ n) (q0 : 0 ≤ q) : i - q ≤ pos n i d q ∧ pos n i d q ≤ i + q := by
  unfold pos
  have a := mulb (a := q) (b := d + n) (A := q) (B := 2 * n) q0 (Int.le_refl _) (by omega) (by omega)
  have e1 : q * (d + n) = q * d + q * n := by grind
  have e2 : q * (2 * n) = 2 * (q * n) := by grind
  have e3 : 2 * q * d = 2 * (q * d) := by grind
  have e4 : -q * (2 * n) = - (2 * (q * n)) := by grind
  have e5 : (q + 1) * (2 * n) = 2 * (q * n) + 2 * n := by grind
  have u : (-q) ≤ (2 * q * d + n) / (2 * n) := (Int.le_ediv_iff_mul_le (by omega)).2 (by omega)
  have v : (2 * q * d + n) / (2 * n) < q + 1 := Int.ediv_lt_of_lt_mul (by omega) (by omega)
  constructor <;> omega

theorem pos_edge {n i q : Int} (hn : 1 ≤ n) : pos n i n q = i + q ∧ pos n i (-n) q = i - q := by
  unfold pos
  constructor
  · rw [show 2 * q * n + n = n + 2 * n * q by grind, Int.add_mul_ediv_left _ _ (by omega : 2 * n ≠ 0), Int.ediv_eq_zero_of_lt (by omega) (by omega)]; omega
  · rw [show 2 * q * (-n) + n = n + 2 * n * (-q) by grind, Int.add_mul_ediv_left _ _ (by omega : 2 * n ≠ 0), Int.ediv_eq_zero_of_lt (by omega) (by omega)]; omega

theorem line_go {i j dx dy n : Int} (i0 : -100 ≤ i ∧ i ≤ 100) (j0 : -100 ≤ j ∧ j ≤ 100) (hn : 1 ≤ n) (hm : n ≤ 63) (x0 : -n ≤ dx) (x1 : dx ≤ n) (y0 : -n ≤ dy) (y1 : dy ≤ n) (he : dx = n ∨ dx = -n ∨ dy = n ∨ dy = -n) :
    ∀ (m : Nat) (q : Int), 0 ≤ q → q + (m : Int) = n → ∀ out : List S57, (out.length : Int) ≤ q + 1 →
      ray_Line.l0 (12 * m + 1) (i + dx) (j + dy) n out (pos n i dx q) (pos n j dy q) dx dy (rst n dx q) (rst n dy q) = some (out ++ (List.range m).map (fun (t : Nat) => (⟨pos n i dx (q + 1 + (t : Int)), pos n j dy (q + 1 + (t : Int))⟩ : S57)), 0)
  | 0, q, q0, hq, out, ho => by
    obtain rfl : q = n := by omega
    simp only [ray_Line.l0]
    rw [pos_end hn, pos_end hn, if_neg (by simp)]
    simp
  | m + 1, q, q0, hq, out, ho => by
    have px := pos_b (i := i) hn x0 x1 q0
    have py := pos_b (i := j) hn y0 y1 q0
    have ex := pos_edge (i := i) (q := q) hn
    have ey := pos_edge (i := j) (q := q) hn
    have rx := rst_b (d := dx) (q := q) hn
    have ry := rst_b (d := dy) (q := q) hn
    have nx := pos_next (i := i) (d := dx) (q := q) hn
    have ny := pos_next (i := j) (d := dy) (q := q) hn
    have ne : ¬ (pos n i dx q = i + dx ∧ pos n j dy q = j + dy) := by
      rintro ⟨h1, h2⟩
      rcases he with rfl | rfl | rfl | rfl
      · omega
      · omega
      · omega
      · omega
    rw [show 12 * (m + 1) + 1 = 12 * m + 1 + 12 by omega]
    simp only [ray_Line.l0]
    rw [if_pos (by
      by_cases h1 : pos n i dx q = i + dx
      · have h2 : ¬ pos n j dy q = j + dy := fun h => ne ⟨h1, h⟩
        simp [h2]
      · simp [h1])]
    rw [l1_0, w64 (i := 2 * dx) (by omega) (by omega), w64 (i := rst n dx q + 2 * dx) (by omega) (by omega)]
    refine s0 (k := 12 * m + 7) hn hm (by omega) (by omega) ?_
    rw [nx.1, nx.2, l1_1, w64 (i := 2 * dy) (by omega) (by omega), w64 (i := rst n dy q + 2 * dy) (by omega) (by omega)]
    refine s1 (k := 12 * m + 2) hn hm (by omega) (by omega) ?_
    rw [ny.1, ny.2, l1_2, if_pos (by omega)]
    rw [line_go i0 j0 hn hm x0 x1 y0 y1 he m (q + 1) (by omega) (by omega) _ (by simp; omega)]
    congr 2
    rw [List.range_succ_eq_map, List.map_cons, List.append_assoc, List.map_map]
    congr 1
    simp only [List.singleton_append, List.cons.injEq]
    refine ⟨by simp, ?_⟩
    apply List.map_congr_left
    intro t _
    simp only [Function.comp]
    rw [show q + 1 + ((t.succ : Nat) : Int) = q + 1 + 1 + (t : Int) by omega]

def ab (x : Int) : Int := if x < 0 then -x else x
def lng (i j k l : Int) : Int := if ab (k - i) > ab (l - j) then ab (k - i) else ab (l - j)
def cel (i j k l q : Int) : S57 := ⟨pos (lng i j k l) i (k - i) q, pos (lng i j k l) j (l - j) q⟩
def lin (i j k l : Int) : List S57 := (List.range ((lng i j k l).toNat + 1)).map fun (q : Nat) => cel i j k l (q : Int)

def Inn (v : Int) : Prop := 0 ≤ v ∧ v ≤ 63
instance (v : Int) : Decidable (Inn v) := by unfold Inn; infer_instance

theorem inside_eq {k : Nat} (hk : 5 ≤ k) (a b c d : Int) : ray_inside.f k [a, b, c, d] = some (decide (Inn a ∧ Inn b ∧ Inn c ∧ Inn d)) := by
  obtain ⟨k, rfl⟩ : ∃ m, k = m + 5 := ⟨k - 5, by omega⟩
  have step : ∀ (k : Nat) (l : List Int) (n q : Int), ray_inside.l0 (k + 1) l n q = if q < n then (if 0 ≤ q then (if q < (l.length : Int) then (if rd l q < 0 then some false else if rd l q ≥ 64 then some false else ray_inside.l0 k l n (wrap64 (q + 1))) else none) else none) else some true := fun k l n q => by simp only [ray_inside.l0]
  unfold ray_inside.f
  simp only [step, List.length_cons, List.length_nil]
  simp [rd, wrap64, Inn]
  grind

theorem lng_b {i j k l : Int} (hi : Inn i) (hj : Inn j) (hk : Inn k) (hl : Inn l) : 0 ≤ lng i j k l ∧ lng i j k l ≤ 63 ∧ -lng i j k l ≤ k - i ∧ k - i ≤ lng i j k l ∧ -lng i j k l ≤ l - j ∧ l - j ≤ lng i j k l ∧ (k - i = lng i j k l ∨ k - i = -lng i j k l ∨ l - j = lng i j k l ∨ l - j = -lng i j k l) := by
  unfold lng ab Inn at *
  split <;> split <;> split <;> omega

theorem line_eq {K : Nat} (hK : 800 ≤ K) (i j k l : Int) : ray_Line.f K i j k l = if Inn i ∧ Inn j ∧ Inn k ∧ Inn l then some (lin i j k l, 0) else some ([], 4) := by
  unfold ray_Line.f
  rw [inside_eq (by omega)]
  simp only [Option.bind_some, decide_eq_true_eq]
  by_cases hc : Inn i ∧ Inn j ∧ Inn k ∧ Inn l
  · rw [if_pos hc, if_pos hc]
    obtain ⟨hi, hj, hk, hl⟩ := hc
    have b := lng_b hi hj hk hl
    have e1 : wrap64 (k - i) = k - i := by unfold Inn at *; exact w64 (by omega) (by omega)
    have e2 : wrap64 (l - j) = l - j := by unfold Inn at *; exact w64 (by omega) (by omega)
    have f1 : ray_size.f (k - i) = some (ab (k - i)) := by
      unfold ray_size.f ab mx Inn at *
      rw [w64 (i := -(k - i)) (by omega) (by omega)]
      congr 1; split <;> split <;> omega
    have f2 : ray_size.f (l - j) = some (ab (l - j)) := by
      unfold ray_size.f ab mx Inn at *
      rw [w64 (i := -(l - j)) (by omega) (by omega)]
      congr 1; split <;> split <;> omega
    rw [e1, e2, f1, f2]
    simp only [Option.bind_some]
    rw [show mx (ab (k - i)) (ab (l - j)) = lng i j k l by unfold mx lng; split <;> split <;> omega]
    by_cases z : lng i j k l = 0
    · obtain ⟨K, rfl⟩ : ∃ m, K = m + 1 := ⟨K - 1, by omega⟩
      obtain rfl : k = i := by omega
      obtain rfl : l = j := by omega
      simp only [ray_Line.l0]
      rw [if_neg (by simp)]
      unfold lin cel pos
      rw [z]
      simp
    · have hn : 1 ≤ lng i j k l := by omega
      have hi' : -100 ≤ i ∧ i ≤ 100 := by unfold Inn at hi; omega
      have hj' : -100 ≤ j ∧ j ≤ 100 := by unfold Inn at hj; omega
      have g := line_go (i := i) (j := j) (dx := k - i) (dy := l - j) (n := lng i j k l) hi' hj' hn b.2.1 b.2.2.1 b.2.2.2.1 b.2.2.2.2.1 b.2.2.2.2.2.1 b.2.2.2.2.2.2 (lng i j k l).toNat 0 (by omega) (by omega) [(⟨i, j⟩ : S57)] (by simp)
      have p0 : ∀ x d : Int, pos (lng i j k l) x d 0 = x := by
        intro x d
        unfold pos
        rw [show 2 * 0 * d + lng i j k l = lng i j k l by omega, Int.ediv_eq_zero_of_lt (by omega) (by omega)]; omega
      have r0 : ∀ d : Int, rst (lng i j k l) d 0 = lng i j k l := by
        intro d
        unfold rst
        rw [show 2 * 0 * d + lng i j k l = lng i j k l by omega, Int.emod_eq_of_lt (by omega) (by omega)]
      rw [p0, p0, r0, r0, show i + (k - i) = k by omega, show j + (l - j) = l by omega] at g
      rw [up (F := fun K => ray_Line.l0 K k l (lng i j k l) [(⟨i, j⟩ : S57)] i j (k - i) (l - j) (lng i j k l) (lng i j k l)) (fun K => (ray_Line.mono_l K).1 _ _ _ _ _ _ _ _ _ _) g (by omega)]
      congr 2
      unfold lin cel
      rw [List.range_succ_eq_map, List.map_cons, List.map_map]
      simp only [Int.natCast_zero, p0, List.singleton_append, List.cons.injEq, true_and]
      apply List.map_congr_left
      intro t _
      simp only [Function.comp]
      rw [show (0 : Int) + 1 + (t : Int) = ((t.succ : Nat) : Int) by omega]
  · rw [if_neg hc, if_neg hc]

theorem pos_in {n d q : Int} (hn : 1 ≤ n) (q0 : 0 ≤ q) (q1 : q ≤ n) (i : Int) : (0 ≤ d → i ≤ pos n i d q ∧ pos n i d q ≤ i + d) ∧ (d < 0 → i + d ≤ pos n i d q ∧ pos n i d q ≤ i) := by
  unfold pos
  have e1 : 2 * q * d = 2 * (q * d) := by grind
  rw [e1]
  constructor
  · intro hd
    have m := mulb (a := q) (b := d) (A := n) (B := d) q0 q1 hd (Int.le_refl _)
    have e2 : (d + 1) * (2 * n) = 2 * (n * d) + 2 * n := by grind
    have u : 0 ≤ (2 * (q * d) + n) / (2 * n) := Int.ediv_nonneg (by omega) (by omega)
    have v : (2 * (q * d) + n) / (2 * n) < d + 1 := Int.ediv_lt_of_lt_mul (by omega) (by omega)
    omega
  · intro hd
    have m := mulb (a := q) (b := -d) (A := n) (B := -d) q0 q1 (by omega) (Int.le_refl _)
    have e2 : d * (2 * n) = -(2 * (n * -d)) := by grind
    have e3 : q * -d = -(q * d) := by grind
    have u : d ≤ (2 * (q * d) + n) / (2 * n) := (Int.le_ediv_iff_mul_le (by omega)).2 (by omega)
    have v : (2 * (q * d) + n) / (2 * n) < 1 := Int.ediv_lt_of_lt_mul (by omega) (by omega)
    omega

theorem pos_zero (i d q : Int) : pos 0 i d q = i := by unfold pos; simp

theorem cel_in {i j k l q : Int} (hi : Inn i) (hj : Inn j) (hk : Inn k) (hl : Inn l) (q0 : 0 ≤ q) (q1 : q ≤ lng i j k l) :
    (i ≤ k → i ≤ (cel i j k l q).f0 ∧ (cel i j k l q).f0 ≤ k) ∧ (k ≤ i → k ≤ (cel i j k l q).f0 ∧ (cel i j k l q).f0 ≤ i) ∧
    (j ≤ l → j ≤ (cel i j k l q).f1 ∧ (cel i j k l q).f1 ≤ l) ∧ (l ≤ j → l ≤ (cel i j k l q).f1 ∧ (cel i j k l q).f1 ≤ j) := by
  have b := lng_b hi hj hk hl
  show (i ≤ k → i ≤ pos (lng i j k l) i (k - i) q ∧ pos (lng i j k l) i (k - i) q ≤ k) ∧ (k ≤ i → k ≤ pos (lng i j k l) i (k - i) q ∧ pos (lng i j k l) i (k - i) q ≤ i) ∧
    (j ≤ l → j ≤ pos (lng i j k l) j (l - j) q ∧ pos (lng i j k l) j (l - j) q ≤ l) ∧ (l ≤ j → l ≤ pos (lng i j k l) j (l - j) q ∧ pos (lng i j k l) j (l - j) q ≤ j)
  by_cases z : lng i j k l = 0
  · rw [z, pos_zero, pos_zero]; omega
  · have x := pos_in (d := k - i) (show 1 ≤ lng i j k l by omega) q0 q1 i
    have y := pos_in (d := l - j) (show 1 ≤ lng i j k l by omega) q0 q1 j
    omega

theorem lin_len (i j k l : Int) : (lin i j k l).length = (lng i j k l).toNat + 1 := by unfold lin; simp
theorem rd_lin {i j k l q : Int} (q0 : 0 ≤ q) (q1 : q ≤ lng i j k l) : rd_T57 (lin i j k l) q = cel i j k l q := by
  unfold rd_T57 lin
  rw [List.getD_eq_getElem?_getD, List.getElem?_map, List.getElem?_range (by omega)]
  simp only [Option.map_some, Option.getD_some]
  rw [show ((q.toNat : Nat) : Int) = q by omega]
theorem rends_eq {k : Nat} (hk : 1 ≤ k) {W H Wt : Int} {l : List Int} (hb : ∀ x ∈ l, 0 ≤ x ∧ x ≤ 255) (i j : Int) :
    ray_ends.f k W H Wt l i j = some (if chk W H Wt l = 0 then if 0 ≤ i ∧ i < W ∧ 0 ≤ j ∧ j < H then (lo W l i j, hi W l i j, 0) else (0, 0, 4) else (0, 0, 1)) := by
  unfold ray_ends.f
  rw [slope_eq hk hb]
  simp only [Option.bind_some]
  by_cases h : chk W H Wt l = 0
  · rw [if_pos h, if_pos h]
    by_cases hc : 0 ≤ i ∧ i < W ∧ 0 ≤ j ∧ j < H
    · rw [if_pos hc, if_pos hc]
      have ok := (chk_zero hb).1 h
      have g := lo_hi ok i j
      obtain ⟨i0, i1, j0, j1⟩ := hc
      obtain ⟨e, a, b, c⟩ := ok.idx (i := i) (j := j) i0 (by omega) j0 (by omega)
      obtain ⟨_, a1, b1, _⟩ := ok.idx (i := i + 1) (j := j) (by omega) (by omega) j0 (by omega)
      obtain ⟨_, a2, b2, _⟩ := ok.idx (i := i) (j := j + 1) (by omega) (by omega) (by omega) (by omega)
      obtain ⟨_, a3, b3, _⟩ := ok.idx (i := i + 1) (j := j + 1) (by omega) (by omega) (by omega) (by omega)
      have f : (W + 1) * (j + 1) = (W + 1) * j + W + 1 := by grind
      unfold lo hi cor at *
      rw [f] at a2 b2 a3 b3 g ⊢
      rw [e]
      have w0 := ok.w0
      have w1 := ok.w1
      generalize (W + 1) * j = m at *
      have e1 : wrap64 (m + i + 1) = m + (i + 1) := by rw [w64 (by omega) (by omega)]; omega
      have e2 : wrap64 (wrap64 (m + i + W) + 1) = m + W + 1 + i := by rw [w64 (i := m + i + W) (by omega) (by omega), w64 (by omega) (by omega)]; omega
      have e3 : wrap64 (wrap64 (m + i + W) + 2) = m + W + 1 + (i + 1) := by rw [w64 (i := m + i + W) (by omega) (by omega), w64 (by omega) (by omega)]; omega
      dsimp only
      rw [e1, e2, e3, if_pos rfl, if_pos a, if_pos b, if_pos a1, if_pos b1, if_pos a2, if_pos b2, if_pos a3, if_pos b3]
      rw [w64 (i := mn (mn (mn (rd l (m + i)) (rd l (m + (i + 1)))) (rd l (m + W + 1 + i))) (rd l (m + W + 1 + (i + 1)))) (by omega) (by omega), w64 (by omega) (by omega)]
      congr 2
      congr 1
      omega
    · rw [if_neg hc, if_neg hc]; rfl
  · rw [if_neg h, if_neg h]; rfl

theorem top_eq {k : Nat} (hk : 1 ≤ k) {W H Wt : Int} {l : List Int} (hb : ∀ x ∈ l, 0 ≤ x ∧ x ≤ 255) (i j : Int) :
    ray_Top.f k W H Wt l i j = some (if chk W H Wt l = 0 then if 0 ≤ i ∧ i < W ∧ 0 ≤ j ∧ j < H then (hi W l i j, 0) else (0, 4) else (0, 1)) := by
  unfold ray_Top.f
  rw [rends_eq hk hb]
  simp only [Option.bind_some]
  split
  · split <;> rfl
  · rfl
theorem rfloor_eq {k : Nat} (hk : 1 ≤ k) {W H Wt : Int} {l : List Int} (hb : ∀ x ∈ l, 0 ≤ x ∧ x ≤ 255) (i j : Int) :
    ray_Floor.f k W H Wt l i j = some (if chk W H Wt l = 0 then if 0 ≤ i ∧ i < W ∧ 0 ≤ j ∧ j < H then (lo W l i j, 0) else (0, 4) else (0, 1)) := by
  unfold ray_Floor.f
  rw [rends_eq hk hb]
  simp only [Option.bind_some]
  split
  · split <;> rfl
  · rfl
theorem high_eq (v : Int) : ray_high.f v = some (decide (0 ≤ v ∧ v ≤ 255)) := by
  unfold ray_high.f
  by_cases h : v ≥ 0
  · rw [if_pos h]; congr 1; rw [decide_eq_decide]; omega
  · rw [if_neg h]; congr 1; exact (decide_eq_false (by omega)).symm
def blk (W : Int) (m : List Int) (i j k l a b q : Int) : Bool := decide (hi W m (cel i j k l q).f0 (cel i j k l q).f1 * lng i j k l > a * (lng i j k l - q) + b * q)
def clr (W : Int) (m : List Int) (i j k l a b : Int) : Nat → Int → Bool
  | 0, _ => true
  | n + 1, q => if blk W m i j k l a b q = true then false else clr W m i j k l a b n (q + 1)
def vis (W : Int) (m : List Int) (i j k l up low : Int) : Bool := clr W m i j k l (lo W m i j + up) (lo W m k l + low) (lng i j k l - 1).toNat 1

structure OnB (W H i j k l : Int) : Prop where
  i0 : 0 ≤ i
  i1 : i < W
  j0 : 0 ≤ j
  j1 : j < H
  k0 : 0 ≤ k
  k1 : k < W
  l0 : 0 ≤ l
  l1 : l < H

theorem OnB.inn {W H Wt : Int} {m : List Int} (ok : Ok W H Wt m) {i j k l : Int} (o : OnB W H i j k l) : Inn i ∧ Inn j ∧ Inn k ∧ Inn l := by
  obtain ⟨a, b, c, d, e, f, g, h⟩ := o
  have := ok.w1
  have := ok.h1
  unfold Inn
  omega

theorem OnB.cel {W H Wt : Int} {m : List Int} (ok : Ok W H Wt m) {i j k l q : Int} (o : OnB W H i j k l) (q0 : 0 ≤ q) (q1 : q ≤ lng i j k l) :
    0 ≤ (cel i j k l q).f0 ∧ (cel i j k l q).f0 < W ∧ 0 ≤ (cel i j k l q).f1 ∧ (cel i j k l q).f1 < H := by
  obtain ⟨hi, hj, hk, hl⟩ := o.inn ok
  have c := cel_in hi hj hk hl q0 q1
  obtain ⟨a, b, c', d, e, f, g, h⟩ := o
  omega

theorem blk_w {W H Wt : Int} {m : List Int} (ok : Ok W H Wt m) {i j k l a u b v q : Int} (hn : 0 ≤ lng i j k l ∧ lng i j k l ≤ 63) (a0 : 0 ≤ a ∧ a ≤ 255) (u0 : 0 ≤ u ∧ u ≤ 255) (b0 : 0 ≤ b ∧ b ≤ 255) (v0 : 0 ≤ v ∧ v ≤ 255) (q0 : 0 ≤ q) (q1 : q ≤ lng i j k l) :
    wrap64 (hi W m (cel i j k l q).f0 (cel i j k l q).f1 * lng i j k l) = hi W m (cel i j k l q).f0 (cel i j k l q).f1 * lng i j k l ∧
    wrap64 (wrap64 (wrap64 (a + u) * wrap64 (lng i j k l - q)) + wrap64 (wrap64 (b + v) * q)) = (a + u) * (lng i j k l - q) + (b + v) * q := by
  have g := lo_hi ok (cel i j k l q).f0 (cel i j k l q).f1
  have m1 := mulb (a := hi W m (cel i j k l q).f0 (cel i j k l q).f1) (b := lng i j k l) (A := 255) (B := 63) (by omega) (by omega) hn.1 hn.2
  have m2 := mulb (a := a + u) (b := lng i j k l - q) (A := 510) (B := 63) (by omega) (by omega) (by omega) (by omega)
  have m3 := mulb (a := b + v) (b := q) (A := 510) (B := 63) (by omega) (by omega) (by omega) (by omega)
  refine ⟨w64 (by omega) (by omega), ?_⟩
  rw [w64 (i := a + u) (by omega) (by omega), w64 (i := b + v) (by omega) (by omega), w64 (i := lng i j k l - q) (by omega) (by omega), w64 (i := (a + u) * (lng i j k l - q)) (by omega) (by omega), w64 (i := (b + v) * q) (by omega) (by omega), w64 (by omega) (by omega)]

theorem rsees_l0 {W H Wt : Int} {m : List Int} (ok : Ok W H Wt m) {i j k l a u b v : Int} (o : OnB W H i j k l) (a0 : 0 ≤ a ∧ a ≤ 255) (u0 : 0 ≤ u ∧ u ≤ 255) (b0 : 0 ≤ b ∧ b ≤ 255) (v0 : 0 ≤ v ∧ v ≤ 255) :
    ∀ (n K : Nat) (q : Int), 1 ≤ q → n = (lng i j k l - q).toNat → n + 2 ≤ K → ray_Sees.l0 K W H Wt m (lin i j k l) (lng i j k l) a u b v q = some (clr W m i j k l (a + u) (b + v) n q)
  | 0, K, q, q0, hn, hK => by
    obtain ⟨K, rfl⟩ : ∃ d, K = d + 1 := ⟨K - 1, by omega⟩
    simp only [ray_Sees.l0]
    rw [if_neg (by omega)]
    rfl
  | n + 1, K, q, q0, hn, hK => by
    obtain ⟨K, rfl⟩ : ∃ d, K = d + 1 := ⟨K - 1, by omega⟩
    obtain ⟨hi', hj, hk, hl⟩ := o.inn ok
    have L := lng_b hi' hj hk hl
    have ln := lin_len i j k l
    obtain ⟨e1, e2⟩ := blk_w ok ⟨L.1, L.2.1⟩ a0 u0 b0 v0 (show 0 ≤ q by omega) (show q ≤ lng i j k l by omega)
    simp only [ray_Sees.l0]
    rw [if_pos (by omega)]
    unfold ray_Sees.b
    rw [if_pos (by omega), if_pos (by omega), rd_lin (by omega) (by omega), top_eq (by omega) ok.b, if_pos ((chk_zero ok.b).2 ok), if_pos (o.cel ok (by omega) (by omega))]
    simp only [Option.bind_some]
    rw [e1, e2, w64 (i := q + 1) (by omega) (by omega)]
    show (if blk W m i j k l (a + u) (b + v) q = true then some false else _) = some (if blk W m i j k l (a + u) (b + v) q = true then false else _)
    by_cases hb : blk W m i j k l (a + u) (b + v) q = true
    · rw [if_pos hb, if_pos hb]
    · rw [if_neg hb, if_neg hb]
      exact rsees_l0 ok o a0 u0 b0 v0 n K (q + 1) (by omega) (by omega) (by omega)

theorem rsees_eq {K : Nat} (hK : 800 ≤ K) {W H Wt : Int} {m : List Int} (hb : ∀ x ∈ m, 0 ≤ x ∧ x ≤ 255) (i j k l u v : Int) :
    ray_Sees.f K W H Wt m i j k l u v = some (if chk W H Wt m = 0 ∧ (0 ≤ u ∧ u ≤ 255) ∧ (0 ≤ v ∧ v ≤ 255) then if (0 ≤ i ∧ i < W ∧ 0 ≤ j ∧ j < H) ∧ (0 ≤ k ∧ k < W ∧ 0 ≤ l ∧ l < H) then (vis W m i j k l u v, 0) else (false, 4) else (false, 1)) := by
  unfold ray_Sees.f
  rw [check_eq (by omega), high_eq, high_eq]
  simp only [Option.bind_some, decide_eq_true_eq]
  by_cases h : chk W H Wt m = 0
  · rw [if_pos h]
    by_cases hu : 0 ≤ u ∧ u ≤ 255
    · rw [if_pos hu]
      by_cases hv : 0 ≤ v ∧ v ≤ 255
      · have hh : chk W H Wt m = 0 ∧ (0 ≤ u ∧ u ≤ 255) ∧ (0 ≤ v ∧ v ≤ 255) := ⟨h, hu, hv⟩
        rw [if_pos hv, if_pos hh, rfloor_eq (by omega) hb, rfloor_eq (by omega) hb, if_pos h, if_pos h]
        simp only [Option.bind_some]
        by_cases c1 : 0 ≤ i ∧ i < W ∧ 0 ≤ j ∧ j < H
        · rw [if_pos c1]
          by_cases c2 : 0 ≤ k ∧ k < W ∧ 0 ≤ l ∧ l < H
          · have c12 : (0 ≤ i ∧ i < W ∧ 0 ≤ j ∧ j < H) ∧ (0 ≤ k ∧ k < W ∧ 0 ≤ l ∧ l < H) := ⟨c1, c2⟩
            rw [if_pos c2, if_pos c12]
            have ok := (chk_zero hb).1 h
            have o : OnB W H i j k l := ⟨c1.1, c1.2.1, c1.2.2.1, c1.2.2.2, c2.1, c2.2.1, c2.2.2.1, c2.2.2.2⟩
            obtain ⟨hi', hj, hk, hl⟩ := o.inn ok
            have L := lng_b hi' hj hk hl
            have ln := lin_len i j k l
            have g1 := lo_hi ok i j
            have g2 := lo_hi ok k l
            dsimp only
            rw [if_pos rfl, if_pos rfl, line_eq (by omega), if_pos ⟨hi', hj, hk, hl⟩]
            simp only [Option.bind_some]
            rw [show wrap64 (((lin i j k l).length : Int) - 1) = lng i j k l by rw [w64 (by omega) (by omega)]; omega]
            rw [rsees_l0 ok o (by omega) hu (by omega) hv (lng i j k l - 1).toNat K 1 (by omega) rfl (by omega)]
            rfl
          · have c12 : ¬ ((0 ≤ i ∧ i < W ∧ 0 ≤ j ∧ j < H) ∧ (0 ≤ k ∧ k < W ∧ 0 ≤ l ∧ l < H)) := fun c => c2 c.2
            rw [if_neg c2, if_neg c12]
            dsimp only
            rw [if_pos rfl, if_neg (by decide)]
        · have c12 : ¬ ((0 ≤ i ∧ i < W ∧ 0 ≤ j ∧ j < H) ∧ (0 ≤ k ∧ k < W ∧ 0 ≤ l ∧ l < H)) := fun c => c1 c.1
          rw [if_neg c1, if_neg c12]
          dsimp only
          rw [if_neg (by decide)]
      · rw [if_neg hv, if_neg (fun c => hv c.2.2)]
    · rw [if_neg hu, if_neg (fun c => hu c.2.1)]
  · rw [if_neg h, if_neg (fun c => h c.1)]

def seenB (W : Int) (m : List Int) (i j up rad k l : Int) : Bool := decide ((k - i) * (k - i) + (l - j) * (l - j) ≤ rad * rad) && vis W m i j k l up 0

theorem cell_of {W H Wt : Int} {m : List Int} (ok : Ok W H Wt m) {q : Int} (q0 : 0 ≤ q) (q1 : q < W * H) : 0 ≤ q % W ∧ q % W < W ∧ 0 ≤ q / W ∧ q / W < H := by
  have w0 := ok.w0
  refine ⟨Int.emod_nonneg _ (by omega), Int.emod_lt_of_pos _ (by omega), Int.ediv_nonneg q0 (by omega), Int.ediv_lt_of_lt_mul (by omega) ?_⟩
  rw [Int.mul_comm]; exact q1

theorem dist_w {i j k l rad : Int} (hi : Inn i) (hj : Inn j) (hk : Inn k) (hl : Inn l) (r0 : 0 ≤ rad) (r1 : rad ≤ 64) :
    wrap64 (k - i) = k - i ∧ wrap64 (l - j) = l - j ∧ wrap64 ((k - i) * (k - i)) = (k - i) * (k - i) ∧ wrap64 ((l - j) * (l - j)) = (l - j) * (l - j) ∧
    wrap64 ((k - i) * (k - i) + (l - j) * (l - j)) = (k - i) * (k - i) + (l - j) * (l - j) ∧ wrap64 (rad * rad) = rad * rad := by
  unfold Inn at *
  have sq : ∀ x : Int, -63 ≤ x → x ≤ 63 → 0 ≤ x * x ∧ x * x ≤ 3969 := by
    intro x a b
    by_cases h : 0 ≤ x
    · exact mulb h b h b
    · have := mulb (a := -x) (b := -x) (A := 63) (B := 63) (by omega) (by omega) (by omega) (by omega)
      have e : -x * -x = x * x := by grind
      omega
  have a := sq (k - i) (by omega) (by omega)
  have b := sq (l - j) (by omega) (by omega)
  have c := mulb r0 r1 r0 r1
  refine ⟨w64 (by omega) (by omega), w64 (by omega) (by omega), w64 (by omega) (by omega), w64 (by omega) (by omega), w64 (by omega) (by omega), w64 (by omega) (by omega)⟩

theorem set_at {α : Type} (xs ys : List α) (y z : α) : (xs ++ y :: ys).set xs.length z = xs ++ z :: ys := by
  rw [List.set_append_right _ _ (Nat.le_refl _)]; simp

theorem rseen_l0 {W H Wt : Int} {m : List Int} (ok : Ok W H Wt m) {i j up rad : Int} (i0 : 0 ≤ i) (i1 : i < W) (j0 : 0 ≤ j) (j1 : j < H) (hu : 0 ≤ up ∧ up ≤ 255) (r0 : 0 ≤ rad) (r1 : rad ≤ 64) :
    ∀ (r q K : Nat), q + r = (W * H).toNat → 801 + r ≤ K →
      ray_Seen.l0 K up rad ((List.range q).map (fun (t : Nat) => seenB W m i j up rad ((t : Int) % W) ((t : Int) / W)) ++ List.replicate r false) (W * H) (q : Int) W H Wt m i j = some ((List.range (W * H).toNat).map (fun (t : Nat) => seenB W m i j up rad ((t : Int) % W) ((t : Int) / W)), 0)
  | 0, q, K, hq, hK => by
    obtain ⟨K, rfl⟩ : ∃ d, K = d + 1 := ⟨K - 1, by omega⟩
    simp only [ray_Seen.l0]
    rw [if_neg (by omega), show (W * H).toNat = q by omega]
    simp
  | r + 1, q, K, hq, hK => by
    obtain ⟨K, rfl⟩ : ∃ d, K = d + 1 := ⟨K - 1, by omega⟩
    have w0 := ok.w0
    have w1 := ok.w1
    have h0 := ok.h0
    have h1 := ok.h1
    have big := mulb (a := W) (b := H) (A := 64) (B := 64) (by omega) w1 (by omega) h1
    have c := cell_of ok (q := (q : Int)) (by omega) (by omega)
    have d : (q : Int) / W ≤ q := Int.ediv_le_self _ (by omega)
    have o : OnB W H i j ((q : Int) % W) ((q : Int) / W) := ⟨i0, i1, j0, j1, c.1, c.2.1, c.2.2.1, c.2.2.2⟩
    obtain ⟨hi', hj, hk, hl⟩ := o.inn ok
    obtain ⟨e1, e2, e3, e4, e5, e6⟩ := dist_w hi' hj hk hl r0 r1
    simp only [ray_Seen.l0]
    rw [if_pos (by omega), if_neg (by omega), Int.tmod_eq_emod_of_nonneg (by omega), Int.tdiv_eq_ediv_of_nonneg (by omega), w64 (i := (q : Int) / W) (by omega) (by omega), e1, e2, e3, e4, e5, e6, w64 (i := (q : Int) + 1) (by omega) (by omega)]
    have next : ∀ b : Bool, b = seenB W m i j up rad ((q : Int) % W) ((q : Int) / W) → (List.range q).map (fun (t : Nat) => seenB W m i j up rad ((t : Int) % W) ((t : Int) / W)) ++ b :: List.replicate r false = (List.range (q + 1)).map (fun (t : Nat) => seenB W m i j up rad ((t : Int) % W) ((t : Int) / W)) ++ List.replicate r false := by
      intro b hb
      rw [List.range_succ, List.map_append, List.append_assoc, hb]
      rfl
    have ih := rseen_l0 ok i0 i1 j0 j1 hu r0 r1 r (q + 1) K (by omega) (by omega)
    rw [show (((q + 1 : Nat)) : Int) = (q : Int) + 1 by omega] at ih
    by_cases h : ((q : Int) % W - i) * ((q : Int) % W - i) + ((q : Int) / W - j) * ((q : Int) / W - j) ≤ rad * rad
    · have hh : chk W H Wt m = 0 ∧ (0 ≤ up ∧ up ≤ 255) ∧ (0 ≤ (0 : Int) ∧ (0 : Int) ≤ 255) := ⟨(chk_zero ok.b).2 ok, hu, by omega⟩
      have cc : (0 ≤ i ∧ i < W ∧ 0 ≤ j ∧ j < H) ∧ (0 ≤ (q : Int) % W ∧ (q : Int) % W < W ∧ 0 ≤ (q : Int) / W ∧ (q : Int) / W < H) := ⟨⟨i0, i1, j0, j1⟩, c⟩
      rw [if_pos h, rsees_eq (by omega) ok.b, if_pos hh, if_pos cc]
      simp only [Option.bind_some]
      rw [if_pos (by omega), if_pos (by simp; omega)]
      have st := set_at ((List.range q).map (fun (t : Nat) => seenB W m i j up rad ((t : Int) % W) ((t : Int) / W))) (List.replicate r false) false (vis W m i j ((q : Int) % W) ((q : Int) / W) up 0)
      rw [List.length_map, List.length_range] at st
      rw [show ((q : Int)).toNat = q by omega, List.replicate_succ, st, next _ (by unfold seenB; rw [decide_eq_true h]; rfl)]
      exact ih
    · rw [if_neg h, List.replicate_succ, next _ (by unfold seenB; rw [decide_eq_false h]; rfl)]
      exact ih

theorem rseen_eq {K : Nat} (hK : 6000 ≤ K) {W H Wt : Int} {m : List Int} (hb : ∀ x ∈ m, 0 ≤ x ∧ x ≤ 255) (i j up rad : Int) :
    ray_Seen.f K W H Wt m i j up rad = some (if chk W H Wt m = 0 ∧ (0 ≤ up ∧ up ≤ 255) ∧ (0 ≤ rad ∧ rad ≤ 64) then if 0 ≤ i ∧ i < W ∧ 0 ≤ j ∧ j < H then ((List.range (W * H).toNat).map (fun (t : Nat) => seenB W m i j up rad ((t : Int) % W) ((t : Int) / W)), 0) else ([], 4) else ([], 1)) := by
  obtain ⟨K, rfl⟩ : ∃ d, K = d + 1 := ⟨K - 1, by omega⟩
  unfold ray_Seen.f
  rw [check_eq (by omega), high_eq]
  simp only [Option.bind_some, decide_eq_true_eq]
  have no : ∀ r : List Bool × Int, r = ([], 1) → ray_Seen.j0 (K + 1) up rad true W H Wt m i j = some r := by
    rintro r rfl
    simp only [ray_Seen.j0]
    rw [if_pos trivial]
  by_cases h : chk W H Wt m = 0
  · rw [if_pos h]
    by_cases hu : 0 ≤ up ∧ up ≤ 255
    · rw [if_pos hu]
      by_cases r0 : rad < 0
      · rw [if_pos r0]; exact no _ (if_neg (by omega))
      rw [if_neg r0]
      by_cases r1 : rad > 64
      · rw [decide_eq_true r1]; exact no _ (if_neg (by omega))
      have hh : chk W H Wt m = 0 ∧ (0 ≤ up ∧ up ≤ 255) ∧ (0 ≤ rad ∧ rad ≤ 64) := ⟨h, hu, by omega⟩
      rw [decide_eq_false r1, if_pos hh]
      simp only [ray_Seen.j0]
      rw [if_neg (by decide), rfloor_eq (by omega) hb, if_pos h]
      simp only [Option.bind_some]
      by_cases c : 0 ≤ i ∧ i < W ∧ 0 ≤ j ∧ j < H
      · have ok := (chk_zero hb).1 h
        have w0 := ok.w0
        have w1 := ok.w1
        have h0 := ok.h0
        have h1 := ok.h1
        have big := mulb (a := W) (b := H) (A := 64) (B := 64) (by omega) w1 (by omega) h1
        rw [if_pos c, if_pos c]
        dsimp only
        rw [if_pos rfl, w64 (i := W * H) (by omega) (by omega), if_pos (by omega), if_pos (by omega)]
        have g := rseen_l0 ok c.1 c.2.1 c.2.2.1 c.2.2.2 hu (show 0 ≤ rad by omega) (show rad ≤ 64 by omega) (W * H).toNat 0 K (by omega) (by omega)
        simp only [List.range_zero, List.map_nil, List.nil_append] at g
        rw [List.length_replicate, show (((W * H).toNat : Nat) : Int) = W * H by omega]
        exact g
      · rw [if_neg c, if_neg c]
        dsimp only
        rw [if_neg (by decide)]
    · rw [if_neg hu]; exact no _ (if_neg (fun c => hu c.2.1))
  · rw [if_neg h]; exact no _ (if_neg (fun c => h c.1))
/-! ### What a view comes to -/
def EyeOk (W H : Int) (x : S27) : Prop := (0 ≤ x.f0 ∧ x.f0 ≤ 7) ∧ (0 ≤ x.f1 ∧ x.f1 ≤ W - 1) ∧ (0 ≤ x.f2 ∧ x.f2 ≤ H - 1) ∧ (0 ≤ x.f3 ∧ x.f3 ≤ 255) ∧ (0 ≤ x.f4 ∧ x.f4 ≤ 32) ∧ (0 ≤ x.f5 ∧ x.f5 ≤ 32) ∧ (0 ≤ x.f6 ∧ x.f6 ≤ 32) ∧ (0 ≤ x.f7 ∧ x.f7 ≤ 32)
instance (W H : Int) (x : S27) : Decidable (EyeOk W H x) := by unfold EyeOk; infer_instance
def nr (W : Int) (x : S27) (c r : Int) : Bool := decide ((c % W - x.f1) * (c % W - x.f1) + (c / W - x.f2) * (c / W - x.f2) ≤ r * r)
def eB (W Wt : Int) (m : List Int) (x : S27) (c : Int) : Bool := nr W x c x.f5 || (decide (0 < mx 0 (Wt - lo W m (c % W) (c / W))) && nr W x c x.f6)
def sB (W : Int) (m : List Int) (x : S27) (c : Int) : Bool := seenB W m x.f1 x.f2 x.f3 x.f4 (c % W) (c / W)
def jB (W : Int) (x : S27) (c : Int) : Bool := decide (0 < x.f7) && nr W x c x.f7
def vS (W : Int) (m : List Int) (t c : Int) (l : List S27) : Bool := l.any (fun x => decide (x.f0 = t) && sB W m x c)
def vJ (W : Int) (t c : Int) (l : List S27) : Bool := l.any (fun x => decide (x.f0 ≠ t) && jB W x c)
def vE (W Wt : Int) (m : List Int) (t c : Int) (l : List S27) : Bool := l.any (fun x => decide (x.f0 = t) && eB W Wt m x c)
def viewB (W Wt : Int) (m : List Int) (l : List S27) (t c : Int) : Int := if vS W m t c l = true then 2 else if vJ W t c l = true then 0 else if vE W Wt m t c l = true then 1 else 0
def MayP (W H Wt : Int) (m : List Int) (l : List S27) : Prop := chk W H Wt m = 0 ∧ l.length ≤ 64 ∧ ∀ x ∈ l, EyeOk W H x
instance (W H Wt : Int) (m : List Int) (l : List S27) : Decidable (MayP W H Wt m l) := by unfold MayP; infer_instance

theorem sq_b {a : Int} (h : -64 ≤ a) (g : a ≤ 64) : 0 ≤ a * a ∧ a * a ≤ 4096 := by
  rcases Int.le_total 0 a with c | c
  · exact mulb c g c g
  · have := mulb (a := -a) (b := -a) (A := 64) (B := 64) (by omega) (by omega) (by omega) (by omega)
    rw [Int.neg_mul_neg] at this; exact this
theorem within_eq (a b : Int) : sight_within.f a b = some (decide (0 ≤ a ∧ a ≤ b)) := by
  unfold sight_within.f
  by_cases h : 0 ≤ a
  · rw [if_pos h]; simp [h]
  · rw [if_neg h]; simp [h]
theorem reach_l0 (l : List Int) (hl : l.length ≤ 1000) : ∀ (r q K : Nat), q + r = l.length → r + 1 ≤ K → sight_reach.l0 K l (l.length : Int) (q : Int) = some (decide (∀ x ∈ l.drop q, 0 ≤ x ∧ x ≤ 32))
  | 0, q, K, hq, hK => by
    obtain ⟨K, rfl⟩ : ∃ d, K = d + 1 := ⟨K - 1, by omega⟩
    simp only [sight_reach.l0]
    rw [if_neg (by omega), List.drop_eq_nil_of_le (by omega)]
    simp
  | r + 1, q, K, hq, hK => by
    obtain ⟨K, rfl⟩ : ∃ d, K = d + 1 := ⟨K - 1, by omega⟩
    simp only [sight_reach.l0]
    rw [if_pos (by omega), if_pos (by omega), if_pos (by omega), within_eq, w64 (i := (q : Int) + 1) (by omega) (by omega)]
    simp only [Option.bind_some]
    have ih := reach_l0 l hl r (q + 1) K (by omega) (by omega)
    rw [show (((q + 1 : Nat)) : Int) = (q : Int) + 1 by omega] at ih
    have e : rd l (q : Int) = l[q]'(by omega) := by unfold rd; simp [List.getD_eq_getElem?_getD, List.getElem?_eq_getElem (show q < l.length by omega)]
    rw [List.drop_eq_getElem_cons (show q < l.length by omega), ← e]
    by_cases h : 0 ≤ rd l (q : Int) ∧ rd l (q : Int) ≤ 32
    · rw [decide_eq_true h, if_pos rfl, ih]; simp [h]
    · rw [decide_eq_false h, if_neg (by decide), decide_eq_false (by intro a; exact h (a _ (List.mem_cons_self ..)))]
theorem eye_eq {K : Nat} (hK : 5 ≤ K) {W H : Int} (w0 : 1 ≤ W) (w1 : W ≤ 64) (h0 : 1 ≤ H) (h1 : H ≤ 64) (Wt : Int) (m : List Int) (x : S27) : sight_eye.f K W H Wt m x.f0 x.f1 x.f2 x.f3 x.f4 x.f5 x.f6 x.f7 = some (decide (EyeOk W H x)) := by
  unfold sight_eye.f
  have g := reach_l0 [x.f4, x.f5, x.f6, x.f7] (by simp) 4 0 K (by simp) hK
  have g' : sight_reach.f K [x.f4, x.f5, x.f6, x.f7] = some (decide ((0 ≤ x.f4 ∧ x.f4 ≤ 32) ∧ (0 ≤ x.f5 ∧ x.f5 ≤ 32) ∧ (0 ≤ x.f6 ∧ x.f6 ≤ 32) ∧ (0 ≤ x.f7 ∧ x.f7 ≤ 32))) := by
    unfold sight_reach.f
    rw [show (0 : Int) = ((0 : Nat) : Int) from rfl, g]
    simp
  simp only [within_eq, g', Option.bind_some, decide_eq_true_eq]
  rw [w64 (i := W - 1) (by omega) (by omega), w64 (i := H - 1) (by omega) (by omega)]
  by_cases c0 : 0 ≤ x.f0 ∧ x.f0 ≤ 7
  · rw [if_pos c0]
    by_cases c1 : 0 ≤ x.f1 ∧ x.f1 ≤ W - 1
    · rw [if_pos c1]
      by_cases c2 : 0 ≤ x.f2 ∧ x.f2 ≤ H - 1
      · rw [if_pos c2]
        by_cases c3 : 0 ≤ x.f3 ∧ x.f3 ≤ 255
        · rw [if_pos c3]; exact congrArg some (decide_eq_decide.2 ⟨fun h => ⟨c0, c1, c2, c3, h⟩, fun h => h.2.2.2.2⟩)
        · rw [if_neg c3, decide_eq_false (fun c : EyeOk W H x => c3 c.2.2.2.1)]
      · rw [if_neg c2, decide_eq_false (fun c : EyeOk W H x => c2 c.2.2.1)]
    · rw [if_neg c1, decide_eq_false (fun c : EyeOk W H x => c1 c.2.1)]
  · rw [if_neg c0, decide_eq_false (fun c : EyeOk W H x => c0 c.1)]
theorem may_l0 {W H : Int} (w0 : 1 ≤ W) (w1 : W ≤ 64) (h0 : 1 ≤ H) (h1 : H ≤ 64) (Wt : Int) (m : List Int) (l : List S27) (hl : l.length ≤ 1000) : ∀ (r q K : Nat), q + r = l.length → r + 6 ≤ K → sight_May.l0 K l (l.length : Int) (q : Int) W H Wt m = some (decide (∀ x ∈ l.drop q, EyeOk W H x))
  | 0, q, K, hq, hK => by
    obtain ⟨K, rfl⟩ : ∃ d, K = d + 1 := ⟨K - 1, by omega⟩
    simp only [sight_May.l0]
    rw [if_neg (by omega), List.drop_eq_nil_of_le (by omega)]
    simp
  | r + 1, q, K, hq, hK => by
    obtain ⟨K, rfl⟩ : ∃ d, K = d + 1 := ⟨K - 1, by omega⟩
    simp only [sight_May.l0]
    rw [if_pos (by omega), if_pos (by omega), if_pos (by omega), eye_eq (by omega) w0 w1 h0 h1, w64 (i := (q : Int) + 1) (by omega) (by omega)]
    simp only [Option.bind_some]
    have ih := may_l0 w0 w1 h0 h1 Wt m l hl r (q + 1) K (by omega) (by omega)
    rw [show (((q + 1 : Nat)) : Int) = (q : Int) + 1 by omega] at ih
    have e : rd_T27 l (q : Int) = l[q]'(by omega) := by unfold rd_T27; simp [List.getD_eq_getElem?_getD, List.getElem?_eq_getElem (show q < l.length by omega)]
    rw [List.drop_eq_getElem_cons (show q < l.length by omega), ← e]
    by_cases h : EyeOk W H (rd_T27 l (q : Int))
    · rw [decide_eq_true h, if_pos rfl, ih]; simp [h]
    · rw [decide_eq_false h, if_neg (by decide), decide_eq_false (by intro a; exact h (a _ (List.mem_cons_self ..)))]
theorem may_eq {K : Nat} (hK : 100 ≤ K) {W H Wt : Int} {m : List Int} (hb : ∀ x ∈ m, 0 ≤ x ∧ x ≤ 255) (l : List S27) (hl : l.length ≤ 80) : sight_May.f K W H Wt m l = some (decide (MayP W H Wt m l)) := by
  obtain ⟨K, rfl⟩ : ∃ d, K = d + 1 := ⟨K - 1, by omega⟩
  unfold sight_May.f
  rw [check_eq (by omega)]
  simp only [Option.bind_some]
  by_cases h : chk W H Wt m = 0
  · have ok := (chk_zero hb).1 h
    rw [if_pos h]
    simp only [sight_May.j0]
    by_cases g : l.length ≤ 64
    · rw [decide_eq_false (by omega : ¬ (l.length : Int) > 64), if_neg (by decide)]
      have e := may_l0 ok.w0 ok.w1 ok.h0 ok.h1 Wt m l (by omega) l.length 0 K (by omega) (by omega)
      rw [show ((0 : Nat) : Int) = 0 from rfl] at e
      rw [e]
      exact congrArg some (decide_eq_decide.2 ⟨fun z => ⟨h, g, z⟩, fun z => z.2.2⟩)
    · rw [decide_eq_true (by omega : (l.length : Int) > 64), if_pos rfl, decide_eq_false (fun c : MayP W H Wt m l => g c.2.1)]
  · rw [if_neg h]
    simp only [sight_May.j0]
    rw [if_pos trivial, decide_eq_false (fun c : MayP W H Wt m l => h c.1)]

theorem near_eq {W H Wt : Int} {m : List Int} (ok : Ok W H Wt m) {x : S27} (e : EyeOk W H x) {c r : Int} (c0 : 0 ≤ c) (c1 : c < W * H) (r0 : 0 ≤ r) (r1 : r ≤ 32) : sight_near.f W H Wt m x.f0 x.f1 x.f2 x.f3 x.f4 x.f5 x.f6 x.f7 c r = some (nr W x c r) := by
  have w0 := ok.w0
  have w1 := ok.w1
  have h0 := ok.h0
  have h1 := ok.h1
  obtain ⟨q0, q1, q2, q3⟩ := cell_of ok c0 c1
  obtain ⟨-, ⟨i0, i1⟩, ⟨j0, j1⟩, -⟩ := e
  unfold sight_near.f nr
  rw [if_neg (by omega), Int.tmod_eq_emod_of_nonneg c0, Int.tdiv_eq_ediv_of_nonneg c0]
  have b1 := sq_b (a := c % W - x.f1) (by omega) (by omega)
  have b2 := sq_b (a := c / W - x.f2) (by omega) (by omega)
  have b3 := sq_b (a := r) (by omega) (by omega)
  rw [w64 (i := c / W) (by omega) (by omega), w64 (i := c % W - x.f1) (by omega) (by omega), w64 (i := c / W - x.f2) (by omega) (by omega), w64 (i := (c % W - x.f1) * (c % W - x.f1)) (by omega) (by omega), w64 (i := (c / W - x.f2) * (c / W - x.f2)) (by omega) (by omega), w64 (i := r * r) (by omega) (by omega), w64 (by omega) (by omega)]

theorem ech_eq {K : Nat} (hK : 1 ≤ K) {W H Wt : Int} {m : List Int} (ok : Ok W H Wt m) {x : S27} (e : EyeOk W H x) {c : Int} (c0 : 0 ≤ c) (c1 : c < W * H) : sight_View.ech K W H Wt m x c = some (eB W Wt m x c) := by
  unfold sight_View.ech eB
  have q := cell_of ok c0 c1
  have r5 := e.2.2.2.2.2.1
  have r6 := e.2.2.2.2.2.2.1
  rw [near_eq ok e c0 c1 r5.1 r5.2, near_eq ok e c0 c1 r6.1 r6.2, depth_eq hK ok.b, if_pos ((chk_zero ok.b).2 ok), if_pos q]
  simp only [Option.bind_some]
  cases h : nr W x c x.f5
  · rw [if_neg (by decide), Bool.false_or]
    by_cases g : 0 < mx 0 (Wt - lo W m (c % W) (c / W))
    · rw [if_pos g, decide_eq_true g, Bool.true_and]
    · rw [if_neg g, decide_eq_false g, Bool.false_and]
  · rw [if_pos rfl, Bool.true_or]

/-! ### Lists by their cells -/
theorem rd_rng {n : Nat} (f : Nat → Int) {i : Nat} (h : i < n) : rd ((List.range n).map f) (i : Int) = f i := by unfold rd; simp [List.getD_eq_getElem?_getD, h]
theorem set_rng {n : Nat} (f : Nat → Int) (i : Nat) (u : Int) : ((List.range n).map f).set i u = (List.range n).map (fun c => if c = i then u else f c) := by
  apply List.ext_getElem
  · simp
  · intro j h1 h2
    simp only [List.length_set, List.length_map, List.length_range] at h1
    rw [List.getElem_set]
    simp only [List.getElem_map, List.getElem_range]
    by_cases h : i = j
    · rw [if_pos h, if_pos h.symm]
    · rw [if_neg h, if_neg (fun c => h c.symm)]
theorem map_rng {n : Nat} {f g : Nat → Int} (h : ∀ c, c < n → f c = g c) : (List.range n).map f = (List.range n).map g := List.map_congr_left (fun c hc => h c (List.mem_range.1 hc))

theorem rse_eq {n : Nat} {h : Int → Option Bool} {g : Nat → Bool} {u : Int} (hg : ∀ c : Nat, c < n → h (c : Int) = some (g c)) : ∀ (d i : Nat) (f : Nat → Int), i + d = n → sight_View.rse h u d (i : Int) ((List.range n).map f) = some ((List.range n).map (fun c => if i ≤ c ∧ f c < u ∧ g c = true then u else f c))
  | 0, i, f, hi => by
    simp only [sight_View.rse]
    rw [map_rng]
    intro c hc
    rw [if_neg (by omega)]
  | d + 1, i, f, hi => by
    simp only [sight_View.rse]
    rw [rd_rng f (by omega), hg i (by omega), show ((i : Int) + 1) = ((i + 1 : Nat) : Int) by omega]
    simp only [Option.bind_some, Int.toNat_natCast]
    by_cases hu : f i < u
    · rw [if_pos hu]
      cases hb : g i
      · rw [if_neg (by decide), rse_eq hg d (i + 1) f (by omega)]
        rw [map_rng]
        intro c hc
        by_cases e : c = i
        · subst e; rw [if_neg (by omega), if_neg (by rw [hb]; simp)]
        · by_cases c1 : i + 1 ≤ c ∧ f c < u ∧ g c = true
          · rw [if_pos c1, if_pos ⟨by omega, c1.2⟩]
          · rw [if_neg c1, if_neg (fun z => c1 ⟨by omega, z.2⟩)]
      · rw [if_pos rfl, set_rng, rse_eq hg d (i + 1) _ (by omega)]
        rw [map_rng]
        intro c hc
        by_cases e : c = i
        · subst e; rw [if_neg (by omega), if_pos rfl, if_pos ⟨Nat.le_refl _, hu, hb⟩]
        · rw [if_neg e]
          by_cases c1 : i + 1 ≤ c ∧ f c < u ∧ g c = true
          · rw [if_pos c1, if_pos ⟨by omega, c1.2⟩]
          · rw [if_neg c1, if_neg (fun z => c1 ⟨by omega, z.2⟩)]
    · rw [if_neg hu, rse_eq hg d (i + 1) f (by omega)]
      rw [map_rng]
      intro c hc
      by_cases e : c = i
      · subst e; rw [if_neg (by omega), if_neg (fun z => hu z.2.1)]
      · by_cases c1 : i + 1 ≤ c ∧ f c < u ∧ g c = true
        · rw [if_pos c1, if_pos ⟨by omega, c1.2⟩]
        · rw [if_neg c1, if_neg (fun z => c1 ⟨by omega, z.2⟩)]

theorem p1_eq {K : Nat} (hK : 1 ≤ K) {W H Wt : Int} {m : List Int} (ok : Ok W H Wt m) (t : Int) {n : Nat} (hn : n = (W * H).toNat) : ∀ (l : List S27) (f : Nat → Int), (∀ x ∈ l, EyeOk W H x) → sight_View.p1 K W H Wt m t l ((List.range n).map f) = some ((List.range n).map (fun c => if f c < 1 ∧ vE W Wt m t c l = true then 1 else f c))
  | [], f, _ => by simp [sight_View.p1, vE]
  | x :: l, f, hl => by
    have ih := fun g => p1_eq hK ok t hn l g (fun y hy => hl y (List.mem_cons_of_mem _ hy))
    simp only [sight_View.p1, List.length_map, List.length_range]
    by_cases h : x.f0 = t
    · rw [if_pos h, show (0 : Int) = ((0 : Nat) : Int) from rfl, rse_eq (g := fun c => eB W Wt m x c) (fun c hc => ech_eq hK ok (hl x (List.mem_cons_self ..)) (by omega) (by omega)) n 0 f (by omega)]
      simp only [Option.bind_some]
      rw [ih, map_rng]
      intro c hc
      simp only [vE, List.any_cons, h, decide_true, Bool.true_and, Nat.zero_le, true_and]
      by_cases g1 : f c < 1
      · cases g2 : eB W Wt m x c
        · simp [g1]
        · simp [g1]
      · simp [g1]
    · rw [if_neg h, ih, map_rng]
      intro c hc
      simp [vE, h]

theorem jam_eq {W H Wt : Int} {m : List Int} (ok : Ok W H Wt m) (t : Int) {n : Nat} (hn : n = (W * H).toNat) {i : Nat} (hi : i < n) : ∀ (l : List S27) (f : Nat → Int), (∀ x ∈ l, EyeOk W H x) → sight_View.jam W H Wt m t (i : Int) l ((List.range n).map f) = some ((List.range n).map (fun c => if c = i ∧ vJ W t i l = true then 0 else f c))
  | [], f, _ => by simp [sight_View.jam, vJ]
  | x :: l, f, hl => by
    have ih := fun g => jam_eq ok t hn hi l g (fun y hy => hl y (List.mem_cons_of_mem _ hy))
    have e := hl x (List.mem_cons_self ..)
    have r7 := e.2.2.2.2.2.2.2
    simp only [sight_View.jam]
    by_cases h : x.f0 ≠ t ∧ 0 < x.f7
    · rw [if_pos h, near_eq ok e (by omega) (by omega) r7.1 r7.2]
      simp only [Option.bind_some, Int.toNat_natCast]
      cases g : nr W x i x.f7
      · rw [if_neg (by decide), ih, map_rng]
        intro c hc
        simp [vJ, jB, g]
      · rw [if_pos rfl, set_rng, ih, map_rng]
        intro c hc
        by_cases ci : c = i
        · simp [vJ, jB, g, h.1, h.2, ci]
        · simp [ci]
    · rw [if_neg h, ih, map_rng]
      intro c hc
      have z : (decide (x.f0 ≠ t) && jB W x i) = false := by
        unfold jB
        by_cases h1 : x.f0 = t
        · simp [h1]
        · have h2 : ¬ 0 < x.f7 := fun c => h ⟨h1, c⟩
          simp [h2]
      have e : vJ W t i (x :: l) = vJ W t i l := by unfold vJ; rw [List.any_cons, z, Bool.false_or]
      rw [e]

theorem p2_eq {W H Wt : Int} {m : List Int} (ok : Ok W H Wt m) (t : Int) {n : Nat} (hn : n = (W * H).toNat) (l : List S27) (hl : ∀ x ∈ l, EyeOk W H x) : ∀ (d i : Nat) (f : Nat → Int), i + d = n → sight_View.p2 W H Wt m t l d (i : Int) ((List.range n).map f) = some ((List.range n).map (fun c => if i ≤ c ∧ vJ W t c l = true then 0 else f c))
  | 0, i, f, hi => by
    simp only [sight_View.p2]
    rw [map_rng]
    intro c hc
    rw [if_neg (by omega)]
  | d + 1, i, f, hi => by
    simp only [sight_View.p2]
    rw [jam_eq ok t hn (by omega) l f hl, show ((i : Int) + 1) = ((i + 1 : Nat) : Int) by omega]
    simp only [Option.bind_some]
    rw [p2_eq ok t hn l hl d (i + 1) _ (by omega), map_rng]
    intro c hc
    by_cases e : c = i
    · subst e
      by_cases g : vJ W t c l = true
      · simp [g]
      · simp [g]
    · by_cases g : i ≤ c
      · have g' : i + 1 ≤ c := by omega
        simp [e, g, g']
      · have g' : ¬ i + 1 ≤ c := by omega
        simp [e, g, g']

theorem p3_eq {K : Nat} (hK : 6000 ≤ K) {W H Wt : Int} {m : List Int} (ok : Ok W H Wt m) (t : Int) {n : Nat} (hn : n = (W * H).toNat) : ∀ (l : List S27) (f : Nat → Int), (∀ x ∈ l, EyeOk W H x) → sight_View.p3 K W H Wt m t l ((List.range n).map f) = some ((List.range n).map (fun c => if f c < 2 ∧ vS W m t c l = true then 2 else f c))
  | [], f, _ => by simp [sight_View.p3, vS]
  | x :: l, f, hl => by
    have ih := fun g => p3_eq hK ok t hn l g (fun y hy => hl y (List.mem_cons_of_mem _ hy))
    simp only [sight_View.p3, List.length_map, List.length_range]
    by_cases h : x.f0 = t
    · obtain ⟨-, ⟨i0, i1⟩, ⟨j0, j1⟩, hu, hs, -⟩ := hl x (List.mem_cons_self ..)
      rw [if_pos h, rseen_eq hK ok.b, if_pos ⟨(chk_zero ok.b).2 ok, hu, by omega⟩, if_pos ⟨i0, by omega, j0, by omega⟩]
      simp only [Option.bind_some, List.length_map, List.length_range]
      rw [if_pos hn.symm, show (0 : Int) = ((0 : Nat) : Int) from rfl, rse_eq (g := fun c => sB W m x c) (fun c hc => by rw [← hn]; simp [rdOf, hc, sB]) n 0 f (by omega)]
      simp only [Option.bind_some]
      rw [ih, map_rng]
      intro c hc
      simp only [vS, List.any_cons, h, decide_true, Bool.true_and, Nat.zero_le, true_and]
      by_cases g1 : f c < 2
      · cases g2 : sB W m x c
        · simp [g1]
        · simp [g1]
      · simp [g1]
    · rw [if_neg h, ih, map_rng]
      intro c hc
      simp [vS, h]

theorem view_eq {K : Nat} (hK : 6000 ≤ K) {W H Wt : Int} {m : List Int} (hb : ∀ x ∈ m, 0 ≤ x ∧ x ≤ 255) (l : List S27) (hl : l.length ≤ 80) (t : Int) : sight_View.f K W H Wt m l t = some (if MayP W H Wt m l ∧ (0 ≤ t ∧ t ≤ 7) then ((List.range (W * H).toNat).map (fun (c : Nat) => viewB W Wt m l t c), 0) else ([], 1)) := by
  unfold sight_View.f
  rw [may_eq (by omega) hb l hl]
  simp only [Option.bind_some, decide_eq_true_eq]
  by_cases h : MayP W H Wt m l ∧ (0 ≤ t ∧ t ≤ 7)
  · have ok := (chk_zero hb).1 h.1.1
    have lz : l.length ≤ 64 := h.1.2.1
    rw [if_pos h, if_pos h, if_pos ⟨ok.w0, ok.w1, ok.h0, ok.h1, lz⟩]
    have r0 : List.replicate (W * H).toNat (0 : Int) = (List.range (W * H).toNat).map (fun _ => (0 : Int)) := by apply List.ext_getElem <;> simp
    rw [r0, p1_eq (by omega) ok t rfl l _ h.1.2.2]
    simp only [Option.bind_some, List.length_map, List.length_range]
    have e2 := p2_eq ok t rfl l h.1.2.2 (W * H).toNat 0 (fun c => if (0 : Int) < 1 ∧ vE W Wt m t c l = true then 1 else 0) (by omega)
    rw [show ((0 : Nat) : Int) = 0 from rfl] at e2
    rw [e2]
    simp only [Option.bind_some]
    rw [p3_eq hK ok t rfl l _ h.1.2.2]
    simp only [Option.bind_some]
    rw [map_rng (g := fun (c : Nat) => viewB W Wt m l t c)]
    intro c hc
    unfold viewB
    cases vS W m t c l <;> cases vJ W t c l <;> cases vE W Wt m t c l <;> simp
  · rw [if_neg h, if_neg h]
theorem refCheck_eq {k : Nat} (hk : 1 ≤ k) (W H Wt : Int) (l : List Int) : bivouacref06_Check.f k W H Wt l = some (chk W H Wt l) := by
  obtain ⟨k, rfl⟩ : ∃ m, k = m + 1 := ⟨k - 1, by omega⟩
  unfold bivouacref06_Check.f chk
  simp only [bivouacref06_Check.j0]
  by_cases hr : 1 ≤ W ∧ W ≤ 64 ∧ 1 ≤ H ∧ H ≤ 64 ∧ 0 ≤ Wt ∧ Wt ≤ 255
  · have hr2 := hr
    obtain ⟨a, b, c, d, e, f⟩ := hr2
    rw [if_pos hr, if_pos a, if_pos b, if_pos c, if_pos d, if_pos e, if_neg (by simpa using f), (area a b c d).1]
    repeat' split
    all_goals first | rfl | (exfalso; omega)
  · rw [if_neg hr]
    by_cases h1 : 1 ≤ W
    · rw [if_pos h1]
      by_cases h2 : W ≤ 64
      · rw [if_pos h2]
        by_cases h3 : 1 ≤ H
        · rw [if_pos h3]
          by_cases h4 : H ≤ 64
          · rw [if_pos h4]
            by_cases h5 : 0 ≤ Wt
            · rw [if_pos h5, if_pos (by simp; omega)]
            · rw [if_neg h5]; simp
          · rw [if_neg h4]; simp
        · rw [if_neg h3]; simp
      · rw [if_neg h2]; simp
    · rw [if_neg h1]; simp

theorem refCorner_eq {W H Wt : Int} {l : List Int} (h : Ok W H Wt l) {i j : Int} (i0 : 0 ≤ i) (i1 : i ≤ W) (j0 : 0 ≤ j) (j1 : j ≤ H) : bivouacref06_Corner.f W H Wt l i j = some (cor W l i j) := by
  obtain ⟨e, a, b, c⟩ := h.idx i0 i1 j0 j1
  unfold bivouacref06_Corner.f
  rw [e, if_pos a, if_pos b]
  have := h.cor_b i j
  unfold cor at *
  rw [w64 (by omega) (by omega)]

theorem ends_l0 {W H Wt : Int} {l : List Int} (h : Ok W H Wt l) {i j : Int} (i0 : 0 ≤ i) (i1 : i < W) (j0 : 0 ≤ j) (j1 : j < H) {k : Nat} (hk : 5 ≤ k) :
    bivouacref06_Ends.f k W H Wt l i j = some (lo W l i j, hi W l i j) := by
  obtain ⟨k, rfl⟩ : ∃ m, k = m + 5 := ⟨k - 5, by omega⟩
  have q0 := h.cor_b i j
  have q1 := h.cor_b (i + 1) j
  have q2 := h.cor_b i (j + 1)
  have q3 := h.cor_b (i + 1) (j + 1)
  have w1 := h.w1
  have h1 := h.h1
  have step : ∀ (k : Nat) (n a b : Int), bivouacref06_Ends.l0 (k + 1) i j a b n W H Wt l = if n < 4 then (bivouacref06_Corner.f W H Wt l (wrap64 (i + Int.tmod n 2)) (wrap64 (j + wrap64 (Int.tdiv n 2)))).bind fun t => bivouacref06_Ends.l0 k i j (mn a t) (mx b t) (wrap64 (n + 1)) W H Wt l else some (a, b) := by
    intro k n a b
    simp only [bivouacref06_Ends.l0]
    split
    · congr 1
      funext t
      unfold mn mx
      by_cases ha : t < a
      · rw [if_pos ha, if_pos ha]
        by_cases hb : t > b
        · rw [if_pos hb, if_pos (by omega)]
        · rw [if_neg hb, if_neg (by omega)]
      · rw [if_neg ha, if_neg ha]
        by_cases hb : t > b
        · rw [if_pos hb, if_pos (by omega)]
        · rw [if_neg hb, if_neg (by omega)]
    · rfl
  unfold bivouacref06_Ends.f
  rw [step, if_pos (by decide), show wrap64 (i + Int.tmod 0 2) = i from w64 (by simp; omega) (by simp; omega) |>.trans (by simp), show wrap64 (j + wrap64 (Int.tdiv 0 2)) = j by rw [show wrap64 (Int.tdiv 0 2) = 0 from by decide +kernel]; rw [w64 (by omega) (by omega)]; omega,
    refCorner_eq h i0 (by omega) j0 (by omega)]
  simp only [Option.bind_some]
  rw [show wrap64 ((0 : Int) + 1) = 1 from by decide +kernel, step, if_pos (by decide), show wrap64 (i + Int.tmod 1 2) = i + 1 from by rw [show Int.tmod 1 2 = 1 from by decide]; exact w64 (by omega) (by omega), show wrap64 (j + wrap64 (Int.tdiv 1 2)) = j by rw [show wrap64 (Int.tdiv 1 2) = 0 from by decide +kernel]; rw [w64 (by omega) (by omega)]; omega,
    refCorner_eq h (by omega) (by omega) j0 (by omega)]
  simp only [Option.bind_some]
  rw [show wrap64 ((1 : Int) + 1) = 2 from by decide +kernel, step, if_pos (by decide), show wrap64 (i + Int.tmod 2 2) = i from by rw [show Int.tmod 2 2 = 0 from by decide]; rw [w64 (by omega) (by omega)]; omega, show wrap64 (j + wrap64 (Int.tdiv 2 2)) = j + 1 by rw [show wrap64 (Int.tdiv 2 2) = 1 from by decide +kernel]; exact w64 (by omega) (by omega),
    refCorner_eq h i0 (by omega) (by omega) (by omega)]
  simp only [Option.bind_some]
  rw [show wrap64 ((2 : Int) + 1) = 3 from by decide +kernel, step, if_pos (by decide), show wrap64 (i + Int.tmod 3 2) = i + 1 from by rw [show Int.tmod 3 2 = 1 from by decide]; exact w64 (by omega) (by omega), show wrap64 (j + wrap64 (Int.tdiv 3 2)) = j + 1 by rw [show wrap64 (Int.tdiv 3 2) = 1 from by decide +kernel]; exact w64 (by omega) (by omega),
    refCorner_eq h (by omega) (by omega) (by omega) (by omega)]
  simp only [Option.bind_some]
  rw [show wrap64 ((3 : Int) + 1) = 4 from by decide +kernel, step, if_neg (by decide)]
  have z : mn 255 (cor W l i j) = cor W l i j := by unfold mn; split <;> omega
  have z' : mx 0 (cor W l i j) = cor W l i j := by unfold mx; split <;> omega
  rw [z, z']
  rfl

theorem refDepth_eq {W H Wt : Int} {l : List Int} (h : Ok W H Wt l) {i j : Int} (i0 : 0 ≤ i) (i1 : i < W) (j0 : 0 ≤ j) (j1 : j < H) {k : Nat} (hk : 5 ≤ k) :
    bivouacref06_Depth.f k W H Wt l i j = some (mx 0 (Wt - lo W l i j)) := by
  have g := lo_hi h i j
  have t0 := h.t0
  have t1 := h.t1
  unfold bivouacref06_Depth.f
  rw [ends_l0 h i0 i1 j0 j1 hk]
  simp only [Option.bind_some]
  unfold mx
  by_cases a : lo W l i j ≥ Wt
  · rw [if_pos a, if_neg (by omega)]
  · rw [if_neg a, if_pos (by omega), w64 (by omega) (by omega)]


theorem floor_eq {a b : Int} (hb : 1 ≤ b) (b1 : b ≤ 1000000) (a0 : -1000000 ≤ a) (a1 : a ≤ 1000000) : bivouacref08_floor.f a b = some (a / b) := by
  have key : ∀ c t : Int, 0 ≤ t → t < b → a = b * c + t → a / b = c := by
    intro c t h0 h1 e
    rw [show a = t + b * c by omega, Int.add_mul_ediv_left _ _ (by omega : b ≠ 0), Int.ediv_eq_zero_of_lt h0 h1]; omega
  have bd : ∀ x : Int, 0 ≤ x → x ≤ 1000000 → 0 ≤ x / b ∧ x / b ≤ 1000000 ∧ x / b * b ≤ x ∧ x < x / b * b + b := by
    intro x x0 x1
    have m := Int.mul_ediv_add_emod x b
    have m0 := Int.emod_nonneg x (show b ≠ 0 by omega)
    have m1 := Int.emod_lt_of_pos x (show 0 < b by omega)
    have q0 : 0 ≤ x / b := Int.ediv_nonneg x0 (by omega)
    have q1 : x / b ≤ x := Int.ediv_le_self b x0
    have c : b * (x / b) = x / b * b := Int.mul_comm _ _
    omega
  unfold bivouacref08_floor.f
  rw [if_neg (by omega)]
  by_cases h : 0 ≤ a
  · obtain ⟨q0, q1, q2, q3⟩ := bd a h a1
    rw [Int.tdiv_eq_ediv_of_nonneg h, w64 (i := a / b) (by omega) (by omega), w64 (i := a / b * b) (by omega) (by omega), if_neg (by omega)]
  · obtain ⟨q0, q1, q2, q3⟩ := bd (-a) (by omega) (by omega)
    have e : Int.tdiv a b = -((-a) / b) := by
      rw [← Int.tdiv_eq_ediv_of_nonneg (show 0 ≤ -a by omega), Int.neg_tdiv, Int.neg_neg]
    rw [e]
    generalize (-a) / b = m at *
    have c1 : -m * b = -(m * b) := Int.neg_mul _ _
    have c2 : b * (-m - 1) = -(m * b) - b := by grind
    have c3 : b * (-m) = -(m * b) := by grind
    rw [w64 (i := -m) (by omega) (by omega), w64 (i := -m * b) (by omega) (by omega)]
    by_cases g : -m * b > a
    · rw [if_pos g, key (-m - 1) (a + m * b + b) (by omega) (by omega) (by omega), w64 (by omega) (by omega)]
    · rw [if_neg g, key (-m) (a + m * b) (by omega) (by omega) (by omega)]

theorem abs_eq {v : Int} (a : -1000000 ≤ v) (b : v ≤ 1000000) : bivouacref08_abs.f v = some (ab v) := by
  unfold bivouacref08_abs.f ab
  rw [w64 (i := -v) (by omega) (by omega)]
  split <;> rfl

theorem long_eq {i j k l : Int} (hi : Inn i) (hj : Inn j) (hk : Inn k) (hl : Inn l) : bivouacref08_Long.f i j k l = some (lng i j k l) := by
  unfold Inn at *
  unfold bivouacref08_Long.f lng
  rw [w64 (i := k - i) (by omega) (by omega), w64 (i := l - j) (by omega) (by omega), abs_eq (by omega) (by omega), abs_eq (by omega) (by omega)]
  simp only [Option.bind_some]
  split <;> rfl

theorem cell_ref {i j k l q : Int} (hi : Inn i) (hj : Inn j) (hk : Inn k) (hl : Inn l) (q0 : 0 ≤ q) (q1 : q ≤ lng i j k l) :
    bivouacref08_Cell.f i j k l q = some ((cel i j k l q).f0, (cel i j k l q).f1) := by
  have b := lng_b hi hj hk hl
  unfold bivouacref08_Cell.f
  rw [long_eq hi hj hk hl]
  simp only [Option.bind_some]
  by_cases z : lng i j k l = 0
  · rw [if_pos z]
    unfold cel
    rw [z, pos_zero, pos_zero]
  · rw [if_neg z]
    have c := cel_in hi hj hk hl q0 q1
    unfold cel at *
    dsimp only at c
    unfold Inn at *
    have m1 := mulb (a := q) (b := k - i + 63) (A := 63) (B := 126) q0 (by omega) (by omega) (by omega)
    have m2 := mulb (a := q) (b := l - j + 63) (A := 63) (B := 126) q0 (by omega) (by omega) (by omega)
    have e1 : 2 * q * (k - i) = 2 * (q * (k - i + 63)) - 126 * q := by grind
    have e2 : 2 * q * (l - j) = 2 * (q * (l - j + 63)) - 126 * q := by grind
    rw [w64 (i := 2 * q) (by omega) (by omega), w64 (i := k - i) (by omega) (by omega), w64 (i := l - j) (by omega) (by omega), w64 (i := 2 * q * (k - i)) (by omega) (by omega), w64 (i := 2 * q * (l - j)) (by omega) (by omega),
      w64 (i := 2 * q * (k - i) + lng i j k l) (by omega) (by omega), w64 (i := 2 * q * (l - j) + lng i j k l) (by omega) (by omega), w64 (i := 2 * lng i j k l) (by omega) (by omega),
      floor_eq (by omega) (by omega) (by omega) (by omega), floor_eq (by omega) (by omega) (by omega) (by omega)]
    simp only [Option.bind_some]
    have g1 : i + (2 * q * (k - i) + lng i j k l) / (2 * lng i j k l) = pos (lng i j k l) i (k - i) q := rfl
    have g2 : j + (2 * q * (l - j) + lng i j k l) / (2 * lng i j k l) = pos (lng i j k l) j (l - j) q := rfl
    rw [g1, g2]
    rw [w64 (by omega) (by omega), w64 (by omega) (by omega)]

theorem refSees_l0 {W H Wt : Int} {m : List Int} (ok : Ok W H Wt m) {i j k l a u b v : Int} (o : OnB W H i j k l) (a0 : 0 ≤ a ∧ a ≤ 255) (u0 : 0 ≤ u ∧ u ≤ 255) (b0 : 0 ≤ b ∧ b ≤ 255) (v0 : 0 ≤ v ∧ v ≤ 255) :
    ∀ (n K : Nat) (q : Int), 1 ≤ q → n = (lng i j k l - q).toNat → n + 6 ≤ K → bivouacref08_Sees.l0 K i j k l u v (lng i j k l) a b q W H Wt m = some (clr W m i j k l (a + u) (b + v) n q)
  | 0, K, q, q0, hn, hK => by
    obtain ⟨K, rfl⟩ : ∃ d, K = d + 1 := ⟨K - 1, by omega⟩
    simp only [bivouacref08_Sees.l0]
    rw [if_neg (by omega)]
    rfl
  | n + 1, K, q, q0, hn, hK => by
    obtain ⟨K, rfl⟩ : ∃ d, K = d + 1 := ⟨K - 1, by omega⟩
    obtain ⟨hi', hj, hk, hl⟩ := o.inn ok
    have L := lng_b hi' hj hk hl
    obtain ⟨e1, e2⟩ := blk_w ok ⟨L.1, L.2.1⟩ a0 u0 b0 v0 (show 0 ≤ q by omega) (show q ≤ lng i j k l by omega)
    have c := o.cel ok (q := q) (by omega) (by omega)
    simp only [bivouacref08_Sees.l0]
    rw [if_pos (by omega), cell_ref hi' hj hk hl (by omega) (by omega)]
    simp only [Option.bind_some]
    rw [ends_l0 ok c.1 c.2.1 c.2.2.1 c.2.2.2 (by omega)]
    simp only [Option.bind_some]
    rw [e1, e2, w64 (i := q + 1) (by omega) (by omega)]
    by_cases hb : hi W m (cel i j k l q).f0 (cel i j k l q).f1 * lng i j k l > (a + u) * (lng i j k l - q) + (b + v) * q
    · rw [if_pos hb]
      have hB : blk W m i j k l (a + u) (b + v) q = true := decide_eq_true hb
      simp only [clr]
      rw [if_pos hB]
    · rw [if_neg hb]
      have hB : ¬ blk W m i j k l (a + u) (b + v) q = true := fun h => hb (of_decide_eq_true h)
      simp only [clr]
      rw [if_neg hB]
      exact refSees_l0 ok o a0 u0 b0 v0 n K (q + 1) (by omega) (by omega) (by omega)

theorem refSees_eq {K : Nat} (hK : 100 ≤ K) {W H Wt : Int} {m : List Int} (ok : Ok W H Wt m) {i j k l u v : Int} (o : OnB W H i j k l) (hu : 0 ≤ u ∧ u ≤ 255) (hv : 0 ≤ v ∧ v ≤ 255) :
    bivouacref08_Sees.f K W H Wt m i j k l u v = some (vis W m i j k l u v) := by
  obtain ⟨hi', hj, hk, hl⟩ := o.inn ok
  have L := lng_b hi' hj hk hl
  have g1 := lo_hi ok i j
  have g2 := lo_hi ok k l
  unfold bivouacref08_Sees.f
  rw [long_eq hi' hj hk hl, ends_l0 ok o.i0 o.i1 o.j0 o.j1 (by omega), ends_l0 ok o.k0 o.k1 o.l0 o.l1 (by omega)]
  simp only [Option.bind_some]
  exact refSees_l0 ok o (by omega) hu (by omega) hv (lng i j k l - 1).toNat K 1 (by omega) rfl (by omega)

theorem refSeen_eq {K : Nat} (hK : 100 ≤ K) {W H Wt : Int} {m : List Int} (ok : Ok W H Wt m) {i j k l up rad : Int} (o : OnB W H i j k l) (hu : 0 ≤ up ∧ up ≤ 255) (r0 : 0 ≤ rad) (r1 : rad ≤ 64) :
    bivouacref08_Seen.f K W H Wt m i j up rad k l = some (seenB W m i j up rad k l) := by
  obtain ⟨hi', hj, hk, hl⟩ := o.inn ok
  obtain ⟨e1, e2, e3, e4, e5, e6⟩ := dist_w hi' hj hk hl r0 r1
  unfold bivouacref08_Seen.f seenB
  rw [e1, e2, e3, e4, e5, e6]
  by_cases h : (k - i) * (k - i) + (l - j) * (l - j) ≤ rad * rad
  · rw [if_pos h, refSees_eq hK ok o hu (by omega), decide_eq_true h]; rfl
  · rw [if_neg h, decide_eq_false h]; rfl

/-! ### The reference's answer -/
theorem rin_eq (a b : Int) : bivouacref21_in.f a b = some (decide (0 ≤ a ∧ a ≤ b)) := by
  unfold bivouacref21_in.f
  by_cases h : 0 ≤ a
  · rw [if_pos h]; simp [h]
  · rw [if_neg h]; simp [h]
theorem rmay_l0 {W H : Int} (w0 : 1 ≤ W) (w1 : W ≤ 64) (h0 : 1 ≤ H) (h1 : H ≤ 64) (Wt : Int) (m : List Int) (l : List S27) (hl : l.length ≤ 1000) : ∀ (r q K : Nat), q + r = l.length → 2 * r + 6 ≤ K → bivouacref21_May.l0 K l (q : Int) W H Wt m = some (decide (∀ x ∈ l.drop q, EyeOk W H x))
  | 0, q, K, hq, hK => by
    obtain ⟨K, rfl⟩ : ∃ d, K = d + 1 := ⟨K - 1, by omega⟩
    simp only [bivouacref21_May.l0]
    rw [if_neg (by omega), List.drop_eq_nil_of_le (by omega)]
    simp
  | r + 1, q, K, hq, hK => by
    obtain ⟨K, rfl⟩ : ∃ d, K = d + 1 + 1 := ⟨K - 2, by omega⟩
    simp only [bivouacref21_May.l0]
    have ih := rmay_l0 w0 w1 h0 h1 Wt m l hl r (q + 1) K (by omega) (by omega)
    rw [show (((q + 1 : Nat)) : Int) = (q : Int) + 1 by omega] at ih
    have e : rd_T27 l (q : Int) = l[q]'(by omega) := by unfold rd_T27; simp [List.getD_eq_getElem?_getD, List.getElem?_eq_getElem (show q < l.length by omega)]
    rw [if_pos (by omega), if_pos (by omega), List.drop_eq_getElem_cons (show q < l.length by omega), ← e]
    generalize rd_T27 l (q : Int) = x
    have no : ¬ EyeOk W H x → ¬ (∀ y, y ∈ x :: l.drop (q + 1) → EyeOk W H y) := fun h a => h (a _ (List.mem_cons_self ..))
    simp only [rin_eq, Option.bind_some, decide_eq_true_eq]
    rw [w64 (i := W - 1) (by omega) (by omega), w64 (i := H - 1) (by omega) (by omega)]
    have J : ∀ b, b = false → ¬ EyeOk W H x → bivouacref21_May.j2 (K + 1) l (q : Int) b W H Wt m x.f0 x.f1 x.f2 x.f3 x.f4 x.f5 x.f6 x.f7 = some false := by
      intro b hb h
      subst hb
      simp only [bivouacref21_May.j2]
      rw [if_neg (by decide)]
    by_cases c0 : 0 ≤ x.f0 ∧ x.f0 ≤ 7
    case neg => rw [if_neg c0]; exact (J _ rfl (fun c => c0 c.1)).trans (congrArg some (decide_eq_false (no (fun c => c0 c.1))).symm)
    rw [if_pos c0]
    by_cases c1 : 0 ≤ x.f1 ∧ x.f1 ≤ W - 1
    case neg => rw [if_neg c1]; exact (J _ rfl (fun c => c1 c.2.1)).trans (congrArg some (decide_eq_false (no (fun c => c1 c.2.1))).symm)
    rw [if_pos c1]
    by_cases c2 : 0 ≤ x.f2 ∧ x.f2 ≤ H - 1
    case neg => rw [if_neg c2]; exact (J _ rfl (fun c => c2 c.2.2.1)).trans (congrArg some (decide_eq_false (no (fun c => c2 c.2.2.1))).symm)
    rw [if_pos c2]
    by_cases c3 : 0 ≤ x.f3 ∧ x.f3 ≤ 255
    case neg => exact (J _ (decide_eq_false c3) (fun c => c3 c.2.2.2.1)).trans (congrArg some (decide_eq_false (no (fun c => c3 c.2.2.2.1))).symm)
    rw [decide_eq_true c3]
    simp only [bivouacref21_May.j2, rin_eq, Option.bind_some, decide_eq_true_eq]
    rw [if_pos trivial]
    by_cases c4 : 0 ≤ x.f4 ∧ x.f4 ≤ 32
    case neg => rw [if_neg c4]; exact congrArg some (decide_eq_false (no (fun c => c4 c.2.2.2.2.1))).symm
    rw [if_pos c4]
    by_cases c5 : 0 ≤ x.f5 ∧ x.f5 ≤ 32
    case neg => rw [if_neg c5]; exact congrArg some (decide_eq_false (no (fun c => c5 c.2.2.2.2.2.1))).symm
    rw [if_pos c5]
    by_cases c6 : 0 ≤ x.f6 ∧ x.f6 ≤ 32
    case neg => rw [if_neg c6]; exact congrArg some (decide_eq_false (no (fun c => c6 c.2.2.2.2.2.2.1))).symm
    rw [if_pos c6]
    by_cases c7 : 0 ≤ x.f7 ∧ x.f7 ≤ 32
    case neg => rw [if_neg c7]; exact congrArg some (decide_eq_false (no (fun c => c7 c.2.2.2.2.2.2.2))).symm
    rw [if_pos c7, w64 (i := (q : Int) + 1) (by omega) (by omega), ih]
    have h : EyeOk W H x := ⟨c0, c1, c2, c3, c4, c5, c6, c7⟩
    refine congrArg some (decide_eq_decide.2 ⟨fun z => ?_, fun z y hy => z y (List.mem_cons_of_mem _ hy)⟩)
    intro y hy
    rcases List.mem_cons.1 hy with rfl | hy
    · exact h
    · exact z y hy
theorem rmay_eq {K : Nat} (hK : 200 ≤ K) {W H Wt : Int} {m : List Int} (hb : ∀ x ∈ m, 0 ≤ x ∧ x ≤ 255) (l : List S27) (hl : l.length ≤ 80) : bivouacref21_May.f K W H Wt m l = some (decide (MayP W H Wt m l)) := by
  obtain ⟨K, rfl⟩ : ∃ d, K = d + 1 := ⟨K - 1, by omega⟩
  unfold bivouacref21_May.f
  rw [refCheck_eq (by omega)]
  simp only [Option.bind_some]
  by_cases h : chk W H Wt m = 0
  · have ok := (chk_zero hb).1 h
    rw [if_pos h]
    simp only [bivouacref21_May.j0]
    by_cases g : l.length ≤ 64
    · rw [decide_eq_false (by omega : ¬ (l.length : Int) > 64), if_neg (by decide)]
      have e := rmay_l0 ok.w0 ok.w1 ok.h0 ok.h1 Wt m l (by omega) l.length 0 K (by omega) (by omega)
      rw [show ((0 : Nat) : Int) = 0 from rfl] at e
      rw [e]
      exact congrArg some (decide_eq_decide.2 ⟨fun z => ⟨h, g, z⟩, fun z => z.2.2⟩)
    · rw [decide_eq_true (by omega : (l.length : Int) > 64), if_pos rfl, decide_eq_false (fun c : MayP W H Wt m l => g c.2.1)]
  · rw [if_neg h]
    simp only [bivouacref21_May.j0]
    rw [if_pos trivial, decide_eq_false (fun c : MayP W H Wt m l => h c.1)]

theorem rnear_eq {W H Wt : Int} {m : List Int} (ok : Ok W H Wt m) {x : S27} (e : EyeOk W H x) {c r : Int} (c0 : 0 ≤ c) (c1 : c < W * H) (r0 : 0 ≤ r) (r1 : r ≤ 32) : bivouacref21_Near.f x.f0 x.f1 x.f2 x.f3 x.f4 x.f5 x.f6 x.f7 (c % W) (c / W) r = some (nr W x c r) := by
  have w0 := ok.w0
  have w1 := ok.w1
  have h0 := ok.h0
  have h1 := ok.h1
  obtain ⟨q0, q1, q2, q3⟩ := cell_of ok c0 c1
  obtain ⟨-, ⟨i0, i1⟩, ⟨j0, j1⟩, -⟩ := e
  unfold bivouacref21_Near.f nr
  have b1 := sq_b (a := c % W - x.f1) (by omega) (by omega)
  have b2 := sq_b (a := c / W - x.f2) (by omega) (by omega)
  have b3 := sq_b (a := r) (by omega) (by omega)
  rw [w64 (i := c % W - x.f1) (by omega) (by omega), w64 (i := c / W - x.f2) (by omega) (by omega), w64 (i := (c % W - x.f1) * (c % W - x.f1)) (by omega) (by omega), w64 (i := (c / W - x.f2) * (c / W - x.f2)) (by omega) (by omega), w64 (i := r * r) (by omega) (by omega), w64 (by omega) (by omega)]

def knB (W Wt : Int) (m : List Int) (l : List S27) (t c : Int) (ec ja : Bool) : Int := if vS W m t c l = true then 2 else if (ec || vE W Wt m t c l) = true then if (ja || vJ W t c l) = true then 0 else 1 else 0
theorem kn_view (W Wt : Int) (m : List Int) (l : List S27) (t c : Int) : knB W Wt m l t c false false = viewB W Wt m l t c := by
  unfold knB viewB
  cases vS W m t c l <;> cases vJ W t c l <;> cases vE W Wt m t c l <;> simp

theorem known_l0 {W H Wt : Int} {m : List Int} (ok : Ok W H Wt m) {l : List S27} (hl : l.length ≤ 80) (he : ∀ x ∈ l, EyeOk W H x) (t : Int) {c : Int} (c0 : 0 ≤ c) (c1 : c < W * H) :
    ∀ (r q K : Nat) (ec ja : Bool), q + r = l.length → r + 200 ≤ K → bivouacref21_Known.l0 K l t (c % W) (c / W) ec ja (q : Int) W H Wt m = some (knB W Wt m (l.drop q) t c ec ja)
  | 0, q, K, ec, ja, hq, hK => by
    obtain ⟨K, rfl⟩ : ∃ d, K = d + 1 := ⟨K - 1, by omega⟩
    simp only [bivouacref21_Known.l0]
    rw [if_neg (by omega), List.drop_eq_nil_of_le (by omega)]
    simp only [knB, vS, vE, vJ, List.any_nil, Bool.or_false, Bool.false_eq_true, if_false]
    cases ec <;> cases ja <;> simp
  | r + 1, q, K, ec, ja, hq, hK => by
    obtain ⟨K, rfl⟩ : ∃ d, K = d + 1 := ⟨K - 1, by omega⟩
    have w0 := ok.w0
    simp only [bivouacref21_Known.l0]
    have ih := fun ec ja => known_l0 ok hl he t c0 c1 r (q + 1) K ec ja (by omega) (by omega)
    rw [show (((q + 1 : Nat)) : Int) = (q : Int) + 1 by omega] at ih
    have e : rd_T27 l (q : Int) = l[q]'(by omega) := by unfold rd_T27; simp [List.getD_eq_getElem?_getD, List.getElem?_eq_getElem (show q < l.length by omega)]
    have hx : EyeOk W H (rd_T27 l (q : Int)) := by rw [e]; exact he _ (List.getElem_mem ..)
    rw [if_pos (by omega), if_pos (by omega), w64 (i := (q : Int) + 1) (by omega) (by omega), List.drop_eq_getElem_cons (show q < l.length by omega), ← e]
    generalize rd_T27 l (q : Int) = x at hx ⊢
    have r5 := hx.2.2.2.2.2.1
    have r6 := hx.2.2.2.2.2.2.1
    have r7 := hx.2.2.2.2.2.2.2
    have cc := cell_of ok c0 c1
    have hx' := hx
    obtain ⟨-, ⟨i0, i1⟩, ⟨j0, j1⟩, hu, hs, -⟩ := hx'
    simp only [rnear_eq ok hx c0 c1 r5.1 r5.2, rnear_eq ok hx c0 c1 r6.1 r6.2, rnear_eq ok hx c0 c1 r7.1 r7.2, refDepth_eq ok cc.1 cc.2.1 cc.2.2.1 cc.2.2.2 (show 5 ≤ K by omega), refSeen_eq (show 100 ≤ K by omega) ok (⟨i0, by omega, j0, by omega, cc.1, cc.2.1, cc.2.2.1, cc.2.2.2⟩ : OnB W H x.f1 x.f2 (c % W) (c / W)) hu hs.1 (show x.f4 ≤ 64 by omega), Option.bind_some, ih]
    by_cases h : x.f0 = t
    · rw [if_pos h]
      have eJ : vJ W t c (x :: l.drop (q + 1)) = vJ W t c (l.drop (q + 1)) := by simp [vJ, h]
      have eS : vS W m t c (x :: l.drop (q + 1)) = (seenB W m x.f1 x.f2 x.f3 x.f4 (c % W) (c / W) || vS W m t c (l.drop (q + 1))) := by simp [vS, h, sB]
      have eE : vE W Wt m t c (x :: l.drop (q + 1)) = (eB W Wt m x c || vE W Wt m t c (l.drop (q + 1))) := by simp [vE, h]
      unfold knB
      rw [eJ, eS, eE]
      cases seenB W m x.f1 x.f2 x.f3 x.f4 (c % W) (c / W)
      · simp only [Bool.false_eq_true, if_false, Bool.false_or]
        cases ec
        · simp only [Bool.false_eq_true, if_false, Bool.false_or]
          unfold eB
          cases nr W x c x.f5
          · simp only [Bool.false_eq_true, if_false, Bool.false_or]
            by_cases g : 0 < mx 0 (Wt - lo W m (c % W) (c / W))
            · rw [if_pos g, decide_eq_true g, Bool.true_and]
            · rw [if_neg g, decide_eq_false g, Bool.false_and, Bool.false_or]
          · simp
        · simp
      · simp
    · rw [if_neg h]
      have eS : vS W m t c (x :: l.drop (q + 1)) = vS W m t c (l.drop (q + 1)) := by simp [vS, h]
      have eE : vE W Wt m t c (x :: l.drop (q + 1)) = vE W Wt m t c (l.drop (q + 1)) := by simp [vE, h]
      have eJ : vJ W t c (x :: l.drop (q + 1)) = (jB W x c || vJ W t c (l.drop (q + 1))) := by simp [vJ, h]
      unfold knB
      rw [eJ, eS, eE]
      cases ja
      · simp only [Bool.false_eq_true, if_false, Bool.false_or]
        unfold jB
        by_cases g : 0 < x.f7
        · rw [if_pos g, decide_eq_true g, Bool.true_and]
        · rw [if_neg g, decide_eq_false g, Bool.false_and, Bool.false_or]
      · simp
theorem known_eq {K : Nat} (hK : 300 ≤ K) {W H Wt : Int} {m : List Int} (ok : Ok W H Wt m) {l : List S27} (hl : l.length ≤ 80) (he : ∀ x ∈ l, EyeOk W H x) (t : Int) {c : Int} (c0 : 0 ≤ c) (c1 : c < W * H) : bivouacref21_Known.f K W H Wt m l t (c % W) (c / W) = some (viewB W Wt m l t c) := by
  unfold bivouacref21_Known.f
  have e := known_l0 ok hl he t c0 c1 l.length 0 K false false (by omega) (by omega)
  rw [show ((0 : Nat) : Int) = 0 from rfl, List.drop_zero, kn_view] at e
  exact e
end Go.Proofs.Yteihieihoeijdaa.L
namespace Go.Proofs.Yteihieihoeijdaa.Pure
open Go.RowKit Go.Proofs.Yteihieihoeijdaa.PA Go.Proofs.YteihieihoeijdaaW.PrintWords Go.Proofs.YteihieihoeijdaaW.PrintLast Go.Proofs.YteihieihoeijdaaW.PrintMore
open Go.Proofs.Yteihieihoeijdaa.L
set_option linter.unusedVariables false
set_option linter.unusedSimpArgs false
theorem awake_ev : ∃ K, ∀ k, K ≤ k → bivouaclaw21_awake.f k = some true :=
  Ev.of (fun k => bivouaclaw21_awake.mono k) (k := 80) (by decide +kernel)
theorem views_j3 {KA : Nat} (hA : ∀ k, KA ≤ k → bivouaclaw21_awake.f k = some true) {n : Nat} {f : Nat → Int} {kv ke : Int} {ce : Int} (hk : (kv, ke) = if 0 ≤ ce ∧ ce < (n : Int) then (f ce.toNat, 0) else (0, 4)) (W H Wt : Int) (m : List Int) (l : List S27) (t m0 m1 m2 m3 m4 m5 m6 m7 : Int) {K : Nat} (hK : KA + 2 ≤ K) :
    (if ce < 0 then bivouaclaw21_SightViews.j3 K ((List.range n).map f) kv ke true W H Wt m l t ce m0 m1 m2 m3 m4 m5 m6 m7 else bivouaclaw21_SightViews.j3 K ((List.range n).map f) kv ke (decide (ce ≥ (n : Int))) W H Wt m l t ce m0 m1 m2 m3 m4 m5 m6 m7) = some true := by
  obtain ⟨K, rfl⟩ : ∃ d, K = d + 1 := ⟨K - 1, by omega⟩
  simp only [bivouaclaw21_SightViews.j3, List.length_map, List.length_range, hA K (by omega), Option.bind_some]
  by_cases c : 0 ≤ ce ∧ ce < (n : Int)
  · rw [if_pos c] at hk
    injection hk with h1 h2
    have e : rd ((List.range n).map f) ce = f ce.toNat := by
      have := rd_rng (n := n) f (i := ce.toNat) (by omega)
      rw [show ((ce.toNat : Nat) : Int) = ce by omega] at this; exact this
    rw [if_neg (by omega), decide_eq_false (by omega), if_neg (by decide), if_pos c.1, if_pos c.2, e, if_pos h1, if_pos h2]
  · rw [if_neg c] at hk
    injection hk with h1 h2
    by_cases g : ce < 0
    · rw [if_pos g, if_pos trivial, if_pos h1, if_pos h2]
    · rw [if_neg g, decide_eq_true (by omega), if_pos rfl, if_pos h1, if_pos h2]

theorem views_l0 {KA : Nat} (hA : ∀ k, KA ≤ k → bivouaclaw21_awake.f k = some true) {W H Wt : Int} {m : List Int} (ok : Ok W H Wt m) {l : List S27} (hl : l.length ≤ 80) (he : ∀ x ∈ l, EyeOk W H x) (t : Int) {kv ke ce : Int} {n : Nat} (hn : n = (W * H).toNat) (hk : (kv, ke) = if 0 ≤ ce ∧ ce < (n : Int) then (viewB W Wt m l t (ce.toNat : Int), 0) else (0, 4)) (m0 m1 m2 m3 m4 m5 m6 m7 : Int) :
    ∀ (r q K : Nat), q + r = n → KA + r + 400 ≤ K → bivouaclaw21_SightViews.l0 K ((List.range n).map (fun (c : Nat) => viewB W Wt m l t c)) kv ke (q : Int) W H Wt m l t ce m0 m1 m2 m3 m4 m5 m6 m7 = some true
  | 0, q, K, hq, hK => by
    obtain ⟨K, rfl⟩ : ∃ d, K = d + 1 := ⟨K - 1, by omega⟩
    simp only [bivouaclaw21_SightViews.l0]
    rw [if_neg (by simp; omega)]
    have g := views_j3 hA (f := fun (c : Nat) => viewB W Wt m l t c) hk W H Wt m l t m0 m1 m2 m3 m4 m5 m6 m7 (K := K) (by omega)
    simp only [List.length_map, List.length_range]
    exact g
  | r + 1, q, K, hq, hK => by
    obtain ⟨K, rfl⟩ : ∃ d, K = d + 1 := ⟨K - 1, by omega⟩
    have w0 := ok.w0
    have w1 := ok.w1
    have h0 := ok.h0
    have h1 := ok.h1
    have big := mulb (a := W) (b := H) (A := 64) (B := 64) (by omega) w1 (by omega) h1
    have d : (q : Int) / W ≤ q := Int.ediv_le_self _ (by omega)
    have cc := cell_of ok (q := (q : Int)) (by omega) (by omega)
    have ih := views_l0 hA ok hl he t hn hk m0 m1 m2 m3 m4 m5 m6 m7 r (q + 1) K (by omega) (by omega)
    rw [show (((q + 1 : Nat)) : Int) = (q : Int) + 1 by omega] at ih
    simp only [bivouaclaw21_SightViews.l0]
    rw [if_pos (by simp; omega), if_pos (by omega), if_neg (by omega), Int.tmod_eq_emod_of_nonneg (by omega), Int.tdiv_eq_ediv_of_nonneg (by omega), w64 (i := (q : Int) / W) (by omega) (by omega), known_eq (by omega) ok hl he t (by omega) (by omega)]
    simp only [Option.bind_some]
    rw [rd_rng _ (by omega), if_pos rfl, w64 (i := (q : Int) + 1) (by omega) (by omega)]
    exact ih

theorem SightViews : bivouaclaw21_SightViews.Pure := by
  intro W H Wt ml l0 t ce m0 m1 m2 m3 m4 m5 m6 m7 _ _ _ _ hm _ _ _ _ _ _ _ _ _ _ _ _
  have hb := take_b hm
  obtain ⟨KA, hA⟩ := awake_ev
  obtain ⟨K, hK⟩ : ∃ K, K = KA + 30000 := ⟨_, rfl⟩
  refine ⟨K + 2, ?_⟩
  unfold bivouaclaw21_SightViews.f bivouaclaw21_few.f sight_Known.f
  simp only [Option.bind_some]
  generalize hl : l0.take 66 = l
  have ll : l.length ≤ 66 := by rw [← hl]; simp; omega
  generalize ml.take 4300 = m at hb ⊢
  rw [view_eq (by omega) hb l (by omega), rmay_eq (by omega) hb l (by omega), may_eq (by omega) hb l (by omega)]
  simp only [Option.bind_some, bne_self_eq_false, Bool.false_eq_true, if_false]
  by_cases h1 : MayP W H Wt m l ∧ (0 ≤ t ∧ t ≤ 7)
  · have ok := (chk_zero hb).1 h1.1.1
    have w0 := ok.w0
    have w1 := ok.w1
    have h0 := ok.h0
    have h1' := ok.h1
    have big := mulb (a := W) (b := H) (A := 64) (B := 64) (by omega) w1 (by omega) h1'
    rw [if_pos h1]
    dsimp only
    rw [if_pos rfl]
    obtain ⟨kv, ke, hk, hv⟩ : ∃ kv ke : Int, ((kv, ke) = if 0 ≤ ce ∧ ce < (((W * H).toNat : Nat) : Int) then (viewB W Wt m l t (ce.toNat : Int), 0) else (0, 4)) ∧ (if ce < 0 then some ((0 : Int), (4 : Int)) else if ce ≥ (((List.range (W * H).toNat).map (fun (c : Nat) => viewB W Wt m l t c)).length : Int) then some (0, 4) else if 0 ≤ ce then if ce < (((List.range (W * H).toNat).map (fun (c : Nat) => viewB W Wt m l t c)).length : Int) then some (rd ((List.range (W * H).toNat).map (fun (c : Nat) => viewB W Wt m l t c)) ce, 0) else none else none) = some (kv, ke) := by
      rw [List.length_map, List.length_range]
      by_cases c : 0 ≤ ce ∧ ce < (((W * H).toNat : Nat) : Int)
      · have e : rd ((List.range (W * H).toNat).map (fun (c : Nat) => viewB W Wt m l t c)) ce = viewB W Wt m l t (ce.toNat : Int) := by
          have := rd_rng (n := (W * H).toNat) (fun (c : Nat) => viewB W Wt m l t c) (i := ce.toNat) (by omega)
          rw [show ((ce.toNat : Nat) : Int) = ce by omega] at this ⊢; exact this
        exact ⟨_, _, (if_pos c).symm, by rw [if_neg (by omega), if_neg (by omega), if_pos c.1, if_pos c.2, e]⟩
      · refine ⟨0, 4, (if_neg c).symm, ?_⟩
        by_cases g : ce < 0
        · rw [if_pos g]
        · rw [if_neg g, if_pos (by omega)]
    rw [hv, decide_eq_true h1.1]
    simp only [Option.bind_some]
    rw [if_pos trivial, if_neg (by omega), decide_eq_false (by omega : ¬ t > 7)]
    simp only [bivouaclaw21_SightViews.j0]
    rw [if_neg (by decide), w64 (i := W * H) (by omega) (by omega), if_pos (by simp; omega)]
    simp only [bivouaclaw21_SightViews.j1]
    rw [if_neg (by decide)]
    exact views_l0 hA ok (by omega) h1.1.2.2 t rfl hk m0 m1 m2 m3 m4 m5 m6 m7 (W * H).toNat 0 K (by omega) (by omega)
  · rw [if_neg h1]
    dsimp only
    rw [if_neg (by decide)]
    simp only [Option.bind_some]
    have J : bivouaclaw21_SightViews.j0 (K + 2) ([] : List Int) 1 0 1 true W H Wt m l t ce m0 m1 m2 m3 m4 m5 m6 m7 = some true := by
      simp only [bivouaclaw21_SightViews.j0, hA (K + 1) (by omega)]
      rfl
    by_cases g : MayP W H Wt m l
    · have h3 : ¬ (0 ≤ t ∧ t ≤ 7) := fun z => h1 ⟨g, z⟩
      rw [decide_eq_true g, if_pos rfl]
      by_cases t0 : t < 0
      · rw [if_pos t0]; exact J
      · rw [if_neg t0, decide_eq_true (by omega : t > 7)]; exact J
    · rw [decide_eq_false g, if_neg (by decide)]; exact J
end Go.Proofs.Yteihieihoeijdaa.Pure
