/- What the printed functions of relief and ray come to, for every map. -/
import Derived.Test.YteihieihoeijdaaGAraySees
import Derived.Test.YteihieihoeijdaaGAreliefDepth
import Derived.Test.YteihieihoeijdaaGAreliefSlope
import Derived.Test.YteihieihoeijdaaPAx10
import Derived.Test.YteihieihoeijdaaPAx11
import Derived.Test.YteihieihoeijdaaPAx12
import Derived.Test.YteihieihoeijdaaPAx13
import Derived.Test.YteihieihoeijdaaPAx14
import Derived.Test.YteihieihoeijdaaPAx15
import Derived.Test.YteihieihoeijdaaPAx17
import Derived.Test.YteihieihoeijdaaPAx3
import Derived.Test.YteihieihoeijdaaPAx4
import Derived.Test.YteihieihoeijdaaPAx7
import Derived.Test.YteihieihoeijdaaPAx8
import Derived.OpenShut
namespace Go.Proofs.Yteihieihoeijdaa.L
open Go.RowKit Go.Proofs.Yteihieihoeijdaa.PA Go.Proofs.YteihieihoeijdaaW.PrintWords Go.Proofs.YteihieihoeijdaaW.PrintLast Go.Proofs.YteihieihoeijdaaW.PrintMore
set_option linter.unusedVariables false
set_option linter.unusedSimpArgs false

theorem w64 {i : Int} (h0 : -9223372036854775808 ≤ i) (h1 : i ≤ 9223372036854775807) : wrap64 i = i := by unfold wrap64; omega
theorem mulb {a b A B : Int} (ha : 0 ≤ a) (hA : a ≤ A) (hb : 0 ≤ b) (hB : b ≤ B) : 0 ≤ a * b ∧ a * b ≤ A * B :=
  ⟨Int.mul_nonneg ha hb, Int.le_trans (Int.mul_le_mul_of_nonneg_right hA hb) (Int.mul_le_mul_of_nonneg_left hB (Int.le_trans ha hA))⟩

structure Ok (W H Wt : Int) (l : List Int) : Prop where
  w0 : 1 ≤ W
  w1 : W ≤ 64
  h0 : 1 ≤ H
  h1 : H ≤ 64
  t0 : 0 ≤ Wt
  t1 : Wt ≤ 255
  n : (l.length : Int) = (W + 1) * (H + 1)
  b : ∀ x ∈ l, 0 ≤ x ∧ x ≤ 255

def chk (W H Wt : Int) (l : List Int) : Int :=
  if 1 ≤ W ∧ W ≤ 64 ∧ 1 ≤ H ∧ H ≤ 64 ∧ 0 ≤ Wt ∧ Wt ≤ 255 then if (l.length : Int) < (W + 1) * (H + 1) then 2 else if (l.length : Int) > (W + 1) * (H + 1) then 7 else 0 else 1

theorem area {W H : Int} (w0 : 1 ≤ W) (w1 : W ≤ 64) (h0 : 1 ≤ H) (h1 : H ≤ 64) : wrap64 (wrap64 (W + 1) * wrap64 (H + 1)) = (W + 1) * (H + 1) ∧ 4 ≤ (W + 1) * (H + 1) ∧ (W + 1) * (H + 1) ≤ 4225 := by
  have h := mulb (a := W + 1) (b := H + 1) (A := 65) (B := 65) (by omega) (by omega) (by omega) (by omega)
  have g := mulb (a := W - 1) (b := H - 1) (A := 63) (B := 63) (by omega) (by omega) (by omega) (by omega)
  have e : (W + 1) * (H + 1) = (W - 1) * (H - 1) + 2 * W + 2 * H := by grind
  refine ⟨?_, by omega, by omega⟩
  rw [w64 (i := W + 1) (by omega) (by omega), w64 (i := H + 1) (by omega) (by omega), w64 (by omega) (by omega)]

theorem chk_zero {W H Wt : Int} {l : List Int} (hb : ∀ x ∈ l, 0 ≤ x ∧ x ≤ 255) : chk W H Wt l = 0 ↔ Ok W H Wt l := by
  unfold chk
  constructor
  · intro h
    split at h
    · rename_i hr
      obtain ⟨a, b, c, d, e, f⟩ := hr
      split at h
      · omega
      · split at h
        · omega
        · exact ⟨a, b, c, d, e, f, by omega, hb⟩
    · omega
  · intro h
    rw [if_pos ⟨h.w0, h.w1, h.h0, h.h1, h.t0, h.t1⟩, if_neg (by have := h.n; omega), if_neg (by have := h.n; omega)]

theorem check_eq {k : Nat} (hk : 1 ≤ k) (W H Wt : Int) (l : List Int) : relief_Check.f k W H Wt l = some (chk W H Wt l) := by
  obtain ⟨k, rfl⟩ : ∃ m, k = m + 1 := ⟨k - 1, by omega⟩
  unfold relief_Check.f chk
  simp only [relief_Check.j0]
  by_cases hr : 1 ≤ W ∧ W ≤ 64 ∧ 1 ≤ H ∧ H ≤ 64 ∧ 0 ≤ Wt ∧ Wt ≤ 255
  · have hr2 := hr
    obtain ⟨a, b, c, d, e, f⟩ := hr2
    rw [if_pos hr, if_neg (by omega), if_neg (by omega), if_neg (by omega), if_neg (by omega), if_neg (by omega), if_neg (by simpa using f), (area a b c d).1]
    repeat' split
    all_goals first | rfl | (exfalso; omega)
  · rw [if_neg hr]
    by_cases h1 : W < 1
    · rw [if_pos h1]; simp
    rw [if_neg h1]
    by_cases h2 : W > 64
    · rw [if_pos h2]; simp
    rw [if_neg h2]
    by_cases h3 : H < 1
    · rw [if_pos h3]; simp
    rw [if_neg h3]
    by_cases h4 : H > 64
    · rw [if_pos h4]; simp
    rw [if_neg h4]
    by_cases h5 : Wt < 0
    · rw [if_pos h5]; simp
    rw [if_neg h5, if_pos (by simp; omega)]

theorem take_b {l : List Int} (h : ∀ x ∈ l, (Lit.int .u8 x).wf = true) : ∀ x ∈ l.take 4300, 0 ≤ x ∧ x ≤ 255 := fun x hx => Go.bounds_u8 (h x (List.mem_of_mem_take hx))

def cor (W : Int) (l : List Int) (i j : Int) : Int := rd l ((W + 1) * j + i)

theorem rd_b {l : List Int} (hb : ∀ x ∈ l, 0 ≤ x ∧ x ≤ 255) (i : Int) : 0 ≤ rd l i ∧ rd l i ≤ 255 := by
  unfold rd
  rw [List.getD_eq_getElem?_getD]
  rcases Nat.lt_or_ge i.toNat l.length with h | h
  · rw [List.getElem?_eq_getElem h]; exact hb _ (List.getElem_mem h)
  · rw [List.getElem?_eq_none h]; decide

theorem Ok.idx {W H Wt : Int} {l : List Int} (h : Ok W H Wt l) {i j : Int} (i0 : 0 ≤ i) (i1 : i ≤ W) (j0 : 0 ≤ j) (j1 : j ≤ H) :
    wrap64 (wrap64 (wrap64 (W + 1) * j) + i) = (W + 1) * j + i ∧ 0 ≤ (W + 1) * j + i ∧ (W + 1) * j + i < (l.length : Int) ∧ (l.length : Int) ≤ 4225 := by
  have hw := h.w1
  have hw0 := h.w0
  have hh := h.h1
  have a := (area h.w0 h.w1 h.h0 h.h1)
  have e := h.n
  have b := mulb (a := W + 1) (b := j) (A := W + 1) (B := H) (by omega) (by omega) j0 j1
  have f : (W + 1) * (H + 1) = (W + 1) * H + W + 1 := by grind
  refine ⟨?_, by omega, by omega, by omega⟩
  rw [w64 (i := W + 1) (by omega) (by omega), w64 (i := (W + 1) * j) (by omega) (by omega), w64 (by omega) (by omega)]

theorem Ok.cor_b {W H Wt : Int} {l : List Int} (h : Ok W H Wt l) (i j : Int) : 0 ≤ cor W l i j ∧ cor W l i j ≤ 255 := rd_b h.b _

theorem corners_eq {W H Wt : Int} {l : List Int} (h : Ok W H Wt l) {i j : Int} (i0 : 0 ≤ i) (i1 : i < W) (j0 : 0 ≤ j) (j1 : j < H) :
    relief_corners.f W H Wt l i j = some (cor W l i j, cor W l (i + 1) j, cor W l i (j + 1), cor W l (i + 1) (j + 1)) := by
  obtain ⟨e, a, b, c⟩ := h.idx (i := i) (j := j) i0 (by omega) j0 (by omega)
  obtain ⟨_, a1, b1, _⟩ := h.idx (i := i + 1) (j := j) (by omega) (by omega) j0 (by omega)
  obtain ⟨_, a2, b2, _⟩ := h.idx (i := i) (j := j + 1) (by omega) (by omega) (by omega) (by omega)
  obtain ⟨_, a3, b3, _⟩ := h.idx (i := i + 1) (j := j + 1) (by omega) (by omega) (by omega) (by omega)
  have q0 := h.cor_b i j
  have q1 := h.cor_b (i + 1) j
  have q2 := h.cor_b i (j + 1)
  have q3 := h.cor_b (i + 1) (j + 1)
  unfold relief_corners.f cor at *
  have f : (W + 1) * (j + 1) = (W + 1) * j + W + 1 := by grind
  rw [f] at a2 b2 a3 b3 q2 q3 ⊢
  rw [e]
  have w0 := h.w0
  have w1 := h.w1
  generalize (W + 1) * j = m at *
  have e1 : wrap64 (m + i + 1) = m + (i + 1) := by rw [w64 (by omega) (by omega)]; omega
  have e2 : wrap64 (wrap64 (m + i + W) + 1) = m + W + 1 + i := by rw [w64 (i := m + i + W) (by omega) (by omega), w64 (by omega) (by omega)]; omega
  have e3 : wrap64 (m + W + 1 + i + 1) = m + W + 1 + (i + 1) := by rw [w64 (by omega) (by omega)]; omega
  rw [e1, e2, e3, if_pos a, if_pos b, if_pos a1, if_pos b1]
  rw [if_pos a2, if_pos b2, if_pos a3, if_pos b3]
  rw [w64 (by omega) (by omega), w64 (by omega) (by omega), w64 (by omega) (by omega), w64 (by omega) (by omega)]

theorem mn_self (a : Int) : mn a a = a := by unfold mn; split <;> rfl
theorem mx_self (a : Int) : mx a a = a := by unfold mx; split <;> rfl
theorem mn_le (a b : Int) : mn a b ≤ a ∧ mn a b ≤ b ∧ (mn a b = a ∨ mn a b = b) := by unfold mn; split <;> omega
theorem mx_ge (a b : Int) : a ≤ mx a b ∧ b ≤ mx a b ∧ (mx a b = a ∨ mx a b = b) := by unfold mx; split <;> omega

theorem cell_eq {k : Nat} (hk : 1 ≤ k) {W H Wt : Int} {l : List Int} (hb : ∀ x ∈ l, 0 ≤ x ∧ x ≤ 255) (i j : Int) :
    relief_cell.f k W H Wt l i j = some (if chk W H Wt l = 0 then if 0 ≤ i ∧ i < W ∧ 0 ≤ j ∧ j < H then (cor W l i j, cor W l (i + 1) j, cor W l i (j + 1), cor W l (i + 1) (j + 1), 0) else (0, 0, 0, 0, 4) else (0, 0, 0, 0, 1)) := by
  unfold relief_cell.f
  rw [check_eq hk]
  simp only [Option.bind_some]
  by_cases h : chk W H Wt l = 0
  · have ok := (chk_zero hb).1 h
    rw [if_pos h, if_pos h]
    by_cases hc : 0 ≤ i ∧ i < W ∧ 0 ≤ j ∧ j < H
    · have hc2 := hc
      obtain ⟨a, b, c, d⟩ := hc2
      rw [if_pos hc, if_neg (by omega), if_neg (by omega), if_neg (by omega), if_neg (by omega), corners_eq ok a b c d]
      rfl
    · rw [if_neg hc]
      by_cases h1 : i < 0
      · rw [if_pos h1]
      rw [if_neg h1]
      by_cases h2 : i ≥ W
      · rw [if_pos h2]
      rw [if_neg h2]
      by_cases h3 : j < 0
      · rw [if_pos h3]
      rw [if_neg h3, if_pos (by omega)]
  · rw [if_neg h, if_neg h]

def lo (W : Int) (l : List Int) (i j : Int) : Int := mn (mn (mn (cor W l i j) (cor W l (i + 1) j)) (cor W l i (j + 1))) (cor W l (i + 1) (j + 1))
def hi (W : Int) (l : List Int) (i j : Int) : Int := mx (mx (mx (cor W l i j) (cor W l (i + 1) j)) (cor W l i (j + 1))) (cor W l (i + 1) (j + 1))
theorem lo_hi {W H Wt : Int} {l : List Int} (h : Ok W H Wt l) (i j : Int) : 0 ≤ lo W l i j ∧ lo W l i j ≤ hi W l i j ∧ hi W l i j ≤ 255 ∧
    lo W l i j ≤ cor W l i j ∧ cor W l i j ≤ hi W l i j ∧ lo W l i j ≤ cor W l (i + 1) j ∧ cor W l (i + 1) j ≤ hi W l i j ∧
    lo W l i j ≤ cor W l i (j + 1) ∧ cor W l i (j + 1) ≤ hi W l i j ∧ lo W l i j ≤ cor W l (i + 1) (j + 1) ∧ cor W l (i + 1) (j + 1) ≤ hi W l i j := by
  have q0 := h.cor_b i j
  have q1 := h.cor_b (i + 1) j
  have q2 := h.cor_b i (j + 1)
  have q3 := h.cor_b (i + 1) (j + 1)
  unfold lo hi
  generalize cor W l i j = a at *
  generalize cor W l (i + 1) j = b at *
  generalize cor W l i (j + 1) = c at *
  generalize cor W l (i + 1) (j + 1) = d at *
  have m1 := mn_le a b
  have m2 := mn_le (mn a b) c
  have m3 := mn_le (mn (mn a b) c) d
  have n1 := mx_ge a b
  have n2 := mx_ge (mx a b) c
  have n3 := mx_ge (mx (mx a b) c) d
  omega

theorem slope_eq {k : Nat} (hk : 1 ≤ k) {W H Wt : Int} {l : List Int} (hb : ∀ x ∈ l, 0 ≤ x ∧ x ≤ 255) (i j : Int) :
    relief_Slope.f k W H Wt l i j = some (if chk W H Wt l = 0 then if 0 ≤ i ∧ i < W ∧ 0 ≤ j ∧ j < H then (hi W l i j - lo W l i j, 0) else (0, 4) else (0, 1)) := by
  unfold relief_Slope.f
  rw [cell_eq hk hb]
  simp only [Option.bind_some]
  by_cases h : chk W H Wt l = 0
  · rw [if_pos h, if_pos h]
    by_cases hc : 0 ≤ i ∧ i < W ∧ 0 ≤ j ∧ j < H
    · rw [if_pos hc, if_pos hc]
      have g := lo_hi ((chk_zero hb).1 h) i j
      simp only [mn_self, mx_self]
      unfold lo hi at *
      rw [w64 (by omega) (by omega)]
    · rw [if_neg hc, if_neg hc]; simp only [mn_self, mx_self]; decide +kernel
  · rw [if_neg h, if_neg h]; simp only [mn_self, mx_self]; decide +kernel

theorem depth_eq {k : Nat} (hk : 1 ≤ k) {W H Wt : Int} {l : List Int} (hb : ∀ x ∈ l, 0 ≤ x ∧ x ≤ 255) (i j : Int) :
    relief_Depth.f k W H Wt l i j = some (if chk W H Wt l = 0 then if 0 ≤ i ∧ i < W ∧ 0 ≤ j ∧ j < H then (mx 0 (Wt - lo W l i j), 0) else (0, 4) else (0, 1)) := by
  unfold relief_Depth.f
  rw [cell_eq hk hb]
  simp only [Option.bind_some]
  by_cases h : chk W H Wt l = 0
  · rw [if_pos h, if_pos h]
    by_cases hc : 0 ≤ i ∧ i < W ∧ 0 ≤ j ∧ j < H
    · rw [if_pos hc, if_pos hc]
      have ok := (chk_zero hb).1 h
      have g := lo_hi ok i j
      have t0 := ok.t0
      have t1 := ok.t1
      simp only [mn_self, if_true]
      unfold lo hi at *
      rw [w64 (by omega) (by omega)]
    · rw [if_neg hc, if_neg hc]; rfl
  · rw [if_neg h, if_neg h]; rfl


theorem up {α : Type} {F : Nat → Option α} (m : ∀ k, LeO (F k) (F (k + 1))) {k : Nat} {r : α} (h : F k = some r) {k' : Nat} (hk : k ≤ k') : F k' = some r := by
  obtain ⟨d, rfl⟩ : ∃ d, k' = k + d := ⟨k' - k, by omega⟩
  clear hk
  induction d with
  | zero => exact h
  | succ d ih => exact m _ _ ih

theorem l2_0 (k : Nat) (x2 x3 n : Int) (out : List S57) (y a0 a1 d0 d1 r0 r1 : Int) : ray_Line.l2 (k + 1) x2 x3 n out 0 y a0 a1 d0 d1 r0 r1 = if r0 ≥ wrap64 (2 * n) then ray_Line.l2 k x2 x3 n out 0 y (wrap64 (a0 + 1)) a1 d0 d1 (wrap64 (r0 - wrap64 (2 * n))) r1 else ray_Line.j3 k x2 x3 n out 0 y a0 a1 d0 d1 r0 r1 := rfl
theorem l2_1 (k : Nat) (x2 x3 n : Int) (out : List S57) (y a0 a1 d0 d1 r0 r1 : Int) : ray_Line.l2 (k + 1) x2 x3 n out 1 y a0 a1 d0 d1 r0 r1 = if r1 ≥ wrap64 (2 * n) then ray_Line.l2 k x2 x3 n out 1 y a0 (wrap64 (a1 + 1)) d0 d1 r0 (wrap64 (r1 - wrap64 (2 * n))) else ray_Line.j3 k x2 x3 n out 1 y a0 a1 d0 d1 r0 r1 := rfl
theorem j3_ (k : Nat) (x2 x3 n : Int) (out : List S57) (x y a0 a1 d0 d1 r0 r1 : Int) : ray_Line.j3 (k + 1) x2 x3 n out x y a0 a1 d0 d1 r0 r1 = ray_Line.l3 k x2 x3 n out x y a0 a1 d0 d1 r0 r1 := rfl
theorem l3_0 (k : Nat) (x2 x3 n : Int) (out : List S57) (y a0 a1 d0 d1 r0 r1 : Int) : ray_Line.l3 (k + 1) x2 x3 n out 0 y a0 a1 d0 d1 r0 r1 = if r0 < 0 then ray_Line.l3 k x2 x3 n out 0 y (wrap64 (a0 - 1)) a1 d0 d1 (wrap64 (r0 + wrap64 (2 * n))) r1 else ray_Line.l1 k x2 x3 n out (wrap64 (y + 1)) a0 a1 d0 d1 r0 r1 := rfl
theorem l3_1 (k : Nat) (x2 x3 n : Int) (out : List S57) (y a0 a1 d0 d1 r0 r1 : Int) : ray_Line.l3 (k + 1) x2 x3 n out 1 y a0 a1 d0 d1 r0 r1 = if r1 < 0 then ray_Line.l3 k x2 x3 n out 1 y a0 (wrap64 (a1 - 1)) d0 d1 r0 (wrap64 (r1 + wrap64 (2 * n))) else ray_Line.l1 k x2 x3 n out (wrap64 (y + 1)) a0 a1 d0 d1 r0 r1 := rfl
theorem l1_0 (k : Nat) (x2 x3 n : Int) (out : List S57) (a0 a1 d0 d1 r0 r1 : Int) : ray_Line.l1 (k + 1) x2 x3 n out 0 a0 a1 d0 d1 r0 r1 = ray_Line.l2 k x2 x3 n out 0 0 a0 a1 d0 d1 (wrap64 (r0 + wrap64 (2 * d0))) r1 := rfl
theorem l1_1 (k : Nat) (x2 x3 n : Int) (out : List S57) (a0 a1 d0 d1 r0 r1 : Int) : ray_Line.l1 (k + 1) x2 x3 n out 1 a0 a1 d0 d1 r0 r1 = ray_Line.l2 k x2 x3 n out 1 1 a0 a1 d0 d1 r0 (wrap64 (r1 + wrap64 (2 * d1))) := rfl
theorem l1_2 (k : Nat) (x2 x3 n : Int) (out : List S57) (a0 a1 d0 d1 r0 r1 : Int) : ray_Line.l1 (k + 1) x2 x3 n out 2 a0 a1 d0 d1 r0 r1 = if out.length < 8796093022208 then ray_Line.l0 k x2 x3 n (out ++ [(⟨a0, a1⟩ : S57)]) a0 a1 d0 d1 r0 r1 else none := rfl

theorem div1 {n r : Int} (hn : 1 ≤ n) (b : -(2 * n) ≤ r ∧ r < 4 * n) :
    (r ≥ 2 * n → r / (2 * n) = 1 ∧ r % (2 * n) = r - 2 * n) ∧ (0 ≤ r → r < 2 * n → r / (2 * n) = 0 ∧ r % (2 * n) = r) ∧ (r < 0 → r / (2 * n) = -1 ∧ r % (2 * n) = r + 2 * n) := by
  have key : ∀ a t : Int, 0 ≤ t → t < 2 * n → r = 2 * n * a + t → r / (2 * n) = a ∧ r % (2 * n) = t := by
    intro a t h0 h1 e
    have e' : r = t + 2 * n * a := by omega
    rw [e', Int.add_mul_ediv_left _ _ (by omega), Int.add_mul_emod_self_left, Int.ediv_eq_zero_of_lt h0 h1, Int.emod_eq_of_lt h0 h1]
    exact ⟨by omega, rfl⟩
  refine ⟨fun h => key 1 _ (by omega) (by omega) (by omega), fun h g => key 0 _ h g (by omega), fun h => key (-1) _ (by omega) (by omega) (by omega)⟩

theorem s0 {k : Nat} {x2 x3 n : Int} {out : List S57} {a0 a1 d0 d1 r0 r1 : Int} {r : List S57 × Int} (hn : 1 ≤ n) (hm : n ≤ 63) (a : -1000 ≤ a0 ∧ a0 ≤ 1000) (b : -(2 * n) ≤ r0 ∧ r0 < 4 * n)
    (h : ray_Line.l1 k x2 x3 n out 1 (a0 + r0 / (2 * n)) a1 d0 d1 (r0 % (2 * n)) r1 = some r) : ray_Line.l2 (k + 4) x2 x3 n out 0 0 a0 a1 d0 d1 r0 r1 = some r := by
  have hD : wrap64 (2 * n) = 2 * n := w64 (by omega) (by omega)
  obtain ⟨q1, q2, q3⟩ := div1 hn b
  have up1 := (ray_Line.mono_l k).2.1 _ _ _ _ _ _ _ _ _ _ _ _ h
  by_cases c : r0 ≥ 2 * n
  · obtain ⟨e1, e2⟩ := q1 c
    rw [e1, e2] at h
    rw [l2_0, hD, if_pos c, w64 (i := a0 + 1) (by omega) (by omega), w64 (i := r0 - 2 * n) (by omega) (by omega), l2_0, hD, if_neg (by omega), j3_, l3_0, if_neg (by omega), show wrap64 ((0 : Int) + 1) = 1 from w64 (by omega) (by omega)]
    exact h
  · by_cases g : r0 < 0
    · obtain ⟨e1, e2⟩ := q3 g
      rw [e1, e2] at h
      rw [l2_0, hD, if_neg c, j3_, l3_0, hD, if_pos g, w64 (i := a0 - 1) (by omega) (by omega), w64 (i := r0 + 2 * n) (by omega) (by omega), l3_0, if_neg (by omega), show wrap64 ((0 : Int) + 1) = 1 from w64 (by omega) (by omega)]
      exact h
    · obtain ⟨e1, e2⟩ := q2 (by omega) (by omega)
      rw [e1, e2, Int.add_zero] at up1
      rw [l2_0, hD, if_neg c, j3_, l3_0, if_neg g, show wrap64 ((0 : Int) + 1) = 1 from w64 (by omega) (by omega)]
      exact up1

theorem s1 {k : Nat} {x2 x3 n : Int} {out : List S57} {a0 a1 d0 d1 r0 r1 : Int} {r : List S57 × Int} (hn : 1 ≤ n) (hm : n ≤ 63) (a : -1000 ≤ a1 ∧ a1 ≤ 1000) (b : -(2 * n) ≤ r1 ∧ r1 < 4 * n)
    (h : ray_Line.l1 k x2 x3 n out 2 a0 (a1 + r1 / (2 * n)) d0 d1 r0 (r1 % (2 * n)) = some r) : ray_Line.l2 (k + 4) x2 x3 n out 1 1 a0 a1 d0 d1 r0 r1 = some r := by
  have hD : wrap64 (2 * n) = 2 * n := w64 (by omega) (by omega)
  obtain ⟨q1, q2, q3⟩ := div1 hn b
  have up1 := (ray_Line.mono_l k).2.1 _ _ _ _ _ _ _ _ _ _ _ _ h
  by_cases c : r1 ≥ 2 * n
  · obtain ⟨e1, e2⟩ := q1 c
    rw [e1, e2] at h
    rw [l2_1, hD, if_pos c, w64 (i := a1 + 1) (by omega) (by omega), w64 (i := r1 - 2 * n) (by omega) (by omega), l2_1, hD, if_neg (by omega), j3_, l3_1, if_neg (by omega), show wrap64 ((1 : Int) + 1) = 2 from w64 (by omega) (by omega)]
    exact h
  · by_cases g : r1 < 0
    · obtain ⟨e1, e2⟩ := q3 g
      rw [e1, e2] at h
      rw [l2_1, hD, if_neg c, j3_, l3_1, hD, if_pos g, w64 (i := a1 - 1) (by omega) (by omega), w64 (i := r1 + 2 * n) (by omega) (by omega), l3_1, if_neg (by omega), show wrap64 ((1 : Int) + 1) = 2 from w64 (by omega) (by omega)]
      exact h
    · obtain ⟨e1, e2⟩ := q2 (by omega) (by omega)
      rw [e1, e2, Int.add_zero] at up1
      rw [l2_1, hD, if_neg c, j3_, l3_1, if_neg g, show wrap64 ((1 : Int) + 1) = 2 from w64 (by omega) (by omega)]
      exact up1

def pos (n i d q : Int) : Int := i + (2 * q * d + n) / (2 * n)
def rst (n d q : Int) : Int := (2 * q * d + n) % (2 * n)

theorem rst_b {n d q : Int} (hn : 1 ≤ n) : 0 ≤ rst n d q ∧ rst n d q < 2 * n := ⟨Int.emod_nonneg _ (by omega), Int.emod_lt_of_pos _ (by omega)⟩

theorem pos_next {n i d q : Int} (hn : 1 ≤ n) : pos n i d q + (rst n d q + 2 * d) / (2 * n) = pos n i d (q + 1) ∧ (rst n d q + 2 * d) % (2 * n) = rst n d (q + 1) := by
  unfold pos rst
  have e : 2 * (q + 1) * d + n = (2 * q * d + n) + 2 * d := by grind
  rw [e]
  generalize 2 * q * d + n = p
  have h := Int.mul_ediv_add_emod p (2 * n)
  have e2 : p + 2 * d = (p % (2 * n) + 2 * d) + 2 * n * (p / (2 * n)) := by omega
  generalize hq : p / (2 * n) = a at *
  generalize hr : p % (2 * n) = b at *
  rw [e2, Int.add_mul_ediv_left _ _ (by omega : 2 * n ≠ 0), Int.add_mul_emod_self_left]
  exact ⟨by omega, rfl⟩

theorem pos_end {n i d : Int} (hn : 1 ≤ n) : pos n i d n = i + d := by
  unfold pos
  rw [show 2 * n * d + n = n + 2 * n * d by omega, Int.add_mul_ediv_left _ _ (by omega : 2 * n ≠ 0), Int.ediv_eq_zero_of_lt (by omega) (by omega)]
  omega

theorem pos_b {n i d q : Int} (hn : 1 ≤ n) (d0 : -n ≤ d) (d1 : d ≤ n) (q0 : 0 ≤ q) : i - q ≤ pos n i d q ∧ pos n i d q ≤ i + q := by
  unfold pos
  have a := mulb (a := q) (b := d + n) (A := q) (B := 2 * n) q0 (Int.le_refl _) (by omega) (by omega)
  have e1 : q * (d + n) = q * d + q * n := by grind
  have e2 : q * (2 * n) = 2 * (q * n) := by grind
  have e3 : 2 * q * d = 2 * (q * d) := by grind
  have e4 : -q * (2 * n) = - (2 * (q * n)) := by grind
  have e5 : (q + 1) * (2 * n) = 2 * (q * n) + 2 * n := by grind
  have u : (-q) ≤ (2 * q * d + n) / (2 * n) := (Int.le_ediv_iff_mul_le (by omega)).2 (by omega)
  have v : (2 * q * d + n) / (2 * n) < q + 1 := Int.ediv_lt_of_lt_mul (by omega) (by omega)
  constructor <;> omega

theorem pos_edge {n i q : Int} (hn : 1 ≤ n) : pos n i n q = i + q ∧ pos n i (-n) q = i - q := by
  unfold pos
  constructor
  · rw [show 2 * q * n + n = n + 2 * n * q by grind, Int.add_mul_ediv_left _ _ (by omega : 2 * n ≠ 0), Int.ediv_eq_zero_of_lt (by omega) (by omega)]; omega
  · rw [show 2 * q * (-n) + n = n + 2 * n * (-q) by grind, Int.add_mul_ediv_left _ _ (by omega : 2 * n ≠ 0), Int.ediv_eq_zero_of_lt (by omega) (by omega)]; omega

theorem line_go {i j dx dy n : Int} (i0 : -100 ≤ i ∧ i ≤ 100) (j0 : -100 ≤ j ∧ j ≤ 100) (hn : 1 ≤ n) (hm : n ≤ 63) (x0 : -n ≤ dx) (x1 : dx ≤ n) (y0 : -n ≤ dy) (y1 : dy ≤ n) (he : dx = n ∨ dx = -n ∨ dy = n ∨ dy = -n) :
    ∀ (m : Nat) (q : Int), 0 ≤ q → q + (m : Int) = n → ∀ out : List S57, (out.length : Int) ≤ q + 1 →
      ray_Line.l0 (12 * m + 1) (i + dx) (j + dy) n out (pos n i dx q) (pos n j dy q) dx dy (rst n dx q) (rst n dy q) = some (out ++ (List.range m).map (fun (t : Nat) => (⟨pos n i dx (q + 1 + (t : Int)), pos n j dy (q + 1 + (t : Int))⟩ : S57)), 0)
  | 0, q, q0, hq, out, ho => by
    obtain rfl : q = n := by omega
    simp only [ray_Line.l0]
    rw [pos_end hn, pos_end hn, if_neg (by simp)]
    simp
  | m + 1, q, q0, hq, out, ho => by
    have px := pos_b (i := i) hn x0 x1 q0
    have py := pos_b (i := j) hn y0 y1 q0
    have ex := pos_edge (i := i) (q := q) hn
    have ey := pos_edge (i := j) (q := q) hn
    have rx := rst_b (d := dx) (q := q) hn
    have ry := rst_b (d := dy) (q := q) hn
    have nx := pos_next (i := i) (d := dx) (q := q) hn
    have ny := pos_next (i := j) (d := dy) (q := q) hn
    have ne : ¬ (pos n i dx q = i + dx ∧ pos n j dy q = j + dy) := by
      rintro ⟨h1, h2⟩
      rcases he with rfl | rfl | rfl | rfl
      · omega
      · omega
      · omega
      · omega
    rw [show 12 * (m + 1) + 1 = 12 * m + 1 + 12 by omega]
    simp only [ray_Line.l0]
    rw [if_pos (by
      by_cases h1 : pos n i dx q = i + dx
      · have h2 : ¬ pos n j dy q = j + dy := fun h => ne ⟨h1, h⟩
        simp [h2]
      · simp [h1])]
    rw [l1_0, w64 (i := 2 * dx) (by omega) (by omega), w64 (i := rst n dx q + 2 * dx) (by omega) (by omega)]
    refine s0 (k := 12 * m + 7) hn hm (by omega) (by omega) ?_
    rw [nx.1, nx.2, l1_1, w64 (i := 2 * dy) (by omega) (by omega), w64 (i := rst n dy q + 2 * dy) (by omega) (by omega)]
    refine s1 (k := 12 * m + 2) hn hm (by omega) (by omega) ?_
    rw [ny.1, ny.2, l1_2, if_pos (by omega)]
    rw [line_go i0 j0 hn hm x0 x1 y0 y1 he m (q + 1) (by omega) (by omega) _ (by simp; omega)]
    congr 2
    rw [List.range_succ_eq_map, List.map_cons, List.append_assoc, List.map_map]
    congr 1
    simp only [List.singleton_append, List.cons.injEq]
    refine ⟨by simp, ?_⟩
    apply List.map_congr_left
    intro t _
    simp only [Function.comp]
    rw [show q + 1 + ((t.succ : Nat) : Int) = q + 1 + 1 + (t : Int) by omega]

def ab (x : Int) : Int := if x < 0 then -x else x
def lng (i j k l : Int) : Int := if ab (k - i) > ab (l - j) then ab (k - i) else ab (l - j)
def cel (i j k l q : Int) : S57 := ⟨pos (lng i j k l) i (k - i) q, pos (lng i j k l) j (l - j) q⟩
def lin (i j k l : Int) : List S57 := (List.range ((lng i j k l).toNat + 1)).map fun (q : Nat) => cel i j k l (q : Int)

def Inn (v : Int) : Prop := 0 ≤ v ∧ v ≤ 63
instance (v : Int) : Decidable (Inn v) := by unfold Inn; infer_instance

theorem inside_eq {k : Nat} (hk : 5 ≤ k) (a b c d : Int) : ray_inside.f k [a, b, c, d] = some (decide (Inn a ∧ Inn b ∧ Inn c ∧ Inn d)) := by
  obtain ⟨k, rfl⟩ : ∃ m, k = m + 5 := ⟨k - 5, by omega⟩
  have step : ∀ (k : Nat) (l : List Int) (n q : Int), ray_inside.l0 (k + 1) l n q = if q < n then (if 0 ≤ q then (if q < (l.length : Int) then (if rd l q < 0 then some false else if rd l q ≥ 64 then some false else ray_inside.l0 k l n (wrap64 (q + 1))) else none) else none) else some true := fun k l n q => by simp only [ray_inside.l0]
  unfold ray_inside.f
  simp only [step, List.length_cons, List.length_nil]
  simp [rd, wrap64, Inn]
  grind

theorem lng_b {i j k l : Int} (hi : Inn i) (hj : Inn j) (hk : Inn k) (hl : Inn l) : 0 ≤ lng i j k l ∧ lng i j k l ≤ 63 ∧ -lng i j k l ≤ k - i ∧ k - i ≤ lng i j k l ∧ -lng i j k l ≤ l - j ∧ l - j ≤ lng i j k l ∧ (k - i = lng i j k l ∨ k - i = -lng i j k l ∨ l - j = lng i j k l ∨ l - j = -lng i j k l) := by
  unfold lng ab Inn at *
  split <;> split <;> split <;> omega

theorem line_eq {K : Nat} (hK : 800 ≤ K) (i j k l : Int) : ray_Line.f K i j k l = if Inn i ∧ Inn j ∧ Inn k ∧ Inn l then some (lin i j k l, 0) else some ([], 4) := by
  unfold ray_Line.f
  rw [inside_eq (by omega)]
  simp only [Option.bind_some, decide_eq_true_eq]
  by_cases hc : Inn i ∧ Inn j ∧ Inn k ∧ Inn l
  · rw [if_pos hc, if_pos hc]
    obtain ⟨hi, hj, hk, hl⟩ := hc
    have b := lng_b hi hj hk hl
    have e1 : wrap64 (k - i) = k - i := by unfold Inn at *; exact w64 (by omega) (by omega)
    have e2 : wrap64 (l - j) = l - j := by unfold Inn at *; exact w64 (by omega) (by omega)
    have f1 : ray_size.f (k - i) = some (ab (k - i)) := by
      unfold ray_size.f ab mx Inn at *
      rw [w64 (i := -(k - i)) (by omega) (by omega)]
      congr 1; split <;> split <;> omega
    have f2 : ray_size.f (l - j) = some (ab (l - j)) := by
      unfold ray_size.f ab mx Inn at *
      rw [w64 (i := -(l - j)) (by omega) (by omega)]
      congr 1; split <;> split <;> omega
    rw [e1, e2, f1, f2]
    simp only [Option.bind_some]
    rw [show mx (ab (k - i)) (ab (l - j)) = lng i j k l by unfold mx lng; split <;> split <;> omega]
    by_cases z : lng i j k l = 0
    · obtain ⟨K, rfl⟩ : ∃ m, K = m + 1 := ⟨K - 1, by omega⟩
      obtain rfl : k = i := by omega
      obtain rfl : l = j := by omega
      simp only [ray_Line.l0]
      rw [if_neg (by simp)]
      unfold lin cel pos
      rw [z]
      simp
    · have hn : 1 ≤ lng i j k l := by omega
      have hi' : -100 ≤ i ∧ i ≤ 100 := by unfold Inn at hi; omega
      have hj' : -100 ≤ j ∧ j ≤ 100 := by unfold Inn at hj; omega
      have g := line_go (i := i) (j := j) (dx := k - i) (dy := l - j) (n := lng i j k l) hi' hj' hn b.2.1 b.2.2.1 b.2.2.2.1 b.2.2.2.2.1 b.2.2.2.2.2.1 b.2.2.2.2.2.2 (lng i j k l).toNat 0 (by omega) (by omega) [(⟨i, j⟩ : S57)] (by simp)
      have p0 : ∀ x d : Int, pos (lng i j k l) x d 0 = x := by
        intro x d
        unfold pos
        rw [show 2 * 0 * d + lng i j k l = lng i j k l by omega, Int.ediv_eq_zero_of_lt (by omega) (by omega)]; omega
      have r0 : ∀ d : Int, rst (lng i j k l) d 0 = lng i j k l := by
        intro d
        unfold rst
        rw [show 2 * 0 * d + lng i j k l = lng i j k l by omega, Int.emod_eq_of_lt (by omega) (by omega)]
      rw [p0, p0, r0, r0, show i + (k - i) = k by omega, show j + (l - j) = l by omega] at g
      rw [up (F := fun K => ray_Line.l0 K k l (lng i j k l) [(⟨i, j⟩ : S57)] i j (k - i) (l - j) (lng i j k l) (lng i j k l)) (fun K => (ray_Line.mono_l K).1 _ _ _ _ _ _ _ _ _ _) g (by omega)]
      congr 2
      unfold lin cel
      rw [List.range_succ_eq_map, List.map_cons, List.map_map]
      simp only [Int.natCast_zero, p0, List.singleton_append, List.cons.injEq, true_and]
      apply List.map_congr_left
      intro t _
      simp only [Function.comp]
      rw [show (0 : Int) + 1 + (t : Int) = ((t.succ : Nat) : Int) by omega]
  · rw [if_neg hc, if_neg hc]

theorem pos_in {n d q : Int} (hn : 1 ≤ n) (q0 : 0 ≤ q) (q1 : q ≤ n) (i : Int) : (0 ≤ d → i ≤ pos n i d q ∧ pos n i d q ≤ i + d) ∧ (d < 0 → i + d ≤ pos n i d q ∧ pos n i d q ≤ i) := by
  unfold pos
  have e1 : 2 * q * d = 2 * (q * d) := by grind
  rw [e1]
  constructor
  · intro hd
    have m := mulb (a := q) (b := d) (A := n) (B := d) q0 q1 hd (Int.le_refl _)
    have e2 : (d + 1) * (2 * n) = 2 * (n * d) + 2 * n := by grind
    have u : 0 ≤ (2 * (q * d) + n) / (2 * n) := Int.ediv_nonneg (by omega) (by omega)
    have v : (2 * (q * d) + n) / (2 * n) < d + 1 := Int.ediv_lt_of_lt_mul (by omega) (by omega)
    omega
  · intro hd
    have m := mulb (a := q) (b := -d) (A := n) (B := -d) q0 q1 (by omega) (Int.le_refl _)
    have e2 : d * (2 * n) = -(2 * (n * -d)) := by grind
    have e3 : q * -d = -(q * d) := by grind
    have u : d ≤ (2 * (q * d) + n) / (2 * n) := (Int.le_ediv_iff_mul_le (by omega)).2 (by omega)
    have v : (2 * (q * d) + n) / (2 * n) < 1 := Int.ediv_lt_of_lt_mul (by omega) (by omega)
    omega

theorem pos_zero (i d q : Int) : pos 0 i d q = i := by unfold pos; simp

theorem cel_in {i j k l q : Int} (hi : Inn i) (hj : Inn j) (hk : Inn k) (hl : Inn l) (q0 : 0 ≤ q) (q1 : q ≤ lng i j k l) :
    (i ≤ k → i ≤ (cel i j k l q).f0 ∧ (cel i j k l q).f0 ≤ k) ∧ (k ≤ i → k ≤ (cel i j k l q).f0 ∧ (cel i j k l q).f0 ≤ i) ∧
    (j ≤ l → j ≤ (cel i j k l q).f1 ∧ (cel i j k l q).f1 ≤ l) ∧ (l ≤ j → l ≤ (cel i j k l q).f1 ∧ (cel i j k l q).f1 ≤ j) := by
  have b := lng_b hi hj hk hl
  show (i ≤ k → i ≤ pos (lng i j k l) i (k - i) q ∧ pos (lng i j k l) i (k - i) q ≤ k) ∧ (k ≤ i → k ≤ pos (lng i j k l) i (k - i) q ∧ pos (lng i j k l) i (k - i) q ≤ i) ∧
    (j ≤ l → j ≤ pos (lng i j k l) j (l - j) q ∧ pos (lng i j k l) j (l - j) q ≤ l) ∧ (l ≤ j → l ≤ pos (lng i j k l) j (l - j) q ∧ pos (lng i j k l) j (l - j) q ≤ j)
  by_cases z : lng i j k l = 0
  · rw [z, pos_zero, pos_zero]; omega
  · have x := pos_in (d := k - i) (show 1 ≤ lng i j k l by omega) q0 q1 i
    have y := pos_in (d := l - j) (show 1 ≤ lng i j k l by omega) q0 q1 j
    omega

theorem lin_len (i j k l : Int) : (lin i j k l).length = (lng i j k l).toNat + 1 := by unfold lin; simp
theorem rd_lin {i j k l q : Int} (q0 : 0 ≤ q) (q1 : q ≤ lng i j k l) : rd_T57 (lin i j k l) q = cel i j k l q := by
  unfold rd_T57 lin
  rw [List.getD_eq_getElem?_getD, List.getElem?_map, List.getElem?_range (by omega)]
  simp only [Option.map_some, Option.getD_some]
  rw [show ((q.toNat : Nat) : Int) = q by omega]
theorem rends_eq {k : Nat} (hk : 1 ≤ k) {W H Wt : Int} {l : List Int} (hb : ∀ x ∈ l, 0 ≤ x ∧ x ≤ 255) (i j : Int) :
    ray_ends.f k W H Wt l i j = some (if chk W H Wt l = 0 then if 0 ≤ i ∧ i < W ∧ 0 ≤ j ∧ j < H then (lo W l i j, hi W l i j, 0) else (0, 0, 4) else (0, 0, 1)) := by
  unfold ray_ends.f
  rw [slope_eq hk hb]
  simp only [Option.bind_some]
  by_cases h : chk W H Wt l = 0
  · rw [if_pos h, if_pos h]
    by_cases hc : 0 ≤ i ∧ i < W ∧ 0 ≤ j ∧ j < H
    · rw [if_pos hc, if_pos hc]
      have ok := (chk_zero hb).1 h
      have g := lo_hi ok i j
      obtain ⟨i0, i1, j0, j1⟩ := hc
      obtain ⟨e, a, b, c⟩ := ok.idx (i := i) (j := j) i0 (by omega) j0 (by omega)
      obtain ⟨_, a1, b1, _⟩ := ok.idx (i := i + 1) (j := j) (by omega) (by omega) j0 (by omega)
      obtain ⟨_, a2, b2, _⟩ := ok.idx (i := i) (j := j + 1) (by omega) (by omega) (by omega) (by omega)
      obtain ⟨_, a3, b3, _⟩ := ok.idx (i := i + 1) (j := j + 1) (by omega) (by omega) (by omega) (by omega)
      have f : (W + 1) * (j + 1) = (W + 1) * j + W + 1 := by grind
      unfold lo hi cor at *
      rw [f] at a2 b2 a3 b3 g ⊢
      rw [e]
      have w0 := ok.w0
      have w1 := ok.w1
      generalize (W + 1) * j = m at *
      have e1 : wrap64 (m + i + 1) = m + (i + 1) := by rw [w64 (by omega) (by omega)]; omega
      have e2 : wrap64 (wrap64 (m + i + W) + 1) = m + W + 1 + i := by rw [w64 (i := m + i + W) (by omega) (by omega), w64 (by omega) (by omega)]; omega
      have e3 : wrap64 (wrap64 (m + i + W) + 2) = m + W + 1 + (i + 1) := by rw [w64 (i := m + i + W) (by omega) (by omega), w64 (by omega) (by omega)]; omega
      dsimp only
      rw [e1, e2, e3, if_pos rfl, if_pos a, if_pos b, if_pos a1, if_pos b1, if_pos a2, if_pos b2, if_pos a3, if_pos b3]
      rw [w64 (i := mn (mn (mn (rd l (m + i)) (rd l (m + (i + 1)))) (rd l (m + W + 1 + i))) (rd l (m + W + 1 + (i + 1)))) (by omega) (by omega), w64 (by omega) (by omega)]
      congr 2
      congr 1
      omega
    · rw [if_neg hc, if_neg hc]; rfl
  · rw [if_neg h, if_neg h]; rfl

theorem top_eq {k : Nat} (hk : 1 ≤ k) {W H Wt : Int} {l : List Int} (hb : ∀ x ∈ l, 0 ≤ x ∧ x ≤ 255) (i j : Int) :
    ray_Top.f k W H Wt l i j = some (if chk W H Wt l = 0 then if 0 ≤ i ∧ i < W ∧ 0 ≤ j ∧ j < H then (hi W l i j, 0) else (0, 4) else (0, 1)) := by
  unfold ray_Top.f
  rw [rends_eq hk hb]
  simp only [Option.bind_some]
  split
  · split <;> rfl
  · rfl
theorem rfloor_eq {k : Nat} (hk : 1 ≤ k) {W H Wt : Int} {l : List Int} (hb : ∀ x ∈ l, 0 ≤ x ∧ x ≤ 255) (i j : Int) :
    ray_Floor.f k W H Wt l i j = some (if chk W H Wt l = 0 then if 0 ≤ i ∧ i < W ∧ 0 ≤ j ∧ j < H then (lo W l i j, 0) else (0, 4) else (0, 1)) := by
  unfold ray_Floor.f
  rw [rends_eq hk hb]
  simp only [Option.bind_some]
  split
  · split <;> rfl
  · rfl
theorem high_eq (v : Int) : ray_high.f v = some (decide (0 ≤ v ∧ v ≤ 255)) := by
  unfold ray_high.f
  by_cases h : v ≥ 0
  · rw [if_pos h]; congr 1; rw [decide_eq_decide]; omega
  · rw [if_neg h]; congr 1; exact (decide_eq_false (by omega)).symm
def blk (W : Int) (m : List Int) (i j k l a b q : Int) : Bool := decide (hi W m (cel i j k l q).f0 (cel i j k l q).f1 * lng i j k l > a * (lng i j k l - q) + b * q)
def clr (W : Int) (m : List Int) (i j k l a b : Int) : Nat → Int → Bool
  | 0, _ => true
  | n + 1, q => if blk W m i j k l a b q = true then false else clr W m i j k l a b n (q + 1)
def vis (W : Int) (m : List Int) (i j k l up low : Int) : Bool := clr W m i j k l (lo W m i j + up) (lo W m k l + low) (lng i j k l - 1).toNat 1

structure OnB (W H i j k l : Int) : Prop where
  i0 : 0 ≤ i
  i1 : i < W
  j0 : 0 ≤ j
  j1 : j < H
  k0 : 0 ≤ k
  k1 : k < W
  l0 : 0 ≤ l
  l1 : l < H

theorem OnB.inn {W H Wt : Int} {m : List Int} (ok : Ok W H Wt m) {i j k l : Int} (o : OnB W H i j k l) : Inn i ∧ Inn j ∧ Inn k ∧ Inn l := by
  obtain ⟨a, b, c, d, e, f, g, h⟩ := o
  have := ok.w1
  have := ok.h1
  unfold Inn
  omega

theorem OnB.cel {W H Wt : Int} {m : List Int} (ok : Ok W H Wt m) {i j k l q : Int} (o : OnB W H i j k l) (q0 : 0 ≤ q) (q1 : q ≤ lng i j k l) :
    0 ≤ (cel i j k l q).f0 ∧ (cel i j k l q).f0 < W ∧ 0 ≤ (cel i j k l q).f1 ∧ (cel i j k l q).f1 < H := by
  obtain ⟨hi, hj, hk, hl⟩ := o.inn ok
  have c := cel_in hi hj hk hl q0 q1
  obtain ⟨a, b, c', d, e, f, g, h⟩ := o
  omega

theorem blk_w {W H Wt : Int} {m : List Int} (ok : Ok W H Wt m) {i j k l a u b v q : Int} (hn : 0 ≤ lng i j k l ∧ lng i j k l ≤ 63) (a0 : 0 ≤ a ∧ a ≤ 255) (u0 : 0 ≤ u ∧ u ≤ 255) (b0 : 0 ≤ b ∧ b ≤ 255) (v0 : 0 ≤ v ∧ v ≤ 255) (q0 : 0 ≤ q) (q1 : q ≤ lng i j k l) :
    wrap64 (hi W m (cel i j k l q).f0 (cel i j k l q).f1 * lng i j k l) = hi W m (cel i j k l q).f0 (cel i j k l q).f1 * lng i j k l ∧
    wrap64 (wrap64 (wrap64 (a + u) * wrap64 (lng i j k l - q)) + wrap64 (wrap64 (b + v) * q)) = (a + u) * (lng i j k l - q) + (b + v) * q := by
  have g := lo_hi ok (cel i j k l q).f0 (cel i j k l q).f1
  have m1 := mulb (a := hi W m (cel i j k l q).f0 (cel i j k l q).f1) (b := lng i j k l) (A := 255) (B := 63) (by omega) (by omega) hn.1 hn.2
  have m2 := mulb (a := a + u) (b := lng i j k l - q) (A := 510) (B := 63) (by omega) (by omega) (by omega) (by omega)
  have m3 := mulb (a := b + v) (b := q) (A := 510) (B := 63) (by omega) (by omega) (by omega) (by omega)
  refine ⟨w64 (by omega) (by omega), ?_⟩
  rw [w64 (i := a + u) (by omega) (by omega), w64 (i := b + v) (by omega) (by omega), w64 (i := lng i j k l - q) (by omega) (by omega), w64 (i := (a + u) * (lng i j k l - q)) (by omega) (by omega), w64 (i := (b + v) * q) (by omega) (by omega), w64 (by omega) (by omega)]

theorem rsees_l0 {W H Wt : Int} {m : List Int} (ok : Ok W H Wt m) {i j k l a u b v : Int} (o : OnB W H i j k l) (a0 : 0 ≤ a ∧ a ≤ 255) (u0 : 0 ≤ u ∧ u ≤ 255) (b0 : 0 ≤ b ∧ b ≤ 255) (v0 : 0 ≤ v ∧ v ≤ 255) :
    ∀ (n K : Nat) (q : Int), 1 ≤ q → n = (lng i j k l - q).toNat → n + 2 ≤ K → ray_Sees.l0 K W H Wt m (lin i j k l) (lng i j k l) a u b v q = some (clr W m i j k l (a + u) (b + v) n q)
  | 0, K, q, q0, hn, hK => by
    obtain ⟨K, rfl⟩ : ∃ d, K = d + 1 := ⟨K - 1, by omega⟩
    simp only [ray_Sees.l0]
    rw [if_neg (by omega)]
    rfl
  | n + 1, K, q, q0, hn, hK => by
    obtain ⟨K, rfl⟩ : ∃ d, K = d + 1 := ⟨K - 1, by omega⟩
    obtain ⟨hi', hj, hk, hl⟩ := o.inn ok
    have L := lng_b hi' hj hk hl
    have ln := lin_len i j k l
    obtain ⟨e1, e2⟩ := blk_w ok ⟨L.1, L.2.1⟩ a0 u0 b0 v0 (show 0 ≤ q by omega) (show q ≤ lng i j k l by omega)
    simp only [ray_Sees.l0]
    rw [if_pos (by omega)]
    unfold ray_Sees.b
    rw [if_pos (by omega), if_pos (by omega), rd_lin (by omega) (by omega), top_eq (by omega) ok.b, if_pos ((chk_zero ok.b).2 ok), if_pos (o.cel ok (by omega) (by omega))]
    simp only [Option.bind_some]
    rw [e1, e2, w64 (i := q + 1) (by omega) (by omega)]
    show (if blk W m i j k l (a + u) (b + v) q = true then some false else _) = some (if blk W m i j k l (a + u) (b + v) q = true then false else _)
    by_cases hb : blk W m i j k l (a + u) (b + v) q = true
    · rw [if_pos hb, if_pos hb]
    · rw [if_neg hb, if_neg hb]
      exact rsees_l0 ok o a0 u0 b0 v0 n K (q + 1) (by omega) (by omega) (by omega)

theorem rsees_eq {K : Nat} (hK : 800 ≤ K) {W H Wt : Int} {m : List Int} (hb : ∀ x ∈ m, 0 ≤ x ∧ x ≤ 255) (i j k l u v : Int) :
    ray_Sees.f K W H Wt m i j k l u v = some (if chk W H Wt m = 0 ∧ (0 ≤ u ∧ u ≤ 255) ∧ (0 ≤ v ∧ v ≤ 255) then if (0 ≤ i ∧ i < W ∧ 0 ≤ j ∧ j < H) ∧ (0 ≤ k ∧ k < W ∧ 0 ≤ l ∧ l < H) then (vis W m i j k l u v, 0) else (false, 4) else (false, 1)) := by
  unfold ray_Sees.f
  rw [check_eq (by omega), high_eq, high_eq]
  simp only [Option.bind_some, decide_eq_true_eq]
  by_cases h : chk W H Wt m = 0
  · rw [if_pos h]
    by_cases hu : 0 ≤ u ∧ u ≤ 255
    · rw [if_pos hu]
      by_cases hv : 0 ≤ v ∧ v ≤ 255
      · have hh : chk W H Wt m = 0 ∧ (0 ≤ u ∧ u ≤ 255) ∧ (0 ≤ v ∧ v ≤ 255) := ⟨h, hu, hv⟩
        rw [if_pos hv, if_pos hh, rfloor_eq (by omega) hb, rfloor_eq (by omega) hb, if_pos h, if_pos h]
        simp only [Option.bind_some]
        by_cases c1 : 0 ≤ i ∧ i < W ∧ 0 ≤ j ∧ j < H
        · rw [if_pos c1]
          by_cases c2 : 0 ≤ k ∧ k < W ∧ 0 ≤ l ∧ l < H
          · have c12 : (0 ≤ i ∧ i < W ∧ 0 ≤ j ∧ j < H) ∧ (0 ≤ k ∧ k < W ∧ 0 ≤ l ∧ l < H) := ⟨c1, c2⟩
            rw [if_pos c2, if_pos c12]
            have ok := (chk_zero hb).1 h
            have o : OnB W H i j k l := ⟨c1.1, c1.2.1, c1.2.2.1, c1.2.2.2, c2.1, c2.2.1, c2.2.2.1, c2.2.2.2⟩
            obtain ⟨hi', hj, hk, hl⟩ := o.inn ok
            have L := lng_b hi' hj hk hl
            have ln := lin_len i j k l
            have g1 := lo_hi ok i j
            have g2 := lo_hi ok k l
            dsimp only
            rw [if_pos rfl, if_pos rfl, line_eq (by omega), if_pos ⟨hi', hj, hk, hl⟩]
            simp only [Option.bind_some]
            rw [show wrap64 (((lin i j k l).length : Int) - 1) = lng i j k l by rw [w64 (by omega) (by omega)]; omega]
            rw [rsees_l0 ok o (by omega) hu (by omega) hv (lng i j k l - 1).toNat K 1 (by omega) rfl (by omega)]
            rfl
          · have c12 : ¬ ((0 ≤ i ∧ i < W ∧ 0 ≤ j ∧ j < H) ∧ (0 ≤ k ∧ k < W ∧ 0 ≤ l ∧ l < H)) := fun c => c2 c.2
            rw [if_neg c2, if_neg c12]
            dsimp only
            rw [if_pos rfl, if_neg (by decide)]
        · have c12 : ¬ ((0 ≤ i ∧ i < W ∧ 0 ≤ j ∧ j < H) ∧ (0 ≤ k ∧ k < W ∧ 0 ≤ l ∧ l < H)) := fun c => c1 c.1
          rw [if_neg c1, if_neg c12]
          dsimp only
          rw [if_neg (by decide)]
      · rw [if_neg hv, if_neg (fun c => hv c.2.2)]
    · rw [if_neg hu, if_neg (fun c => hu c.2.1)]
  · rw [if_neg h, if_neg (fun c => h c.1)]

def seenB (W : Int) (m : List Int) (i j up rad k l : Int) : Bool := decide ((k - i) * (k - i) + (l - j) * (l - j) ≤ rad * rad) && vis W m i j k l up 0

theorem cell_of {W H Wt : Int} {m : List Int} (ok : Ok W H Wt m) {q : Int} (q0 : 0 ≤ q) (q1 : q < W * H) : 0 ≤ q % W ∧ q % W < W ∧ 0 ≤ q / W ∧ q / W < H := by
  have w0 := ok.w0
  refine ⟨Int.emod_nonneg _ (by omega), Int.emod_lt_of_pos _ (by omega), Int.ediv_nonneg q0 (by omega), Int.ediv_lt_of_lt_mul (by omega) ?_⟩
  rw [Int.mul_comm]; exact q1

theorem dist_w {i j k l rad : Int} (hi : Inn i) (hj : Inn j) (hk : Inn k) (hl : Inn l) (r0 : 0 ≤ rad) (r1 : rad ≤ 64) :
    wrap64 (k - i) = k - i ∧ wrap64 (l - j) = l - j ∧ wrap64 ((k - i) * (k - i)) = (k - i) * (k - i) ∧ wrap64 ((l - j) * (l - j)) = (l - j) * (l - j) ∧
    wrap64 ((k - i) * (k - i) + (l - j) * (l - j)) = (k - i) * (k - i) + (l - j) * (l - j) ∧ wrap64 (rad * rad) = rad * rad := by
  unfold Inn at *
  have sq : ∀ x : Int, -63 ≤ x → x ≤ 63 → 0 ≤ x * x ∧ x * x ≤ 3969 := by
    intro x a b
    by_cases h : 0 ≤ x
    · exact mulb h b h b
    · have := mulb (a := -x) (b := -x) (A := 63) (B := 63) (by omega) (by omega) (by omega) (by omega)
      have e : -x * -x = x * x := by grind
      omega
  have a := sq (k - i) (by omega) (by omega)
  have b := sq (l - j) (by omega) (by omega)
  have c := mulb r0 r1 r0 r1
  refine ⟨w64 (by omega) (by omega), w64 (by omega) (by omega), w64 (by omega) (by omega), w64 (by omega) (by omega), w64 (by omega) (by omega), w64 (by omega) (by omega)⟩

theorem set_at {α : Type} (xs ys : List α) (y z : α) : (xs ++ y :: ys).set xs.length z = xs ++ z :: ys := by
  rw [List.set_append_right _ _ (Nat.le_refl _)]; simp

theorem rseen_l0 {W H Wt : Int} {m : List Int} (ok : Ok W H Wt m) {i j up rad : Int} (i0 : 0 ≤ i) (i1 : i < W) (j0 : 0 ≤ j) (j1 : j < H) (hu : 0 ≤ up ∧ up ≤ 255) (r0 : 0 ≤ rad) (r1 : rad ≤ 64) :
    ∀ (r q K : Nat), q + r = (W * H).toNat → 801 + r ≤ K →
      ray_Seen.l0 K up rad ((List.range q).map (fun (t : Nat) => seenB W m i j up rad ((t : Int) % W) ((t : Int) / W)) ++ List.replicate r false) (W * H) (q : Int) W H Wt m i j = some ((List.range (W * H).toNat).map (fun (t : Nat) => seenB W m i j up rad ((t : Int) % W) ((t : Int) / W)), 0)
  | 0, q, K, hq, hK => by
    obtain ⟨K, rfl⟩ : ∃ d, K = d + 1 := ⟨K - 1, by omega⟩
    simp only [ray_Seen.l0]
    rw [if_neg (by omega), show (W * H).toNat = q by omega]
    simp
  | r + 1, q, K, hq, hK => by
    obtain ⟨K, rfl⟩ : ∃ d, K = d + 1 := ⟨K - 1, by omega⟩
    have w0 := ok.w0
    have w1 := ok.w1
    have h0 := ok.h0
    have h1 := ok.h1
    have big := mulb (a := W) (b := H) (A := 64) (B := 64) (by omega) w1 (by omega) h1
    have c := cell_of ok (q := (q : Int)) (by omega) (by omega)
    have d : (q : Int) / W ≤ q := Int.ediv_le_self _ (by omega)
    have o : OnB W H i j ((q : Int) % W) ((q : Int) / W) := ⟨i0, i1, j0, j1, c.1, c.2.1, c.2.2.1, c.2.2.2⟩
    obtain ⟨hi', hj, hk, hl⟩ := o.inn ok
    obtain ⟨e1, e2, e3, e4, e5, e6⟩ := dist_w hi' hj hk hl r0 r1
    simp only [ray_Seen.l0]
    rw [if_pos (by omega), if_neg (by omega), Int.tmod_eq_emod_of_nonneg (by omega), Int.tdiv_eq_ediv_of_nonneg (by omega), w64 (i := (q : Int) / W) (by omega) (by omega), e1, e2, e3, e4, e5, e6, w64 (i := (q : Int) + 1) (by omega) (by omega)]
    have next : ∀ b : Bool, b = seenB W m i j up rad ((q : Int) % W) ((q : Int) / W) → (List.range q).map (fun (t : Nat) => seenB W m i j up rad ((t : Int) % W) ((t : Int) / W)) ++ b :: List.replicate r false = (List.range (q + 1)).map (fun (t : Nat) => seenB W m i j up rad ((t : Int) % W) ((t : Int) / W)) ++ List.replicate r false := by
      intro b hb
      rw [List.range_succ, List.map_append, List.append_assoc, hb]
      rfl
    have ih := rseen_l0 ok i0 i1 j0 j1 hu r0 r1 r (q + 1) K (by omega) (by omega)
    rw [show (((q + 1 : Nat)) : Int) = (q : Int) + 1 by omega] at ih
    by_cases h : ((q : Int) % W - i) * ((q : Int) % W - i) + ((q : Int) / W - j) * ((q : Int) / W - j) ≤ rad * rad
    · have hh : chk W H Wt m = 0 ∧ (0 ≤ up ∧ up ≤ 255) ∧ (0 ≤ (0 : Int) ∧ (0 : Int) ≤ 255) := ⟨(chk_zero ok.b).2 ok, hu, by omega⟩
      have cc : (0 ≤ i ∧ i < W ∧ 0 ≤ j ∧ j < H) ∧ (0 ≤ (q : Int) % W ∧ (q : Int) % W < W ∧ 0 ≤ (q : Int) / W ∧ (q : Int) / W < H) := ⟨⟨i0, i1, j0, j1⟩, c⟩
      rw [if_pos h, rsees_eq (by omega) ok.b, if_pos hh, if_pos cc]
      simp only [Option.bind_some]
      rw [if_pos (by omega), if_pos (by simp; omega)]
      have st := set_at ((List.range q).map (fun (t : Nat) => seenB W m i j up rad ((t : Int) % W) ((t : Int) / W))) (List.replicate r false) false (vis W m i j ((q : Int) % W) ((q : Int) / W) up 0)
      rw [List.length_map, List.length_range] at st
      rw [show ((q : Int)).toNat = q by omega, List.replicate_succ, st, next _ (by unfold seenB; rw [decide_eq_true h]; rfl)]
      exact ih
    · rw [if_neg h, List.replicate_succ, next _ (by unfold seenB; rw [decide_eq_false h]; rfl)]
      exact ih

theorem rseen_eq {K : Nat} (hK : 6000 ≤ K) {W H Wt : Int} {m : List Int} (hb : ∀ x ∈ m, 0 ≤ x ∧ x ≤ 255) (i j up rad : Int) :
    ray_Seen.f K W H Wt m i j up rad = some (if chk W H Wt m = 0 ∧ (0 ≤ up ∧ up ≤ 255) ∧ (0 ≤ rad ∧ rad ≤ 64) then if 0 ≤ i ∧ i < W ∧ 0 ≤ j ∧ j < H then ((List.range (W * H).toNat).map (fun (t : Nat) => seenB W m i j up rad ((t : Int) % W) ((t : Int) / W)), 0) else ([], 4) else ([], 1)) := by
  obtain ⟨K, rfl⟩ : ∃ d, K = d + 1 := ⟨K - 1, by omega⟩
  unfold ray_Seen.f
  rw [check_eq (by omega), high_eq]
  simp only [Option.bind_some, decide_eq_true_eq]
  have no : ∀ r : List Bool × Int, r = ([], 1) → ray_Seen.j0 (K + 1) up rad true W H Wt m i j = some r := by
    rintro r rfl
    simp only [ray_Seen.j0]
    rw [if_pos trivial]
  by_cases h : chk W H Wt m = 0
  · rw [if_pos h]
    by_cases hu : 0 ≤ up ∧ up ≤ 255
    · rw [if_pos hu]
      by_cases r0 : rad < 0
      · rw [if_pos r0]; exact no _ (if_neg (by omega))
      rw [if_neg r0]
      by_cases r1 : rad > 64
      · rw [decide_eq_true r1]; exact no _ (if_neg (by omega))
      have hh : chk W H Wt m = 0 ∧ (0 ≤ up ∧ up ≤ 255) ∧ (0 ≤ rad ∧ rad ≤ 64) := ⟨h, hu, by omega⟩
      rw [decide_eq_false r1, if_pos hh]
      simp only [ray_Seen.j0]
      rw [if_neg (by decide), rfloor_eq (by omega) hb, if_pos h]
      simp only [Option.bind_some]
      by_cases c : 0 ≤ i ∧ i < W ∧ 0 ≤ j ∧ j < H
      · have ok := (chk_zero hb).1 h
        have w0 := ok.w0
        have w1 := ok.w1
        have h0 := ok.h0
        have h1 := ok.h1
        have big := mulb (a := W) (b := H) (A := 64) (B := 64) (by omega) w1 (by omega) h1
        rw [if_pos c, if_pos c]
        dsimp only
        rw [if_pos rfl, w64 (i := W * H) (by omega) (by omega), if_pos (by omega), if_pos (by omega)]
        have g := rseen_l0 ok c.1 c.2.1 c.2.2.1 c.2.2.2 hu (show 0 ≤ rad by omega) (show rad ≤ 64 by omega) (W * H).toNat 0 K (by omega) (by omega)
        simp only [List.range_zero, List.map_nil, List.nil_append] at g
        rw [List.length_replicate, show (((W * H).toNat : Nat) : Int) = W * H by omega]
        exact g
      · rw [if_neg c, if_neg c]
        dsimp only
        rw [if_neg (by decide)]
    · rw [if_neg hu]; exact no _ (if_neg (fun c => hu c.2.1))
  · rw [if_neg h]; exact no _ (if_neg (fun c => h c.1))

end Go.Proofs.Yteihieihoeijdaa.L
