/- Ahead of its end a shot is on the map, above land and water; a longer flight goes on from a shorter one that had not ended. For all maps, shots and ticks. -/
import Derived.Test.YtfcocbkfodmmbaaGAbivouaclaw16awake
import Derived.Test.YtfcocbkfodmmbaaPAx10
import Derived.Test.YtfcocbkfodmmbaaPAx11
import Derived.Test.YtfcocbkfodmmbaaPAx12
import Derived.Test.YtfcocbkfodmmbaaPAx15
import Derived.Test.YtfcocbkfodmmbaaPAx16
import Derived.Test.YtfcocbkfodmmbaaPAx17
import Derived.Test.YtfcocbkfodmmbaaPAx18
import Derived.Test.YtfcocbkfodmmbaaPAx19w0
import Derived.Test.YtfcocbkfodmmbaaPAx2
import Derived.Test.YtfcocbkfodmmbaaPAx3
import Derived.Test.YtfcocbkfodmmbaaPAx5
import Derived.Test.YtfcocbkfodmmbaaPAx6
import Derived.Test.YtfcocbkfodmmbaaPAx7
import Derived.Test.YtfcocbkfodmmbaaPAx8
import Derived.Test.YtfcocbkfodmmbaaPAx9
import Derived.OpenShut
namespace Go.Proofs.Ytfcocbkfodmmbaa.Pure
open Go.RowKit Go.Proofs.Ytfcocbkfodmmbaa.PA Go.Proofs.YtfcocbkfodmmbaaW.PrintWords Go.Proofs.YtfcocbkfodmmbaaW.PrintLast Go.Proofs.YtfcocbkfodmmbaaW.PrintMore
set_option linter.unusedVariables false
set_option linter.unusedSimpArgs false

theorem w64 {i : Int} (h0 : -9223372036854775808 ≤ i) (h1 : i ≤ 9223372036854775807) : wrap64 i = i := by unfold wrap64; omega
theorem mulb {a b A B : Int} (ha : 0 ≤ a) (hA : a ≤ A) (hb : 0 ≤ b) (hB : b ≤ B) : 0 ≤ a * b ∧ a * b ≤ A * B :=
  ⟨Int.mul_nonneg ha hb, Int.le_trans (Int.mul_le_mul_of_nonneg_right hA hb) (Int.mul_le_mul_of_nonneg_left hB (Int.le_trans ha hA))⟩

structure Ok (W H Wt : Int) (l : List Int) : Prop where
  w0 : 1 ≤ W
  w1 : W ≤ 64
  h0 : 1 ≤ H
  h1 : H ≤ 64
  t0 : 0 ≤ Wt
  t1 : Wt ≤ 255
  n : (l.length : Int) = (W + 1) * (H + 1)
  b : ∀ x ∈ l, 0 ≤ x ∧ x ≤ 255

def chk (W H Wt : Int) (l : List Int) : Int :=
  if 1 ≤ W ∧ W ≤ 64 ∧ 1 ≤ H ∧ H ≤ 64 ∧ 0 ≤ Wt ∧ Wt ≤ 255 then if (l.length : Int) < (W + 1) * (H + 1) then 2 else if (l.length : Int) > (W + 1) * (H + 1) then 7 else 0 else 1

theorem area {W H : Int} (w0 : 1 ≤ W) (w1 : W ≤ 64) (h0 : 1 ≤ H) (h1 : H ≤ 64) : wrap64 (wrap64 (W + 1) * wrap64 (H + 1)) = (W + 1) * (H + 1) ∧ 4 ≤ (W + 1) * (H + 1) ∧ (W + 1) * (H + 1) ≤ 4225 := by
  have h := mulb (a := W + 1) (b := H + 1) (A := 65) (B := 65) (by omega) (by omega) (by omega) (by omega)
  have g := mulb (a := W - 1) (b := H - 1) (A := 63) (B := 63) (by omega) (by omega) (by omega) (by omega)
  have e : (W + 1) * (H + 1) = (W - 1) * (H - 1) + 2 * W + 2 * H := by grind
  refine ⟨?_, by omega, by omega⟩
  rw [w64 (i := W + 1) (by omega) (by omega), w64 (i := H + 1) (by omega) (by omega), w64 (by omega) (by omega)]

theorem chk_zero {W H Wt : Int} {l : List Int} (hb : ∀ x ∈ l, 0 ≤ x ∧ x ≤ 255) : chk W H Wt l = 0 ↔ Ok W H Wt l := by
  unfold chk
  constructor
  · intro h
    split at h
    · rename_i hr
      obtain ⟨a, b, c, d, e, f⟩ := hr
      split at h
      · omega
      · split at h
        · omega
        · exact ⟨a, b, c, d, e, f, by omega, hb⟩
    · omega
  · intro h
    rw [if_pos ⟨h.w0, h.w1, h.h0, h.h1, h.t0, h.t1⟩, if_neg (by have := h.n; omega), if_neg (by have := h.n; omega)]

theorem check_eq {k : Nat} (hk : 1 ≤ k) (W H Wt : Int) (l : List Int) : relief_Check.f k W H Wt l = some (chk W H Wt l) := by
  obtain ⟨k, rfl⟩ : ∃ m, k = m + 1 := ⟨k - 1, by omega⟩
  unfold relief_Check.f chk
  simp only [relief_Check.j0]
  by_cases hr : 1 ≤ W ∧ W ≤ 64 ∧ 1 ≤ H ∧ H ≤ 64 ∧ 0 ≤ Wt ∧ Wt ≤ 255
  · have hr2 := hr
    obtain ⟨a, b, c, d, e, f⟩ := hr2
    rw [if_pos hr, if_neg (by omega), if_neg (by omega), if_neg (by omega), if_neg (by omega), if_neg (by omega), if_neg (by simpa using f), (area a b c d).1]
    repeat' split
    all_goals first | rfl | (exfalso; omega)
  · rw [if_neg hr]
    by_cases h1 : W < 1
    · rw [if_pos h1]; simp
    rw [if_neg h1]
    by_cases h2 : W > 64
    · rw [if_pos h2]; simp
    rw [if_neg h2]
    by_cases h3 : H < 1
    · rw [if_pos h3]; simp
    rw [if_neg h3]
    by_cases h4 : H > 64
    · rw [if_pos h4]; simp
    rw [if_neg h4]
    by_cases h5 : Wt < 0
    · rw [if_pos h5]; simp
    rw [if_neg h5, if_pos (by simp; omega)]

theorem refCheck_eq {k : Nat} (hk : 1 ≤ k) (W H Wt : Int) (l : List Int) : bivouacref06_Check.f k W H Wt l = some (chk W H Wt l) := by
  obtain ⟨k, rfl⟩ : ∃ m, k = m + 1 := ⟨k - 1, by omega⟩
  unfold bivouacref06_Check.f chk
  simp only [bivouacref06_Check.j0]
  by_cases hr : 1 ≤ W ∧ W ≤ 64 ∧ 1 ≤ H ∧ H ≤ 64 ∧ 0 ≤ Wt ∧ Wt ≤ 255
  · have hr2 := hr
    obtain ⟨a, b, c, d, e, f⟩ := hr2
    rw [if_pos hr, if_pos a, if_pos b, if_pos c, if_pos d, if_pos e, if_neg (by simpa using f), (area a b c d).1]
    repeat' split
    all_goals first | rfl | (exfalso; omega)
  · rw [if_neg hr]
    by_cases h1 : 1 ≤ W
    · rw [if_pos h1]
      by_cases h2 : W ≤ 64
      · rw [if_pos h2]
        by_cases h3 : 1 ≤ H
        · rw [if_pos h3]
          by_cases h4 : H ≤ 64
          · rw [if_pos h4]
            by_cases h5 : 0 ≤ Wt
            · rw [if_pos h5, if_pos (by simp; omega)]
            · rw [if_neg h5]; simp
          · rw [if_neg h4]; simp
        · rw [if_neg h3]; simp
      · rw [if_neg h2]; simp
    · rw [if_neg h1]; simp

theorem few_eq (W H Wt : Int) (l : List Int) : bivouaclaw16_few.f W H Wt l = some (W, H, Wt, l.take 4300) := by
  unfold bivouaclaw16_few.f
  by_cases h : (l.length : Int) > 4300
  · rw [if_pos h, if_pos (by omega)]
  · rw [if_neg h, List.take_of_length_le (by omega)]

theorem take_b {l : List Int} (h : ∀ x ∈ l, (Lit.int .u8 x).wf = true) : ∀ x ∈ l.take 4300, 0 ≤ x ∧ x ≤ 255 := fun x hx => Go.bounds_u8 (h x (List.mem_of_mem_take hx))

def cor (W : Int) (l : List Int) (i j : Int) : Int := rd l ((W + 1) * j + i)

theorem rd_b {l : List Int} (hb : ∀ x ∈ l, 0 ≤ x ∧ x ≤ 255) (i : Int) : 0 ≤ rd l i ∧ rd l i ≤ 255 := by
  unfold rd
  rw [List.getD_eq_getElem?_getD]
  rcases Nat.lt_or_ge i.toNat l.length with h | h
  · rw [List.getElem?_eq_getElem h]; exact hb _ (List.getElem_mem h)
  · rw [List.getElem?_eq_none h]; decide

theorem Ok.idx {W H Wt : Int} {l : List Int} (h : Ok W H Wt l) {i j : Int} (i0 : 0 ≤ i) (i1 : i ≤ W) (j0 : 0 ≤ j) (j1 : j ≤ H) :
    wrap64 (wrap64 (wrap64 (W + 1) * j) + i) = (W + 1) * j + i ∧ 0 ≤ (W + 1) * j + i ∧ (W + 1) * j + i < (l.length : Int) ∧ (l.length : Int) ≤ 4225 := by
  have hw := h.w1
  have hw0 := h.w0
  have hh := h.h1
  have a := (area h.w0 h.w1 h.h0 h.h1)
  have e := h.n
  have b := mulb (a := W + 1) (b := j) (A := W + 1) (B := H) (by omega) (by omega) j0 j1
  have f : (W + 1) * (H + 1) = (W + 1) * H + W + 1 := by grind
  refine ⟨?_, by omega, by omega, by omega⟩
  rw [w64 (i := W + 1) (by omega) (by omega), w64 (i := (W + 1) * j) (by omega) (by omega), w64 (by omega) (by omega)]

theorem Ok.cor_b {W H Wt : Int} {l : List Int} (h : Ok W H Wt l) (i j : Int) : 0 ≤ cor W l i j ∧ cor W l i j ≤ 255 := rd_b h.b _

theorem refCorner_eq {W H Wt : Int} {l : List Int} (h : Ok W H Wt l) {i j : Int} (i0 : 0 ≤ i) (i1 : i ≤ W) (j0 : 0 ≤ j) (j1 : j ≤ H) : bivouacref06_Corner.f W H Wt l i j = some (cor W l i j) := by
  obtain ⟨e, a, b, c⟩ := h.idx i0 i1 j0 j1
  unfold bivouacref06_Corner.f
  rw [e, if_pos a, if_pos b]
  have := h.cor_b i j
  unfold cor at *
  rw [w64 (by omega) (by omega)]

theorem corners_eq {W H Wt : Int} {l : List Int} (h : Ok W H Wt l) {i j : Int} (i0 : 0 ≤ i) (i1 : i < W) (j0 : 0 ≤ j) (j1 : j < H) :
    relief_corners.f W H Wt l i j = some (cor W l i j, cor W l (i + 1) j, cor W l i (j + 1), cor W l (i + 1) (j + 1)) := by
  obtain ⟨e, a, b, c⟩ := h.idx (i := i) (j := j) i0 (by omega) j0 (by omega)
  obtain ⟨_, a1, b1, _⟩ := h.idx (i := i + 1) (j := j) (by omega) (by omega) j0 (by omega)
  obtain ⟨_, a2, b2, _⟩ := h.idx (i := i) (j := j + 1) (by omega) (by omega) (by omega) (by omega)
  obtain ⟨_, a3, b3, _⟩ := h.idx (i := i + 1) (j := j + 1) (by omega) (by omega) (by omega) (by omega)
  have q0 := h.cor_b i j
  have q1 := h.cor_b (i + 1) j
  have q2 := h.cor_b i (j + 1)
  have q3 := h.cor_b (i + 1) (j + 1)
  unfold relief_corners.f cor at *
  have f : (W + 1) * (j + 1) = (W + 1) * j + W + 1 := by grind
  rw [f] at a2 b2 a3 b3 q2 q3 ⊢
  rw [e]
  have w0 := h.w0
  have w1 := h.w1
  generalize (W + 1) * j = m at *
  have e1 : wrap64 (m + i + 1) = m + (i + 1) := by rw [w64 (by omega) (by omega)]; omega
  have e2 : wrap64 (wrap64 (m + i + W) + 1) = m + W + 1 + i := by rw [w64 (i := m + i + W) (by omega) (by omega), w64 (by omega) (by omega)]; omega
  have e3 : wrap64 (m + W + 1 + i + 1) = m + W + 1 + (i + 1) := by rw [w64 (by omega) (by omega)]; omega
  rw [e1, e2, e3, if_pos a, if_pos b, if_pos a1, if_pos b1]
  rw [if_pos a2, if_pos b2, if_pos a3, if_pos b3]
  rw [w64 (by omega) (by omega), w64 (by omega) (by omega), w64 (by omega) (by omega), w64 (by omega) (by omega)]

theorem mx_ge (a b : Int) : a ≤ mx a b ∧ b ≤ mx a b ∧ (mx a b = a ∨ mx a b = b) := by unfold mx; split <;> omega

theorem refOn_eq {W H Wt : Int} {l : List Int} (h : Ok W H Wt l) (x y : Int) : bivouacref06_On.f W H Wt l x y = some (decide (0 ≤ x ∧ x < W * 65536 ∧ 0 ≤ y ∧ y < H * 65536)) := by
  unfold bivouacref06_On.f
  have := h.w0
  have := h.w1
  have := h.h0
  have := h.h1
  rw [w64 (i := W * 65536) (by omega) (by omega), w64 (i := H * 65536) (by omega) (by omega)]
  by_cases a : 0 ≤ x
  · rw [if_pos a]
    by_cases b : x < W * 65536
    · rw [if_pos b]
      by_cases c : 0 ≤ y
      · rw [if_pos c]; simp [a, b, c]
      · rw [if_neg c]; simp [c]
    · rw [if_neg b]; simp [b]
  · rw [if_neg a]; simp [a]

theorem on_eq {k : Nat} (hk : 1 ≤ k) {W H Wt : Int} {l : List Int} (hb : ∀ x ∈ l, 0 ≤ x ∧ x ≤ 255) (x y : Int) :
    relief_On.f k W H Wt l x y = some (if chk W H Wt l = 0 then decide (0 ≤ x ∧ x < W * 65536 ∧ 0 ≤ y ∧ y < H * 65536) else false) := by
  unfold relief_On.f
  rw [check_eq hk]
  simp only [Option.bind_some]
  by_cases hc : chk W H Wt l = 0
  · have h := (chk_zero hb).1 hc
    rw [if_pos hc, if_pos hc]
    have := h.w0
    have := h.w1
    have := h.h0
    have := h.h1
    rw [w64 (i := W * 65536) (by omega) (by omega), w64 (i := H * 65536) (by omega) (by omega)]
    by_cases a : 0 ≤ x
    · rw [if_pos a]
      by_cases b : x < W * 65536
      · rw [if_pos b]
        by_cases c : 0 ≤ y
        · rw [if_pos c]; simp [a, b, c]
        · rw [if_neg c]; simp [c]
      · rw [if_neg b]; simp [b]
    · rw [if_neg a]; simp [a]
  · rw [if_neg hc, if_neg hc]


theorem and_mod {x : Int} (h0 : 0 ≤ x) (h1 : x < 9223372036854775808) : Go.bits .and .i64 x 65535 = x % 65536 := by
  obtain ⟨n, rfl⟩ := Int.eq_ofNat_of_zero_le h0
  have hn : n < 9223372036854775808 := by omega
  have h1 : (BitVec.ofInt 64 (n : Int)).toNat = n := by
    rw [BitVec.ofInt_natCast, BitVec.toNat_ofNat]; exact Nat.mod_eq_of_lt (by omega)
  have h2 : (BitVec.ofInt 64 (65535 : Int)).toNat = 65535 := by decide +kernel
  show IntKind.i64.wrap ((BitVec.ofInt 64 (n : Int) &&& BitVec.ofInt 64 (65535 : Int)).toNat : Int) = _
  rw [BitVec.toNat_and, h1, h2, i64_w]
  have h3 : n &&& 65535 = n % 65536 := Nat.and_two_pow_sub_one_eq_mod n 16
  rw [h3, w64 (by omega) (by omega)]
  omega

def high4 (a b c d u v : Int) : Int := a * (65536 - u) * (65536 - v) + b * u * (65536 - v) + c * (65536 - u) * v + d * u * v
def height (W : Int) (l : List Int) (x y : Int) : Int :=
  high4 (cor W l (x / 65536) (y / 65536)) (cor W l (x / 65536 + 1) (y / 65536)) (cor W l (x / 65536) (y / 65536 + 1)) (cor W l (x / 65536 + 1) (y / 65536 + 1)) (x % 65536) (y % 65536) / 65536

theorem edge_b {a b u : Int} (a0 : 0 ≤ a) (a1 : a ≤ 255) (b0 : 0 ≤ b) (b1 : b ≤ 255) (u0 : 0 ≤ u) (u1 : u < 65536) :
    (0 ≤ a * (65536 - u) ∧ a * (65536 - u) ≤ 16711680) ∧ (0 ≤ b * u ∧ b * u ≤ 16711680) ∧ 0 ≤ a * (65536 - u) + b * u ∧ a * (65536 - u) + b * u ≤ 16711680 := by
  have h1 := mulb (a := a) (b := 65536 - u) (A := 255) (B := 65536) a0 a1 (by omega) (by omega)
  have h2 := mulb (a := b) (b := u) (A := 255) (B := 65536) b0 b1 (by omega) (by omega)
  have h3 := mulb (a := 255 - a) (b := 65536 - u) (A := 255) (B := 65536) (by omega) (by omega) (by omega) (by omega)
  have h4 := mulb (a := 255 - b) (b := u) (A := 255) (B := 65536) (by omega) (by omega) (by omega) (by omega)
  have e3 : (255 - a) * (65536 - u) = 255 * (65536 - u) - a * (65536 - u) := by grind
  have e4 : (255 - b) * u = 255 * u - b * u := by grind
  omega

theorem height_core {a b c d u v : Int} (a0 : 0 ≤ a ∧ a ≤ 255) (b0 : 0 ≤ b ∧ b ≤ 255) (c0 : 0 ≤ c ∧ c ≤ 255) (d0 : 0 ≤ d ∧ d ≤ 255) (u0 : 0 ≤ u) (u1 : u < 65536) (v0 : 0 ≤ v) (v1 : v < 65536) :
    wrap64 (wrap64 (wrap64 (wrap64 (a * wrap64 (65536 - u)) + wrap64 (b * u)) * wrap64 (65536 - v)) + wrap64 (wrap64 (wrap64 (c * wrap64 (65536 - u)) + wrap64 (d * u)) * v)) = high4 a b c d u v ∧
    wrap64 (wrap64 (wrap64 (wrap64 (wrap64 (a * wrap64 (65536 - u)) * wrap64 (65536 - v)) + wrap64 (wrap64 (b * u) * wrap64 (65536 - v))) + wrap64 (wrap64 (c * wrap64 (65536 - u)) * v)) + wrap64 (wrap64 (d * u) * v)) = high4 a b c d u v ∧
    0 ≤ high4 a b c d u v ∧ high4 a b c d u v ≤ 1095216660480 := by
  obtain ⟨⟨p1, p2⟩, ⟨p3, p4⟩, p5, p6⟩ := edge_b a0.1 a0.2 b0.1 b0.2 u0 u1
  obtain ⟨⟨q1, q2⟩, ⟨q3, q4⟩, q5, q6⟩ := edge_b c0.1 c0.2 d0.1 d0.2 u0 u1
  unfold high4
  rw [w64 (i := 65536 - u) (by omega) (by omega), w64 (i := 65536 - v) (by omega) (by omega)]
  generalize a * (65536 - u) = A at *
  generalize b * u = B at *
  generalize c * (65536 - u) = C at *
  generalize d * u = D at *
  have r1 := mulb (a := A) (b := 65536 - v) (A := 16711680) (B := 65536) p1 p2 (by omega) (by omega)
  have r2 := mulb (a := B) (b := 65536 - v) (A := 16711680) (B := 65536) p3 p4 (by omega) (by omega)
  have r3 := mulb (a := C) (b := v) (A := 16711680) (B := 65536) q1 q2 (by omega) (by omega)
  have r4 := mulb (a := D) (b := v) (A := 16711680) (B := 65536) q3 q4 (by omega) (by omega)
  have s1 := mulb (a := 16711680 - (A + B)) (b := 65536 - v) (A := 16711680) (B := 65536) (by omega) (by omega) (by omega) (by omega)
  have s2 := mulb (a := 16711680 - (C + D)) (b := v) (A := 16711680) (B := 65536) (by omega) (by omega) (by omega) (by omega)
  have f1 : (16711680 - (A + B)) * (65536 - v) = 16711680 * (65536 - v) - (A * (65536 - v) + B * (65536 - v)) := by grind
  have f2 : (16711680 - (C + D)) * v = 16711680 * v - (C * v + D * v) := by grind
  have e1 : (A + B) * (65536 - v) = A * (65536 - v) + B * (65536 - v) := by grind
  have e2 : (C + D) * v = C * v + D * v := by grind
  rw [w64 (i := A) (by omega) (by omega), w64 (i := B) (by omega) (by omega), w64 (i := C) (by omega) (by omega), w64 (i := D) (by omega) (by omega)]
  rw [w64 (i := A + B) (by omega) (by omega), w64 (i := C + D) (by omega) (by omega), e1, e2]
  rw [w64 (i := A * (65536 - v)) (by omega) (by omega), w64 (i := B * (65536 - v)) (by omega) (by omega), w64 (i := C * v) (by omega) (by omega), w64 (i := D * v) (by omega) (by omega)]
  rw [w64 (i := A * (65536 - v) + B * (65536 - v)) (by omega) (by omega), w64 (i := C * v + D * v) (by omega) (by omega), w64 (i := A * (65536 - v) + B * (65536 - v) + C * v) (by omega) (by omega)]
  rw [w64 (i := A * (65536 - v) + B * (65536 - v) + (C * v + D * v)) (by omega) (by omega), w64 (by omega) (by omega)]
  refine ⟨by omega, rfl, by omega, by omega⟩

theorem height_eq {k : Nat} (hk : 1 ≤ k) {W H Wt : Int} {l : List Int} (hb : ∀ x ∈ l, 0 ≤ x ∧ x ≤ 255) (x y : Int) :
    relief_Height.f k W H Wt l x y = some (if chk W H Wt l = 0 then if 0 ≤ x ∧ x < W * 65536 ∧ 0 ≤ y ∧ y < H * 65536 then (height W l x y, 0) else (0, 4) else (0, 1)) := by
  unfold relief_Height.f
  rw [check_eq hk, on_eq hk hb]
  simp only [Option.bind_some]
  by_cases hc : chk W H Wt l = 0
  · have ok := (chk_zero hb).1 hc
    have w0 := ok.w0
    have w1 := ok.w1
    have h0 := ok.h0
    have h1 := ok.h1
    rw [if_pos hc, if_pos hc, if_pos hc]
    by_cases hp : 0 ≤ x ∧ x < W * 65536 ∧ 0 ≤ y ∧ y < H * 65536
    · have hp2 := hp
      obtain ⟨a, b, c, d⟩ := hp2
      rw [if_pos (decide_eq_true hp), if_pos hp]
      unfold fix_Whole.f fix_Part.f
      simp only [Option.bind_some]
      rw [corners_eq ok (i := x / 65536) (j := y / 65536) (by omega) (by omega) (by omega) (by omega), and_mod a (by omega), and_mod c (by omega)]
      simp only [Option.bind_some]
      rw [(height_core (ok.cor_b _ _) (ok.cor_b _ _) (ok.cor_b _ _) (ok.cor_b _ _) (u := x % 65536) (v := y % 65536) (by omega) (by omega) (by omega) (by omega)).1]
      rfl
    · rw [if_neg (by rw [decide_eq_true_eq]; exact hp), if_neg hp]
  · rw [if_neg hc, if_neg hc]

theorem refHeight_eq {W H Wt : Int} {l : List Int} (ok : Ok W H Wt l) {x y : Int} (a : 0 ≤ x) (b : x < W * 65536) (c : 0 ≤ y) (d : y < H * 65536) :
    bivouacref06_Height.f W H Wt l x y = some (height W l x y) := by
  have w0 := ok.w0
  have w1 := ok.w1
  have h0 := ok.h0
  have h1 := ok.h1
  unfold bivouacref06_Height.f
  rw [Int.tdiv_eq_ediv_of_nonneg a, Int.tdiv_eq_ediv_of_nonneg c, Int.tmod_eq_emod_of_nonneg a, Int.tmod_eq_emod_of_nonneg c]
  rw [w64 (i := x / 65536) (by omega) (by omega), w64 (i := y / 65536) (by omega) (by omega), w64 (i := x / 65536 + 1) (by omega) (by omega), w64 (i := y / 65536 + 1) (by omega) (by omega)]
  rw [refCorner_eq ok (by omega) (by omega) (by omega) (by omega), refCorner_eq ok (by omega) (by omega) (by omega) (by omega), refCorner_eq ok (by omega) (by omega) (by omega) (by omega), refCorner_eq ok (by omega) (by omega) (by omega) (by omega)]
  simp only [Option.bind_some]
  obtain ⟨_, e, g0, g1⟩ := height_core (ok.cor_b (x / 65536) (y / 65536)) (ok.cor_b (x / 65536 + 1) (y / 65536)) (ok.cor_b (x / 65536) (y / 65536 + 1)) (ok.cor_b (x / 65536 + 1) (y / 65536 + 1)) (u := x % 65536) (v := y % 65536) (by omega) (by omega) (by omega) (by omega)
  rw [e, Int.tdiv_eq_ediv_of_nonneg g0]
  unfold height
  rw [w64 (by omega) (by omega)]


theorem rd_get (l : List Int) (j : Nat) (h : j < l.length) : rd l (j : Int) = l[j] := by
  unfold rd
  rw [Int.toNat_natCast, List.getD_eq_getElem?_getD, List.getElem?_eq_getElem h]
  rfl

def inB (a b v : Int) : Bool := decide (a ≤ v ∧ v ≤ b)
theorem within_l0 (a b : Int) (l : List Int) (hl : l.length ≤ 1000) (d : Nat) : ∀ (k i : Nat), i ≤ l.length → l.length - i = d → d < k → shot_within.l0 k a b l l.length i = some ((l.drop i).all (inB a b)) := by
  induction d with
  | zero =>
    intro k i hi hd hk
    obtain ⟨k, rfl⟩ : ∃ q, k = q + 1 := ⟨k - 1, by omega⟩
    simp only [shot_within.l0]
    rw [if_neg (by omega), List.drop_of_length_le (by omega)]
    rfl
  | succ d ih =>
    intro k i hi hd hk
    obtain ⟨k, rfl⟩ : ∃ q, k = q + 1 := ⟨k - 1, by omega⟩
    have h := ih k (i + 1) (by omega) (by omega) (by omega)
    simp only [shot_within.l0]
    rw [if_pos (by omega), if_pos (by omega), if_pos (by omega), rd_get l i (by omega), List.drop_eq_getElem_cons (by omega), List.all_cons]
    by_cases h1 : l[i] < a
    · rw [if_pos h1]; simp [inB]; omega
    · rw [if_neg h1]
      by_cases h2 : l[i] > b
      · rw [if_pos h2]; simp [inB]; omega
      · rw [if_neg h2, w64 (by omega) (by omega), show inB a b l[i] = true by simp [inB]; omega, Bool.true_and]
        exact h
theorem within_eq {k : Nat} (hk : 9 ≤ k) (a b : Int) (l : List Int) (hl : l.length ≤ 8) : shot_within.f k a b l = some (l.all (inB a b)) := by
  unfold shot_within.f
  exact within_l0 a b l (by omega) l.length k 0 (by omega) rfl (by omega)

def spot (X Y Z U V Q : Int) : Bool := inB (-1099511627776) 1099511627776 X && (inB (-1099511627776) 1099511627776 Y && (inB (-1099511627776) 1099511627776 Z && (inB (-1073741824) 1073741824 U && (inB (-1073741824) 1073741824 V && inB (-1073741824) 1073741824 Q))))
theorem spot_b {X Y Z U V Q : Int} (h : spot X Y Z U V Q = true) : (-1099511627776 ≤ X ∧ X ≤ 1099511627776) ∧ (-1099511627776 ≤ Y ∧ Y ≤ 1099511627776) ∧ (-1099511627776 ≤ Z ∧ Z ≤ 1099511627776) ∧ (-1073741824 ≤ U ∧ U ≤ 1073741824) ∧ (-1073741824 ≤ V ∧ V ≤ 1073741824) ∧ (-1073741824 ≤ Q ∧ Q ≤ 1073741824) := by
  simp only [spot, inB, Bool.and_eq_true, decide_eq_true_eq] at h
  exact ⟨h.1, h.2.1, h.2.2.1, h.2.2.2.1, h.2.2.2.2.1, h.2.2.2.2.2⟩
def aX (X U n : Int) : Int := X + n * U
def aZ (Z Q n : Int) : Int := Z + n * Q - 512 * n * (n - 1)
def aQ (Q n : Int) : Int := Q - 1024 * n

theorem nb {n V : Int} (n0 : 0 ≤ n) (n1 : n ≤ 1024) (v : -1073741824 ≤ V ∧ V ≤ 1073741824) : -1099511627776 ≤ n * V ∧ n * V ≤ 1099511627776 := by
  have a := mulb (a := n) (b := V + 1073741824) (A := 1024) (B := 2147483648) n0 n1 (by omega) (by omega)
  have b := mulb (a := n) (b := 1073741824 - V) (A := 1024) (B := 2147483648) n0 n1 (by omega) (by omega)
  have e1 : n * (V + 1073741824) = n * V + 1073741824 * n := by grind
  have e2 : n * (1073741824 - V) = 1073741824 * n - n * V := by grind
  omega
theorem fall_b {n : Int} (n0 : 0 ≤ n) (n1 : n ≤ 1024) : 0 ≤ 512 * n * (n - 1) ∧ 512 * n * (n - 1) ≤ 536870912 := by
  rcases Int.lt_or_le n 1 with h | h
  · have : n = 0 := by omega
    subst this; decide
  · have a := mulb (a := 512 * n) (b := n - 1) (A := 524288) (B := 1024) (by omega) (by omega) (by omega) (by omega)
    omega

theorem tick_eq {X Y Z U V Q n : Int} (h : spot X Y Z U V Q = true) (n0 : 0 ≤ n) (n1 : n < 1024) : shot_tick.f (aX X U n) (aX Y V n) (aZ Z Q n) U V (aQ Q n) = some (aX X U (n + 1), aX Y V (n + 1), aZ Z Q (n + 1), U, V, aQ Q (n + 1)) := by
  obtain ⟨x, y, z, u, v, q⟩ := spot_b h
  have a := nb (n := n + 1) (by omega) (by omega) u
  have b := nb (n := n + 1) (by omega) (by omega) v
  have c := nb (n := n + 1) (by omega) (by omega) q
  have f := fall_b (n := n + 1) (by omega) (by omega)
  unfold shot_tick.f aX aZ aQ
  have e1 : X + n * U + U = X + (n + 1) * U := by grind
  have e2 : Y + n * V + V = Y + (n + 1) * V := by grind
  have e3 : Z + n * Q - 512 * n * (n - 1) + (Q - 1024 * n) = Z + (n + 1) * Q - 512 * (n + 1) * (n + 1 - 1) := by grind
  have e4 : Q - 1024 * n - 1024 = Q - 1024 * (n + 1) := by omega
  rw [e1, e2, e3, e4, w64 (by omega) (by omega), w64 (by omega) (by omega), w64 (by omega) (by omega), w64 (by omega) (by omega)]

theorem a_zero (X U Z Q : Int) : aX X U 0 = X ∧ aZ Z Q 0 = Z ∧ aQ Q 0 = Q := by unfold aX aZ aQ; omega

theorem spot_shot {X Y Z U V Q : Int} (x : 0 ≤ X ∧ X < 4194304) (y : 0 ≤ Y ∧ Y < 4194304) (z : 0 ≤ Z ∧ Z ≤ 1073741824) (u : -262144 ≤ U ∧ U ≤ 262144) (v : -262144 ≤ V ∧ V ≤ 262144) (q : -262144 ≤ Q ∧ Q ≤ 262144) : spot X Y Z U V Q = true := by
  simp only [spot, inB, Bool.and_eq_true, decide_eq_true_eq]
  omega

def may (W H X Y Z U V Q : Int) : Prop := (0 ≤ X ∧ X < W * 65536 ∧ 0 ≤ Y ∧ Y < H * 65536) ∧ (0 ≤ Z ∧ Z ≤ 1073741824) ∧ (-262144 ≤ U ∧ U ≤ 262144) ∧ (-262144 ≤ V ∧ V ≤ 262144) ∧ (-262144 ≤ Q ∧ Q ≤ 262144)
instance (W H X Y Z U V Q : Int) : Decidable (may W H X Y Z U V Q) := by unfold may; infer_instance

theorem may_eq {k : Nat} (hk : 9 ≤ k) {W H Wt : Int} {l : List Int} (hb : ∀ x ∈ l, 0 ≤ x ∧ x ≤ 255) (X Y Z U V Q : Int) :
    shot_May.f k W H Wt l X Y Z U V Q = some (decide (chk W H Wt l = 0 ∧ may W H X Y Z U V Q)) := by
  unfold shot_May.f
  rw [on_eq (by omega) hb, within_eq hk _ _ _ (by simp), within_eq hk _ _ _ (by simp)]
  simp only [Option.bind_some, List.all_cons, List.all_nil, Bool.and_true]
  by_cases hc : chk W H Wt l = 0
  · rw [if_pos hc]
    by_cases ho : 0 ≤ X ∧ X < W * 65536 ∧ 0 ≤ Y ∧ Y < H * 65536
    · rw [if_pos (decide_eq_true ho)]
      by_cases hz : 0 ≤ Z ∧ Z ≤ 1073741824
      · rw [if_pos (by simp only [inB]; exact decide_eq_true hz)]
        congr 1
        simp only [inB, ← Bool.decide_and]
        rw [decide_eq_decide]
        unfold may
        constructor
        · intro h; exact ⟨hc, ho, hz, h.1, h.2.1, h.2.2⟩
        · intro h; exact ⟨h.2.2.2.1, h.2.2.2.2.1, h.2.2.2.2.2⟩
      · rw [if_neg (by simp only [inB, decide_eq_true_eq]; exact hz), decide_eq_false (fun h => hz h.2.2.1)]
    · rw [if_neg (by rw [decide_eq_true_eq]; exact ho), decide_eq_false (fun h => ho h.2.1)]
  · rw [if_neg hc, decide_eq_false (fun h => hc h.1)]
    rfl

def how (W H Wt : Int) (l : List Int) (X Y Z : Int) : Int :=
  if 0 ≤ X ∧ X < W * 65536 ∧ 0 ≤ Y ∧ Y < H * 65536 then
    if height W l X Y < Z ∧ Wt * 65536 < Z then 0 else if Wt * 65536 ≤ height W l X Y then 1 else 2
  else 3

theorem how_eq {k : Nat} (hk : 1 ≤ k) {W H Wt : Int} {l : List Int} (hb : ∀ x ∈ l, 0 ≤ x ∧ x ≤ 255) (X Y Z U V Q : Int) :
    shot_How.f k W H Wt l X Y Z U V Q = some (if chk W H Wt l = 0 then (how W H Wt l X Y Z, 0) else (0, 1)) := by
  unfold shot_How.f how
  rw [height_eq hk hb]
  simp only [Option.bind_some]
  by_cases hc : chk W H Wt l = 0
  · have ok := (chk_zero hb).1 hc
    have t0 := ok.t0
    have t1 := ok.t1
    rw [if_pos hc, if_pos hc]
    by_cases ho : 0 ≤ X ∧ X < W * 65536 ∧ 0 ≤ Y ∧ Y < H * 65536
    · rw [if_pos ho, if_pos ho, w64 (i := Wt * 65536) (by omega) (by omega)]
      generalize height W l X Y = h
      simp only [show ¬ (0 : Int) = 1 by decide, show ¬ (0 : Int) = 4 by decide, if_false]
      have m := mx_ge h (Wt * 65536)
      by_cases hz : h < Z ∧ Wt * 65536 < Z
      · rw [if_pos (by omega), if_pos hz]
      · rw [if_neg (by omega), if_neg hz]
        by_cases hg : h ≥ Wt * 65536
        · rw [if_pos hg, if_pos (by omega)]
        · rw [if_neg hg, if_neg (by omega)]
    · rw [if_neg ho, if_neg ho]
      rfl
  · rw [if_neg hc, if_neg hc]
    rfl

def fly (W H Wt : Int) (l : List Int) (X Y Z U V Q : Int) (n : Nat) : Nat → Int × Int × Int × Int × Int × Int × Int × Int
  | 0 => (n, 0, aX X U n, aX Y V n, aZ Z Q n, U, V, aQ Q n)
  | d + 1 => if how W H Wt l (aX X U ((n - d : Nat) : Int)) (aX Y V ((n - d : Nat) : Int)) (aZ Z Q ((n - d : Nat) : Int)) = 0 then fly W H Wt l X Y Z U V Q n d
    else (((n - d : Nat) : Int), how W H Wt l (aX X U ((n - d : Nat) : Int)) (aX Y V ((n - d : Nat) : Int)) (aZ Z Q ((n - d : Nat) : Int)), aX X U ((n - d : Nat) : Int), aX Y V ((n - d : Nat) : Int), aZ Z Q ((n - d : Nat) : Int), U, V, aQ Q ((n - d : Nat) : Int))

def with0 (t : Int × Int × Int × Int × Int × Int × Int × Int) (e : Int) : Int × Int × Int × Int × Int × Int × Int × Int × Int := (t.1, t.2.1, t.2.2.1, t.2.2.2.1, t.2.2.2.2.1, t.2.2.2.2.2.1, t.2.2.2.2.2.2.1, t.2.2.2.2.2.2.2, e)

theorem fly_l0 {W H Wt : Int} {l : List Int} (ok : Ok W H Wt l) {X Y Z U V Q : Int} (h : spot X Y Z U V Q = true) (n : Nat) (hn : n ≤ 1024) (d : Nat) : ∀ (k i : Nat), i ≤ n → n - i = d → d + 2 < k →
    shot_Fly.l0 k n n i W H Wt l (aX X U i) (aX Y V i) (aZ Z Q i) U V (aQ Q i) = some (with0 (fly W H Wt l X Y Z U V Q n d) 0) := by
  induction d with
  | zero =>
    intro k i hi hd hk
    obtain ⟨k, rfl⟩ : ∃ q, k = q + 1 := ⟨k - 1, by omega⟩
    obtain rfl : i = n := by omega
    simp only [shot_Fly.l0]
    rw [if_neg (by omega)]
    rfl
  | succ d ih =>
    intro k i hi hd hk
    obtain ⟨k, rfl⟩ : ∃ q, k = q + 1 := ⟨k - 1, by omega⟩
    have g := ih k (i + 1) (by omega) (by omega) (by omega)
    have e : n - d = i + 1 := by omega
    simp only [shot_Fly.l0, fly]
    rw [if_pos (by omega), tick_eq h (by omega) (by omega), e]
    simp only [Option.bind_some]
    rw [how_eq (by omega) ok.b, if_pos ((chk_zero ok.b).2 ok), w64 (by omega) (by omega)]
    simp only [Option.bind_some]
    rw [show ((i + 1 : Nat) : Int) = (i : Int) + 1 by omega] at g ⊢
    by_cases hh : how W H Wt l (aX X U ((i : Int) + 1)) (aX Y V ((i : Int) + 1)) (aZ Z Q ((i : Int) + 1)) = 0
    · rw [if_pos hh, if_pos hh]
      exact g
    · rw [if_neg hh, if_neg hh]
      rfl

theorem may_spot {W H Wt : Int} {l : List Int} (ok : Ok W H Wt l) {X Y Z U V Q : Int} (h : may W H X Y Z U V Q) : spot X Y Z U V Q = true := by
  have w1 := ok.w1
  have h1 := ok.h1
  obtain ⟨⟨a, b, c, d⟩, z, u, v, q⟩ := h
  exact spot_shot (by omega) (by omega) z u v q

theorem fly_eq {k : Nat} (hk : 1100 ≤ k) {W H Wt : Int} {l : List Int} (hb : ∀ x ∈ l, 0 ≤ x ∧ x ≤ 255) (X Y Z U V Q n : Int) :
    shot_Fly.f k W H Wt l X Y Z U V Q n = some (if (chk W H Wt l = 0 ∧ may W H X Y Z U V Q) ∧ 0 ≤ n ∧ n ≤ 1024 then with0 (fly W H Wt l X Y Z U V Q n.toNat n.toNat) 0 else (0, 0, 0, 0, 0, 0, 0, 0, 1)) := by
  obtain ⟨k, rfl⟩ : ∃ q, k = q + 1 := ⟨k - 1, by omega⟩
  have no : ∀ n, shot_Fly.j0 (k + 1) n true W H Wt l X Y Z U V Q = some (0, 0, 0, 0, 0, 0, 0, 0, 1) := by intro n; simp only [shot_Fly.j0]; rw [if_pos trivial]
  unfold shot_Fly.f
  rw [no, may_eq (by omega) hb]
  simp only [Option.bind_some]
  by_cases hm : chk W H Wt l = 0 ∧ may W H X Y Z U V Q
  · rw [if_pos (decide_eq_true hm)]
    by_cases h0 : n < 0
    · rw [if_pos h0, if_neg (by omega)]
    rw [if_neg h0]
    by_cases h1 : n > 1024
    · rw [decide_eq_true h1, no, if_neg (by omega)]
    rw [decide_eq_false h1, if_pos ⟨hm, by omega, by omega⟩]
    simp only [shot_Fly.j0]
    rw [if_neg (by decide)]
    have ok := (chk_zero hb).1 hm.1
    obtain ⟨m, rfl⟩ := Int.eq_ofNat_of_zero_le (show 0 ≤ n by omega)
    have g := fly_l0 ok (may_spot ok hm.2) m (by omega) m k 0 (by omega) (by omega) (by omega)
    obtain ⟨z1, z2, z3⟩ := a_zero X U Z Q
    obtain ⟨z4, _, _⟩ := a_zero Y V Z Q
    simp only [Int.natCast_zero, Int.ofNat_zero, z1, z2, z3, z4] at g
    rw [Int.toNat_natCast]
    exact g
  · rw [if_neg (by rw [decide_eq_true_eq]; exact hm), if_neg (fun h => hm h.1)]

theorem how_zero {W H Wt : Int} {l : List Int} {X Y Z : Int} (h : how W H Wt l X Y Z = 0) : (0 ≤ X ∧ X < W * 65536 ∧ 0 ≤ Y ∧ Y < H * 65536) ∧ height W l X Y < Z ∧ Wt * 65536 < Z := by
  unfold how at h
  by_cases ho : 0 ≤ X ∧ X < W * 65536 ∧ 0 ≤ Y ∧ Y < H * 65536
  · rw [if_pos ho] at h
    by_cases hz : height W l X Y < Z ∧ Wt * 65536 < Z
    · exact ⟨ho, hz⟩
    · rw [if_neg hz] at h
      by_cases g : Wt * 65536 ≤ height W l X Y
      · rw [if_pos g] at h; exact absurd h (by decide)
      · rw [if_neg g] at h; exact absurd h (by decide)
  · rw [if_neg ho] at h
    exact absurd h (by decide)
theorem how_three (W H Wt : Int) (l : List Int) (X Y Z : Int) : how W H Wt l X Y Z = 3 ↔ ¬ (0 ≤ X ∧ X < W * 65536 ∧ 0 ≤ Y ∧ Y < H * 65536) := by
  unfold how
  by_cases ho : 0 ≤ X ∧ X < W * 65536 ∧ 0 ≤ Y ∧ Y < H * 65536
  · rw [if_pos ho]
    refine iff_of_false ?_ (fun h => h ho)
    by_cases hz : height W l X Y < Z ∧ Wt * 65536 < Z
    · rw [if_pos hz]; decide
    · rw [if_neg hz]
      by_cases g : Wt * 65536 ≤ height W l X Y
      · rw [if_pos g]; decide
      · rw [if_neg g]; decide
  · rw [if_neg ho]
    exact iff_of_true rfl ho

/-- How it ends at a tick. -/
def hw (W H Wt : Int) (l : List Int) (X Y Z U V Q : Int) (i : Nat) : Int := how W H Wt l (aX X U (i : Int)) (aX Y V (i : Int)) (aZ Z Q (i : Int))
/-- The end at a tick. -/
def ends (X Y Z U V Q : Int) (i : Nat) (h : Int) : Int × Int × Int × Int × Int × Int × Int × Int := ((i : Int), h, aX X U (i : Int), aX Y V (i : Int), aZ Z Q (i : Int), U, V, aQ Q (i : Int))

theorem fly_spec (W H Wt : Int) (l : List Int) (X Y Z U V Q : Int) (n : Nat) : ∀ d : Nat, d ≤ n →
    ((∀ i, n - d < i → i ≤ n → hw W H Wt l X Y Z U V Q i = 0) ∧ fly W H Wt l X Y Z U V Q n d = ends X Y Z U V Q n 0) ∨
    ∃ i, n - d < i ∧ i ≤ n ∧ (∀ j, n - d < j → j < i → hw W H Wt l X Y Z U V Q j = 0) ∧ hw W H Wt l X Y Z U V Q i ≠ 0 ∧ fly W H Wt l X Y Z U V Q n d = ends X Y Z U V Q i (hw W H Wt l X Y Z U V Q i)
  | 0, _ => Or.inl ⟨fun i h1 h2 => by omega, rfl⟩
  | d + 1, hd => by
    simp only [fly]
    by_cases h : hw W H Wt l X Y Z U V Q (n - d) = 0
    · rw [if_pos (show how W H Wt l (aX X U ((n - d : Nat) : Int)) (aX Y V ((n - d : Nat) : Int)) (aZ Z Q ((n - d : Nat) : Int)) = 0 from h)]
      rcases fly_spec W H Wt l X Y Z U V Q n d (by omega) with ⟨a, b⟩ | ⟨i, a, b, c, e, f⟩
      · refine Or.inl ⟨fun i h1 h2 => ?_, b⟩
        rcases Nat.lt_or_ge (n - d) i with g | g
        · exact a i g h2
        · obtain rfl : i = n - d := by omega
          exact h
      · refine Or.inr ⟨i, by omega, b, fun j h1 h2 => ?_, e, f⟩
        rcases Nat.lt_or_ge (n - d) j with g | g
        · exact c j g h2
        · obtain rfl : j = n - d := by omega
          exact h
    · rw [if_neg (show ¬ how W H Wt l (aX X U ((n - d : Nat) : Int)) (aX Y V ((n - d : Nat) : Int)) (aZ Z Q ((n - d : Nat) : Int)) = 0 from h)]
      exact Or.inr ⟨n - d, by omega, by omega, fun j h1 h2 => by omega, h, rfl⟩

theorem fly_ok {k : Nat} (hk : 1100 ≤ k) {W H Wt : Int} {l : List Int} (ok : Ok W H Wt l) {X Y Z U V Q : Int} (hm : may W H X Y Z U V Q) (n : Nat) (hn : n ≤ 1024) {i : Nat} {h : Int} (e : fly W H Wt l X Y Z U V Q n n = ends X Y Z U V Q i h) :
    shot_Fly.f k W H Wt l X Y Z U V Q (n : Int) = some ((i : Int), h, aX X U (i : Int), aX Y V (i : Int), aZ Z Q (i : Int), U, V, aQ Q (i : Int), 0) := by
  rw [fly_eq hk ok.b, if_pos ⟨⟨(chk_zero ok.b).2 ok, hm⟩, by omega, by omega⟩, Int.toNat_natCast, e]
  rfl

theorem above_j0 {k : Nat} {m more y : Nat} {U V Q X Y Z : Int} {h : Int} (hy : m ≤ y) (hm : m < 256) (he : more = 0 → y = m ∧ h = 0) (U' : Int) :
    bivouaclaw16_ShotAbove.j0 (k + 1) (m : Int) (more : Int) 0 false (m : Int) 0 (aX X U (m : Int)) (aX Y V (m : Int)) (aZ Z Q (m : Int)) U V (aQ Q (m : Int)) (y : Int) h (aX X U (y : Int)) (aX Y V (y : Int)) (aZ Z Q (y : Int)) U V (aQ Q (y : Int)) = some true := by
  simp only [bivouaclaw16_ShotAbove.j0]
  rw [if_neg (by decide), if_pos trivial, w64 (by omega) (by omega), if_pos rfl, if_pos (by omega)]
  by_cases g : (more : Int) > 0
  · rw [if_pos g]
    simp [bivouaclaw16_awake.f]
  · obtain ⟨rfl, rfl⟩ := he (by omega)
    rw [if_neg g, if_pos (by simp)]
    simp [bivouaclaw16_awake.f]

theorem ShotAbove : bivouaclaw16_ShotAbove.Pure := by
  intro W H Wt l X Y Z U V Q n more _ _ _ _ hl _ _ _ _ _ _ _ hmore
  have hmore := Go.bounds_u8 hmore
  have hb := take_b hl
  refine ⟨1101, ?_⟩
  unfold bivouaclaw16_ShotAbove.f
  rw [few_eq]
  simp only [Option.bind_some]
  generalize l.take 4300 = l at hb ⊢
  rw [refCheck_eq (by omega)]
  simp only [Option.bind_some]
  obtain ⟨m, hm⟩ : ∃ m : Nat, n % 256 = (m : Int) := ⟨(n % 256).toNat, by omega⟩
  have hm1 : m < 256 := by omega
  obtain ⟨more, rfl⟩ := Int.eq_ofNat_of_zero_le hmore.1
  rw [hm, w64 (i := (more : Int)) (by omega) (by omega), w64 (i := (m : Int) + (more : Int)) (by omega) (by omega), show (m : Int) + (more : Int) = ((m + more : Nat) : Int) by omega]
  by_cases c : chk W H Wt l = 0
  · have ok := (chk_zero hb).1 c
    rw [if_pos c]
    by_cases hy : may W H X Y Z U V Q
    · have t0 := ok.t0
      have t1 := ok.t1
      rcases fly_spec W H Wt l X Y Z U V Q m m (Nat.le_refl m) with ⟨a, b⟩ | ⟨i, i0, i1, c1, e, f⟩
      · rw [fly_ok (by omega) ok hy m (by omega) b]
        simp only [Option.bind_some]
        have fin : ∃ (y : Nat) (h : Int), m ≤ y ∧ (more = 0 → y = m ∧ h = 0) ∧ fly W H Wt l X Y Z U V Q (m + more) (m + more) = ends X Y Z U V Q y h := by
          rcases fly_spec W H Wt l X Y Z U V Q (m + more) (m + more) (Nat.le_refl _) with ⟨a2, b2⟩ | ⟨i2, i20, i21, c2, e2, f2⟩
          · exact ⟨m + more, 0, by omega, fun h => ⟨by omega, rfl⟩, b2⟩
          · refine ⟨i2, _, ?_, ?_, f2⟩
            · rcases Nat.lt_or_ge i2 m with g | g
              · exact absurd (a i2 (by omega) (by omega)) e2
              · exact g
            · intro h
              exact absurd (a i2 (by omega) (by omega)) e2
        obtain ⟨y, h, y0, y1, y2⟩ := fin
        rw [fly_ok (by omega) ok hy (m + more) (by omega) y2]
        simp only [Option.bind_some]
        rw [if_pos trivial, if_pos trivial]
        by_cases g : (m : Int) > 0
        · have z := how_zero (show how W H Wt l (aX X U (m : Int)) (aX Y V (m : Int)) (aZ Z Q (m : Int)) = 0 from a m (by omega) (Nat.le_refl _))
          rw [if_pos g, refOn_eq ok]
          simp only [Option.bind_some]
          rw [if_pos (decide_eq_true z.1), refHeight_eq ok z.1.1 z.1.2.1 z.1.2.2.1 z.1.2.2.2]
          simp only [Option.bind_some]
          rw [if_neg (by have := z.2.1; omega), w64 (i := Wt * 65536) (by omega) (by omega), decide_eq_false (by have := z.2.2; omega)]
          exact above_j0 y0 hm1 y1 0
        · rw [if_neg g]
          exact above_j0 y0 hm1 y1 0
      · have f2 : fly W H Wt l X Y Z U V Q (m + more) (m + more) = ends X Y Z U V Q i (hw W H Wt l X Y Z U V Q i) := by
          rcases fly_spec W H Wt l X Y Z U V Q (m + more) (m + more) (Nat.le_refl _) with ⟨a2, b2⟩ | ⟨i2, i20, i21, c2, e2, f2⟩
          · exact absurd (a2 i (by omega) (by omega)) e
          · obtain rfl : i2 = i := by
              rcases Nat.lt_trichotomy i2 i with g | g | g
              · exact absurd (c1 i2 (by omega) g) e2
              · exact g
              · exact absurd (c2 i (by omega) g) e
            exact f2
        rw [fly_ok (by omega) ok hy m (by omega) f, fly_ok (by omega) ok hy (m + more) (by omega) f2]
        simp only [Option.bind_some]
        rw [if_pos trivial, if_neg e, if_pos trivial, if_pos (by simp), if_pos (by omega), if_pos (by omega), refOn_eq ok]
        simp only [Option.bind_some]
        rw [if_pos]
        · simp [bivouaclaw16_awake.f]
        · have t := how_three W H Wt l (aX X U (i : Int)) (aX Y V (i : Int)) (aZ Z Q (i : Int))
          unfold hw
          by_cases g : 0 ≤ aX X U (i : Int) ∧ aX X U (i : Int) < W * 65536 ∧ 0 ≤ aX Y V (i : Int) ∧ aX Y V (i : Int) < H * 65536
          · rw [decide_eq_true g, beq_eq_false_iff_ne.mpr (fun h => t.1 h g)]; rfl
          · rw [decide_eq_false g, t.2 g]; rfl
    · have no : ∀ (j : Nat), shot_Fly.f 1101 W H Wt l X Y Z U V Q (j : Int) = some (0, 0, 0, 0, 0, 0, 0, 0, 1) := by
        intro j
        rw [fly_eq (by omega) hb, if_neg (fun h => hy h.1.2)]
      rw [no, no]
      simp [bivouaclaw16_awake.f]
  · rw [if_neg c]
    simp [bivouaclaw16_awake.f]

end Go.Proofs.Ytfcocbkfodmmbaa.Pure
