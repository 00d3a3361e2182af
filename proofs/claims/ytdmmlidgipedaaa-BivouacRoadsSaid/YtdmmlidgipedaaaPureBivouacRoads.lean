/- There is a way from one cell to another one over the cells that are open to a class just if they are of one region of it. For all maps of at most 400 cells, classes and cells. -/
import Derived.Test.YtdmmlidgipedaaaGAgroundJoined
import Derived.Test.YtdmmlidgipedaaaGAgroundRegions
import Derived.Test.YtdmmlidgipedaaaGAreliefDepth
import Derived.Test.YtdmmlidgipedaaaGAreliefSlope
import Derived.Test.YtdmmlidgipedaaaGArouteCosts
import Derived.Test.YtdmmlidgipedaaaGArouteWay
import Derived.Test.YtdmmlidgipedaaaPAx1
import Derived.Test.YtdmmlidgipedaaaPAx10
import Derived.Test.YtdmmlidgipedaaaPAx11
import Derived.Test.YtdmmlidgipedaaaPAx12
import Derived.Test.YtdmmlidgipedaaaPAx16
import Derived.Test.YtdmmlidgipedaaaPAx17
import Derived.Test.YtdmmlidgipedaaaPAx18
import Derived.Test.YtdmmlidgipedaaaPAx2
import Derived.Test.YtdmmlidgipedaaaPAx20
import Derived.Test.YtdmmlidgipedaaaPAx22
import Derived.Test.YtdmmlidgipedaaaPAx3
import Derived.Test.YtdmmlidgipedaaaPAx6
import Derived.Test.YtdmmlidgipedaaaPAx7
import Derived.OpenShut
namespace Go.Proofs.Ytdmmlidgipedaaa.Pure
open Go.RowKit Go.Proofs.Ytdmmlidgipedaaa.PA Go.Proofs.YtdmmlidgipedaaaW.PrintWords Go.Proofs.YtdmmlidgipedaaaW.PrintLast Go.Proofs.YtdmmlidgipedaaaW.PrintMore
set_option linter.unusedVariables false
set_option linter.unusedSimpArgs false

theorem w64 {i : Int} (h0 : -9223372036854775808 ≤ i) (h1 : i ≤ 9223372036854775807) : wrap64 i = i := by unfold wrap64; omega
theorem mulb {a b A B : Int} (ha : 0 ≤ a) (hA : a ≤ A) (hb : 0 ≤ b) (hB : b ≤ B) : 0 ≤ a * b ∧ a * b ≤ A * B :=
  ⟨Int.mul_nonneg ha hb, Int.le_trans (Int.mul_le_mul_of_nonneg_right hA hb) (Int.mul_le_mul_of_nonneg_left hB (Int.le_trans ha hA))⟩

structure Ok (W H Wt : Int) (l : List Int) : Prop where
  w0 : 1 ≤ W
  w1 : W ≤ 64
  h0 : 1 ≤ H
  h1 : H ≤ 64
  t0 : 0 ≤ Wt
  t1 : Wt ≤ 255
  n : (l.length : Int) = (W + 1) * (H + 1)
  b : ∀ x ∈ l, 0 ≤ x ∧ x ≤ 255

def chk (W H Wt : Int) (l : List Int) : Int :=
  if 1 ≤ W ∧ W ≤ 64 ∧ 1 ≤ H ∧ H ≤ 64 ∧ 0 ≤ Wt ∧ Wt ≤ 255 then if (l.length : Int) < (W + 1) * (H + 1) then 2 else if (l.length : Int) > (W + 1) * (H + 1) then 7 else 0 else 1

theorem area {W H : Int} (w0 : 1 ≤ W) (w1 : W ≤ 64) (h0 : 1 ≤ H) (h1 : H ≤ 64) : wrap64 (wrap64 (W + 1) * wrap64 (H + 1)) = (W + 1) * (H + 1) ∧ 4 ≤ (W + 1) * (H + 1) ∧ (W + 1) * (H + 1) ≤ 4225 := by
  have h := mulb (a := W + 1) (b := H + 1) (A := 65) (B := 65) (by omega) (by omega) (by omega) (by omega)
  have g := mulb (a := W - 1) (b := H - 1) (A := 63) (B := 63) (by omega) (by omega) (by omega) (by omega)
  have e : (W + 1) * (H + 1) = (W - 1) * (H - 1) + 2 * W + 2 * H := by grind
  refine ⟨?_, by omega, by omega⟩
  rw [w64 (i := W + 1) (by omega) (by omega), w64 (i := H + 1) (by omega) (by omega), w64 (by omega) (by omega)]

theorem chk_zero {W H Wt : Int} {l : List Int} (hb : ∀ x ∈ l, 0 ≤ x ∧ x ≤ 255) : chk W H Wt l = 0 ↔ Ok W H Wt l := by
  unfold chk
  constructor
  · intro h
    split at h
    · rename_i hr
      obtain ⟨a, b, c, d, e, f⟩ := hr
      split at h
      · omega
      · split at h
        · omega
        · exact ⟨a, b, c, d, e, f, by omega, hb⟩
    · omega
  · intro h
    rw [if_pos ⟨h.w0, h.w1, h.h0, h.h1, h.t0, h.t1⟩, if_neg (by have := h.n; omega), if_neg (by have := h.n; omega)]

theorem check_eq {k : Nat} (hk : 1 ≤ k) (W H Wt : Int) (l : List Int) : relief_Check.f k W H Wt l = some (chk W H Wt l) := by
  obtain ⟨k, rfl⟩ : ∃ m, k = m + 1 := ⟨k - 1, by omega⟩
  unfold relief_Check.f chk
  simp only [relief_Check.j0]
  by_cases hr : 1 ≤ W ∧ W ≤ 64 ∧ 1 ≤ H ∧ H ≤ 64 ∧ 0 ≤ Wt ∧ Wt ≤ 255
  · have hr2 := hr
    obtain ⟨a, b, c, d, e, f⟩ := hr2
    rw [if_pos hr, if_neg (by omega), if_neg (by omega), if_neg (by omega), if_neg (by omega), if_neg (by omega), if_neg (by simpa using f), (area a b c d).1]
    repeat' split
    all_goals first | rfl | (exfalso; omega)
  · rw [if_neg hr]
    by_cases h1 : W < 1
    · rw [if_pos h1]; simp
    rw [if_neg h1]
    by_cases h2 : W > 64
    · rw [if_pos h2]; simp
    rw [if_neg h2]
    by_cases h3 : H < 1
    · rw [if_pos h3]; simp
    rw [if_neg h3]
    by_cases h4 : H > 64
    · rw [if_pos h4]; simp
    rw [if_neg h4]
    by_cases h5 : Wt < 0
    · rw [if_pos h5]; simp
    rw [if_neg h5, if_pos (by simp; omega)]

theorem few_eq (W H Wt : Int) (l : List Int) : bivouactop_few.f W H Wt l = some (W, H, Wt, l.take 4300) := by
  unfold bivouactop_few.f
  by_cases h : (l.length : Int) > 4300
  · rw [if_pos h, if_pos (by omega)]
  · rw [if_neg h, List.take_of_length_le (by omega)]

theorem take_b {l : List Int} (h : ∀ x ∈ l, (Lit.int .u8 x).wf = true) : ∀ x ∈ l.take 4300, 0 ≤ x ∧ x ≤ 255 := fun x hx => Go.bounds_u8 (h x (List.mem_of_mem_take hx))

def cor (W : Int) (l : List Int) (i j : Int) : Int := rd l ((W + 1) * j + i)

theorem rd_b {l : List Int} (hb : ∀ x ∈ l, 0 ≤ x ∧ x ≤ 255) (i : Int) : 0 ≤ rd l i ∧ rd l i ≤ 255 := by
  unfold rd
  rw [List.getD_eq_getElem?_getD]
  rcases Nat.lt_or_ge i.toNat l.length with h | h
  · rw [List.getElem?_eq_getElem h]; exact hb _ (List.getElem_mem h)
  · rw [List.getElem?_eq_none h]; decide

theorem Ok.idx {W H Wt : Int} {l : List Int} (h : Ok W H Wt l) {i j : Int} (i0 : 0 ≤ i) (i1 : i ≤ W) (j0 : 0 ≤ j) (j1 : j ≤ H) :
    wrap64 (wrap64 (wrap64 (W + 1) * j) + i) = (W + 1) * j + i ∧ 0 ≤ (W + 1) * j + i ∧ (W + 1) * j + i < (l.length : Int) ∧ (l.length : Int) ≤ 4225 := by
  have hw := h.w1
  have hw0 := h.w0
  have hh := h.h1
  have a := (area h.w0 h.w1 h.h0 h.h1)
  have e := h.n
  have b := mulb (a := W + 1) (b := j) (A := W + 1) (B := H) (by omega) (by omega) j0 j1
  have f : (W + 1) * (H + 1) = (W + 1) * H + W + 1 := by grind
  refine ⟨?_, by omega, by omega, by omega⟩
  rw [w64 (i := W + 1) (by omega) (by omega), w64 (i := (W + 1) * j) (by omega) (by omega), w64 (by omega) (by omega)]

theorem Ok.cor_b {W H Wt : Int} {l : List Int} (h : Ok W H Wt l) (i j : Int) : 0 ≤ cor W l i j ∧ cor W l i j ≤ 255 := rd_b h.b _

theorem corners_eq {W H Wt : Int} {l : List Int} (h : Ok W H Wt l) {i j : Int} (i0 : 0 ≤ i) (i1 : i < W) (j0 : 0 ≤ j) (j1 : j < H) :
    relief_corners.f W H Wt l i j = some (cor W l i j, cor W l (i + 1) j, cor W l i (j + 1), cor W l (i + 1) (j + 1)) := by
  obtain ⟨e, a, b, c⟩ := h.idx (i := i) (j := j) i0 (by omega) j0 (by omega)
  obtain ⟨_, a1, b1, _⟩ := h.idx (i := i + 1) (j := j) (by omega) (by omega) j0 (by omega)
  obtain ⟨_, a2, b2, _⟩ := h.idx (i := i) (j := j + 1) (by omega) (by omega) (by omega) (by omega)
  obtain ⟨_, a3, b3, _⟩ := h.idx (i := i + 1) (j := j + 1) (by omega) (by omega) (by omega) (by omega)
  have q0 := h.cor_b i j
  have q1 := h.cor_b (i + 1) j
  have q2 := h.cor_b i (j + 1)
  have q3 := h.cor_b (i + 1) (j + 1)
  unfold relief_corners.f cor at *
  have f : (W + 1) * (j + 1) = (W + 1) * j + W + 1 := by grind
  rw [f] at a2 b2 a3 b3 q2 q3 ⊢
  rw [e]
  have w0 := h.w0
  have w1 := h.w1
  generalize (W + 1) * j = m at *
  have e1 : wrap64 (m + i + 1) = m + (i + 1) := by rw [w64 (by omega) (by omega)]; omega
  have e2 : wrap64 (wrap64 (m + i + W) + 1) = m + W + 1 + i := by rw [w64 (i := m + i + W) (by omega) (by omega), w64 (by omega) (by omega)]; omega
  have e3 : wrap64 (m + W + 1 + i + 1) = m + W + 1 + (i + 1) := by rw [w64 (by omega) (by omega)]; omega
  rw [e1, e2, e3, if_pos a, if_pos b, if_pos a1, if_pos b1]
  rw [if_pos a2, if_pos b2, if_pos a3, if_pos b3]
  rw [w64 (by omega) (by omega), w64 (by omega) (by omega), w64 (by omega) (by omega), w64 (by omega) (by omega)]

theorem mn_self (a : Int) : mn a a = a := by unfold mn; split <;> rfl
theorem mx_self (a : Int) : mx a a = a := by unfold mx; split <;> rfl
theorem mn_le (a b : Int) : mn a b ≤ a ∧ mn a b ≤ b ∧ (mn a b = a ∨ mn a b = b) := by unfold mn; split <;> omega
theorem mx_ge (a b : Int) : a ≤ mx a b ∧ b ≤ mx a b ∧ (mx a b = a ∨ mx a b = b) := by unfold mx; split <;> omega

theorem cell_eq {k : Nat} (hk : 1 ≤ k) {W H Wt : Int} {l : List Int} (hb : ∀ x ∈ l, 0 ≤ x ∧ x ≤ 255) (i j : Int) :
    relief_cell.f k W H Wt l i j = some (if chk W H Wt l = 0 then if 0 ≤ i ∧ i < W ∧ 0 ≤ j ∧ j < H then (cor W l i j, cor W l (i + 1) j, cor W l i (j + 1), cor W l (i + 1) (j + 1), 0) else (0, 0, 0, 0, 4) else (0, 0, 0, 0, 1)) := by
  unfold relief_cell.f
  rw [check_eq hk]
  simp only [Option.bind_some]
  by_cases h : chk W H Wt l = 0
  · have ok := (chk_zero hb).1 h
    rw [if_pos h, if_pos h]
    by_cases hc : 0 ≤ i ∧ i < W ∧ 0 ≤ j ∧ j < H
    · have hc2 := hc
      obtain ⟨a, b, c, d⟩ := hc2
      rw [if_pos hc, if_neg (by omega), if_neg (by omega), if_neg (by omega), if_neg (by omega), corners_eq ok a b c d]
      rfl
    · rw [if_neg hc]
      by_cases h1 : i < 0
      · rw [if_pos h1]
      rw [if_neg h1]
      by_cases h2 : i ≥ W
      · rw [if_pos h2]
      rw [if_neg h2]
      by_cases h3 : j < 0
      · rw [if_pos h3]
      rw [if_neg h3, if_pos (by omega)]
  · rw [if_neg h, if_neg h]

def lo (W : Int) (l : List Int) (i j : Int) : Int := mn (mn (mn (cor W l i j) (cor W l (i + 1) j)) (cor W l i (j + 1))) (cor W l (i + 1) (j + 1))
def hi (W : Int) (l : List Int) (i j : Int) : Int := mx (mx (mx (cor W l i j) (cor W l (i + 1) j)) (cor W l i (j + 1))) (cor W l (i + 1) (j + 1))
theorem lo_hi {W H Wt : Int} {l : List Int} (h : Ok W H Wt l) (i j : Int) : 0 ≤ lo W l i j ∧ lo W l i j ≤ hi W l i j ∧ hi W l i j ≤ 255 ∧
    lo W l i j ≤ cor W l i j ∧ cor W l i j ≤ hi W l i j ∧ lo W l i j ≤ cor W l (i + 1) j ∧ cor W l (i + 1) j ≤ hi W l i j ∧
    lo W l i j ≤ cor W l i (j + 1) ∧ cor W l i (j + 1) ≤ hi W l i j ∧ lo W l i j ≤ cor W l (i + 1) (j + 1) ∧ cor W l (i + 1) (j + 1) ≤ hi W l i j := by
  have q0 := h.cor_b i j
  have q1 := h.cor_b (i + 1) j
  have q2 := h.cor_b i (j + 1)
  have q3 := h.cor_b (i + 1) (j + 1)
  unfold lo hi
  generalize cor W l i j = a at *
  generalize cor W l (i + 1) j = b at *
  generalize cor W l i (j + 1) = c at *
  generalize cor W l (i + 1) (j + 1) = d at *
  have m1 := mn_le a b
  have m2 := mn_le (mn a b) c
  have m3 := mn_le (mn (mn a b) c) d
  have n1 := mx_ge a b
  have n2 := mx_ge (mx a b) c
  have n3 := mx_ge (mx (mx a b) c) d
  omega

theorem slope_eq {k : Nat} (hk : 1 ≤ k) {W H Wt : Int} {l : List Int} (hb : ∀ x ∈ l, 0 ≤ x ∧ x ≤ 255) (i j : Int) :
    relief_Slope.f k W H Wt l i j = some (if chk W H Wt l = 0 then if 0 ≤ i ∧ i < W ∧ 0 ≤ j ∧ j < H then (hi W l i j - lo W l i j, 0) else (0, 4) else (0, 1)) := by
  unfold relief_Slope.f
  rw [cell_eq hk hb]
  simp only [Option.bind_some]
  by_cases h : chk W H Wt l = 0
  · rw [if_pos h, if_pos h]
    by_cases hc : 0 ≤ i ∧ i < W ∧ 0 ≤ j ∧ j < H
    · rw [if_pos hc, if_pos hc]
      have g := lo_hi ((chk_zero hb).1 h) i j
      simp only [mn_self, mx_self]
      unfold lo hi at *
      rw [w64 (by omega) (by omega)]
    · rw [if_neg hc, if_neg hc]; simp only [mn_self, mx_self]; decide +kernel
  · rw [if_neg h, if_neg h]; simp only [mn_self, mx_self]; decide +kernel

theorem depth_eq {k : Nat} (hk : 1 ≤ k) {W H Wt : Int} {l : List Int} (hb : ∀ x ∈ l, 0 ≤ x ∧ x ≤ 255) (i j : Int) :
    relief_Depth.f k W H Wt l i j = some (if chk W H Wt l = 0 then if 0 ≤ i ∧ i < W ∧ 0 ≤ j ∧ j < H then (mx 0 (Wt - lo W l i j), 0) else (0, 4) else (0, 1)) := by
  unfold relief_Depth.f
  rw [cell_eq hk hb]
  simp only [Option.bind_some]
  by_cases h : chk W H Wt l = 0
  · rw [if_pos h, if_pos h]
    by_cases hc : 0 ≤ i ∧ i < W ∧ 0 ≤ j ∧ j < H
    · rw [if_pos hc, if_pos hc]
      have ok := (chk_zero hb).1 h
      have g := lo_hi ok i j
      have t0 := ok.t0
      have t1 := ok.t1
      simp only [mn_self, if_true]
      unfold lo hi at *
      rw [w64 (by omega) (by omega)]
    · rw [if_neg hc, if_neg hc]; rfl
  · rw [if_neg h, if_neg h]; rfl


def bivouacref07_Open.o (c s d : Int) : Bool := c == 5 || (c == 0 && decide (s ≤ 24) && decide (d ≤ 12)) || (c == 1 && (decide (0 < d) || decide (s ≤ 16))) || (c == 2 && decide (16 ≤ d)) || (c == 3 && decide (24 ≤ d)) || (c == 4 && decide (s ≤ 20))
theorem gopen_eq {c s d : Int} (h0 : 0 ≤ c) (h5 : c ≤ 5) : ground_open.f c s d = some (bivouacref07_Open.o c s d) := by
  unfold ground_open.f bivouacref07_Open.o
  rcases (by omega : c = 0 ∨ c = 1 ∨ c = 2 ∨ c = 3 ∨ c = 4 ∨ c = 5) with rfl | rfl | rfl | rfl | rfl | rfl
  · by_cases h : s ≤ 24 <;> simp [h]
  · by_cases h : d > 0 <;> simp [h]
  all_goals simp

theorem right_eq {k : Nat} (hk : 1 ≤ k) (W H Wt : Int) (l : List Int) (c : Int) : ground_right.f k W H Wt l c = some (decide (0 ≤ c ∧ c ≤ 5 ∧ chk W H Wt l = 0)) := by
  unfold ground_right.f
  by_cases h0 : c ≥ 0
  · rw [if_pos h0]
    by_cases h5 : c ≤ 5
    · rw [if_pos h5, check_eq hk]
      simp only [Option.bind_some]
      by_cases h : chk W H Wt l = 0
      · simp [h, h5, h0]
      · simp [h]
    · rw [if_neg h5]
      simp [h5]
  · rw [if_neg h0]
    simp [h0]
def isO (W Wt : Int) (l : List Int) (c i j : Int) : Bool := bivouacref07_Open.o c (hi W l i j - lo W l i j) (mx 0 (Wt - lo W l i j))
theorem open_eq {k : Nat} (hk : 1 ≤ k) {W H Wt : Int} {l : List Int} (hb : ∀ x ∈ l, 0 ≤ x ∧ x ≤ 255) (c i j : Int) :
    ground_Open.f k W H Wt l c i j = some (if 0 ≤ c ∧ c ≤ 5 ∧ chk W H Wt l = 0 then if 0 ≤ i ∧ i < W ∧ 0 ≤ j ∧ j < H then (isO W Wt l c i j, 0) else (false, 4) else (false, 1)) := by
  unfold ground_Open.f
  rw [right_eq hk]
  simp only [Option.bind_some]
  by_cases h : 0 ≤ c ∧ c ≤ 5 ∧ chk W H Wt l = 0
  · rw [if_pos (decide_eq_true h), if_pos h, slope_eq hk hb, if_pos h.2.2]
    simp only [Option.bind_some]
    by_cases hc : 0 ≤ i ∧ i < W ∧ 0 ≤ j ∧ j < H
    · rw [if_pos hc, if_pos hc, if_pos rfl, depth_eq hk hb, if_pos h.2.2, if_pos hc]
      simp only [Option.bind_some]
      rw [gopen_eq h.1 h.2.1]
      rfl
    · rw [if_neg hc, if_neg hc, if_neg (by decide)]
  · rw [if_neg (by simpa using h), if_neg h]
def cells (W H Wt : Int) (l : List Int) (c : Int) : List Bool := (List.range (W * H).toNat).map fun m : Nat => isO W Wt l c ((m : Int) % W) ((m : Int) / W)
theorem cells_len (W H Wt : Int) (l : List Int) (c : Int) : (cells W H Wt l c).length = (W * H).toNat := by simp [cells]
theorem wh {W H : Int} (w0 : 1 ≤ W) (w1 : W ≤ 64) (h0 : 1 ≤ H) (h1 : H ≤ 64) : 1 ≤ W * H ∧ W * H ≤ 4096 ∧ wrap64 (W * H) = W * H := by
  have h := mulb (a := W) (b := H) (A := 64) (B := 64) (by omega) (by omega) (by omega) (by omega)
  have g := mulb (a := W - 1) (b := H - 1) (A := 63) (B := 63) (by omega) (by omega) (by omega) (by omega)
  have e : W * H = (W - 1) * (H - 1) + W + H - 1 := by grind
  exact ⟨by omega, by omega, w64 (by omega) (by omega)⟩
theorem cell_in {W H m : Int} (w0 : 1 ≤ W) (m0 : 0 ≤ m) (m1 : m < W * H) : 0 ≤ m % W ∧ m % W < W ∧ 0 ≤ m / W ∧ m / W < H := by
  refine ⟨Int.emod_nonneg _ (by omega), Int.emod_lt_of_pos _ (by omega), Int.ediv_nonneg m0 (by omega), ?_⟩
  rw [Int.mul_comm] at m1
  exact Int.ediv_lt_of_lt_mul (by omega) m1
theorem grid_l0 {W H Wt : Int} {l : List Int} (ok : Ok W H Wt l) {c : Int} (c0 : 0 ≤ c) (c5 : c ≤ 5) : ∀ (d i k : Nat) (xs : List Bool), (W * H).toNat - i = d → xs.length = (W * H).toNat →
    (∀ m, m < i → xs[m]? = some (isO W Wt l c ((m : Int) % W) ((m : Int) / W))) → i ≤ (W * H).toNat → d + 1 < k → ground_Grid.l0 k c xs (xs.length : Int) (i : Int) W H Wt l = some (cells W H Wt l c, 0) := by
  have hwh := wh ok.w0 ok.w1 ok.h0 ok.h1
  have w0 := ok.w0
  intro d
  induction d with
  | zero =>
    intro i k xs hd hx hm hi hk
    obtain ⟨k, rfl⟩ : ∃ m, k = m + 1 := ⟨k - 1, by omega⟩
    simp only [ground_Grid.l0]
    rw [if_neg (by omega)]
    have : xs = cells W H Wt l c := by
      apply List.ext_getElem?
      intro m
      rcases Nat.lt_or_ge m (W * H).toNat with h | h
      · rw [hm m (by omega)]
        simp [cells, h]
      · rw [List.getElem?_eq_none (by omega), List.getElem?_eq_none (by rw [cells_len]; omega)]
    rw [this]
  | succ d ih =>
    intro i k xs hd hx hm hi hk
    obtain ⟨k, rfl⟩ : ∃ m, k = m + 1 := ⟨k - 1, by omega⟩
    simp only [ground_Grid.l0]
    have hc := cell_in (m := (i : Int)) w0 (by omega) (show (i : Int) < W * H by omega)
    have et : Int.tmod (i : Int) W = (i : Int) % W := Int.tmod_eq_emod_of_nonneg (by omega)
    have ed : Int.tdiv (i : Int) W = (i : Int) / W := Int.tdiv_eq_ediv_of_nonneg (by omega)
    rw [if_pos (by omega), if_neg (by omega), et, ed, w64 (i := (i : Int) / W) (by omega) (by have := ok.h1; omega), open_eq (by omega) ok.b]
    rw [if_pos (show 0 ≤ c ∧ c ≤ 5 ∧ chk W H Wt l = 0 from ⟨c0, c5, (chk_zero ok.b).2 ok⟩), if_pos hc]
    simp only [Option.bind_some]
    rw [if_pos (by omega), if_pos (by omega), w64 (by omega) (by omega)]
    have := ih (i + 1) k (xs.set i (isO W Wt l c ((i : Int) % W) ((i : Int) / W))) (by omega) (by simpa using hx) (fun m h => by
      rw [List.getElem?_set]
      by_cases e : i = m
      · subst e; simp; omega
      · rw [if_neg e]; exact hm m (by omega)) (by omega) (by omega)
    rw [List.length_set] at this
    simpa using this
theorem grid_eq {k : Nat} (hk : 4099 ≤ k) {W H Wt : Int} {l : List Int} (hb : ∀ x ∈ l, 0 ≤ x ∧ x ≤ 255) (c : Int) :
    ground_Grid.f k W H Wt l c = some (if 0 ≤ c ∧ c ≤ 5 ∧ chk W H Wt l = 0 then (cells W H Wt l c, 0) else ([], 1)) := by
  unfold ground_Grid.f
  rw [right_eq (by omega)]
  simp only [Option.bind_some]
  by_cases h : 0 ≤ c ∧ c ≤ 5 ∧ chk W H Wt l = 0
  · have ok := (chk_zero hb).1 h.2.2
    have hwh := wh ok.w0 ok.w1 ok.h0 ok.h1
    rw [if_pos (decide_eq_true h), if_pos h, hwh.2.2, if_pos (by omega), if_pos (by omega)]
    exact grid_l0 ok h.1 h.2.1 _ 0 k _ rfl (by simp) (fun m h => absurd h (Nat.not_lt_zero _)) (by omega) (by omega)
  · rw [if_neg (by simpa using h), if_neg h]

theorem getD_set {α : Type} (l : List α) (i j : Nat) (v d : α) : (l.set i v).getD j d = if i = j ∧ j < l.length then v else l.getD j d := by
  simp only [List.getD_eq_getElem?_getD, List.getElem?_set]
  by_cases h : i = j
  · subst h
    by_cases h2 : i < l.length
    · simp [h2]
    · simp [h2]
  · simp [h]

def neg : List Int → Nat
  | [] => 0
  | x :: l => (if x < 0 then 1 else 0) + neg l
theorem neg_set : ∀ (l : List Int) (i : Nat) (v : Int), i < l.length → l.getD i 0 < 0 → 0 ≤ v → neg (l.set i v) + 1 = neg l
  | [], _, _, h, _, _ => by simp at h
  | x :: l, 0, v, _, h, hv => by
    simp at h
    simp only [List.set_cons_zero, neg]
    rw [if_pos h, if_neg (by omega)]
    omega
  | x :: l, i + 1, v, h, h2, hv => by
    have := neg_set l i v (by simpa using h) (by simpa using h2) hv
    simp only [List.set_cons_succ, neg]
    omega
theorem neg_le : ∀ l : List Int, neg l ≤ l.length
  | [] => by simp [neg]
  | x :: l => by
    have := neg_le l
    simp only [neg, List.length_cons]
    split <;> omega
theorem neg_rep (n : Nat) : neg (List.replicate n (-1)) = n := by
  induction n with
  | zero => rfl
  | succ n ih => simp [List.replicate_succ, neg, ih]; omega

def Adj (g : List Bool) (w : Int) (a b : Int) : Prop :=
  0 ≤ a ∧ a < (g.length : Int) ∧ 0 ≤ b ∧ b < (g.length : Int) ∧ g.getD a.toNat false = true ∧ g.getD b.toNat false = true ∧
  (b = a + w ∨ a = b + w ∨ (b = a + 1 ∧ a % w < w - 1) ∨ (a = b + 1 ∧ 0 < a % w))
inductive Conn (g : List Bool) (w : Int) : Int → Int → Prop
  | refl (a : Int) : Conn g w a a
  | step {a b c : Int} : Conn g w a b → Adj g w b c → Conn g w a c

theorem mod_succ {a w : Int} (hw : 0 < w) (h : a % w < w - 1) : (a + 1) % w = a % w + 1 := by
  have := Int.emod_add_mul_ediv a w
  have h0 := Int.emod_nonneg a (show w ≠ 0 by omega)
  have e : a + 1 = (a % w + 1) + w * (a / w) := by omega
  rw [e, Int.add_mul_emod_self_left, Int.emod_eq_of_lt (by omega) (by omega)]
theorem mod_pred {a w : Int} (hw : 0 < w) (h : 0 < a % w) : (a - 1) % w = a % w - 1 := by
  have := Int.emod_add_mul_ediv a w
  have h0 := Int.emod_lt_of_pos a hw
  have e : a - 1 = (a % w - 1) + w * (a / w) := by omega
  rw [e, Int.add_mul_emod_self_left, Int.emod_eq_of_lt (by omega) (by omega)]
theorem Adj.symm {g : List Bool} {w a b : Int} (hw : 0 < w) (h : Adj g w a b) : Adj g w b a := by
  obtain ⟨h1, h2, h3, h4, h5, h6, h7⟩ := h
  refine ⟨h3, h4, h1, h2, h6, h5, ?_⟩
  rcases h7 with h | h | ⟨rfl, h⟩ | ⟨rfl, h⟩
  · exact .inr (.inl h)
  · exact .inl h
  · refine .inr (.inr (.inr ⟨rfl, ?_⟩))
    rw [mod_succ hw h]
    have := Int.emod_nonneg a (show w ≠ 0 by omega)
    omega
  · refine .inr (.inr (.inl ⟨rfl, ?_⟩))
    have := mod_pred hw h
    rw [show b + 1 - 1 = b by omega] at this
    have := Int.emod_lt_of_pos (b + 1) hw
    omega
theorem Conn.symm {g : List Bool} {w a b : Int} (hw : 0 < w) (h : Conn g w a b) : Conn g w b a := by
  have tr : ∀ {x y z : Int}, Conn g w x y → Conn g w y z → Conn g w x z := fun h1 h2 => by
    induction h2 with
    | refl => exact h1
    | step _ h ih => exact ih.step h
  induction h with
  | refl => exact .refl _
  | step _ h ih => exact tr (Conn.step (.refl _) (h.symm hw)) ih
theorem Conn.trans {g : List Bool} {w x y z : Int} (h1 : Conn g w x y) (h2 : Conn g w y z) : Conn g w x z := by
  induction h2 with
  | refl => exact h1
  | step _ h ih => exact ih.step h

structure Good (g : List Bool) (w : Int) (l : List Int) : Prop where
  len : l.length = g.length
  shut : ∀ a : Int, 0 ≤ a → a < (g.length : Int) → g.getD a.toNat false = false → l.getD a.toNat 0 = -1
  num : ∀ a : Int, 0 ≤ a → a < (g.length : Int) → g.getD a.toNat false = true → 0 ≤ l.getD a.toNat 0 ∧ l.getD a.toNat 0 ≤ a ∧ g.getD (l.getD a.toNat 0).toNat false = true ∧ Conn g w a (l.getD a.toNat 0)
  adj : ∀ a b : Int, Adj g w a b → l.getD a.toNat 0 = l.getD b.toNat 0
theorem Good.conn {g : List Bool} {w : Int} {l : List Int} (h : Good g w l) {a b : Int} (c : Conn g w a b) : l.getD a.toNat 0 = l.getD b.toNat 0 := by
  induction c with
  | refl => rfl
  | step _ ha ih => exact ih.trans (h.adj _ _ ha)
theorem mem_nbs {w n k x : Int} : x ∈ ground_Regions.nbs w n k ↔ (w ≤ k ∧ x = k - w) ∨ (0 < k % w ∧ x = k - 1) ∨ (k % w < w - 1 ∧ x = k + 1) ∨ (k + w < n ∧ x = k + w) := by
  unfold ground_Regions.nbs
  simp only [List.mem_append]
  constructor
  · rintro (((h | h) | h) | h) <;> (split at h <;> simp at h)
    · exact .inl ⟨by assumption, h⟩
    · exact .inr (.inl ⟨by assumption, h⟩)
    · exact .inr (.inr (.inl ⟨by assumption, h⟩))
    · exact .inr (.inr (.inr ⟨by assumption, h⟩))
  · rintro (⟨h, rfl⟩ | ⟨h, rfl⟩ | ⟨h, rfl⟩ | ⟨h, rfl⟩)
    · exact .inl (.inl (.inl (by rw [if_pos h]; simp)))
    · exact .inl (.inl (.inr (by rw [if_pos h]; simp)))
    · exact .inl (.inr (by rw [if_pos h]; simp))
    · exact .inr (by rw [if_pos h]; simp)
theorem lt_of_mod {w h k : Int} (hw : 0 < w) (hk : k < w * h) (hm : k % w < w - 1) : k + 1 < w * h := by
  have e := Int.emod_add_mul_ediv k w
  have h1 : k / w < h := by
    rcases (by omega : k / w < h ∨ h ≤ k / w) with h1 | h1
    · exact h1
    · have := Int.mul_le_mul_of_nonneg_left h1 (Int.le_of_lt hw)
      have := Int.emod_nonneg k (show w ≠ 0 by omega)
      omega
  have h2 := Int.mul_le_mul_of_nonneg_left (show k / w + 1 ≤ h by omega) (Int.le_of_lt hw)
  have e2 : w * (k / w + 1) = w * (k / w) + w := by grind
  omega
theorem nbs_in {w h k x : Int} (hw : 0 < w) (h0 : 0 ≤ k) (h1 : k < w * h) (hx : x ∈ ground_Regions.nbs w (w * h) k) : 0 ≤ x ∧ x < w * h := by
  rcases mem_nbs.1 hx with ⟨h, rfl⟩ | ⟨h, rfl⟩ | ⟨h, rfl⟩ | ⟨h, rfl⟩
  · omega
  · have : k ≠ 0 := fun e => by subst e; simp at h
    omega
  · have := lt_of_mod hw h1 h
    omega
  · omega

structure Mid (g : List Bool) (w i : Int) (c : Option (Int × List Int)) (out wait : List Int) : Prop where
  len : out.length = g.length
  shut : ∀ a : Int, 0 ≤ a → a < (g.length : Int) → g.getD a.toNat false = false → out.getD a.toNat 0 = -1
  num : ∀ a : Int, 0 ≤ a → a < (g.length : Int) → 0 ≤ out.getD a.toNat 0 → g.getD a.toNat false = true ∧ out.getD a.toNat 0 ≤ a ∧ out.getD a.toNat 0 ≤ i ∧ g.getD (out.getD a.toNat 0).toNat false = true ∧ Conn g w a (out.getD a.toNat 0)
  less : ∀ a : Int, 0 ≤ a → a < (g.length : Int) → out.getD a.toNat 0 < 0 → out.getD a.toNat 0 = -1
  past : ∀ a : Int, 0 ≤ a → a ≤ i → a < (g.length : Int) → g.getD a.toNat false = true → 0 ≤ out.getD a.toNat 0
  front : ∀ a ∈ wait, 0 ≤ a ∧ a < (g.length : Int) ∧ out.getD a.toNat 0 = i
  adj : ∀ a b : Int, Adj g w a b → 0 ≤ out.getD a.toNat 0 → a ∉ wait → (∀ P, c ≠ some (a, P)) → out.getD b.toNat 0 = out.getD a.toNat 0
  here : ∀ a P, c = some (a, P) → 0 ≤ a ∧ a < (g.length : Int) ∧ out.getD a.toNat 0 = i ∧ ∀ x ∈ P, Adj g w a x → out.getD x.toNat 0 = i
  start : 0 ≤ i ∧ i < (g.length : Int) ∧ g.getD i.toNat false = true

theorem Mid.step {g : List Bool} {w i c : Int} {P out wait : List Int} (hw : 0 < w) (m : Mid g w i (some (c, P)) out wait) {x : Int} (h0 : 0 ≤ x) (h1 : x < (g.length : Int)) (hx : g.getD x.toNat false = true → Adj g w c x) :
    Mid g w i (some (c, P ++ [x])) (ground_Regions.push g i (out, wait) x).1 (ground_Regions.push g i (out, wait) x).2 ∧ neg (ground_Regions.push g i (out, wait) x).1 + (ground_Regions.push g i (out, wait) x).2.length = neg out + wait.length ∧ neg (ground_Regions.push g i (out, wait) x).1 ≤ neg out := by
  obtain ⟨s0, s1, s2⟩ := m.start
  obtain ⟨c0, c1, c2, c3⟩ := m.here c P rfl
  unfold ground_Regions.push
  by_cases hp : g.getD x.toNat false = true ∧ out.getD x.toNat 0 < 0
  · rw [if_pos hp]
    obtain ⟨ho, hneg⟩ := hp
    have hA := hx ho
    have hxl : x.toNat < out.length := by rw [m.len]; omega
    have ix : i < x := by
      rcases (by omega : i < x ∨ x ≤ i) with h | h
      · exact h
      · have := m.past x h0 h h1 ho
        omega
    have get : ∀ a : Int, 0 ≤ a → (out.set x.toNat i).getD a.toNat 0 = if a = x then i else out.getD a.toNat 0 := by
      intro a ha
      rw [getD_set]
      by_cases e : a = x
      · subst e; simp [hxl]
      · rw [if_neg e, if_neg (by omega)]
    have hcx : c ≠ x := fun e => by subst e; omega
    have hcon : Conn g w x i := by
      have := (m.num c c0 c1 (by omega)).2.2.2.2
      rw [c2] at this
      exact (Conn.step (.refl _) (hA.symm hw)).trans this
    refine ⟨⟨by simpa using m.len, ?_, ?_, ?_, ?_, ?_, ?_, ?_, m.start⟩, ?_⟩
    · intro a a0 a1 hs
      rw [get a a0, if_neg (fun e => by subst e; rw [ho] at hs; cases hs)]
      exact m.shut a a0 a1 hs
    · intro a a0 a1
      rw [get a a0]
      by_cases e : a = x
      · subst e; rw [if_pos rfl]; exact fun _ => ⟨ho, by omega, by omega, s2, hcon⟩
      · rw [if_neg e]; exact m.num a a0 a1
    · intro a a0 a1
      rw [get a a0]
      by_cases e : a = x
      · rw [if_pos e]; omega
      · rw [if_neg e]; exact m.less a a0 a1
    · intro a a0 ai a1 hg
      rw [get a a0]
      by_cases e : a = x
      · rw [if_pos e]; omega
      · rw [if_neg e]; exact m.past a a0 ai a1 hg
    · intro a ha
      rcases List.mem_append.1 ha with ha | ha
      · obtain ⟨a0, a1, a2⟩ := m.front a ha
        refine ⟨a0, a1, ?_⟩
        rw [get a a0]
        split
        · rfl
        · exact a2
      · obtain rfl : a = x := by simpa using ha
        exact ⟨h0, h1, by rw [get a h0, if_pos rfl]⟩
    · intro a b hab hn hw' hc'
      have a0 := hab.1
      have b0 := hab.2.2.1
      have nax : a ≠ x := fun e => hw' (by subst e; simp)
      rw [get a a0, if_neg nax] at hn
      have nac : ∀ Q, some (c, P) ≠ some (a, Q) := fun Q e => by
        obtain rfl : c = a := by simpa using congrArg (fun z => (z.map Prod.fst)) e
        exact hc' (P ++ [x]) rfl
      have := m.adj a b hab hn (fun h => hw' (List.mem_append_left _ h)) nac
      have nbx : b ≠ x := fun e => by subst e; omega
      rw [get a a0, get b b0, if_neg nax, if_neg nbx]
      exact this
    · intro a Q e
      simp only [Option.some.injEq, Prod.mk.injEq] at e
      obtain ⟨rfl, rfl⟩ := e
      refine ⟨c0, c1, by rw [get c c0, if_neg hcx]; exact c2, fun y hy hA' => ?_⟩
      rw [get y hA'.2.2.1]
      by_cases e : y = x
      · rw [if_pos e]
      · rw [if_neg e]
        rcases List.mem_append.1 hy with h | h
        · exact c3 y h hA'
        · simp at h; exact absurd h e
    · have := neg_set out x.toNat i hxl hneg s0
      simp only [List.length_append, List.length_cons, List.length_nil]
      omega
  · rw [if_neg hp]
    refine ⟨⟨m.len, m.shut, m.num, m.less, m.past, m.front, ?_, ?_, m.start⟩, rfl, Nat.le_refl _⟩
    · intro a b hab hn hw' hc'
      refine m.adj a b hab hn hw' (fun Q e => ?_)
      obtain rfl : c = a := by simpa using congrArg (fun z => (z.map Prod.fst)) e
      exact hc' (P ++ [x]) rfl
    · intro a Q e
      simp only [Option.some.injEq, Prod.mk.injEq] at e
      obtain ⟨rfl, rfl⟩ := e
      refine ⟨c0, c1, c2, fun y hy hA' => ?_⟩
      rcases List.mem_append.1 hy with h | h
      · exact c3 y h hA'
      · obtain rfl : y = x := by simpa using h
        have g1 := hA'.2.2.2.2.2.1
        have hy0 : 0 ≤ out.getD y.toNat 0 := by
          rcases (by omega : (out.getD y.toNat 0) < 0 ∨ 0 ≤ (out.getD y.toNat 0)) with h | h
          · exact absurd ⟨g1, h⟩ hp
          · exact h
        -- y has a number; its neighbour c has i
        by_cases hyw : y ∈ wait
        · exact (m.front y hyw).2.2
        · by_cases hyc : y = c
          · subst hyc; exact c2
          · have := m.adj y c (hA'.symm hw) hy0 hyw (fun Q e => hyc (by simpa using (congrArg (fun z => (z.map Prod.fst)) e).symm))
            exact this.symm.trans c2

theorem Mid.fold {g : List Bool} {w i c : Int} (hw : 0 < w) : ∀ (xs P out wait : List Int), Mid g w i (some (c, P)) out wait → (∀ x ∈ xs, 0 ≤ x ∧ x < (g.length : Int) ∧ (g.getD x.toNat false = true → Adj g w c x)) →
    Mid g w i (some (c, P ++ xs)) (xs.foldl (ground_Regions.push g i) (out, wait)).1 (xs.foldl (ground_Regions.push g i) (out, wait)).2 ∧ neg (xs.foldl (ground_Regions.push g i) (out, wait)).1 + (xs.foldl (ground_Regions.push g i) (out, wait)).2.length = neg out + wait.length ∧ neg (xs.foldl (ground_Regions.push g i) (out, wait)).1 ≤ neg out
  | [], P, out, wait, m, _ => by simpa using m
  | x :: xs, P, out, wait, m, h => by
    obtain ⟨h0, h1, h2⟩ := h x (by simp)
    obtain ⟨m2, e2, l2⟩ := m.step hw h0 h1 h2
    obtain ⟨m3, e3, l3⟩ := Mid.fold hw xs (P ++ [x]) _ _ m2 (fun y hy => h y (by simp [hy]))
    simp only [List.foldl_cons]
    have eta : ((ground_Regions.push g i (out, wait) x).1, (ground_Regions.push g i (out, wait) x).2) = ground_Regions.push g i (out, wait) x := rfl
    rw [eta] at m3 e3 l3
    refine ⟨by simpa using m3, by omega, by omega⟩

theorem adj_nbs {g : List Bool} {w a b : Int} (h : Adj g w a b) : b ∈ ground_Regions.nbs w g.length a := by
  obtain ⟨h1, h2, h3, h4, _, _, h7⟩ := h
  rw [mem_nbs]
  rcases h7 with h | h | ⟨h, h'⟩ | ⟨h, h'⟩
  · exact .inr (.inr (.inr ⟨by omega, h⟩))
  · exact .inl ⟨by omega, by omega⟩
  · exact .inr (.inr (.inl ⟨h', h⟩))
  · exact .inr (.inl ⟨h', by omega⟩)
theorem nbs_adj {g : List Bool} {w h c x : Int} (hw : 0 < w) (hn : (g.length : Int) = w * h) (c0 : 0 ≤ c) (c1 : c < (g.length : Int)) (hc : g.getD c.toNat false = true) (hx : x ∈ ground_Regions.nbs w g.length c) :
    0 ≤ x ∧ x < (g.length : Int) ∧ (g.getD x.toNat false = true → Adj g w c x) := by
  have hx2 := hx
  rw [hn] at hx2
  obtain ⟨x0, x1⟩ := nbs_in hw c0 (by rw [← hn]; exact c1) hx2
  rw [← hn] at x1
  refine ⟨x0, x1, fun ho => ⟨c0, c1, x0, x1, hc, ho, ?_⟩⟩
  rcases mem_nbs.1 hx with ⟨h, rfl⟩ | ⟨h, rfl⟩ | ⟨h, rfl⟩ | ⟨h, rfl⟩
  · exact .inr (.inl (by omega))
  · exact .inr (.inr (.inr ⟨by omega, h⟩))
  · exact .inr (.inr (.inl ⟨rfl, h⟩))
  · exact .inl rfl
theorem last_split {l : List Int} (h : l ≠ []) : l.dropLast ++ [l.getLastD 0] = l := by
  have := List.dropLast_concat_getLast h
  rw [List.getLastD_eq_getLast?, List.getLast?_eq_some_getLast h]
  exact this

theorem Mid.drop {g : List Bool} {w i : Int} {out wait : List Int} (m : Mid g w i none out wait) (h : wait ≠ []) : Mid g w i (some (wait.getLastD 0, [])) out wait.dropLast := by
  have e := last_split h
  refine ⟨m.len, m.shut, m.num, m.less, m.past, fun a ha => m.front a (by rw [← e]; exact List.mem_append_left _ ha), ?_, ?_, m.start⟩
  · intro a b hab hn h1 h2
    refine m.adj a b hab hn (fun ha => ?_) (fun P e => by cases e)
    rw [← e] at ha
    rcases List.mem_append.1 ha with ha | ha
    · exact h1 ha
    · obtain rfl : a = wait.getLastD 0 := by simpa using ha
      exact h2 [] rfl
  · intro a P e2
    simp only [Option.some.injEq, Prod.mk.injEq] at e2
    obtain ⟨rfl, rfl⟩ := e2
    obtain ⟨a0, a1, a2⟩ := m.front (wait.getLastD 0) (by rw [← e]; simp)
    exact ⟨a0, a1, a2, fun x hx => by simp at hx⟩
theorem Mid.fin {g : List Bool} {w i c : Int} {out wait : List Int} (m : Mid g w i (some (c, ground_Regions.nbs w g.length c)) out wait) : Mid g w i none out wait := by
  obtain ⟨c0, c1, c2, c3⟩ := m.here _ _ rfl
  refine ⟨m.len, m.shut, m.num, m.less, m.past, m.front, ?_, fun a P e => (by cases e), m.start⟩
  intro a b hab hn h1 _
  by_cases hac : a = c
  · subst hac
    rw [c3 b (adj_nbs hab) hab, c2]
  · exact m.adj a b hab hn h1 (fun P e => hac (by simpa using (congrArg (fun z => (z.map Prod.fst)) e).symm))

theorem flood {g : List Bool} {w h i : Int} (hw : 0 < w) (hn : (g.length : Int) = w * h) : ∀ (M : Nat) (out wait : List Int), 2 * neg out + wait.length ≤ M → neg out + wait.length ≤ 4096 → Mid g w i none out wait →
    ∃ out', (∀ k, M + 1 ≤ k → ground_Regions.l0 k g w i out wait = some out') ∧ Mid g w i none out' [] ∧ neg out' ≤ neg out
  | M, out, wait, hM, hB, m => by
    by_cases he : wait = []
    · subst he
      refine ⟨out, fun k hk => ?_, m, Nat.le_refl _⟩
      obtain ⟨k, rfl⟩ : ∃ j, k = j + 1 := ⟨k - 1, by omega⟩
      simp [ground_Regions.l0]
    · have m1 := m.drop he
      obtain ⟨c0, c1, c2, _⟩ := m1.here _ _ rfl
      have hg := (m.num _ c0 c1 (by have := m.start.1; omega)).1
      obtain ⟨m2, e2, l2⟩ := Mid.fold hw (ground_Regions.nbs w g.length (wait.getLastD 0)) [] out wait.dropLast m1 (fun x hx => nbs_adj hw hn c0 c1 hg hx)
      have hl : wait.dropLast.length = wait.length - 1 := by simp
      have hl0 : 0 < wait.length := List.length_pos_iff.2 he
      cases M with
      | zero => omega
      | succ M =>
        obtain ⟨out', h1, h2, h3⟩ := flood hw hn M _ _ (by omega) (by omega) (m2.fin)
        refine ⟨out', fun k hk => ?_, h2, by omega⟩
        obtain ⟨k, rfl⟩ : ∃ j, k = j + 1 := ⟨k - 1, by omega⟩
        simp only [ground_Regions.l0]
        rw [if_neg he, if_pos ⟨c0, c1, by omega, m.len⟩]
        exact h1 k (by omega)

structure Out (g : List Bool) (w i : Int) (out : List Int) : Prop where
  len : out.length = g.length
  shut : ∀ a : Int, 0 ≤ a → a < (g.length : Int) → g.getD a.toNat false = false → out.getD a.toNat 0 = -1
  num : ∀ a : Int, 0 ≤ a → a < (g.length : Int) → 0 ≤ out.getD a.toNat 0 → g.getD a.toNat false = true ∧ out.getD a.toNat 0 ≤ a ∧ out.getD a.toNat 0 < i ∧ g.getD (out.getD a.toNat 0).toNat false = true ∧ Conn g w a (out.getD a.toNat 0)
  less : ∀ a : Int, 0 ≤ a → a < (g.length : Int) → out.getD a.toNat 0 < 0 → out.getD a.toNat 0 = -1
  past : ∀ a : Int, 0 ≤ a → a < i → a < (g.length : Int) → g.getD a.toNat false = true → 0 ≤ out.getD a.toNat 0
  adj : ∀ a b : Int, Adj g w a b → 0 ≤ out.getD a.toNat 0 → out.getD b.toNat 0 = out.getD a.toNat 0
theorem Out.begin {g : List Bool} {w i : Int} {out : List Int} (o : Out g w i out) (h0 : 0 ≤ i) (h1 : i < (g.length : Int)) (hg : g.getD i.toNat false = true) (hi : out.getD i.toNat 0 < 0) :
    Mid g w i Option.none (out.set i.toNat i) [i] := by
  have get : ∀ a : Int, 0 ≤ a → (out.set i.toNat i).getD a.toNat 0 = if a = i then i else out.getD a.toNat 0 := by
    intro a ha
    rw [getD_set]
    by_cases e : a = i
    · subst e; simp [o.len]; omega
    · rw [if_neg e, if_neg (by omega)]
  refine ⟨by simpa using o.len, ?_, ?_, ?_, ?_, ?_, ?_, fun a P e => (by cases e), h0, h1, hg⟩
  · intro a a0 a1 hs
    rw [get a a0, if_neg (fun e => by subst e; rw [hg] at hs; cases hs)]
    exact o.shut a a0 a1 hs
  · intro a a0 a1
    rw [get a a0]
    by_cases e : a = i
    · subst e; rw [if_pos rfl]; exact fun _ => ⟨hg, by omega, by omega, hg, .refl _⟩
    · rw [if_neg e]
      intro hn
      obtain ⟨x1, x2, x3, x4⟩ := o.num a a0 a1 hn
      exact ⟨x1, x2, by omega, x4⟩
  · intro a a0 a1
    rw [get a a0]
    by_cases e : a = i
    · rw [if_pos e]; omega
    · rw [if_neg e]; exact o.less a a0 a1
  · intro a a0 ai a1 hg'
    rw [get a a0]
    by_cases e : a = i
    · rw [if_pos e]; omega
    · rw [if_neg e]; exact o.past a a0 (by omega) a1 hg'
  · intro a ha
    obtain rfl : a = i := by simpa using ha
    exact ⟨h0, h1, by rw [get a h0, if_pos rfl]⟩
  · intro a b hab hn hw' _
    have e : a ≠ i := fun e => hw' (by subst e; simp)
    rw [get a hab.1, if_neg e] at hn
    rw [get a hab.1, get b hab.2.2.1, if_neg e]
    have := o.adj a b hab hn
    rw [if_neg (fun e => by subst e; omega)]
    exact this
theorem Mid.out {g : List Bool} {w i : Int} {out : List Int} (m : Mid g w i Option.none out []) : Out g w (i + 1) out :=
  ⟨m.len, m.shut, fun a a0 a1 hn => by obtain ⟨x1, x2, x3, x4⟩ := m.num a a0 a1 hn; exact ⟨x1, x2, by omega, x4⟩, m.less, fun a a0 ai => m.past a a0 (by omega), fun a b hab hn => m.adj a b hab hn (by simp) (fun P e => (by cases e))⟩
theorem Out.skip {g : List Bool} {w i : Int} {out : List Int} (o : Out g w i out) (h : ¬(g.getD i.toNat false = true ∧ out.getD i.toNat 0 < 0)) : Out g w (i + 1) out := by
  refine ⟨o.len, o.shut, fun a a0 a1 hn => by obtain ⟨x1, x2, x3, x4⟩ := o.num a a0 a1 hn; exact ⟨x1, x2, by omega, x4⟩, o.less, ?_, o.adj⟩
  intro a a0 ai a1 hg
  by_cases e : a = i
  · subst e
    rcases (by omega : (out.getD a.toNat 0) < 0 ∨ 0 ≤ (out.getD a.toNat 0)) with h' | h'
    · exact absurd ⟨hg, h'⟩ h
    · exact h'
  · exact o.past a a0 (by omega) a1 hg
theorem Out.good {g : List Bool} {w : Int} {out : List Int} (o : Out g w g.length out) : Good g w out :=
  ⟨o.len, o.shut, fun a a0 a1 hg => by
    have hp := o.past a a0 a1 a1 hg
    obtain ⟨x1, x2, x3, x4, x5⟩ := o.num a a0 a1 hp
    exact ⟨hp, x2, x4, x5⟩, fun a b hab => (o.adj a b hab (o.past a hab.1 hab.2.1 hab.2.1 hab.2.2.2.2.1)).symm⟩
theorem Out.zero (g : List Bool) (w : Int) : Out g w 0 (List.replicate g.length (-1)) := by
  have get : ∀ a : Int, 0 ≤ a → a < (g.length : Int) → (List.replicate g.length (-1 : Int)).getD a.toNat 0 = -1 := by
    intro a a0 a1
    rw [List.getD_eq_getElem?_getD, List.getElem?_replicate, if_pos (by omega)]
    rfl
  refine ⟨by simp, fun a a0 a1 _ => get a a0 a1, fun a a0 a1 h => ?_, fun a a0 a1 _ => get a a0 a1, fun a a0 ai => by omega, fun a b hab h => ?_⟩
  · rw [get a a0 a1] at h; omega
  · rw [get a hab.1 hab.2.1] at h; omega
theorem floods {g : List Bool} {w h : Int} (hw : 0 < w) (hn : (g.length : Int) = w * h) (hl : g.length ≤ 4096) : ∀ (m : Nat) (i : Int) (out : List Int), 0 ≤ i → i + m = g.length → Out g w i out →
    ∃ out', (∀ k, m + 2 * g.length + 10 ≤ k → ground_Regions.l1 k g w i out = some out') ∧ Good g w out'
  | 0, i, out, h0, hm, o => by
    obtain rfl : i = g.length := by omega
    refine ⟨out, fun k hk => ?_, o.good⟩
    obtain ⟨k, rfl⟩ : ∃ j, k = j + 1 := ⟨k - 1, by omega⟩
    simp only [ground_Regions.l1]
    rw [if_neg (by omega)]
  | m + 1, i, out, h0, hm, o => by
    by_cases hc : g.getD i.toNat false = true ∧ out.getD i.toNat 0 < 0
    · have mid := o.begin h0 (by omega) hc.1 hc.2
      have hs := neg_set out i.toNat i (by rw [o.len]; omega) hc.2 h0
      have hle := neg_le out
      rw [o.len] at hle
      obtain ⟨o2, a1, a2, a3⟩ := flood hw hn (2 * g.length) (out.set i.toNat i) [i] (by simp; omega) (by simp; omega) mid
      obtain ⟨o3, b1, b2⟩ := floods hw hn hl m (i + 1) o2 (by omega) (by omega) a2.out
      refine ⟨o3, fun k hk => ?_, b2⟩
      obtain ⟨k, rfl⟩ : ∃ j, k = j + 1 := ⟨k - 1, by omega⟩
      simp only [ground_Regions.l1]
      rw [if_pos (by omega), if_pos hc, a1 k (by omega)]
      exact b1 k (by omega)
    · obtain ⟨o3, b1, b2⟩ := floods hw hn hl m (i + 1) out (by omega) (by omega) (o.skip hc)
      refine ⟨o3, fun k hk => ?_, b2⟩
      obtain ⟨k, rfl⟩ : ∃ j, k = j + 1 := ⟨k - 1, by omega⟩
      simp only [ground_Regions.l1]
      rw [if_pos (by omega), if_neg hc]
      exact b1 k (by omega)

theorem rep_getD (n : Nat) {a : Int} (h0 : 0 ≤ a) (h1 : a < (n : Int)) : (List.replicate n (-1 : Int)).getD a.toNat 0 = -1 := by
  rw [List.getD_eq_getElem?_getD, List.getElem?_replicate, if_pos (by omega)]
  rfl
theorem Out.init (g : List Bool) (w : Int) : Out g w 0 (List.replicate g.length (-1)) :=
  ⟨by simp, fun a h0 h1 _ => rep_getD _ h0 h1, fun a h0 h1 h => by rw [rep_getD _ h0 h1] at h; omega, fun a h0 h1 _ => rep_getD _ h0 h1, fun a h0 h1 h2 => by omega, fun a b hab h => by rw [rep_getD _ hab.1 hab.2.1] at h; omega⟩
theorem regs {W H Wt : Int} {l : List Int} (ok : Ok W H Wt l) {c : Int} (c0 : 0 ≤ c) (c5 : c ≤ 5) :
    ∃ L, Good (cells W H Wt l c) W L ∧ ∀ k, 20000 ≤ k → ground_Regions.f k W H Wt l c = some (L, 0) := by
  have hwh := wh ok.w0 ok.w1 ok.h0 ok.h1
  have hl := cells_len W H Wt l c
  obtain ⟨L, h1, h2⟩ := floods (g := cells W H Wt l c) (w := W) (h := H) (by have := ok.w0; omega) (by rw [hl]; omega) (by omega) (cells W H Wt l c).length 0 _ (Int.le_refl _) (by omega) (Out.init _ _)
  refine ⟨L, h2, fun k hk => ?_⟩
  unfold ground_Regions.f
  rw [grid_eq (by omega) ok.b, if_pos ⟨c0, c5, (chk_zero ok.b).2 ok⟩]
  simp only [Option.bind_some]
  rw [if_pos trivial, if_pos ⟨ok.w0, ok.w1, by omega, by omega, by omega⟩, h1 k (by omega)]
  rfl
theorem regs_no {k : Nat} (hk : 4099 ≤ k) {W H Wt : Int} {l : List Int} (hb : ∀ x ∈ l, 0 ≤ x ∧ x ≤ 255) (c : Int) (h : ¬ (0 ≤ c ∧ c ≤ 5 ∧ chk W H Wt l = 0)) : ground_Regions.f k W H Wt l c = some ([], 1) := by
  unfold ground_Regions.f
  rw [grid_eq hk hb, if_neg h]
  simp only [Option.bind_some]
  rw [if_neg (by decide)]

theorem mem_getD {xs : List (Int × Int)} {i : Nat} (h : i < xs.length) : xs.getD i (0, 0) ∈ xs := by
  rw [List.getD_eq_getElem?_getD, List.getElem?_eq_getElem h]
  exact List.getElem_mem h
theorem mem_swp_of {xs : List (Int × Int)} {i j : Nat} (hi : i < xs.length) (hj : j < xs.length) {y : Int × Int} (h : y ∈ hSwp xs i j) : y ∈ xs := by
  unfold hSwp at h
  rcases List.mem_or_eq_of_mem_set h with h | rfl
  · rcases List.mem_or_eq_of_mem_set h with h | rfl
    · exact h
    · exact mem_getD hj
  · exact mem_getD hi
theorem mem_swp {xs : List (Int × Int)} {i j : Nat} (hi : i < xs.length) (hj : j < xs.length) {y : Int × Int} (h : y ∈ xs) : y ∈ hSwp xs i j := by
  obtain ⟨m, hm, rfl⟩ := List.getElem_of_mem h
  unfold hSwp
  by_cases h1 : m = i
  · subst h1
    have e : ((xs.set m (xs.getD j (0, 0))).set j (xs.getD m (0, 0)))[j]? = some xs[m] := by
      rw [List.getElem?_set_self (by rw [List.length_set]; exact hj), List.getD_eq_getElem?_getD, List.getElem?_eq_getElem hm]; rfl
    exact List.mem_of_getElem? e
  · by_cases h2 : m = j
    · subst h2
      have e : ((xs.set i (xs.getD m (0, 0))).set m (xs.getD i (0, 0)))[i]? = some xs[m] := by
        rw [List.getElem?_set_ne h1, List.getElem?_set_self hi, List.getD_eq_getElem?_getD, List.getElem?_eq_getElem hm]; rfl
      exact List.mem_of_getElem? e
    · have e : ((xs.set i (xs.getD j (0, 0))).set j (xs.getD i (0, 0)))[m]? = some xs[m] := by
        rw [List.getElem?_set_ne (Ne.symm h2), List.getElem?_set_ne (Ne.symm h1), List.getElem?_eq_getElem hm]
      exact List.mem_of_getElem? e
theorem mem_up : ∀ (f k : Nat) (xs : List (Int × Int)), k < xs.length → ∀ y, y ∈ hUp f k xs ↔ y ∈ xs
  | 0, _, _, _, _ => Iff.rfl
  | f + 1, k, xs, hk, y => by
    unfold hUp
    split
    · have hj : (k - 1) / 2 < xs.length := by omega
      rw [mem_up f _ _ (by rw [hSwp_len]; exact hj) y]
      exact ⟨mem_swp_of hk hj, mem_swp hk hj⟩
    · exact Iff.rfl
theorem mem_push {xs : List (Int × Int)} {x y : Int × Int} : y ∈ hPush xs x ↔ y ∈ xs ∨ y = x := by
  unfold hPush
  rw [mem_up _ _ _ (by simp)]
  simp
theorem mem_down : ∀ (f last k : Nat) (xs : List (Int × Int)), xs.length = last → ∀ y, y ∈ hDown f last k xs ↔ y ∈ xs
  | 0, _, _, _, _, _ => Iff.rfl
  | f + 1, last, k, xs, hl, y => by
    unfold hDown
    split
    · rename_i h1
      have hc : hKid xs last k < xs.length := by unfold hKid; split <;> omega
      split
      · rw [mem_down f last _ _ (by rw [hSwp_len]; exact hl) y]
        exact ⟨mem_swp_of (by omega) hc, mem_swp (by omega) hc⟩
      · exact Iff.rfl
    · exact Iff.rfl
theorem mem_pop_of {p y : Int × Int} {h : List (Int × Int)} (hy : y ∈ hPop (p :: h)) : y ∈ p :: h := by
  unfold hPop at hy
  rw [mem_down _ _ _ _ (by simp)] at hy
  rcases List.mem_or_eq_of_mem_set (List.mem_of_mem_take hy) with h1 | rfl
  · exact h1
  · exact mem_getD (by simp)
theorem mem_pop {p y : Int × Int} {h : List (Int × Int)} (hy : y ∈ h) : y ∈ hPop (p :: h) := by
  unfold hPop
  rw [mem_down _ _ _ _ (by simp)]
  obtain ⟨m, hm, rfl⟩ := List.getElem_of_mem hy
  have e0 : (p :: h).length - 1 = h.length := by simp
  rw [e0]
  by_cases hl : m + 1 = h.length
  · -- the last one comes to the front
    have e : (((p :: h).set 0 ((p :: h).getD h.length (0, 0))).take h.length)[0]? = some h[m] := by
      rw [List.getElem?_take, if_pos (by omega), List.getElem?_set_self (by simp), List.getD_eq_getElem?_getD, ← hl, List.getElem?_cons_succ, List.getElem?_eq_getElem hm]
      rfl
    exact List.mem_of_getElem? e
  · have e : (((p :: h).set 0 ((p :: h).getD h.length (0, 0))).take h.length)[m + 1]? = some h[m] := by
      rw [List.getElem?_take, if_pos (by omega), List.getElem?_set_ne (by omega), List.getElem?_cons_succ, List.getElem?_eq_getElem hm]
    exact List.mem_of_getElem? e

theorem w64r {i : Int} (h0 : -9223372036854775808 ≤ i) (h1 : i ≤ 9223372036854775807) : wrap64 i = i := by unfold wrap64; omega
/-- Is there a cell, and is it open? -/
def opn (g : List Bool) (W H i j : Int) : Prop := 0 ≤ i ∧ i < W ∧ 0 ≤ j ∧ j < H ∧ g.getD (W * j + i).toNat false = true
instance (g : List Bool) (W H i j : Int) : Decidable (opn g W H i j) := by unfold opn; infer_instance
/-- A land that may be. -/
structure Lnd (g : List Bool) (W H : Int) : Prop where
  w0 : 1 ≤ W
  w1 : W ≤ 64
  h0 : 1 ≤ H
  h1 : H ≤ 64
  n : (g.length : Int) = W * H
theorem Lnd.rng {g : List Bool} {W H i j : Int} (l : Lnd g W H) (i0 : 0 ≤ i) (i1 : i < W) (j0 : 0 ≤ j) (j1 : j < H) : 0 ≤ W * j ∧ W * j ≤ 4096 ∧ 0 ≤ W * j + i ∧ W * j + i < (g.length : Int) := by
  have w0 := l.w0
  have w1 := l.w1
  have h1 := l.h1
  have a := Int.mul_nonneg (show 0 ≤ W by omega) j0
  have b := Int.mul_le_mul_of_nonneg_left (show j + 1 ≤ H by omega) (show 0 ≤ W by omega)
  have c : W * (j + 1) = W * j + W := by rw [Int.mul_add, Int.mul_one]
  have d := Int.mul_le_mul w1 (show j ≤ 64 by omega) j0 (by omega)
  have n := l.n
  omega
theorem open_eq' {g : List Bool} {W H : Int} (l : Lnd g W H) (i j : Int) : route_open.f W H g i j = some (decide (opn g W H i j)) := by
  unfold route_open.f
  by_cases i0 : i ≥ 0
  · rw [if_pos i0]
    by_cases i1 : i < W
    · rw [if_pos i1]
      by_cases j0 : j ≥ 0
      · rw [if_pos j0]
        by_cases j1 : j < H
        · have r := l.rng i0 i1 j0 j1
          have w1 := l.w1
          rw [if_pos j1, w64r (i := W * j) (by omega) (by omega), w64r (i := W * j + i) (by omega) (by omega), if_pos (by omega), if_pos (by omega)]
          congr 1
          show g.getD (W * j + i).toNat false = _
          by_cases hh : g.getD (W * j + i).toNat false = true
          · rw [hh]; symm; exact decide_eq_true ⟨i0, i1, j0, j1, hh⟩
          · rw [Bool.not_eq_true] at hh; rw [hh]; symm; exact decide_eq_false (fun h => by have h5 := h.2.2.2.2; rw [hh] at h5; cases h5)
        · rw [if_neg j1, decide_eq_false (fun h => j1 h.2.2.2.1)]
      · rw [if_neg j0, decide_eq_false (fun h => j0 h.2.2.1)]
    · rw [if_neg i1, decide_eq_false (fun h => i1 h.2.1)]
  · rw [if_neg i0, decide_eq_false (fun h => i0 h.1)]
/-- Where a step goes. -/
def go (g : List Bool) (W H k a b : Int) : Int := if opn g W H (k % W + a) (k / W + b) ∧ opn g W H (k % W + a) (k / W) ∧ opn g W H (k % W) (k / W + b) then k + b * W + a else -1
theorem Lnd.cell {g : List Bool} {W H k : Int} (l : Lnd g W H) (k0 : 0 ≤ k) (k1 : k < (g.length : Int)) : 0 ≤ k % W ∧ k % W < W ∧ 0 ≤ k / W ∧ k / W < H ∧ W * (k / W) + k % W = k ∧ k < 4097 := by
  have w0 := l.w0
  have e := Int.mul_ediv_add_emod k W
  have a := Int.emod_nonneg k (show W ≠ 0 by omega)
  have b := Int.emod_lt_of_pos k (show 0 < W by omega)
  have c := Int.ediv_nonneg k0 (show 0 ≤ W by omega)
  have n := l.n
  have d : k / W < H := Int.ediv_lt_of_lt_mul (by omega) (by rw [Int.mul_comm]; omega)
  have q := Int.mul_le_mul l.w1 l.h1 (by have := l.h0; omega) (by omega)
  exact ⟨a, b, c, d, e, by omega⟩
theorem goes_eq {g : List Bool} {W H k a b c : Int} (l : Lnd g W H) (k0 : 0 ≤ k) (k1 : k < (g.length : Int)) (a0 : -1 ≤ a) (a1 : a ≤ 1) (b0 : -1 ≤ b) (b1 : b ≤ 1) : route_goes.f W H g k a b c = some (go g W H k a b) := by
  obtain ⟨c0, c1, c2, c3, c4, c5⟩ := l.cell k0 k1
  have w0 := l.w0
  have w1 := l.w1
  have h1 := l.h1
  have bw : -64 ≤ b * W ∧ b * W ≤ 64 := by
    rcases (by omega : b = -1 ∨ b = 0 ∨ b = 1) with rfl | rfl | rfl <;> omega
  unfold route_goes.f go
  rw [if_neg (by omega), Int.tmod_eq_emod_of_nonneg k0, Int.tdiv_eq_ediv_of_nonneg k0, w64r (i := k / W) (by omega) (by omega), w64r (i := k % W + a) (by omega) (by omega), w64r (i := k / W + b) (by omega) (by omega), w64r (i := b * W) (by omega) (by omega), w64r (i := k + b * W) (by omega) (by omega), w64r (i := k + b * W + a) (by omega) (by omega), open_eq' l, open_eq' l, open_eq' l]
  simp only [Option.bind_some, decide_eq_true_eq]
  by_cases p : opn g W H (k % W + a) (k / W + b)
  · by_cases q : opn g W H (k % W + a) (k / W)
    · by_cases r : opn g W H (k % W) (k / W + b)
      · rw [if_pos p, if_pos q, if_pos r, if_pos ⟨p, q, r⟩]
      · rw [if_pos p, if_pos q, if_neg r, if_neg (fun h => r h.2.2)]
    · rw [if_pos p, if_neg q, if_neg (fun h => q h.2.1)]
  · rw [if_neg p, if_neg (fun h => p h.1)]

theorem opn_at {g : List Bool} {W H k : Int} (l : Lnd g W H) (k0 : 0 ≤ k) (k1 : k < (g.length : Int)) : opn g W H (k % W) (k / W) ↔ g.getD k.toNat false = true := by
  obtain ⟨c0, c1, c2, c3, c4, _⟩ := l.cell k0 k1
  unfold opn
  rw [c4]
  exact ⟨fun h => h.2.2.2.2, fun h => ⟨c0, c1, c2, c3, h⟩⟩
theorem dm {W i j : Int} (i0 : 0 ≤ i) (i1 : i < W) : (W * j + i) % W = i ∧ (W * j + i) / W = j := by
  have hW : 0 < W := by omega
  constructor
  · rw [Int.add_comm, Int.add_mul_emod_self_left, Int.emod_eq_of_lt i0 i1]
  · rw [Int.add_comm, Int.add_mul_ediv_left _ _ (by omega), Int.ediv_eq_zero_of_lt i0 i1, Int.zero_add]
/-- What a step that goes comes to. -/
theorem go_to {g : List Bool} {W H k a b : Int} (l : Lnd g W H) (k0 : 0 ≤ k) (k1 : k < (g.length : Int)) (h : 0 ≤ go g W H k a b) :
    opn g W H (k % W + a) (k / W + b) ∧ opn g W H (k % W + a) (k / W) ∧ opn g W H (k % W) (k / W + b) ∧ go g W H k a b = W * (k / W + b) + (k % W + a) ∧ go g W H k a b < (g.length : Int) ∧ g.getD (go g W H k a b).toNat false = true ∧ go g W H k a b % W = k % W + a ∧ go g W H k a b / W = k / W + b := by
  obtain ⟨c0, c1, c2, c3, c4, _⟩ := l.cell k0 k1
  unfold go at h ⊢
  by_cases q : opn g W H (k % W + a) (k / W + b) ∧ opn g W H (k % W + a) (k / W) ∧ opn g W H (k % W) (k / W + b)
  · rw [if_pos q] at h ⊢
    have e : k + b * W + a = W * (k / W + b) + (k % W + a) := by rw [Int.mul_add, Int.mul_comm b W]; omega
    have r := l.rng q.1.1 q.1.2.1 q.1.2.2.1 q.1.2.2.2.1
    rw [e]
    exact ⟨q.1, q.2.1, q.2.2, rfl, r.2.2.2, q.1.2.2.2.2, (dm q.1.1 q.1.2.1).1, (dm q.1.1 q.1.2.1).2⟩
  · rw [if_neg q] at h; omega
/-- It goes back as well. -/
theorem go_back {g : List Bool} {W H k a b : Int} (l : Lnd g W H) (k0 : 0 ≤ k) (k1 : k < (g.length : Int)) (ho : g.getD k.toNat false = true) (h : 0 ≤ go g W H k a b) : go g W H (go g W H k a b) (-a) (-b) = k := by
  obtain ⟨c0, c1, c2, c3, c4, _⟩ := l.cell k0 k1
  obtain ⟨o1, o2, o3, e, x1, x2, m1, m2⟩ := go_to l k0 k1 h
  have ok := (opn_at l k0 k1).2 ho
  rw [show go g W H (go g W H k a b) (-a) (-b) = if opn g W H (go g W H k a b % W + -a) (go g W H k a b / W + -b) ∧ opn g W H (go g W H k a b % W + -a) (go g W H k a b / W) ∧ opn g W H (go g W H k a b % W) (go g W H k a b / W + -b) then go g W H k a b + -b * W + -a else -1 from rfl]
  rw [m1, m2, show k % W + a + -a = k % W by omega, show k / W + b + -b = k / W by omega, if_pos ⟨ok, o3, o2⟩, e, Int.mul_add, Int.neg_mul, Int.mul_comm b W]
  omega
theorem adj_h {g : List Bool} {W H i i2 j : Int} (l : Lnd g W H) (h1 : opn g W H i j) (h2 : opn g W H i2 j) (h : i2 = i + 1 ∨ i = i2 + 1) : Adj g W (W * j + i) (W * j + i2) := by
  have r1 := l.rng h1.1 h1.2.1 h1.2.2.1 h1.2.2.2.1
  have r2 := l.rng h2.1 h2.2.1 h2.2.2.1 h2.2.2.2.1
  refine ⟨r1.2.2.1, r1.2.2.2, r2.2.2.1, r2.2.2.2, h1.2.2.2.2, h2.2.2.2.2, ?_⟩
  rw [(dm h1.1 h1.2.1).1]
  have a := h1.1
  have b := h2.1
  have c := h2.2.1
  have d := h1.2.1
  rcases h with h | h
  · exact .inr (.inr (.inl ⟨by omega, by omega⟩))
  · exact .inr (.inr (.inr ⟨by omega, by omega⟩))
theorem adj_v {g : List Bool} {W H i j j2 : Int} (l : Lnd g W H) (h1 : opn g W H i j) (h2 : opn g W H i j2) (h : j2 = j + 1 ∨ j = j2 + 1) : Adj g W (W * j + i) (W * j2 + i) := by
  have r1 := l.rng h1.1 h1.2.1 h1.2.2.1 h1.2.2.2.1
  have r2 := l.rng h2.1 h2.2.1 h2.2.2.1 h2.2.2.2.1
  refine ⟨r1.2.2.1, r1.2.2.2, r2.2.2.1, r2.2.2.2, h1.2.2.2.2, h2.2.2.2.2, ?_⟩
  rcases h with rfl | rfl
  · exact .inl (by rw [Int.mul_add, Int.mul_one]; omega)
  · exact .inr (.inl (by rw [Int.mul_add, Int.mul_one]; omega))
theorem go_conn {g : List Bool} {W H k a b : Int} (l : Lnd g W H) (k0 : 0 ≤ k) (k1 : k < (g.length : Int)) (ho : g.getD k.toNat false = true) (a0 : -1 ≤ a) (a1 : a ≤ 1) (b0 : -1 ≤ b) (b1 : b ≤ 1) (h : 0 ≤ go g W H k a b) : Conn g W k (go g W H k a b) := by
  obtain ⟨c0, c1, c2, c3, c4, _⟩ := l.cell k0 k1
  obtain ⟨o1, o2, o3, e, x1, x2, m1, m2⟩ := go_to l k0 k1 h
  have ok := (opn_at l k0 k1).2 ho
  rw [e]
  have s1 : Conn g W k (W * (k / W) + (k % W + a)) := by
    rcases (by omega : a = 0 ∨ a = 1 ∨ a = -1) with rfl | rfl | rfl
    · rw [Int.add_zero, c4]; exact .refl _
    · have := adj_h l ok o2 (.inl rfl); rw [c4] at this; exact (Conn.refl _).step this
    · have := adj_h l ok o2 (.inr (by omega)); rw [c4] at this; exact (Conn.refl _).step this
  rcases (by omega : b = 0 ∨ b = 1 ∨ b = -1) with rfl | rfl | rfl
  · rw [Int.add_zero]; exact s1
  · exact s1.step (adj_v l o2 o1 (.inl rfl))
  · exact s1.step (adj_v l o2 o1 (.inr (by omega)))
/-- Neighbours are a straight step away. -/
theorem go_adj {g : List Bool} {W H k x : Int} (l : Lnd g W H) (h : Adj g W k x) : (go g W H k 1 0 = x ∨ go g W H k (-1) 0 = x) ∨ go g W H k 0 1 = x ∨ go g W H k 0 (-1) = x := by
  obtain ⟨k0, k1, x0, x1, ok, ox, hh⟩ := h
  obtain ⟨c0, c1, c2, c3, c4, _⟩ := l.cell k0 k1
  obtain ⟨d0, d1, d2, d3, d4, _⟩ := l.cell x0 x1
  have pk := (opn_at l k0 k1).2 ok
  have px := (opn_at l x0 x1).2 ox
  rcases hh with rfl | rfl | ⟨rfl, hm⟩ | ⟨rfl, hm⟩
  · have m : (k + W) % W = k % W ∧ (k + W) / W = k / W + 1 := by
      have := dm (j := k / W + 1) c0 c1; rw [Int.mul_add, Int.mul_one, show W * (k / W) + W + k % W = k + W by omega] at this; exact this
    rw [m.1, m.2] at px
    refine .inr (.inl ?_)
    unfold go
    rw [Int.add_zero, if_pos ⟨px, pk, px⟩]; omega
  · have m : (x + W) % W = x % W ∧ (x + W) / W = x / W + 1 := by
      have := dm (j := x / W + 1) d0 d1; rw [Int.mul_add, Int.mul_one, show W * (x / W) + W + x % W = x + W by omega] at this; exact this
    refine .inr (.inr ?_)
    unfold go
    rw [m.1, m.2, Int.add_zero, show x / W + 1 + -1 = x / W by omega, if_pos ⟨px, by rw [m.1, m.2] at pk; exact pk, px⟩]; omega
  · have m : (k + 1) % W = k % W + 1 ∧ (k + 1) / W = k / W := by
      have := dm (W := W) (j := k / W) (i := k % W + 1) (by omega) (by omega); rw [show W * (k / W) + (k % W + 1) = k + 1 by omega] at this; exact this
    rw [m.1, m.2] at px
    refine .inl (.inl ?_)
    unfold go
    rw [Int.add_zero, if_pos ⟨px, px, pk⟩]; omega
  · have m : x % W + 1 < W → (x + 1) % W = x % W + 1 ∧ (x + 1) / W = x / W := fun h => by
      have := dm (W := W) (j := x / W) (i := x % W + 1) (by omega) h; rw [show W * (x / W) + (x % W + 1) = x + 1 by omega] at this; exact this
    have hx : x % W + 1 < W := by
      rcases (by omega : x % W + 1 < W ∨ x % W + 1 = W) with h | h
      · exact h
      · have : (x + 1) % W = 0 := by
          rw [show x + 1 = W * (x / W + 1) by rw [Int.mul_add, Int.mul_one]; omega, Int.mul_emod_right]
        omega
    obtain ⟨m1, m2⟩ := m hx
    refine .inl (.inr ?_)
    unfold go
    rw [m1, m2, show x % W + 1 + -1 = x % W by omega, Int.add_zero, if_pos ⟨px, px, by rw [m1, m2] at pk; exact pk⟩]; omega

abbrev gs (g : List Bool) (W H c : Int) (s : Nat) : Int := go g W H c (hSt s).1 (hSt s).2.1
theorem hSt_rev (s : Nat) (h : s < 8) : (s + 4) % 8 < 8 ∧ (hSt ((s + 4) % 8)).1 = -(hSt s).1 ∧ (hSt ((s + 4) % 8)).2.1 = -(hSt s).2.1 ∧ (hSt ((s + 4) % 8)).2.2 = (hSt s).2.2 := by
  rcases (by omega : s = 0 ∨ s = 1 ∨ s = 2 ∨ s = 3 ∨ s = 4 ∨ s = 5 ∨ s = 6 ∨ s = 7) with rfl | rfl | rfl | rfl | rfl | rfl | rfl | rfl <;> decide
theorem rd_set {l : List Int} {c x v : Int} (c0 : 0 ≤ c) (x0 : 0 ≤ x) (x1 : x < (l.length : Int)) : rd (l.set c.toNat v) x = if x = c then v else rd l x := by
  show (l.set c.toNat v).getD x.toNat 0 = if x = c then v else l.getD x.toNat 0
  rw [getD_set]
  by_cases h : x = c
  · rw [if_pos ⟨by rw [h], by omega⟩, if_pos h]
  · rw [if_neg (fun e => h (by omega)), if_neg h]
theorem hIn_spec {g : List Bool} {W H c cost : Int} (l : Lnd g W H) (c0 : 0 ≤ c) (c1 : c < (g.length : Int)) {out : List Int} (ho : out.length = g.length) (p0 : 0 ≤ cost) (p1 : cost ≤ 1000000) : ∀ (d i : Nat) (h : List (Int × Int)), d + i = 8 → h.length + d < 999999 →
    ∃ h2, hIn W H g c cost out d i h = some h2 ∧ h2.length ≤ h.length + d ∧ (∀ y ∈ h, y ∈ h2) ∧ (∀ y ∈ h2, y ∈ h ∨ ∃ s, s < 8 ∧ 0 ≤ gs g W H c s ∧ rd out (gs g W H c s) < 0 ∧ y = (gs g W H c s, cost + (hSt s).2.2)) ∧
      (∀ s, i ≤ s → s < 8 → 0 ≤ gs g W H c s → 0 ≤ rd out (gs g W H c s) ∨ ∃ y ∈ h2, y.1 = gs g W H c s)
  | 0, i, h, hi, _ => ⟨h, rfl, by omega, fun _ hy => hy, fun _ hy => .inl hy, fun s a b => by omega⟩
  | d + 1, i, h, hi, hl => by
    obtain ⟨⟨a0, a1⟩, ⟨b0, b1⟩, _⟩ := hSt_b i
    simp only [hIn]
    rw [goes_eq l c0 c1 a0 a1 b0 b1]
    simp only [Option.bind_some]
    show ∃ h2, (if 0 ≤ gs g W H c i then _ else _) = some h2 ∧ _
    by_cases hg : 0 ≤ gs g W H c i
    · have gt := (go_to l c0 c1 hg).2.2.2.2.1
      rw [if_pos hg, if_pos (show gs g W H c i < (out.length : Int) by rw [ho]; exact gt)]
      by_cases hr : rd out (gs g W H c i) < 0
      · rw [if_pos hr, if_pos ⟨by omega, p0, p1⟩]
        obtain ⟨h2, e, n, m1, m2, m3⟩ := hIn_spec l c0 c1 ho p0 p1 d (i + 1) (hPush h (gs g W H c i, cost + (hSt i).2.2)) (by omega) (by rw [hPush_len]; omega)
        refine ⟨h2, e, by rw [hPush_len] at n; omega, fun y hy => m1 y (mem_push.2 (.inl hy)), fun y hy => ?_, fun s s0 s1 s2 => ?_⟩
        · rcases m2 y hy with h1 | h1
          · rcases mem_push.1 h1 with h1 | rfl
            · exact .inl h1
            · exact .inr ⟨i, by omega, hg, hr, rfl⟩
          · exact .inr h1
        · rcases (by omega : s = i ∨ i + 1 ≤ s) with rfl | s3
          · exact .inr ⟨_, m1 _ (mem_push.2 (.inr rfl)), rfl⟩
          · exact m3 s s3 s1 s2
      · rw [if_neg hr]
        obtain ⟨h2, e, n, m1, m2, m3⟩ := hIn_spec l c0 c1 ho p0 p1 d (i + 1) h (by omega) (by omega)
        refine ⟨h2, e, by omega, m1, m2, fun s s0 s1 s2 => ?_⟩
        rcases (by omega : s = i ∨ i + 1 ≤ s) with rfl | s3
        · exact .inl (by omega)
        · exact m3 s s3 s1 s2
    · rw [if_neg hg]
      obtain ⟨h2, e, n, m1, m2, m3⟩ := hIn_spec l c0 c1 ho p0 p1 d (i + 1) h (by omega) (by omega)
      refine ⟨h2, e, by omega, m1, m2, fun s s0 s1 s2 => ?_⟩
      rcases (by omega : s = i ∨ i + 1 ≤ s) with rfl | s3
      · exact absurd s2 hg
      · exact m3 s s3 s1 s2
/-- A cell's cost is a finalized neighbour's and the step's. -/
def par (g : List Bool) (W H : Int) (out : List Int) (x v : Int) : Prop := ∃ s, s < 8 ∧ 0 ≤ gs g W H x s ∧ 0 ≤ rd out (gs g W H x s) ∧ rd out (gs g W H x s) + (hSt s).2.2 = v
structure OI (g : List Bool) (W H tgt : Int) (h : List (Int × Int)) (out : List Int) : Prop where
  len : out.length = g.length
  hp : ∀ y ∈ h, (0 ≤ y.1 ∧ y.1 < (g.length : Int)) ∧ g.getD y.1.toNat false = true ∧ Conn g W tgt y.1 ∧ 0 ≤ y.2 ∧ y.2 + 3 * (neg out : Int) ≤ 3 * (g.length : Int) ∧ (y.1 = tgt ∨ par g W H out y.1 y.2)
  fn : ∀ x, 0 ≤ x → x < (g.length : Int) → 0 ≤ rd out x → g.getD x.toNat false = true ∧ Conn g W tgt x ∧ rd out x + 3 * (neg out : Int) + 3 ≤ 3 * (g.length : Int) ∧ (x = tgt ∨ par g W H out x (rd out x)) ∧
    ∀ s, s < 8 → 0 ≤ gs g W H x s → 0 ≤ rd out (gs g W H x s) ∨ ∃ y ∈ h, y.1 = gs g W H x s
  st : 0 ≤ rd out tgt ∨ ∃ y ∈ h, y.1 = tgt
theorem gs_in {g : List Bool} {W H c : Int} {s : Nat} (l : Lnd g W H) (c0 : 0 ≤ c) (c1 : c < (g.length : Int)) (h : 0 ≤ gs g W H c s) : gs g W H c s < (g.length : Int) := (go_to l c0 c1 h).2.2.2.2.1
theorem par_set {g : List Bool} {W H : Int} {out : List Int} {c v x u : Int} (l : Lnd g W H) (hl : out.length = g.length) (c0 : 0 ≤ c) (x0 : 0 ≤ x) (x1 : x < (g.length : Int)) (hc : rd out c < 0) (h : par g W H out x u) : par g W H (out.set c.toNat v) x u := by
  obtain ⟨s, s0, s1, s2, s3⟩ := h
  have t := gs_in l x0 x1 s1
  have e : rd (out.set c.toNat v) (gs g W H x s) = rd out (gs g W H x s) := by
    rw [rd_set c0 s1 (by omega), if_neg (fun e => by rw [e] at s2; omega)]
  exact ⟨s, s0, s1, by rw [e]; exact s2, by rw [e]; exact s3⟩
theorem hOut_spec {g : List Bool} {W H tgt : Int} (l : Lnd g W H) (t0 : 0 ≤ tgt) (t1 : tgt < (g.length : Int)) : ∀ (M : Nat) (h : List (Int × Int)) (out : List Int), h.length + 8 * neg out ≤ M → M ≤ 50000 → OI g W H tgt h out → ∀ k, M < k →
    ∃ o, hOut W H g k h out = some o ∧ OI g W H tgt [] o
  | M, [], out, _, _, I, k, hk => by
    obtain ⟨k, rfl⟩ : ∃ q, k = q + 1 := ⟨k - 1, by omega⟩
    exact ⟨out, rfl, I⟩
  | 0, p :: h, out, hm, _, _, _, _ => by simp at hm
  | M + 1, p :: h, out, hm, hM, I, k, hk => by
    obtain ⟨k, rfl⟩ : ∃ q, k = q + 1 := ⟨k - 1, by omega⟩
    obtain ⟨⟨c0, c1⟩, ho, hcn, hc0, hcb, hpar⟩ := I.hp p (List.mem_cons_self ..)
    simp only [List.length_cons] at hm
    have hpl : (hPop (p :: h)).length = h.length := by rw [hPop_len]; simp
    have n := l.n
    have ng := neg_le out
    have hln := I.len
    have q := Int.mul_le_mul l.w1 l.h1 (by have := l.h0; omega) (by omega)
    simp only [hOut]
    rw [if_pos ⟨c0, by omega, by omega⟩]
    by_cases hr : 0 ≤ rd out p.1
    · rw [if_pos hr]
      refine hOut_spec l t0 t1 M _ out (by rw [hpl]; omega) (by omega) ⟨I.len, fun y hy => I.hp y (mem_pop_of hy), fun x x0 x1 x2 => ?_, ?_⟩ k (by omega)
      · obtain ⟨f1, f2, f3, f4, f5⟩ := I.fn x x0 x1 x2
        refine ⟨f1, f2, f3, f4, fun s s0 s1 => ?_⟩
        rcases f5 s s0 s1 with h1 | ⟨y, hy, hy2⟩
        · exact .inl h1
        · rcases List.mem_cons.1 hy with rfl | hy
          · exact .inl (by rw [← hy2]; exact hr)
          · exact .inr ⟨y, mem_pop hy, hy2⟩
      · rcases I.st with h1 | ⟨y, hy, hy2⟩
        · exact .inl h1
        · rcases List.mem_cons.1 hy with rfl | hy
          · exact .inl (by rw [← hy2]; exact hr)
          · exact .inr ⟨y, mem_pop hy, hy2⟩
    · rw [if_neg hr]
      have hr2 : out.getD p.1.toNat 0 < 0 := by
        have h : rd out p.1 < 0 := by omega
        exact h
      have hn : neg (out.set p.1.toNat p.2) + 1 = neg out := neg_set out p.1.toNat p.2 (by omega) hr2 hc0
      have hl2 : (out.set p.1.toNat p.2).length = g.length := by rw [List.length_set]; exact I.len
      obtain ⟨h2, e, m0, m1, m2, m3⟩ := hIn_spec l c0 c1 (out := out.set p.1.toNat p.2) (cost := p.2) hl2 hc0 (by omega) 8 0 (hPop (p :: h)) rfl (by rw [hpl]; omega)
      rw [e]
      simp only [Option.bind_some]
      have rs : ∀ x, 0 ≤ x → x < (g.length : Int) → rd (out.set p.1.toNat p.2) x = if x = p.1 then p.2 else rd out x := fun x x0 x1 => rd_set c0 x0 (by omega)
      have rc : rd (out.set p.1.toNat p.2) p.1 = p.2 := by rw [rs _ c0 c1, if_pos rfl]
      refine hOut_spec l t0 t1 M h2 _ (by rw [hpl] at m0; omega) (by omega) ⟨hl2, fun y hy => ?_, fun x x0 x1 x2 => ?_, ?_⟩ k (by omega)
      · rcases m2 y hy with hy | ⟨s, s0, s1, s2, rfl⟩
        · obtain ⟨y0, y1, y2, y3, y4, y5⟩ := I.hp y (mem_pop_of hy)
          exact ⟨y0, y1, y2, y3, by omega, y5.imp id (par_set l I.len c0 y0.1 y0.2 (by omega))⟩
        · have gt := go_to l c0 c1 s1
          obtain ⟨⟨a0, a1⟩, ⟨b0, b1⟩, cb⟩ := hSt_b s
          obtain ⟨v0, v1, v2, v3⟩ := hSt_rev s s0
          refine ⟨⟨s1, gt.2.2.2.2.1⟩, gt.2.2.2.2.2.1, hcn.trans (go_conn l c0 c1 ho a0 a1 b0 b1 s1), by simp only; omega, by simp only; omega, .inr ⟨(s + 4) % 8, v0, ?_⟩⟩
          have bk := go_back l c0 c1 ho s1
          have e2 : gs g W H (gs g W H p.1 s) ((s + 4) % 8) = p.1 := by
            show go g W H (gs g W H p.1 s) (hSt ((s + 4) % 8)).1 (hSt ((s + 4) % 8)).2.1 = p.1
            rw [v1, v2]; exact bk
          simp only
          rw [e2, rc, v3]
          exact ⟨c0, hc0, rfl⟩
      · rw [rs x x0 x1] at x2 ⊢
        by_cases hx : x = p.1
        · subst hx
          rw [if_pos rfl] at x2 ⊢
          refine ⟨ho, hcn, by omega, hpar.imp id (par_set l I.len c0 c0 c1 (by omega)), fun s s0 s1 => m3 s (Nat.zero_le _) s0 s1⟩
        · rw [if_neg hx] at x2 ⊢
          obtain ⟨f1, f2, f3, f4, f5⟩ := I.fn x x0 x1 x2
          refine ⟨f1, f2, by omega, f4.imp id (par_set l I.len c0 x0 x1 (by omega)), fun s s0 s1 => ?_⟩
          have sb := gs_in l x0 x1 s1
          rw [rs _ s1 sb]
          rcases f5 s s0 s1 with h1 | ⟨y, hy, hy2⟩
          · refine .inl ?_
            split
            · exact hc0
            · exact h1
          · rcases List.mem_cons.1 hy with rfl | hy
            · exact .inl (by rw [if_pos hy2.symm]; exact hc0)
            · exact .inr ⟨y, m1 y (mem_pop hy), hy2⟩
      · rw [rs _ t0 t1]
        rcases I.st with h1 | ⟨y, hy, hy2⟩
        · refine .inl ?_
          split
          · exact hc0
          · exact h1
        · rcases List.mem_cons.1 hy with rfl | hy
          · exact .inl (by rw [if_pos hy2.symm]; exact hc0)
          · exact .inr ⟨y, m1 y (mem_pop hy), hy2⟩

theorem rd_rep (n : Nat) {x : Int} (h0 : 0 ≤ x) (h1 : x < (n : Int)) : rd (List.replicate n (-1)) x = -1 := by
  show (List.replicate n (-1 : Int)).getD x.toNat 0 = -1
  rw [List.getD_eq_getElem?_getD, List.getElem?_replicate, if_pos (by omega)]
  rfl
theorem OI.start {g : List Bool} {W H tgt : Int} (t0 : 0 ≤ tgt) (t1 : tgt < (g.length : Int)) (ho : g.getD tgt.toNat false = true) : OI g W H tgt [(tgt, 0)] (List.replicate g.length (-1)) :=
  ⟨List.length_replicate, fun y hy => by
    rw [List.mem_singleton] at hy
    subst hy
    exact ⟨⟨t0, t1⟩, ho, .refl _, Int.le_refl _, by rw [neg_rep]; simp only; omega, .inl rfl⟩,
   fun x x0 x1 h => by rw [rd_rep _ x0 x1] at h; omega, .inr ⟨_, List.mem_singleton.2 rfl, rfl⟩⟩
theorem OI.conn {g : List Bool} {W H tgt x : Int} (l : Lnd g W H) {o : List Int} (I : OI g W H tgt [] o) (t0 : 0 ≤ tgt) (t1 : tgt < (g.length : Int)) (c : Conn g W tgt x) : 0 ≤ rd o x := by
  induction c with
  | refl =>
    rcases I.st with h | ⟨y, hy, _⟩
    · exact h
    · cases hy
  | @step b c _ ha ih =>
    have cl := (I.fn b ha.1 ha.2.1 ih).2.2.2.2
    have cx : ∀ s, s < 8 → gs g W H b s = c → 0 ≤ rd o c := fun s s0 e => by
      have h := cl s s0 (by rw [e]; exact ha.2.2.1)
      rw [e] at h
      rcases h with h | ⟨y, hy, _⟩
      · exact h
      · cases hy
    rcases go_adj l ha with (h | h) | h | h
    · exact cx 0 (by decide) h
    · exact cx 4 (by decide) h
    · exact cx 2 (by decide) h
    · exact cx 6 (by decide) h
theorem OI.near {g : List Bool} {W H tgt : Int} (l : Lnd g W H) {o : List Int} (I : OI g W H tgt [] o) {x : Int} (x0 : 0 ≤ x) (x1 : x < (g.length : Int)) (hx : 0 ≤ rd o x) {s : Nat} (s0 : s < 8) (h : 0 ≤ gs g W H x s) : 0 ≤ rd o (gs g W H x s) := by
  rcases (I.fn x x0 x1 hx).2.2.2.2 s s0 h with h | ⟨y, hy, _⟩
  · exact h
  · cases hy
theorem OI.small {g : List Bool} {W H tgt : Int} (l : Lnd g W H) {o : List Int} (I : OI g W H tgt [] o) {x : Int} (x0 : 0 ≤ x) (x1 : x < (g.length : Int)) (hx : 0 ≤ rd o x) : rd o x ≤ 3 * (g.length : Int) := by
  have := (I.fn x x0 x1 hx).2.2.1
  omega
theorem find_spec {g : List Bool} {W H tgt : Int} (l : Lnd g W H) {o : List Int} (I : OI g W H tgt [] o) {x : Int} (x0 : 0 ≤ x) (x1 : x < (g.length : Int)) (hx : 0 ≤ rd o x) (hn : g.length ≤ 4096) :
    ∀ (d i : Nat), d + i = 8 → (∃ s, i ≤ s ∧ s < 8 ∧ 0 ≤ gs g W H x s ∧ rd o (gs g W H x s) + (hSt s).2.2 = rd o x) → ∃ y, hFind W H g o x d i = some y ∧ (0 ≤ y ∧ y < (g.length : Int)) ∧ g.getD y.toNat false = true ∧ 0 ≤ rd o y ∧ rd o y < rd o x
  | 0, i, hi, ⟨s, s0, s1, _⟩ => by omega
  | d + 1, i, hi, ⟨s, s0, s1, s2, s3⟩ => by
    obtain ⟨⟨a0, a1⟩, ⟨b0, b1⟩, cb⟩ := hSt_b i
    have len := I.len
    simp only [hFind]
    rw [goes_eq l x0 x1 a0 a1 b0 b1]
    simp only [Option.bind_some]
    show ∃ y, (if 0 ≤ gs g W H x i then _ else _) = some y ∧ _
    by_cases hg : 0 ≤ gs g W H x i
    · have gt := go_to l x0 x1 hg
      have gt1 : gs g W H x i < (g.length : Int) := gt.2.2.2.2.1
      have r0 := I.near l x0 x1 hx (by omega : i < 8) hg
      have r1 := I.small l hg gt1 r0
      have r0' : 0 ≤ rd o (go g W H x (hSt i).1 (hSt i).2.1) := r0
      have r1' : rd o (go g W H x (hSt i).1 (hSt i).2.1) ≤ 3 * (g.length : Int) := r1
      rw [if_pos hg, if_pos ⟨by rw [len]; exact gt1, x0, by rw [len]; exact x1⟩, w64r (by omega) (by omega)]
      by_cases he : rd o (gs g W H x i) + (hSt i).2.2 = rd o x
      · rw [if_pos he]
        exact ⟨_, rfl, ⟨hg, gt1⟩, gt.2.2.2.2.2.1, r0, by have he' : rd o (gs g W H x i) + (hSt i).2.2 = rd o x := he; show rd o (gs g W H x i) < rd o x; omega⟩
      · rw [if_neg he]
        exact find_spec l I x0 x1 hx hn d (i + 1) (by omega) ⟨s, by rcases (by omega : s = i ∨ i + 1 ≤ s) with rfl | h; exact absurd s3 he; exact h, s1, s2, s3⟩
    · rw [if_neg hg]
      exact find_spec l I x0 x1 hx hn d (i + 1) (by omega) ⟨s, by rcases (by omega : s = i ∨ i + 1 ≤ s) with rfl | h; exact absurd s2 hg; exact h, s1, s2, s3⟩
theorem way_spec {g : List Bool} {W H tgt : Int} (l : Lnd g W H) {o : List Int} (I : OI g W H tgt [] o) (hn : g.length ≤ 4096) : ∀ (M : Nat) (x : Int) (q : List Int), 0 ≤ x → x < (g.length : Int) → 0 ≤ rd o x → rd o x ≤ (M : Int) → q.length + M ≤ 100000 → q ≠ [] →
    (∀ y ∈ q, (0 ≤ y ∧ y < (g.length : Int)) ∧ g.getD y.toNat false = true) → ∀ k, M < k → ∃ r, hWay W H g o tgt k x q = some r ∧ r ≠ [] ∧ r.length ≤ 100000 ∧ ∀ y ∈ r, (0 ≤ y ∧ y < (g.length : Int)) ∧ g.getD y.toNat false = true
  | M, x, q, x0, x1, hx, hM, hq, hne, hall, k, hk => by
    obtain ⟨k, rfl⟩ : ∃ d, k = d + 1 := ⟨k - 1, by omega⟩
    simp only [hWay]
    by_cases ht : x = tgt
    · rw [if_pos ht]
      exact ⟨q, rfl, hne, by omega, hall⟩
    · rw [if_neg ht, if_pos (by omega)]
      rcases (I.fn x x0 x1 hx).2.2.2.1 with h | ⟨s, s0, s1, s2, s3⟩
      · exact absurd h ht
      · obtain ⟨y, e, ⟨y0, y1⟩, yo, yr, yl⟩ := find_spec l I x0 x1 hx hn 8 0 rfl ⟨s, Nat.zero_le _, s0, s1, s3⟩
        rw [e]
        simp only [Option.bind_some]
        cases M with
        | zero => omega
        | succ M =>
          exact way_spec l I hn M y (q ++ [y]) y0 y1 yr (by omega) (by rw [List.length_append, List.length_singleton]; omega) (by simp) (fun z hz => by
            rcases List.mem_append.1 hz with h | h
            · exact hall z h
            · rw [List.mem_singleton] at h; subst h; exact ⟨⟨y0, y1⟩, yo⟩) k (by omega)

theorem cells_at {W H Wt c m : Int} {l : List Int} (m0 : 0 ≤ m) (m1 : m < W * H) : (cells W H Wt l c).getD m.toNat false = isO W Wt l c (m % W) (m / W) := by
  unfold cells
  rw [List.getD_eq_getElem?_getD, List.getElem?_map, List.getElem?_range (by omega)]
  show isO W Wt l c ((m.toNat : Nat) % W : Int) ((m.toNat : Nat) / W : Int) = _
  rw [Int.toNat_of_nonneg m0]
theorem Lnd.of {W H Wt : Int} {l : List Int} (ok : Ok W H Wt l) (c : Int) : Lnd (cells W H Wt l c) W H := by
  have hwh := wh ok.w0 ok.w1 ok.h0 ok.h1
  exact ⟨ok.w0, ok.w1, ok.h0, ok.h1, by rw [cells_len]; omega⟩
theorem Lnd.le {g : List Bool} {W H : Int} (l : Lnd g W H) : 1 ≤ g.length ∧ g.length ≤ 4096 := by
  have hwh := wh l.w0 l.w1 l.h0 l.h1
  have n := l.n
  omega
theorem may_ok {g : List Bool} {W H : Int} (l : Lnd g W H) : route_may.f W H g = some true := by
  have hwh := wh l.w0 l.w1 l.h0 l.h1
  unfold route_may.f
  rw [if_pos l.w0, if_pos l.w1, if_pos l.h0, if_pos l.h1, hwh.2.2, l.n]
  simp
theorem costs_no {g : List Bool} {W H t : Int} (l : Lnd g W H) (k : Nat) (h : ¬ (0 ≤ t ∧ t < (g.length : Int))) : route_Costs.f k W H g t = some ([], 4) := by
  unfold route_Costs.f
  rw [may_ok l]
  simp only [Option.bind_some]
  rw [if_pos trivial, if_pos (by omega)]
theorem costs_shut {g : List Bool} {W H t : Int} (l : Lnd g W H) (k : Nat) (h : 0 ≤ t ∧ t < (g.length : Int)) (ho : g.getD t.toNat false = false) : route_Costs.f k W H g t = some (List.replicate g.length (-1), 0) := by
  unfold route_Costs.f
  rw [may_ok l]
  simp only [Option.bind_some]
  rw [if_pos trivial, if_neg (by omega), if_pos l.le, if_neg (by show ¬ g.getD t.toNat false = true; rw [ho]; decide)]
theorem costs_open {g : List Bool} {W H t : Int} (l : Lnd g W H) {k : Nat} (hk : 40000 ≤ k) (h : 0 ≤ t ∧ t < (g.length : Int)) (ho : g.getD t.toNat false = true) : ∃ o, route_Costs.f k W H g t = some (o, 0) ∧ OI g W H t [] o := by
  have le := l.le
  obtain ⟨o, e, I⟩ := hOut_spec l h.1 h.2 (1 + 8 * g.length) [(t, 0)] (List.replicate g.length (-1)) (by rw [neg_rep]; simp) (by omega) (OI.start h.1 h.2 ho) k (by omega)
  refine ⟨o, ?_, I⟩
  unfold route_Costs.f
  rw [may_ok l]
  simp only [Option.bind_some]
  rw [if_pos trivial, if_neg (by omega), if_pos le, if_pos (show rdOf false g t = true from ho), e]
  rfl
theorem cost_of {g : List Bool} {W H a b : Int} {k : Nat} {o : List Int} (h : route_Costs.f (k + 1) W H g b = some (o, 0)) : route_Cost.f (k + 1) W H g a b = some (if ¬ (0 ≤ a ∧ a < (o.length : Int)) then (0, 4) else if rd o a < 0 then (0, 6) else (rd o a, 0)) := by
  unfold route_Cost.f
  rw [h]
  simp only [Option.bind_some]
  rw [if_pos trivial]
  by_cases h0 : a < 0
  · rw [if_pos h0, if_pos (by omega)]
    simp only [route_Cost.j0]
    rw [if_pos trivial]
  · rw [if_neg h0]
    by_cases h1 : a ≥ (o.length : Int)
    · rw [decide_eq_true h1, if_pos (by omega)]
      simp only [route_Cost.j0]
      rw [if_pos trivial]
    · rw [decide_eq_false h1, if_neg (by omega)]
      simp only [route_Cost.j0]
      rw [if_neg (by decide), if_pos (by omega), if_pos (by omega)]
      split <;> rfl
/-- What a land's ways come to. -/
theorem roads_core {g : List Bool} {W H a b : Int} (l : Lnd g W H) {k : Nat} (hk : 40001 ≤ k) :
    ∃ c e w, route_Cost.f k W H g a b = some (c, e) ∧ route_Way.f k W H g a b 1048576 = some (w, e) ∧ 0 ≤ c ∧ w.length ≤ 100000 ∧ (e = 0 ↔ (0 ≤ a ∧ a < (g.length : Int)) ∧ (0 ≤ b ∧ b < (g.length : Int)) ∧ g.getD b.toNat false = true ∧ Conn g W b a) ∧ (e = 0 ↔ 0 < w.length) ∧
      ∀ y ∈ w, (0 ≤ y ∧ y < (g.length : Int)) ∧ g.getD y.toNat false = true := by
  obtain ⟨k, rfl⟩ : ∃ d, k = d + 1 := ⟨k - 1, by omega⟩
  have le := l.le
  have no : ∀ (c e : Int), route_Cost.f (k + 1) W H g a b = some (c, e) → e ≠ 0 → route_Way.f (k + 1) W H g a b 1048576 = some ([], e) := by
    intro c e h he
    unfold route_Way.f
    rw [h]
    simp only [Option.bind_some]
    rw [if_neg he]
  by_cases hb : 0 ≤ b ∧ b < (g.length : Int)
  · cases ho : g.getD b.toNat false
    · have hc := costs_shut l (k + 1) hb ho
      have h := cost_of (a := a) hc
      have he : ∃ e, e ≠ 0 ∧ route_Cost.f (k + 1) W H g a b = some (0, e) := by
        by_cases ha : 0 ≤ a ∧ a < ((List.replicate g.length (-1 : Int)).length : Int)
        · rw [if_neg (fun q => q ha), if_pos (by rw [List.length_replicate] at ha; rw [rd_rep _ ha.1 ha.2]; decide)] at h
          exact ⟨6, by decide, h⟩
        · rw [if_pos ha] at h
          exact ⟨4, by decide, h⟩
      obtain ⟨e, he0, he⟩ := he
      exact ⟨0, e, [], he, no _ _ he he0, Int.le_refl _, by simp, ⟨fun q => absurd q he0, fun q => by have := q.2.2.1; simp at this⟩, ⟨fun q => absurd q he0, fun q => by simp at q⟩, fun y hy => by cases hy⟩
    · obtain ⟨o, hc, I⟩ := costs_open l (k := k + 1) (by omega) hb ho
      have h := cost_of (a := a) hc
      have len := I.len
      by_cases ha : 0 ≤ a ∧ a < (g.length : Int)
      · rw [if_neg (fun q => q (by rw [len]; exact ha))] at h
        by_cases hr : rd o a < 0
        · rw [if_pos hr] at h
          exact ⟨0, 6, [], h, no _ _ h (by decide), Int.le_refl _, by simp, ⟨fun q => absurd q (by decide), fun q => by have := I.conn l hb.1 hb.2 q.2.2.2; omega⟩, ⟨fun q => absurd q (by decide), fun q => by simp at q⟩, fun y hy => by cases hy⟩
        · rw [if_neg hr] at h
          have r0 : 0 ≤ rd o a := by omega
          have r1 := I.small l ha.1 ha.2 r0
          have fa := I.fn a ha.1 ha.2 r0
          obtain ⟨r, e, r2, r3, r4⟩ := way_spec l I le.2 (rd o a).toNat a [a] ha.1 ha.2 r0 (by omega) (by simp; omega) (by simp) (fun y hy => by rw [List.mem_singleton] at hy; subst hy; exact ⟨ha, fa.1⟩) (k + 1) (by omega)
          refine ⟨rd o a, 0, r, h, ?_, r0, r3, ⟨fun _ => ⟨ha, hb, rfl, fa.2.1⟩, fun _ => rfl⟩, ⟨fun _ => List.length_pos_iff.2 r2, fun _ => rfl⟩, r4⟩
          unfold route_Way.f
          rw [h]
          simp only [Option.bind_some]
          rw [if_pos trivial, if_neg (by omega), hc]
          simp only [Option.bind_some]
          rw [if_pos (by rw [len]; exact le), e]
          rfl
      · rw [if_pos (fun q => ha (by rw [len] at q; exact q))] at h
        exact ⟨0, 4, [], h, no _ _ h (by decide), Int.le_refl _, by simp, ⟨fun q => absurd q (by decide), fun q => absurd q.1 ha⟩, ⟨fun q => absurd q (by decide), fun q => by simp at q⟩, fun y hy => by cases hy⟩
  · have hc := costs_no l (k + 1) hb
    have h : route_Cost.f (k + 1) W H g a b = some (0, 4) := by
      unfold route_Cost.f
      rw [hc]
      simp only [Option.bind_some]
      rw [if_neg (by decide)]
    exact ⟨0, 4, [], h, no _ _ h (by decide), Int.le_refl _, by simp, ⟨fun q => absurd q (by decide), fun q => absurd q.2.1 hb⟩, ⟨fun q => absurd q (by decide), fun q => by simp at q⟩, fun y hy => by cases hy⟩
theorem joined_iff {g : List Bool} {W H : Int} (l : Lnd g W H) {L : List Int} (hL : Good g W L) (a b : Int) : ground_Joined.o L 0 a b = true ↔ (0 ≤ a ∧ a < (g.length : Int)) ∧ (0 ≤ b ∧ b < (g.length : Int)) ∧ g.getD b.toNat false = true ∧ Conn g W b a := by
  have w0 : 0 < W := by have := l.w0; omega
  have ra : rd L a = L.getD a.toNat 0 := rfl
  have rb : rd L b = L.getD b.toNat 0 := rfl
  unfold ground_Joined.o
  rw [decide_eq_true_eq, hL.len, ra, rb]
  constructor
  · rintro ⟨_, a0, a1, b0, b1, h0, h1⟩
    have oa : g.getD a.toNat false = true := by
      cases h : g.getD a.toNat false
      · have := hL.shut a a0 a1 h; omega
      · rfl
    have ob : g.getD b.toNat false = true := by
      cases h : g.getD b.toNat false
      · have := hL.shut b b0 b1 h; omega
      · rfl
    have ca := (hL.num a a0 a1 oa).2.2.2
    have cb := (hL.num b b0 b1 ob).2.2.2
    rw [← h1] at cb
    exact ⟨⟨a0, a1⟩, ⟨b0, b1⟩, ob, cb.trans (ca.symm w0)⟩
  · rintro ⟨⟨a0, a1⟩, ⟨b0, b1⟩, ob, c⟩
    have e := hL.conn c
    have n := (hL.num b b0 b1 ob).1
    exact ⟨rfl, a0, a1, b0, b1, by omega, e.symm⟩
theorem roads_l0 {W H Wt c : Int} {l : List Int} (ok : Ok W H Wt l) (c0 : 0 ≤ c) (c5 : c ≤ 5) {w : List Int} (hl : w.length ≤ 100000) (hw : ∀ y ∈ w, (0 ≤ y ∧ y < ((cells W H Wt l c).length : Int)) ∧ (cells W H Wt l c).getD y.toNat false = true) :
    ∀ (d i k : Nat), i + d = w.length → d + 1 < k → bivouactop_BivouacRoads.l0 k c w (i : Int) W H Wt l = some true
  | 0, i, k, hi, hk => by
    obtain ⟨k, rfl⟩ : ∃ q, k = q + 1 := ⟨k - 1, by omega⟩
    simp only [bivouactop_BivouacRoads.l0]
    rw [if_neg (by omega)]
  | d + 1, i, k, hi, hk => by
    obtain ⟨k, rfl⟩ : ∃ q, k = q + 1 := ⟨k - 1, by omega⟩
    have w0 := ok.w0
    have h1 := ok.h1
    have ll := Lnd.of ok c
    have hm : rd w (i : Int) ∈ w := by
      show w.getD ((i : Int).toNat) 0 ∈ w
      rw [Int.toNat_natCast, List.getD_eq_getElem?_getD, List.getElem?_eq_getElem (by omega)]
      exact List.getElem_mem _
    obtain ⟨⟨y0, y1⟩, yo⟩ := hw _ hm
    have n := ll.n
    have ym : rd w (i : Int) < W * H := by omega
    have hc := cell_in w0 y0 ym
    rw [cells_at y0 ym] at yo
    simp only [bivouactop_BivouacRoads.l0]
    rw [if_pos (by omega), if_pos (by omega), if_neg (by omega), Int.tmod_eq_emod_of_nonneg y0, Int.tdiv_eq_ediv_of_nonneg y0, w64 (i := rd w (i : Int) / W) (by omega) (by omega), open_eq (by omega) ok.b, if_pos ⟨c0, c5, (chk_zero ok.b).2 ok⟩, if_pos hc]
    simp only [Option.bind_some]
    rw [if_pos trivial, if_pos yo, w64 (by omega) (by omega), show (i : Int) + 1 = ((i + 1 : Nat) : Int) by omega]
    exact roads_l0 ok c0 c5 hl hw d (i + 1) k (by omega) (by omega)
theorem two_ok : Ok 2 1 0 (List.replicate 6 0) := (chk_zero (by intro x hx; rw [List.mem_replicate] at hx; omega)).1 (by decide)
theorem BivouacRoads : bivouactop_BivouacRoads.Pure := by
  intro W H Wt l c a b _ _ _ _ hl _ _ _
  have hb := take_b hl
  obtain ⟨K, hK⟩ : ∃ K, K = 200000 := ⟨_, rfl⟩
  refine ⟨K + 2, ?_⟩
  unfold bivouactop_BivouacRoads.f
  rw [few_eq]
  simp only [Option.bind_some]
  generalize l.take 4300 = l at hb ⊢
  have two : ground_Joined.f (K + 2) 2 1 0 (List.replicate 6 0) 0 0 1 = some true := by
    obtain ⟨L, hL, hR⟩ := regs two_ok (c := 0) (by decide) (by decide)
    unfold ground_Joined.f
    rw [hR _ (by omega)]
    simp only [Option.bind_some]
    congr 1
    rw [joined_iff (Lnd.of two_ok 0) hL]
    have e : cells 2 1 0 (List.replicate 6 0) 0 = [true, true] := by decide +kernel
    rw [e]
    refine ⟨by decide, by decide, by decide, (Conn.refl _).step ⟨by decide, by decide, by decide, by decide, by decide, by decide, ?_⟩⟩
    exact .inr (.inr (.inr ⟨by decide, by decide⟩))
  rw [if_pos (by decide), two]
  simp only [Option.bind_some]
  rw [if_pos trivial, grid_eq (by omega) hb]
  simp only [Option.bind_some]
  by_cases hc : 0 ≤ c ∧ c ≤ 5 ∧ chk W H Wt l = 0
  · have ok := (chk_zero hb).1 hc.2.2
    have ll := Lnd.of ok c
    rw [if_pos hc]
    dsimp only
    rw [if_pos rfl]
    by_cases hn : ((cells W H Wt l c).length : Int) > 400
    · rw [decide_eq_true hn]
      simp only [bivouactop_BivouacRoads.j0]
      rw [if_pos trivial, if_pos hn]
    · rw [decide_eq_false hn]
      obtain ⟨L, hL, hR⟩ := regs ok (c := c) hc.1 hc.2.1
      obtain ⟨co, e, w, h1, h2, h3, h4, h5, h6, h7⟩ := roads_core (a := a) (b := b) ll (k := K + 1) (by omega)
      have hj : ground_Joined.f (K + 1) W H Wt l c a b = some (ground_Joined.o L 0 a b) := by
        unfold ground_Joined.f
        rw [hR _ (by omega)]
        rfl
      have ji := joined_iff ll hL a b
      simp only [bivouactop_BivouacRoads.j0]
      rw [if_neg (by decide), h1, h2, hj]
      simp only [Option.bind_some]
      have e1 : (e == 0) = ground_Joined.o L 0 a b := by
        rw [Bool.eq_iff_iff, ji, ← h5, beq_iff_eq]
      have e2 : (e == 0) = decide ((w.length : Int) > 0) := by
        rw [Bool.eq_iff_iff, beq_iff_eq, h6, decide_eq_true_eq]; omega
      rw [if_neg (by rw [e1]; simp), if_pos trivial, if_neg (by rw [e2]; simp), decide_eq_false (by omega)]
      simp only [bivouactop_BivouacRoads.j1]
      rw [if_neg (by decide)]
      exact roads_l0 ok hc.1 hc.2.1 h4 h7 w.length 0 K (by omega) (by omega)
  · rw [if_neg hc]
    dsimp only
    rw [if_neg (by decide)]
    simp only [bivouactop_BivouacRoads.j0]
    rw [if_pos trivial, if_neg (by decide), if_pos (by decide)]
    have hj : ground_Joined.f (K + 1) W H Wt l c a b = some false := by
      unfold ground_Joined.f
      rw [regs_no (by omega) hb c hc]
      simp [ground_Joined.o]
    rw [hj]
    rfl

end Go.Proofs.Ytdmmlidgipedaaa.Pure
