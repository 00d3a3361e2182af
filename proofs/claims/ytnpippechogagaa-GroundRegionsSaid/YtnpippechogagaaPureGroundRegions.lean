/- Every map's regions are the reference's; which cells are joined is as they say. For all maps, classes and cells. -/
import Derived.Test.YtnpippechogagaaGAbivouaclaw07GroundRegions
import Derived.Test.YtnpippechogagaaGAbivouaclaw07awake
import Derived.Test.YtnpippechogagaaGAbivouacref07Open
import Derived.Test.YtnpippechogagaaGAgroundJoined
import Derived.Test.YtnpippechogagaaGAgroundRegions
import Derived.Test.YtnpippechogagaaGAreliefDepth
import Derived.Test.YtnpippechogagaaGAreliefSlope
import Derived.Test.YtnpippechogagaaPAx1
import Derived.Test.YtnpippechogagaaPAx10
import Derived.Test.YtnpippechogagaaPAx11
import Derived.Test.YtnpippechogagaaPAx16
import Derived.Test.YtnpippechogagaaPAx17
import Derived.Test.YtnpippechogagaaPAx18
import Derived.Test.YtnpippechogagaaPAx19
import Derived.Test.YtnpippechogagaaPAx2
import Derived.Test.YtnpippechogagaaPAx20
import Derived.Test.YtnpippechogagaaPAx23
import Derived.Test.YtnpippechogagaaPAx25
import Derived.Test.YtnpippechogagaaPAx26
import Derived.Test.YtnpippechogagaaPAx5
import Derived.Test.YtnpippechogagaaPAx6
import Derived.Test.YtnpippechogagaaPAx9
import Derived.OpenShut
namespace Go.Proofs.Ytnpippechogagaa.Pure
open Go.RowKit Go.Proofs.Ytnpippechogagaa.PA Go.Proofs.YtnpippechogagaaW.PrintWords Go.Proofs.YtnpippechogagaaW.PrintLast Go.Proofs.YtnpippechogagaaW.PrintMore
set_option linter.unusedVariables false
set_option linter.unusedSimpArgs false

end Go.Proofs.Ytnpippechogagaa.Pure
namespace Go.Proofs.Ytnpippechogagaa.L
open Go.RowKit Go.Proofs.Ytnpippechogagaa.PA Go.Proofs.YtnpippechogagaaW.PrintWords Go.Proofs.YtnpippechogagaaW.PrintLast Go.Proofs.YtnpippechogagaaW.PrintMore
set_option linter.unusedVariables false
set_option linter.unusedSimpArgs false

theorem w64 {i : Int} (h0 : -9223372036854775808 ≤ i) (h1 : i ≤ 9223372036854775807) : wrap64 i = i := by unfold wrap64; omega
theorem mulb {a b A B : Int} (ha : 0 ≤ a) (hA : a ≤ A) (hb : 0 ≤ b) (hB : b ≤ B) : 0 ≤ a * b ∧ a * b ≤ A * B :=
  ⟨Int.mul_nonneg ha hb, Int.le_trans (Int.mul_le_mul_of_nonneg_right hA hb) (Int.mul_le_mul_of_nonneg_left hB (Int.le_trans ha hA))⟩

/-- May a map be? -/
structure Ok (W H Wt : Int) (l : List Int) : Prop where
  w0 : 1 ≤ W
  w1 : W ≤ 64
  h0 : 1 ≤ H
  h1 : H ≤ 64
  t0 : 0 ≤ Wt
  t1 : Wt ≤ 255
  n : (l.length : Int) = (W + 1) * (H + 1)
  b : ∀ x ∈ l, 0 ≤ x ∧ x ≤ 255

/-- The error's number of a map. -/
def chk (W H Wt : Int) (l : List Int) : Int :=
  if 1 ≤ W ∧ W ≤ 64 ∧ 1 ≤ H ∧ H ≤ 64 ∧ 0 ≤ Wt ∧ Wt ≤ 255 then if (l.length : Int) < (W + 1) * (H + 1) then 2 else if (l.length : Int) > (W + 1) * (H + 1) then 7 else 0 else 1

theorem area {W H : Int} (w0 : 1 ≤ W) (w1 : W ≤ 64) (h0 : 1 ≤ H) (h1 : H ≤ 64) : wrap64 (wrap64 (W + 1) * wrap64 (H + 1)) = (W + 1) * (H + 1) ∧ 4 ≤ (W + 1) * (H + 1) ∧ (W + 1) * (H + 1) ≤ 4225 := by
  have h := mulb (a := W + 1) (b := H + 1) (A := 65) (B := 65) (by omega) (by omega) (by omega) (by omega)
  have g := mulb (a := W - 1) (b := H - 1) (A := 63) (B := 63) (by omega) (by omega) (by omega) (by omega)
  have e : (W + 1) * (H + 1) = (W - 1) * (H - 1) + 2 * W + 2 * H := by grind
  refine ⟨?_, by omega, by omega⟩
  rw [w64 (i := W + 1) (by omega) (by omega), w64 (i := H + 1) (by omega) (by omega), w64 (by omega) (by omega)]

theorem chk_zero {W H Wt : Int} {l : List Int} (hb : ∀ x ∈ l, 0 ≤ x ∧ x ≤ 255) : chk W H Wt l = 0 ↔ Ok W H Wt l := by
  unfold chk
  constructor
  · intro h
    split at h
    · rename_i hr
      obtain ⟨a, b, c, d, e, f⟩ := hr
      split at h
      · omega
      · split at h
        · omega
        · exact ⟨a, b, c, d, e, f, by omega, hb⟩
    · omega
  · intro h
    rw [if_pos ⟨h.w0, h.w1, h.h0, h.h1, h.t0, h.t1⟩, if_neg (by have := h.n; omega), if_neg (by have := h.n; omega)]

theorem check_eq {k : Nat} (hk : 1 ≤ k) (W H Wt : Int) (l : List Int) : relief_Check.f k W H Wt l = some (chk W H Wt l) := by
  obtain ⟨k, rfl⟩ : ∃ m, k = m + 1 := ⟨k - 1, by omega⟩
  unfold relief_Check.f chk
  simp only [relief_Check.j0]
  by_cases hr : 1 ≤ W ∧ W ≤ 64 ∧ 1 ≤ H ∧ H ≤ 64 ∧ 0 ≤ Wt ∧ Wt ≤ 255
  · have hr2 := hr
    obtain ⟨a, b, c, d, e, f⟩ := hr2
    rw [if_pos hr, if_neg (by omega), if_neg (by omega), if_neg (by omega), if_neg (by omega), if_neg (by omega), if_neg (by simpa using f), (area a b c d).1]
    repeat' split
    all_goals first | rfl | (exfalso; omega)
  · rw [if_neg hr]
    by_cases h1 : W < 1
    · rw [if_pos h1]; simp
    rw [if_neg h1]
    by_cases h2 : W > 64
    · rw [if_pos h2]; simp
    rw [if_neg h2]
    by_cases h3 : H < 1
    · rw [if_pos h3]; simp
    rw [if_neg h3]
    by_cases h4 : H > 64
    · rw [if_pos h4]; simp
    rw [if_neg h4]
    by_cases h5 : Wt < 0
    · rw [if_pos h5]; simp
    rw [if_neg h5, if_pos (by simp; omega)]

theorem refCheck_eq {k : Nat} (hk : 1 ≤ k) (W H Wt : Int) (l : List Int) : bivouacref06_Check.f k W H Wt l = some (chk W H Wt l) := by
  obtain ⟨k, rfl⟩ : ∃ m, k = m + 1 := ⟨k - 1, by omega⟩
  unfold bivouacref06_Check.f chk
  simp only [bivouacref06_Check.j0]
  by_cases hr : 1 ≤ W ∧ W ≤ 64 ∧ 1 ≤ H ∧ H ≤ 64 ∧ 0 ≤ Wt ∧ Wt ≤ 255
  · have hr2 := hr
    obtain ⟨a, b, c, d, e, f⟩ := hr2
    rw [if_pos hr, if_pos a, if_pos b, if_pos c, if_pos d, if_pos e, if_neg (by simpa using f), (area a b c d).1]
    repeat' split
    all_goals first | rfl | (exfalso; omega)
  · rw [if_neg hr]
    by_cases h1 : 1 ≤ W
    · rw [if_pos h1]
      by_cases h2 : W ≤ 64
      · rw [if_pos h2]
        by_cases h3 : 1 ≤ H
        · rw [if_pos h3]
          by_cases h4 : H ≤ 64
          · rw [if_pos h4]
            by_cases h5 : 0 ≤ Wt
            · rw [if_pos h5, if_pos (by simp; omega)]
            · rw [if_neg h5]; simp
          · rw [if_neg h4]; simp
        · rw [if_neg h3]; simp
      · rw [if_neg h2]; simp
    · rw [if_neg h1]; simp

theorem few_eq (W H Wt : Int) (l : List Int) : bivouaclaw07_few.f W H Wt l = some (W, H, Wt, l.take 4300) := by
  unfold bivouaclaw07_few.f
  by_cases h : (l.length : Int) > 4300
  · rw [if_pos h, if_pos (by omega)]
  · rw [if_neg h, List.take_of_length_le (by omega)]

theorem take_b {l : List Int} (h : ∀ x ∈ l, (Lit.int .u8 x).wf = true) : ∀ x ∈ l.take 4300, 0 ≤ x ∧ x ≤ 255 := fun x hx => Go.bounds_u8 (h x (List.mem_of_mem_take hx))

/-- A corner's height. -/
def cor (W : Int) (l : List Int) (i j : Int) : Int := rd l ((W + 1) * j + i)

theorem rd_b {l : List Int} (hb : ∀ x ∈ l, 0 ≤ x ∧ x ≤ 255) (i : Int) : 0 ≤ rd l i ∧ rd l i ≤ 255 := by
  unfold rd
  rw [List.getD_eq_getElem?_getD]
  rcases Nat.lt_or_ge i.toNat l.length with h | h
  · rw [List.getElem?_eq_getElem h]; exact hb _ (List.getElem_mem h)
  · rw [List.getElem?_eq_none h]; decide

theorem Ok.idx {W H Wt : Int} {l : List Int} (h : Ok W H Wt l) {i j : Int} (i0 : 0 ≤ i) (i1 : i ≤ W) (j0 : 0 ≤ j) (j1 : j ≤ H) :
    wrap64 (wrap64 (wrap64 (W + 1) * j) + i) = (W + 1) * j + i ∧ 0 ≤ (W + 1) * j + i ∧ (W + 1) * j + i < (l.length : Int) ∧ (l.length : Int) ≤ 4225 := by
  have hw := h.w1
  have hw0 := h.w0
  have hh := h.h1
  have a := (area h.w0 h.w1 h.h0 h.h1)
  have e := h.n
  have b := mulb (a := W + 1) (b := j) (A := W + 1) (B := H) (by omega) (by omega) j0 j1
  have f : (W + 1) * (H + 1) = (W + 1) * H + W + 1 := by grind
  refine ⟨?_, by omega, by omega, by omega⟩
  rw [w64 (i := W + 1) (by omega) (by omega), w64 (i := (W + 1) * j) (by omega) (by omega), w64 (by omega) (by omega)]

theorem Ok.cor_b {W H Wt : Int} {l : List Int} (h : Ok W H Wt l) (i j : Int) : 0 ≤ cor W l i j ∧ cor W l i j ≤ 255 := rd_b h.b _

theorem refCorner_eq {W H Wt : Int} {l : List Int} (h : Ok W H Wt l) {i j : Int} (i0 : 0 ≤ i) (i1 : i ≤ W) (j0 : 0 ≤ j) (j1 : j ≤ H) : bivouacref06_Corner.f W H Wt l i j = some (cor W l i j) := by
  obtain ⟨e, a, b, c⟩ := h.idx i0 i1 j0 j1
  unfold bivouacref06_Corner.f
  rw [e, if_pos a, if_pos b]
  have := h.cor_b i j
  unfold cor at *
  rw [w64 (by omega) (by omega)]

theorem corners_eq {W H Wt : Int} {l : List Int} (h : Ok W H Wt l) {i j : Int} (i0 : 0 ≤ i) (i1 : i < W) (j0 : 0 ≤ j) (j1 : j < H) :
    relief_corners.f W H Wt l i j = some (cor W l i j, cor W l (i + 1) j, cor W l i (j + 1), cor W l (i + 1) (j + 1)) := by
  obtain ⟨e, a, b, c⟩ := h.idx (i := i) (j := j) i0 (by omega) j0 (by omega)
  obtain ⟨_, a1, b1, _⟩ := h.idx (i := i + 1) (j := j) (by omega) (by omega) j0 (by omega)
  obtain ⟨_, a2, b2, _⟩ := h.idx (i := i) (j := j + 1) (by omega) (by omega) (by omega) (by omega)
  obtain ⟨_, a3, b3, _⟩ := h.idx (i := i + 1) (j := j + 1) (by omega) (by omega) (by omega) (by omega)
  have q0 := h.cor_b i j
  have q1 := h.cor_b (i + 1) j
  have q2 := h.cor_b i (j + 1)
  have q3 := h.cor_b (i + 1) (j + 1)
  unfold relief_corners.f cor at *
  have f : (W + 1) * (j + 1) = (W + 1) * j + W + 1 := by grind
  rw [f] at a2 b2 a3 b3 q2 q3 ⊢
  rw [e]
  have w0 := h.w0
  have w1 := h.w1
  generalize (W + 1) * j = m at *
  have e1 : wrap64 (m + i + 1) = m + (i + 1) := by rw [w64 (by omega) (by omega)]; omega
  have e2 : wrap64 (wrap64 (m + i + W) + 1) = m + W + 1 + i := by rw [w64 (i := m + i + W) (by omega) (by omega), w64 (by omega) (by omega)]; omega
  have e3 : wrap64 (m + W + 1 + i + 1) = m + W + 1 + (i + 1) := by rw [w64 (by omega) (by omega)]; omega
  rw [e1, e2, e3, if_pos a, if_pos b, if_pos a1, if_pos b1]
  rw [if_pos a2, if_pos b2, if_pos a3, if_pos b3]
  rw [w64 (by omega) (by omega), w64 (by omega) (by omega), w64 (by omega) (by omega), w64 (by omega) (by omega)]

theorem mn_self (a : Int) : mn a a = a := by unfold mn; split <;> rfl
theorem mx_self (a : Int) : mx a a = a := by unfold mx; split <;> rfl
theorem mn_le (a b : Int) : mn a b ≤ a ∧ mn a b ≤ b ∧ (mn a b = a ∨ mn a b = b) := by unfold mn; split <;> omega
theorem mx_ge (a b : Int) : a ≤ mx a b ∧ b ≤ mx a b ∧ (mx a b = a ∨ mx a b = b) := by unfold mx; split <;> omega


theorem cell_eq {k : Nat} (hk : 1 ≤ k) {W H Wt : Int} {l : List Int} (hb : ∀ x ∈ l, 0 ≤ x ∧ x ≤ 255) (i j : Int) :
    relief_cell.f k W H Wt l i j = some (if chk W H Wt l = 0 then if 0 ≤ i ∧ i < W ∧ 0 ≤ j ∧ j < H then (cor W l i j, cor W l (i + 1) j, cor W l i (j + 1), cor W l (i + 1) (j + 1), 0) else (0, 0, 0, 0, 4) else (0, 0, 0, 0, 1)) := by
  unfold relief_cell.f
  rw [check_eq hk]
  simp only [Option.bind_some]
  by_cases h : chk W H Wt l = 0
  · have ok := (chk_zero hb).1 h
    rw [if_pos h, if_pos h]
    by_cases hc : 0 ≤ i ∧ i < W ∧ 0 ≤ j ∧ j < H
    · have hc2 := hc
      obtain ⟨a, b, c, d⟩ := hc2
      rw [if_pos hc, if_neg (by omega), if_neg (by omega), if_neg (by omega), if_neg (by omega), corners_eq ok a b c d]
      rfl
    · rw [if_neg hc]
      by_cases h1 : i < 0
      · rw [if_pos h1]
      rw [if_neg h1]
      by_cases h2 : i ≥ W
      · rw [if_pos h2]
      rw [if_neg h2]
      by_cases h3 : j < 0
      · rw [if_pos h3]
      rw [if_neg h3, if_pos (by omega)]
  · rw [if_neg h, if_neg h]

/-- The least and the greatest of a cell's corners. -/
def lo (W : Int) (l : List Int) (i j : Int) : Int := mn (mn (mn (cor W l i j) (cor W l (i + 1) j)) (cor W l i (j + 1))) (cor W l (i + 1) (j + 1))
def hi (W : Int) (l : List Int) (i j : Int) : Int := mx (mx (mx (cor W l i j) (cor W l (i + 1) j)) (cor W l i (j + 1))) (cor W l (i + 1) (j + 1))
theorem lo_hi {W H Wt : Int} {l : List Int} (h : Ok W H Wt l) (i j : Int) : 0 ≤ lo W l i j ∧ lo W l i j ≤ hi W l i j ∧ hi W l i j ≤ 255 ∧
    lo W l i j ≤ cor W l i j ∧ cor W l i j ≤ hi W l i j ∧ lo W l i j ≤ cor W l (i + 1) j ∧ cor W l (i + 1) j ≤ hi W l i j ∧
    lo W l i j ≤ cor W l i (j + 1) ∧ cor W l i (j + 1) ≤ hi W l i j ∧ lo W l i j ≤ cor W l (i + 1) (j + 1) ∧ cor W l (i + 1) (j + 1) ≤ hi W l i j := by
  have q0 := h.cor_b i j
  have q1 := h.cor_b (i + 1) j
  have q2 := h.cor_b i (j + 1)
  have q3 := h.cor_b (i + 1) (j + 1)
  unfold lo hi
  generalize cor W l i j = a at *
  generalize cor W l (i + 1) j = b at *
  generalize cor W l i (j + 1) = c at *
  generalize cor W l (i + 1) (j + 1) = d at *
  have m1 := mn_le a b
  have m2 := mn_le (mn a b) c
  have m3 := mn_le (mn (mn a b) c) d
  have n1 := mx_ge a b
  have n2 := mx_ge (mx a b) c
  have n3 := mx_ge (mx (mx a b) c) d
  omega

theorem slope_eq {k : Nat} (hk : 1 ≤ k) {W H Wt : Int} {l : List Int} (hb : ∀ x ∈ l, 0 ≤ x ∧ x ≤ 255) (i j : Int) :
    relief_Slope.f k W H Wt l i j = some (if chk W H Wt l = 0 then if 0 ≤ i ∧ i < W ∧ 0 ≤ j ∧ j < H then (hi W l i j - lo W l i j, 0) else (0, 4) else (0, 1)) := by
  unfold relief_Slope.f
  rw [cell_eq hk hb]
  simp only [Option.bind_some]
  by_cases h : chk W H Wt l = 0
  · rw [if_pos h, if_pos h]
    by_cases hc : 0 ≤ i ∧ i < W ∧ 0 ≤ j ∧ j < H
    · rw [if_pos hc, if_pos hc]
      have g := lo_hi ((chk_zero hb).1 h) i j
      simp only [mn_self, mx_self]
      unfold lo hi at *
      rw [w64 (by omega) (by omega)]
    · rw [if_neg hc, if_neg hc]; simp only [mn_self, mx_self]; decide +kernel
  · rw [if_neg h, if_neg h]; simp only [mn_self, mx_self]; decide +kernel

theorem depth_eq {k : Nat} (hk : 1 ≤ k) {W H Wt : Int} {l : List Int} (hb : ∀ x ∈ l, 0 ≤ x ∧ x ≤ 255) (i j : Int) :
    relief_Depth.f k W H Wt l i j = some (if chk W H Wt l = 0 then if 0 ≤ i ∧ i < W ∧ 0 ≤ j ∧ j < H then (mx 0 (Wt - lo W l i j), 0) else (0, 4) else (0, 1)) := by
  unfold relief_Depth.f
  rw [cell_eq hk hb]
  simp only [Option.bind_some]
  by_cases h : chk W H Wt l = 0
  · rw [if_pos h, if_pos h]
    by_cases hc : 0 ≤ i ∧ i < W ∧ 0 ≤ j ∧ j < H
    · rw [if_pos hc, if_pos hc]
      have ok := (chk_zero hb).1 h
      have g := lo_hi ok i j
      have t0 := ok.t0
      have t1 := ok.t1
      simp only [mn_self, if_true]
      unfold lo hi at *
      rw [w64 (by omega) (by omega)]
    · rw [if_neg hc, if_neg hc]; rfl
  · rw [if_neg h, if_neg h]; rfl



theorem ends_l0 {W H Wt : Int} {l : List Int} (h : Ok W H Wt l) {i j : Int} (i0 : 0 ≤ i) (i1 : i < W) (j0 : 0 ≤ j) (j1 : j < H) {k : Nat} (hk : 5 ≤ k) :
    bivouacref06_Ends.f k W H Wt l i j = some (lo W l i j, hi W l i j) := by
  obtain ⟨k, rfl⟩ : ∃ m, k = m + 5 := ⟨k - 5, by omega⟩
  have q0 := h.cor_b i j
  have q1 := h.cor_b (i + 1) j
  have q2 := h.cor_b i (j + 1)
  have q3 := h.cor_b (i + 1) (j + 1)
  have w1 := h.w1
  have h1 := h.h1
  have step : ∀ (k : Nat) (n a b : Int), bivouacref06_Ends.l0 (k + 1) i j a b n W H Wt l = if n < 4 then (bivouacref06_Corner.f W H Wt l (wrap64 (i + Int.tmod n 2)) (wrap64 (j + wrap64 (Int.tdiv n 2)))).bind fun t => bivouacref06_Ends.l0 k i j (mn a t) (mx b t) (wrap64 (n + 1)) W H Wt l else some (a, b) := by
    intro k n a b
    simp only [bivouacref06_Ends.l0]
    split
    · congr 1
      funext t
      unfold mn mx
      by_cases ha : t < a
      · rw [if_pos ha, if_pos ha]
        by_cases hb : t > b
        · rw [if_pos hb, if_pos (by omega)]
        · rw [if_neg hb, if_neg (by omega)]
      · rw [if_neg ha, if_neg ha]
        by_cases hb : t > b
        · rw [if_pos hb, if_pos (by omega)]
        · rw [if_neg hb, if_neg (by omega)]
    · rfl
  unfold bivouacref06_Ends.f
  rw [step, if_pos (by decide), show wrap64 (i + Int.tmod 0 2) = i from w64 (by simp; omega) (by simp; omega) |>.trans (by simp), show wrap64 (j + wrap64 (Int.tdiv 0 2)) = j by rw [show wrap64 (Int.tdiv 0 2) = 0 from by decide +kernel]; rw [w64 (by omega) (by omega)]; omega,
    refCorner_eq h i0 (by omega) j0 (by omega)]
  simp only [Option.bind_some]
  rw [show wrap64 ((0 : Int) + 1) = 1 from by decide +kernel, step, if_pos (by decide), show wrap64 (i + Int.tmod 1 2) = i + 1 from by rw [show Int.tmod 1 2 = 1 from by decide]; exact w64 (by omega) (by omega), show wrap64 (j + wrap64 (Int.tdiv 1 2)) = j by rw [show wrap64 (Int.tdiv 1 2) = 0 from by decide +kernel]; rw [w64 (by omega) (by omega)]; omega,
    refCorner_eq h (by omega) (by omega) j0 (by omega)]
  simp only [Option.bind_some]
  rw [show wrap64 ((1 : Int) + 1) = 2 from by decide +kernel, step, if_pos (by decide), show wrap64 (i + Int.tmod 2 2) = i from by rw [show Int.tmod 2 2 = 0 from by decide]; rw [w64 (by omega) (by omega)]; omega, show wrap64 (j + wrap64 (Int.tdiv 2 2)) = j + 1 by rw [show wrap64 (Int.tdiv 2 2) = 1 from by decide +kernel]; exact w64 (by omega) (by omega),
    refCorner_eq h i0 (by omega) (by omega) (by omega)]
  simp only [Option.bind_some]
  rw [show wrap64 ((2 : Int) + 1) = 3 from by decide +kernel, step, if_pos (by decide), show wrap64 (i + Int.tmod 3 2) = i + 1 from by rw [show Int.tmod 3 2 = 1 from by decide]; exact w64 (by omega) (by omega), show wrap64 (j + wrap64 (Int.tdiv 3 2)) = j + 1 by rw [show wrap64 (Int.tdiv 3 2) = 1 from by decide +kernel]; exact w64 (by omega) (by omega),
    refCorner_eq h (by omega) (by omega) (by omega) (by omega)]
  simp only [Option.bind_some]
  rw [show wrap64 ((3 : Int) + 1) = 4 from by decide +kernel, step, if_neg (by decide)]
  have z : mn 255 (cor W l i j) = cor W l i j := by unfold mn; split <;> omega
  have z' : mx 0 (cor W l i j) = cor W l i j := by unfold mx; split <;> omega
  rw [z, z']
  rfl


theorem refDepth_eq {W H Wt : Int} {l : List Int} (h : Ok W H Wt l) {i j : Int} (i0 : 0 ≤ i) (i1 : i < W) (j0 : 0 ≤ j) (j1 : j < H) {k : Nat} (hk : 5 ≤ k) :
    bivouacref06_Depth.f k W H Wt l i j = some (mx 0 (Wt - lo W l i j)) := by
  have g := lo_hi h i j
  have t0 := h.t0
  have t1 := h.t1
  unfold bivouacref06_Depth.f
  rw [ends_l0 h i0 i1 j0 j1 hk]
  simp only [Option.bind_some]
  unfold mx
  by_cases a : lo W l i j ≥ Wt
  · rw [if_pos a, if_neg (by omega)]
  · rw [if_neg a, if_pos (by omega), w64 (by omega) (by omega)]



theorem gopen_eq {c s d : Int} (h0 : 0 ≤ c) (h5 : c ≤ 5) : ground_open.f c s d = some (bivouacref07_Open.o c s d) := by
  unfold ground_open.f bivouacref07_Open.o
  rcases (by omega : c = 0 ∨ c = 1 ∨ c = 2 ∨ c = 3 ∨ c = 4 ∨ c = 5) with rfl | rfl | rfl | rfl | rfl | rfl
  · by_cases h : s ≤ 24 <;> simp [h]
  · by_cases h : d > 0 <;> simp [h]
  all_goals simp

theorem right_eq {k : Nat} (hk : 1 ≤ k) (W H Wt : Int) (l : List Int) (c : Int) : ground_right.f k W H Wt l c = some (decide (0 ≤ c ∧ c ≤ 5 ∧ chk W H Wt l = 0)) := by
  unfold ground_right.f
  by_cases h0 : c ≥ 0
  · rw [if_pos h0]
    by_cases h5 : c ≤ 5
    · rw [if_pos h5, check_eq hk]
      simp only [Option.bind_some]
      by_cases h : chk W H Wt l = 0
      · simp [h, h5, h0]
      · simp [h]
    · rw [if_neg h5]
      simp [h5]
  · rw [if_neg h0]
    simp [h0]
theorem lawRight_eq {k : Nat} (hk : 1 ≤ k) (W H Wt : Int) (l : List Int) (c : Int) : bivouaclaw07_right.f k W H Wt l c = some (decide (0 ≤ c ∧ c ≤ 5 ∧ chk W H Wt l = 0)) := by
  unfold bivouaclaw07_right.f
  rw [refCheck_eq hk]
  simp only [Option.bind_some]
  by_cases h : chk W H Wt l = 0
  · rw [if_pos h]
    by_cases h0 : c ≥ 0
    · rw [if_pos h0]; simp [h, h0]
    · rw [if_neg h0]; simp [h0]
  · rw [if_neg h]; simp [h]

/-- Is a cell open to a class? -/
def isO (W Wt : Int) (l : List Int) (c i j : Int) : Bool := bivouacref07_Open.o c (hi W l i j - lo W l i j) (mx 0 (Wt - lo W l i j))
theorem open_eq {k : Nat} (hk : 1 ≤ k) {W H Wt : Int} {l : List Int} (hb : ∀ x ∈ l, 0 ≤ x ∧ x ≤ 255) (c i j : Int) :
    ground_Open.f k W H Wt l c i j = some (if 0 ≤ c ∧ c ≤ 5 ∧ chk W H Wt l = 0 then if 0 ≤ i ∧ i < W ∧ 0 ≤ j ∧ j < H then (isO W Wt l c i j, 0) else (false, 4) else (false, 1)) := by
  unfold ground_Open.f
  rw [right_eq hk]
  simp only [Option.bind_some]
  by_cases h : 0 ≤ c ∧ c ≤ 5 ∧ chk W H Wt l = 0
  · rw [if_pos (decide_eq_true h), if_pos h, slope_eq hk hb, if_pos h.2.2]
    simp only [Option.bind_some]
    by_cases hc : 0 ≤ i ∧ i < W ∧ 0 ≤ j ∧ j < H
    · rw [if_pos hc, if_pos hc, if_pos rfl, depth_eq hk hb, if_pos h.2.2, if_pos hc]
      simp only [Option.bind_some]
      rw [gopen_eq h.1 h.2.1]
      rfl
    · rw [if_neg hc, if_neg hc, if_neg (by decide)]
  · rw [if_neg (by simpa using h), if_neg h]
theorem refOpen_eq {k : Nat} (hk : 5 ≤ k) {W H Wt : Int} {l : List Int} (h : Ok W H Wt l) {i j : Int} (i0 : 0 ≤ i) (i1 : i < W) (j0 : 0 ≤ j) (j1 : j < H) (c : Int) :
    bivouacref07_Open.f k W H Wt l c i j = some (isO W Wt l c i j) := by
  have g := lo_hi h i j
  unfold bivouacref07_Open.f
  rw [ends_l0 h i0 i1 j0 j1 hk, refDepth_eq h i0 i1 j0 j1 hk]
  simp only [Option.bind_some]
  rw [w64 (by omega) (by omega)]
  rfl

/-- All cells. -/
def cells (W H Wt : Int) (l : List Int) (c : Int) : List Bool := (List.range (W * H).toNat).map fun m : Nat => isO W Wt l c ((m : Int) % W) ((m : Int) / W)
theorem cells_len (W H Wt : Int) (l : List Int) (c : Int) : (cells W H Wt l c).length = (W * H).toNat := by simp [cells]
theorem wh {W H : Int} (w0 : 1 ≤ W) (w1 : W ≤ 64) (h0 : 1 ≤ H) (h1 : H ≤ 64) : 1 ≤ W * H ∧ W * H ≤ 4096 ∧ wrap64 (W * H) = W * H := by
  have h := mulb (a := W) (b := H) (A := 64) (B := 64) (by omega) (by omega) (by omega) (by omega)
  have g := mulb (a := W - 1) (b := H - 1) (A := 63) (B := 63) (by omega) (by omega) (by omega) (by omega)
  have e : W * H = (W - 1) * (H - 1) + W + H - 1 := by grind
  exact ⟨by omega, by omega, w64 (by omega) (by omega)⟩
theorem cell_in {W H m : Int} (w0 : 1 ≤ W) (m0 : 0 ≤ m) (m1 : m < W * H) : 0 ≤ m % W ∧ m % W < W ∧ 0 ≤ m / W ∧ m / W < H := by
  refine ⟨Int.emod_nonneg _ (by omega), Int.emod_lt_of_pos _ (by omega), Int.ediv_nonneg m0 (by omega), ?_⟩
  rw [Int.mul_comm] at m1
  exact Int.ediv_lt_of_lt_mul (by omega) m1
theorem grid_l0 {W H Wt : Int} {l : List Int} (ok : Ok W H Wt l) {c : Int} (c0 : 0 ≤ c) (c5 : c ≤ 5) : ∀ (d i k : Nat) (xs : List Bool), (W * H).toNat - i = d → xs.length = (W * H).toNat →
    (∀ m, m < i → xs[m]? = some (isO W Wt l c ((m : Int) % W) ((m : Int) / W))) → i ≤ (W * H).toNat → d + 1 < k → ground_Grid.l0 k c xs (xs.length : Int) (i : Int) W H Wt l = some (cells W H Wt l c, 0) := by
  have hwh := wh ok.w0 ok.w1 ok.h0 ok.h1
  have w0 := ok.w0
  intro d
  induction d with
  | zero =>
    intro i k xs hd hx hm hi hk
    obtain ⟨k, rfl⟩ : ∃ m, k = m + 1 := ⟨k - 1, by omega⟩
    simp only [ground_Grid.l0]
    rw [if_neg (by omega)]
    have : xs = cells W H Wt l c := by
      apply List.ext_getElem?
      intro m
      rcases Nat.lt_or_ge m (W * H).toNat with h | h
      · rw [hm m (by omega)]
        simp [cells, h]
      · rw [List.getElem?_eq_none (by omega), List.getElem?_eq_none (by rw [cells_len]; omega)]
    rw [this]
  | succ d ih =>
    intro i k xs hd hx hm hi hk
    obtain ⟨k, rfl⟩ : ∃ m, k = m + 1 := ⟨k - 1, by omega⟩
    simp only [ground_Grid.l0]
    have hc := cell_in (m := (i : Int)) w0 (by omega) (show (i : Int) < W * H by omega)
    have et : Int.tmod (i : Int) W = (i : Int) % W := Int.tmod_eq_emod_of_nonneg (by omega)
    have ed : Int.tdiv (i : Int) W = (i : Int) / W := Int.tdiv_eq_ediv_of_nonneg (by omega)
    rw [if_pos (by omega), if_neg (by omega), et, ed, w64 (i := (i : Int) / W) (by omega) (by have := ok.h1; omega), open_eq (by omega) ok.b]
    rw [if_pos (show 0 ≤ c ∧ c ≤ 5 ∧ chk W H Wt l = 0 from ⟨c0, c5, (chk_zero ok.b).2 ok⟩), if_pos hc]
    simp only [Option.bind_some]
    rw [if_pos (by omega), if_pos (by omega), w64 (by omega) (by omega)]
    have := ih (i + 1) k (xs.set i (isO W Wt l c ((i : Int) % W) ((i : Int) / W))) (by omega) (by simpa using hx) (fun m h => by
      rw [List.getElem?_set]
      by_cases e : i = m
      · subst e; simp; omega
      · rw [if_neg e]; exact hm m (by omega)) (by omega) (by omega)
    rw [List.length_set] at this
    simpa using this
theorem grid_eq {k : Nat} (hk : 4099 ≤ k) {W H Wt : Int} {l : List Int} (hb : ∀ x ∈ l, 0 ≤ x ∧ x ≤ 255) (c : Int) :
    ground_Grid.f k W H Wt l c = some (if 0 ≤ c ∧ c ≤ 5 ∧ chk W H Wt l = 0 then (cells W H Wt l c, 0) else ([], 1)) := by
  unfold ground_Grid.f
  rw [right_eq (by omega)]
  simp only [Option.bind_some]
  by_cases h : 0 ≤ c ∧ c ≤ 5 ∧ chk W H Wt l = 0
  · have ok := (chk_zero hb).1 h.2.2
    have hwh := wh ok.w0 ok.w1 ok.h0 ok.h1
    rw [if_pos (decide_eq_true h), if_pos h, hwh.2.2, if_pos (by omega), if_pos (by omega)]
    exact grid_l0 ok h.1 h.2.1 _ 0 k _ rfl (by simp) (fun m h => absurd h (Nat.not_lt_zero _)) (by omega) (by omega)
  · rw [if_neg (by simpa using h), if_neg h]


theorem getD_set {α : Type} (l : List α) (i j : Nat) (v d : α) : (l.set i v).getD j d = if i = j ∧ j < l.length then v else l.getD j d := by
  simp only [List.getD_eq_getElem?_getD, List.getElem?_set]
  by_cases h : i = j
  · subst h
    by_cases h2 : i < l.length
    · simp [h2]
    · simp [h2]
  · simp [h]

/-- How many numbers below 0 there are. -/
def neg : List Int → Nat
  | [] => 0
  | x :: l => (if x < 0 then 1 else 0) + neg l
theorem neg_set : ∀ (l : List Int) (i : Nat) (v : Int), i < l.length → l.getD i 0 < 0 → 0 ≤ v → neg (l.set i v) + 1 = neg l
  | [], _, _, h, _, _ => by simp at h
  | x :: l, 0, v, _, h, hv => by
    simp at h
    simp only [List.set_cons_zero, neg]
    rw [if_pos h, if_neg (by omega)]
    omega
  | x :: l, i + 1, v, h, h2, hv => by
    have := neg_set l i v (by simpa using h) (by simpa using h2) hv
    simp only [List.set_cons_succ, neg]
    omega
theorem neg_le : ∀ l : List Int, neg l ≤ l.length
  | [] => by simp [neg]
  | x :: l => by
    have := neg_le l
    simp only [neg, List.length_cons]
    split <;> omega
theorem neg_rep (n : Nat) : neg (List.replicate n (-1)) = n := by
  induction n with
  | zero => rfl
  | succ n ih => simp [List.replicate_succ, neg, ih]; omega

/-- Open cells side by side. -/
def Adj (g : List Bool) (w : Int) (a b : Int) : Prop :=
  0 ≤ a ∧ a < (g.length : Int) ∧ 0 ≤ b ∧ b < (g.length : Int) ∧ g.getD a.toNat false = true ∧ g.getD b.toNat false = true ∧
  (b = a + w ∨ a = b + w ∨ (b = a + 1 ∧ a % w < w - 1) ∨ (a = b + 1 ∧ 0 < a % w))
inductive Conn (g : List Bool) (w : Int) : Int → Int → Prop
  | refl (a : Int) : Conn g w a a
  | step {a b c : Int} : Conn g w a b → Adj g w b c → Conn g w a c

theorem mod_succ {a w : Int} (hw : 0 < w) (h : a % w < w - 1) : (a + 1) % w = a % w + 1 := by
  have := Int.emod_add_mul_ediv a w
  have h0 := Int.emod_nonneg a (show w ≠ 0 by omega)
  have e : a + 1 = (a % w + 1) + w * (a / w) := by omega
  rw [e, Int.add_mul_emod_self_left, Int.emod_eq_of_lt (by omega) (by omega)]
theorem mod_pred {a w : Int} (hw : 0 < w) (h : 0 < a % w) : (a - 1) % w = a % w - 1 := by
  have := Int.emod_add_mul_ediv a w
  have h0 := Int.emod_lt_of_pos a hw
  have e : a - 1 = (a % w - 1) + w * (a / w) := by omega
  rw [e, Int.add_mul_emod_self_left, Int.emod_eq_of_lt (by omega) (by omega)]
theorem Adj.symm {g : List Bool} {w a b : Int} (hw : 0 < w) (h : Adj g w a b) : Adj g w b a := by
  obtain ⟨h1, h2, h3, h4, h5, h6, h7⟩ := h
  refine ⟨h3, h4, h1, h2, h6, h5, ?_⟩
  rcases h7 with h | h | ⟨rfl, h⟩ | ⟨rfl, h⟩
  · exact .inr (.inl h)
  · exact .inl h
  · refine .inr (.inr (.inr ⟨rfl, ?_⟩))
    rw [mod_succ hw h]
    have := Int.emod_nonneg a (show w ≠ 0 by omega)
    omega
  · refine .inr (.inr (.inl ⟨rfl, ?_⟩))
    have := mod_pred hw h
    rw [show b + 1 - 1 = b by omega] at this
    have := Int.emod_lt_of_pos (b + 1) hw
    omega
theorem Conn.symm {g : List Bool} {w a b : Int} (hw : 0 < w) (h : Conn g w a b) : Conn g w b a := by
  have tr : ∀ {x y z : Int}, Conn g w x y → Conn g w y z → Conn g w x z := fun h1 h2 => by
    induction h2 with
    | refl => exact h1
    | step _ h ih => exact ih.step h
  induction h with
  | refl => exact .refl _
  | step _ h ih => exact tr (Conn.step (.refl _) (h.symm hw)) ih
theorem Conn.trans {g : List Bool} {w x y z : Int} (h1 : Conn g w x y) (h2 : Conn g w y z) : Conn g w x z := by
  induction h2 with
  | refl => exact h1
  | step _ h ih => exact ih.step h

/-- Each open cell has a number: of a cell that it is connected with, no greater than its own; neighbours have the same; what is not open has a number below 0. -/
structure Good (g : List Bool) (w : Int) (l : List Int) : Prop where
  len : l.length = g.length
  shut : ∀ a : Int, 0 ≤ a → a < (g.length : Int) → g.getD a.toNat false = false → l.getD a.toNat 0 = -1
  num : ∀ a : Int, 0 ≤ a → a < (g.length : Int) → g.getD a.toNat false = true → 0 ≤ l.getD a.toNat 0 ∧ l.getD a.toNat 0 ≤ a ∧ g.getD (l.getD a.toNat 0).toNat false = true ∧ Conn g w a (l.getD a.toNat 0)
  adj : ∀ a b : Int, Adj g w a b → l.getD a.toNat 0 = l.getD b.toNat 0
theorem Good.conn {g : List Bool} {w : Int} {l : List Int} (h : Good g w l) {a b : Int} (c : Conn g w a b) : l.getD a.toNat 0 = l.getD b.toNat 0 := by
  induction c with
  | refl => rfl
  | step _ ha ih => exact ih.trans (h.adj _ _ ha)
theorem Good.own {g : List Bool} {w : Int} {l : List Int} (h : Good g w l) {a : Int} (h0 : 0 ≤ a) (h1 : a < (g.length : Int)) (ho : g.getD a.toNat false = true) : l.getD (l.getD a.toNat 0).toNat 0 = l.getD a.toNat 0 := by
  obtain ⟨_, _, _, c⟩ := h.num a h0 h1 ho
  exact (h.conn c).symm
theorem Good.unique {g : List Bool} {w : Int} {l m : List Int} (hl : Good g w l) (hm : Good g w m) : l = m := by
  have key : ∀ {x y : List Int}, Good g w x → Good g w y → ∀ a : Int, 0 ≤ a → a < (g.length : Int) → g.getD a.toNat false = true → x.getD a.toNat 0 ≤ y.getD a.toNat 0 := by
    intro x y hx hy a h0 h1 ho
    obtain ⟨n0, n1, n2, c⟩ := hy.num a h0 h1 ho
    rw [hx.conn c]
    exact (hx.num _ n0 (by omega) n2).2.1
  apply List.ext_getElem
  · rw [hl.len, hm.len]
  · intro i h1 h2
    have hi : i < g.length := by rw [← hl.len]; exact h1
    have e1 : l.getD (i : Int).toNat 0 = l[i] := by simp [h1]
    have e2 : m.getD (i : Int).toNat 0 = m[i] := by simp [h2]
    rw [← e1, ← e2]
    cases ho : g.getD (i : Int).toNat false
    · rw [hl.shut i (by omega) (by omega) ho, hm.shut i (by omega) (by omega) ho]
    · have a1 := key hl hm i (by omega) (by omega) ho
      have a2 := key hm hl i (by omega) (by omega) ho
      omega

theorem mem_nbs {w n k x : Int} : x ∈ ground_Regions.nbs w n k ↔ (w ≤ k ∧ x = k - w) ∨ (0 < k % w ∧ x = k - 1) ∨ (k % w < w - 1 ∧ x = k + 1) ∨ (k + w < n ∧ x = k + w) := by
  unfold ground_Regions.nbs
  simp only [List.mem_append]
  constructor
  · rintro (((h | h) | h) | h) <;> (split at h <;> simp at h)
    · exact .inl ⟨by assumption, h⟩
    · exact .inr (.inl ⟨by assumption, h⟩)
    · exact .inr (.inr (.inl ⟨by assumption, h⟩))
    · exact .inr (.inr (.inr ⟨by assumption, h⟩))
  · rintro (⟨h, rfl⟩ | ⟨h, rfl⟩ | ⟨h, rfl⟩ | ⟨h, rfl⟩)
    · exact .inl (.inl (.inl (by rw [if_pos h]; simp)))
    · exact .inl (.inl (.inr (by rw [if_pos h]; simp)))
    · exact .inl (.inr (by rw [if_pos h]; simp))
    · exact .inr (by rw [if_pos h]; simp)
theorem lt_of_mod {w h k : Int} (hw : 0 < w) (hk : k < w * h) (hm : k % w < w - 1) : k + 1 < w * h := by
  have e := Int.emod_add_mul_ediv k w
  have h1 : k / w < h := by
    rcases (by omega : k / w < h ∨ h ≤ k / w) with h1 | h1
    · exact h1
    · have := Int.mul_le_mul_of_nonneg_left h1 (Int.le_of_lt hw)
      have := Int.emod_nonneg k (show w ≠ 0 by omega)
      omega
  have h2 := Int.mul_le_mul_of_nonneg_left (show k / w + 1 ≤ h by omega) (Int.le_of_lt hw)
  have e2 : w * (k / w + 1) = w * (k / w) + w := by grind
  omega
theorem nbs_in {w h k x : Int} (hw : 0 < w) (h0 : 0 ≤ k) (h1 : k < w * h) (hx : x ∈ ground_Regions.nbs w (w * h) k) : 0 ≤ x ∧ x < w * h := by
  rcases mem_nbs.1 hx with ⟨h, rfl⟩ | ⟨h, rfl⟩ | ⟨h, rfl⟩ | ⟨h, rfl⟩
  · omega
  · have : k ≠ 0 := fun e => by subst e; simp at h
    omega
  · have := lt_of_mod hw h1 h
    omega
  · omega

/-- How the flood stands: i, from which it began; c, whose neighbours are just looked at, P: those of c that have been. -/
structure Mid (g : List Bool) (w i : Int) (c : Option (Int × List Int)) (out wait : List Int) : Prop where
  len : out.length = g.length
  shut : ∀ a : Int, 0 ≤ a → a < (g.length : Int) → g.getD a.toNat false = false → out.getD a.toNat 0 = -1
  num : ∀ a : Int, 0 ≤ a → a < (g.length : Int) → 0 ≤ out.getD a.toNat 0 → g.getD a.toNat false = true ∧ out.getD a.toNat 0 ≤ a ∧ out.getD a.toNat 0 ≤ i ∧ g.getD (out.getD a.toNat 0).toNat false = true ∧ Conn g w a (out.getD a.toNat 0)
  less : ∀ a : Int, 0 ≤ a → a < (g.length : Int) → out.getD a.toNat 0 < 0 → out.getD a.toNat 0 = -1
  past : ∀ a : Int, 0 ≤ a → a ≤ i → a < (g.length : Int) → g.getD a.toNat false = true → 0 ≤ out.getD a.toNat 0
  front : ∀ a ∈ wait, 0 ≤ a ∧ a < (g.length : Int) ∧ out.getD a.toNat 0 = i
  adj : ∀ a b : Int, Adj g w a b → 0 ≤ out.getD a.toNat 0 → a ∉ wait → (∀ P, c ≠ some (a, P)) → out.getD b.toNat 0 = out.getD a.toNat 0
  here : ∀ a P, c = some (a, P) → 0 ≤ a ∧ a < (g.length : Int) ∧ out.getD a.toNat 0 = i ∧ ∀ x ∈ P, Adj g w a x → out.getD x.toNat 0 = i
  start : 0 ≤ i ∧ i < (g.length : Int) ∧ g.getD i.toNat false = true

theorem Mid.step {g : List Bool} {w i c : Int} {P out wait : List Int} (hw : 0 < w) (m : Mid g w i (some (c, P)) out wait) {x : Int} (h0 : 0 ≤ x) (h1 : x < (g.length : Int)) (hx : g.getD x.toNat false = true → Adj g w c x) :
    Mid g w i (some (c, P ++ [x])) (ground_Regions.push g i (out, wait) x).1 (ground_Regions.push g i (out, wait) x).2 ∧ neg (ground_Regions.push g i (out, wait) x).1 + (ground_Regions.push g i (out, wait) x).2.length = neg out + wait.length ∧ neg (ground_Regions.push g i (out, wait) x).1 ≤ neg out := by
  obtain ⟨s0, s1, s2⟩ := m.start
  obtain ⟨c0, c1, c2, c3⟩ := m.here c P rfl
  unfold ground_Regions.push
  by_cases hp : g.getD x.toNat false = true ∧ out.getD x.toNat 0 < 0
  · rw [if_pos hp]
    obtain ⟨ho, hneg⟩ := hp
    have hA := hx ho
    have hxl : x.toNat < out.length := by rw [m.len]; omega
    have ix : i < x := by
      rcases (by omega : i < x ∨ x ≤ i) with h | h
      · exact h
      · have := m.past x h0 h h1 ho
        omega
    have get : ∀ a : Int, 0 ≤ a → (out.set x.toNat i).getD a.toNat 0 = if a = x then i else out.getD a.toNat 0 := by
      intro a ha
      rw [getD_set]
      by_cases e : a = x
      · subst e; simp [hxl]
      · rw [if_neg e, if_neg (by omega)]
    have hcx : c ≠ x := fun e => by subst e; omega
    have hcon : Conn g w x i := by
      have := (m.num c c0 c1 (by omega)).2.2.2.2
      rw [c2] at this
      exact (Conn.step (.refl _) (hA.symm hw)).trans this
    refine ⟨⟨by simpa using m.len, ?_, ?_, ?_, ?_, ?_, ?_, ?_, m.start⟩, ?_⟩
    · intro a a0 a1 hs
      rw [get a a0, if_neg (fun e => by subst e; rw [ho] at hs; cases hs)]
      exact m.shut a a0 a1 hs
    · intro a a0 a1
      rw [get a a0]
      by_cases e : a = x
      · subst e; rw [if_pos rfl]; exact fun _ => ⟨ho, by omega, by omega, s2, hcon⟩
      · rw [if_neg e]; exact m.num a a0 a1
    · intro a a0 a1
      rw [get a a0]
      by_cases e : a = x
      · rw [if_pos e]; omega
      · rw [if_neg e]; exact m.less a a0 a1
    · intro a a0 ai a1 hg
      rw [get a a0]
      by_cases e : a = x
      · rw [if_pos e]; omega
      · rw [if_neg e]; exact m.past a a0 ai a1 hg
    · intro a ha
      rcases List.mem_append.1 ha with ha | ha
      · obtain ⟨a0, a1, a2⟩ := m.front a ha
        refine ⟨a0, a1, ?_⟩
        rw [get a a0]
        split
        · rfl
        · exact a2
      · obtain rfl : a = x := by simpa using ha
        exact ⟨h0, h1, by rw [get a h0, if_pos rfl]⟩
    · intro a b hab hn hw' hc'
      have a0 := hab.1
      have b0 := hab.2.2.1
      have nax : a ≠ x := fun e => hw' (by subst e; simp)
      rw [get a a0, if_neg nax] at hn
      have nac : ∀ Q, some (c, P) ≠ some (a, Q) := fun Q e => by
        obtain rfl : c = a := by simpa using congrArg (fun z => (z.map Prod.fst)) e
        exact hc' (P ++ [x]) rfl
      have := m.adj a b hab hn (fun h => hw' (List.mem_append_left _ h)) nac
      have nbx : b ≠ x := fun e => by subst e; omega
      rw [get a a0, get b b0, if_neg nax, if_neg nbx]
      exact this
    · intro a Q e
      simp only [Option.some.injEq, Prod.mk.injEq] at e
      obtain ⟨rfl, rfl⟩ := e
      refine ⟨c0, c1, by rw [get c c0, if_neg hcx]; exact c2, fun y hy hA' => ?_⟩
      rw [get y hA'.2.2.1]
      by_cases e : y = x
      · rw [if_pos e]
      · rw [if_neg e]
        rcases List.mem_append.1 hy with h | h
        · exact c3 y h hA'
        · simp at h; exact absurd h e
    · have := neg_set out x.toNat i hxl hneg s0
      simp only [List.length_append, List.length_cons, List.length_nil]
      omega
  · rw [if_neg hp]
    refine ⟨⟨m.len, m.shut, m.num, m.less, m.past, m.front, ?_, ?_, m.start⟩, rfl, Nat.le_refl _⟩
    · intro a b hab hn hw' hc'
      refine m.adj a b hab hn hw' (fun Q e => ?_)
      obtain rfl : c = a := by simpa using congrArg (fun z => (z.map Prod.fst)) e
      exact hc' (P ++ [x]) rfl
    · intro a Q e
      simp only [Option.some.injEq, Prod.mk.injEq] at e
      obtain ⟨rfl, rfl⟩ := e
      refine ⟨c0, c1, c2, fun y hy hA' => ?_⟩
      rcases List.mem_append.1 hy with h | h
      · exact c3 y h hA'
      · obtain rfl : y = x := by simpa using h
        have g1 := hA'.2.2.2.2.2.1
        have hy0 : 0 ≤ out.getD y.toNat 0 := by
          rcases (by omega : (out.getD y.toNat 0) < 0 ∨ 0 ≤ (out.getD y.toNat 0)) with h | h
          · exact absurd ⟨g1, h⟩ hp
          · exact h
        -- y has a number; its neighbour c has i
        by_cases hyw : y ∈ wait
        · exact (m.front y hyw).2.2
        · by_cases hyc : y = c
          · subst hyc; exact c2
          · have := m.adj y c (hA'.symm hw) hy0 hyw (fun Q e => hyc (by simpa using (congrArg (fun z => (z.map Prod.fst)) e).symm))
            exact this.symm.trans c2

theorem Mid.fold {g : List Bool} {w i c : Int} (hw : 0 < w) : ∀ (xs P out wait : List Int), Mid g w i (some (c, P)) out wait → (∀ x ∈ xs, 0 ≤ x ∧ x < (g.length : Int) ∧ (g.getD x.toNat false = true → Adj g w c x)) →
    Mid g w i (some (c, P ++ xs)) (xs.foldl (ground_Regions.push g i) (out, wait)).1 (xs.foldl (ground_Regions.push g i) (out, wait)).2 ∧ neg (xs.foldl (ground_Regions.push g i) (out, wait)).1 + (xs.foldl (ground_Regions.push g i) (out, wait)).2.length = neg out + wait.length ∧ neg (xs.foldl (ground_Regions.push g i) (out, wait)).1 ≤ neg out
  | [], P, out, wait, m, _ => by simpa using m
  | x :: xs, P, out, wait, m, h => by
    obtain ⟨h0, h1, h2⟩ := h x (by simp)
    obtain ⟨m2, e2, l2⟩ := m.step hw h0 h1 h2
    obtain ⟨m3, e3, l3⟩ := Mid.fold hw xs (P ++ [x]) _ _ m2 (fun y hy => h y (by simp [hy]))
    simp only [List.foldl_cons]
    have eta : ((ground_Regions.push g i (out, wait) x).1, (ground_Regions.push g i (out, wait) x).2) = ground_Regions.push g i (out, wait) x := rfl
    rw [eta] at m3 e3 l3
    refine ⟨by simpa using m3, by omega, by omega⟩

theorem adj_nbs {g : List Bool} {w a b : Int} (h : Adj g w a b) : b ∈ ground_Regions.nbs w g.length a := by
  obtain ⟨h1, h2, h3, h4, _, _, h7⟩ := h
  rw [mem_nbs]
  rcases h7 with h | h | ⟨h, h'⟩ | ⟨h, h'⟩
  · exact .inr (.inr (.inr ⟨by omega, h⟩))
  · exact .inl ⟨by omega, by omega⟩
  · exact .inr (.inr (.inl ⟨h', h⟩))
  · exact .inr (.inl ⟨h', by omega⟩)
theorem nbs_adj {g : List Bool} {w h c x : Int} (hw : 0 < w) (hn : (g.length : Int) = w * h) (c0 : 0 ≤ c) (c1 : c < (g.length : Int)) (hc : g.getD c.toNat false = true) (hx : x ∈ ground_Regions.nbs w g.length c) :
    0 ≤ x ∧ x < (g.length : Int) ∧ (g.getD x.toNat false = true → Adj g w c x) := by
  have hx2 := hx
  rw [hn] at hx2
  obtain ⟨x0, x1⟩ := nbs_in hw c0 (by rw [← hn]; exact c1) hx2
  rw [← hn] at x1
  refine ⟨x0, x1, fun ho => ⟨c0, c1, x0, x1, hc, ho, ?_⟩⟩
  rcases mem_nbs.1 hx with ⟨h, rfl⟩ | ⟨h, rfl⟩ | ⟨h, rfl⟩ | ⟨h, rfl⟩
  · exact .inr (.inl (by omega))
  · exact .inr (.inr (.inr ⟨by omega, h⟩))
  · exact .inr (.inr (.inl ⟨rfl, h⟩))
  · exact .inl rfl
theorem last_split {l : List Int} (h : l ≠ []) : l.dropLast ++ [l.getLastD 0] = l := by
  have := List.dropLast_concat_getLast h
  rw [List.getLastD_eq_getLast?, List.getLast?_eq_some_getLast h]
  exact this

theorem Mid.drop {g : List Bool} {w i : Int} {out wait : List Int} (m : Mid g w i none out wait) (h : wait ≠ []) : Mid g w i (some (wait.getLastD 0, [])) out wait.dropLast := by
  have e := last_split h
  refine ⟨m.len, m.shut, m.num, m.less, m.past, fun a ha => m.front a (by rw [← e]; exact List.mem_append_left _ ha), ?_, ?_, m.start⟩
  · intro a b hab hn h1 h2
    refine m.adj a b hab hn (fun ha => ?_) (fun P e => by cases e)
    rw [← e] at ha
    rcases List.mem_append.1 ha with ha | ha
    · exact h1 ha
    · obtain rfl : a = wait.getLastD 0 := by simpa using ha
      exact h2 [] rfl
  · intro a P e2
    simp only [Option.some.injEq, Prod.mk.injEq] at e2
    obtain ⟨rfl, rfl⟩ := e2
    obtain ⟨a0, a1, a2⟩ := m.front (wait.getLastD 0) (by rw [← e]; simp)
    exact ⟨a0, a1, a2, fun x hx => by simp at hx⟩
theorem Mid.fin {g : List Bool} {w i c : Int} {out wait : List Int} (m : Mid g w i (some (c, ground_Regions.nbs w g.length c)) out wait) : Mid g w i none out wait := by
  obtain ⟨c0, c1, c2, c3⟩ := m.here _ _ rfl
  refine ⟨m.len, m.shut, m.num, m.less, m.past, m.front, ?_, fun a P e => (by cases e), m.start⟩
  intro a b hab hn h1 _
  by_cases hac : a = c
  · subst hac
    rw [c3 b (adj_nbs hab) hab, c2]
  · exact m.adj a b hab hn h1 (fun P e => hac (by simpa using (congrArg (fun z => (z.map Prod.fst)) e).symm))

theorem flood {g : List Bool} {w h i : Int} (hw : 0 < w) (hn : (g.length : Int) = w * h) : ∀ (M : Nat) (out wait : List Int), 2 * neg out + wait.length ≤ M → neg out + wait.length ≤ 4096 → Mid g w i none out wait →
    ∃ out', (∀ k, M + 1 ≤ k → ground_Regions.l0 k g w i out wait = some out') ∧ Mid g w i none out' [] ∧ neg out' ≤ neg out
  | M, out, wait, hM, hB, m => by
    by_cases he : wait = []
    · subst he
      refine ⟨out, fun k hk => ?_, m, Nat.le_refl _⟩
      obtain ⟨k, rfl⟩ : ∃ j, k = j + 1 := ⟨k - 1, by omega⟩
      simp [ground_Regions.l0]
    · have m1 := m.drop he
      obtain ⟨c0, c1, c2, _⟩ := m1.here _ _ rfl
      have hg := (m.num _ c0 c1 (by have := m.start.1; omega)).1
      obtain ⟨m2, e2, l2⟩ := Mid.fold hw (ground_Regions.nbs w g.length (wait.getLastD 0)) [] out wait.dropLast m1 (fun x hx => nbs_adj hw hn c0 c1 hg hx)
      have hl : wait.dropLast.length = wait.length - 1 := by simp
      have hl0 : 0 < wait.length := List.length_pos_iff.2 he
      cases M with
      | zero => omega
      | succ M =>
        obtain ⟨out', h1, h2, h3⟩ := flood hw hn M _ _ (by omega) (by omega) (m2.fin)
        refine ⟨out', fun k hk => ?_, h2, by omega⟩
        obtain ⟨k, rfl⟩ : ∃ j, k = j + 1 := ⟨k - 1, by omega⟩
        simp only [ground_Regions.l0]
        rw [if_neg he, if_pos ⟨c0, c1, by omega, m.len⟩]
        exact h1 k (by omega)

/-- How it stands between two floods. -/
structure Out (g : List Bool) (w i : Int) (out : List Int) : Prop where
  len : out.length = g.length
  shut : ∀ a : Int, 0 ≤ a → a < (g.length : Int) → g.getD a.toNat false = false → out.getD a.toNat 0 = -1
  num : ∀ a : Int, 0 ≤ a → a < (g.length : Int) → 0 ≤ out.getD a.toNat 0 → g.getD a.toNat false = true ∧ out.getD a.toNat 0 ≤ a ∧ out.getD a.toNat 0 < i ∧ g.getD (out.getD a.toNat 0).toNat false = true ∧ Conn g w a (out.getD a.toNat 0)
  less : ∀ a : Int, 0 ≤ a → a < (g.length : Int) → out.getD a.toNat 0 < 0 → out.getD a.toNat 0 = -1
  past : ∀ a : Int, 0 ≤ a → a < i → a < (g.length : Int) → g.getD a.toNat false = true → 0 ≤ out.getD a.toNat 0
  adj : ∀ a b : Int, Adj g w a b → 0 ≤ out.getD a.toNat 0 → out.getD b.toNat 0 = out.getD a.toNat 0
theorem Out.begin {g : List Bool} {w i : Int} {out : List Int} (o : Out g w i out) (h0 : 0 ≤ i) (h1 : i < (g.length : Int)) (hg : g.getD i.toNat false = true) (hi : out.getD i.toNat 0 < 0) :
    Mid g w i Option.none (out.set i.toNat i) [i] := by
  have get : ∀ a : Int, 0 ≤ a → (out.set i.toNat i).getD a.toNat 0 = if a = i then i else out.getD a.toNat 0 := by
    intro a ha
    rw [getD_set]
    by_cases e : a = i
    · subst e; simp [o.len]; omega
    · rw [if_neg e, if_neg (by omega)]
  refine ⟨by simpa using o.len, ?_, ?_, ?_, ?_, ?_, ?_, fun a P e => (by cases e), h0, h1, hg⟩
  · intro a a0 a1 hs
    rw [get a a0, if_neg (fun e => by subst e; rw [hg] at hs; cases hs)]
    exact o.shut a a0 a1 hs
  · intro a a0 a1
    rw [get a a0]
    by_cases e : a = i
    · subst e; rw [if_pos rfl]; exact fun _ => ⟨hg, by omega, by omega, hg, .refl _⟩
    · rw [if_neg e]
      intro hn
      obtain ⟨x1, x2, x3, x4⟩ := o.num a a0 a1 hn
      exact ⟨x1, x2, by omega, x4⟩
  · intro a a0 a1
    rw [get a a0]
    by_cases e : a = i
    · rw [if_pos e]; omega
    · rw [if_neg e]; exact o.less a a0 a1
  · intro a a0 ai a1 hg'
    rw [get a a0]
    by_cases e : a = i
    · rw [if_pos e]; omega
    · rw [if_neg e]; exact o.past a a0 (by omega) a1 hg'
  · intro a ha
    obtain rfl : a = i := by simpa using ha
    exact ⟨h0, h1, by rw [get a h0, if_pos rfl]⟩
  · intro a b hab hn hw' _
    have e : a ≠ i := fun e => hw' (by subst e; simp)
    rw [get a hab.1, if_neg e] at hn
    rw [get a hab.1, get b hab.2.2.1, if_neg e]
    have := o.adj a b hab hn
    rw [if_neg (fun e => by subst e; omega)]
    exact this
theorem Mid.out {g : List Bool} {w i : Int} {out : List Int} (m : Mid g w i Option.none out []) : Out g w (i + 1) out :=
  ⟨m.len, m.shut, fun a a0 a1 hn => by obtain ⟨x1, x2, x3, x4⟩ := m.num a a0 a1 hn; exact ⟨x1, x2, by omega, x4⟩, m.less, fun a a0 ai => m.past a a0 (by omega), fun a b hab hn => m.adj a b hab hn (by simp) (fun P e => (by cases e))⟩
theorem Out.skip {g : List Bool} {w i : Int} {out : List Int} (o : Out g w i out) (h : ¬(g.getD i.toNat false = true ∧ out.getD i.toNat 0 < 0)) : Out g w (i + 1) out := by
  refine ⟨o.len, o.shut, fun a a0 a1 hn => by obtain ⟨x1, x2, x3, x4⟩ := o.num a a0 a1 hn; exact ⟨x1, x2, by omega, x4⟩, o.less, ?_, o.adj⟩
  intro a a0 ai a1 hg
  by_cases e : a = i
  · subst e
    rcases (by omega : (out.getD a.toNat 0) < 0 ∨ 0 ≤ (out.getD a.toNat 0)) with h' | h'
    · exact absurd ⟨hg, h'⟩ h
    · exact h'
  · exact o.past a a0 (by omega) a1 hg
theorem Out.good {g : List Bool} {w : Int} {out : List Int} (o : Out g w g.length out) : Good g w out :=
  ⟨o.len, o.shut, fun a a0 a1 hg => by
    have hp := o.past a a0 a1 a1 hg
    obtain ⟨x1, x2, x3, x4, x5⟩ := o.num a a0 a1 hp
    exact ⟨hp, x2, x4, x5⟩, fun a b hab => (o.adj a b hab (o.past a hab.1 hab.2.1 hab.2.1 hab.2.2.2.2.1)).symm⟩
theorem Out.zero (g : List Bool) (w : Int) : Out g w 0 (List.replicate g.length (-1)) := by
  have get : ∀ a : Int, 0 ≤ a → a < (g.length : Int) → (List.replicate g.length (-1 : Int)).getD a.toNat 0 = -1 := by
    intro a a0 a1
    rw [List.getD_eq_getElem?_getD, List.getElem?_replicate, if_pos (by omega)]
    rfl
  refine ⟨by simp, fun a a0 a1 _ => get a a0 a1, fun a a0 a1 h => ?_, fun a a0 a1 _ => get a a0 a1, fun a a0 ai => by omega, fun a b hab h => ?_⟩
  · rw [get a a0 a1] at h; omega
  · rw [get a hab.1 hab.2.1] at h; omega
theorem floods {g : List Bool} {w h : Int} (hw : 0 < w) (hn : (g.length : Int) = w * h) (hl : g.length ≤ 4096) : ∀ (m : Nat) (i : Int) (out : List Int), 0 ≤ i → i + m = g.length → Out g w i out →
    ∃ out', (∀ k, m + 2 * g.length + 10 ≤ k → ground_Regions.l1 k g w i out = some out') ∧ Good g w out'
  | 0, i, out, h0, hm, o => by
    obtain rfl : i = g.length := by omega
    refine ⟨out, fun k hk => ?_, o.good⟩
    obtain ⟨k, rfl⟩ : ∃ j, k = j + 1 := ⟨k - 1, by omega⟩
    simp only [ground_Regions.l1]
    rw [if_neg (by omega)]
  | m + 1, i, out, h0, hm, o => by
    by_cases hc : g.getD i.toNat false = true ∧ out.getD i.toNat 0 < 0
    · have mid := o.begin h0 (by omega) hc.1 hc.2
      have hs := neg_set out i.toNat i (by rw [o.len]; omega) hc.2 h0
      have hle := neg_le out
      rw [o.len] at hle
      obtain ⟨o2, a1, a2, a3⟩ := flood hw hn (2 * g.length) (out.set i.toNat i) [i] (by simp; omega) (by simp; omega) mid
      obtain ⟨o3, b1, b2⟩ := floods hw hn hl m (i + 1) o2 (by omega) (by omega) a2.out
      refine ⟨o3, fun k hk => ?_, b2⟩
      obtain ⟨k, rfl⟩ : ∃ j, k = j + 1 := ⟨k - 1, by omega⟩
      simp only [ground_Regions.l1]
      rw [if_pos (by omega), if_pos hc, a1 k (by omega)]
      exact b1 k (by omega)
    · obtain ⟨o3, b1, b2⟩ := floods hw hn hl m (i + 1) out (by omega) (by omega) (o.skip hc)
      refine ⟨o3, fun k hk => ?_, b2⟩
      obtain ⟨k, rfl⟩ : ∃ j, k = j + 1 := ⟨k - 1, by omega⟩
      simp only [ground_Regions.l1]
      rw [if_pos (by omega), if_neg hc]
      exact b1 k (by omega)


theorem rep_getD (n : Nat) {a : Int} (h0 : 0 ≤ a) (h1 : a < (n : Int)) : (List.replicate n (-1 : Int)).getD a.toNat 0 = -1 := by
  rw [List.getD_eq_getElem?_getD, List.getElem?_replicate, if_pos (by omega)]
  rfl
theorem Out.init (g : List Bool) (w : Int) : Out g w 0 (List.replicate g.length (-1)) :=
  ⟨by simp, fun a h0 h1 _ => rep_getD _ h0 h1, fun a h0 h1 h => by rw [rep_getD _ h0 h1] at h; omega, fun a h0 h1 _ => rep_getD _ h0 h1, fun a h0 h1 h2 => by omega, fun a b hab h => by rw [rep_getD _ hab.1 hab.2.1] at h; omega⟩
/-- What the regions of a map come to. -/
theorem regs {W H Wt : Int} {l : List Int} (ok : Ok W H Wt l) {c : Int} (c0 : 0 ≤ c) (c5 : c ≤ 5) :
    ∃ L, Good (cells W H Wt l c) W L ∧ ∀ k, 20000 ≤ k → ground_Regions.f k W H Wt l c = some (L, 0) := by
  have hwh := wh ok.w0 ok.w1 ok.h0 ok.h1
  have hl := cells_len W H Wt l c
  obtain ⟨L, h1, h2⟩ := floods (g := cells W H Wt l c) (w := W) (h := H) (by have := ok.w0; omega) (by rw [hl]; omega) (by omega) (cells W H Wt l c).length 0 _ (Int.le_refl _) (by omega) (Out.init _ _)
  refine ⟨L, h2, fun k hk => ?_⟩
  unfold ground_Regions.f
  rw [grid_eq (by omega) ok.b, if_pos ⟨c0, c5, (chk_zero ok.b).2 ok⟩]
  simp only [Option.bind_some]
  rw [if_pos trivial, if_pos ⟨ok.w0, ok.w1, by omega, by omega, by omega⟩, h1 k (by omega)]
  rfl
theorem regs_no {k : Nat} (hk : 4099 ≤ k) {W H Wt : Int} {l : List Int} (hb : ∀ x ∈ l, 0 ≤ x ∧ x ≤ 255) (c : Int) (h : ¬ (0 ≤ c ∧ c ≤ 5 ∧ chk W H Wt l = 0)) : ground_Regions.f k W H Wt l c = some ([], 1) := by
  unfold ground_Regions.f
  rw [grid_eq hk hb, if_neg h]
  simp only [Option.bind_some]
  rw [if_neg (by decide)]


theorem row_mod {W i j : Int} (i0 : 0 ≤ i) (i1 : i < W) : (j * W + i) % W = i ∧ (j * W + i) / W = j := by
  constructor
  · rw [Int.add_comm, Int.add_mul_emod_self_right, Int.emod_eq_of_lt i0 i1]
  · rw [Int.add_comm, Int.add_mul_ediv_right _ _ (by omega), Int.ediv_eq_zero_of_lt i0 i1]; omega
/-- The first cells. -/
def firsts (W Wt : Int) (l : List Int) (c : Int) (n : Nat) : List Bool := (List.range n).map fun m : Nat => isO W Wt l c ((m : Int) % W) ((m : Int) / W)
theorem firsts_succ (W Wt : Int) (l : List Int) (c : Int) (n : Nat) : firsts W Wt l c (n + 1) = firsts W Wt l c n ++ [isO W Wt l c ((n : Int) % W) ((n : Int) / W)] := by
  unfold firsts
  rw [List.range_succ, List.map_append]
  rfl
theorem ref_l1 {W H Wt : Int} {l : List Int} (ok : Ok W H Wt l) (c : Int) {j : Nat} (hj : (j : Int) < H) (hn : ∃ K, ∀ k, K ≤ k → bivouacref07_Grid.l0 k c (firsts W Wt l c ((j + 1) * W.toNat)) ((j : Int) + 1) W H Wt l = some (cells W H Wt l c)) :
    ∀ (d i : Nat), W.toNat - i = d → i ≤ W.toNat → ∃ K, ∀ k, K ≤ k → bivouacref07_Grid.l1 k c (firsts W Wt l c (j * W.toNat + i)) (j : Int) (i : Int) W H Wt l = some (cells W H Wt l c) := by
  have w0 := ok.w0
  have w1 := ok.w1
  have h1 := ok.h1
  intro d
  induction d with
  | zero =>
    intro i hd hi
    obtain ⟨K, hK⟩ := hn
    refine ⟨K + 1, fun k hk => ?_⟩
    obtain ⟨k, rfl⟩ : ∃ m, k = m + 1 := ⟨k - 1, by omega⟩
    simp only [bivouacref07_Grid.l1]
    rw [if_neg (by omega), w64 (by omega) (by omega), show j * W.toNat + i = (j + 1) * W.toNat by rw [Nat.add_mul]; omega]
    exact hK k (by omega)
  | succ d ih =>
    intro i hd hi
    obtain ⟨K, hK⟩ := ih (i + 1) (by omega) (by omega)
    refine ⟨K + 6, fun k hk => ?_⟩
    obtain ⟨k, rfl⟩ : ∃ m, k = m + 1 := ⟨k - 1, by omega⟩
    simp only [bivouacref07_Grid.l1]
    have e : ((j * W.toNat + i : Nat) : Int) = (j : Int) * W + i := by
      rw [Int.natCast_add, Int.natCast_mul, Int.toNat_of_nonneg (by omega)]
    have hm := row_mod (W := W) (i := (i : Int)) (j := (j : Int)) (by omega) (by omega)
    have hjb : j * W.toNat ≤ 64 * 64 := Nat.mul_le_mul (by omega) (by omega)
    rw [if_pos (by omega), refOpen_eq (by omega) ok (by omega) (by omega) (by omega) hj]
    simp only [Option.bind_some]
    rw [if_pos (by simp only [firsts, List.length_map, List.length_range]; omega), w64 (by omega) (by omega)]
    have := hK k (by omega)
    rw [show j * W.toNat + (i + 1) = j * W.toNat + i + 1 by omega, firsts_succ, e, hm.1, hm.2] at this
    simpa using this
theorem ref_l0 {W H Wt : Int} {l : List Int} (ok : Ok W H Wt l) (c : Int) : ∀ (d j : Nat), H.toNat - j = d → j ≤ H.toNat →
    ∃ K, ∀ k, K ≤ k → bivouacref07_Grid.l0 k c (firsts W Wt l c (j * W.toNat)) (j : Int) W H Wt l = some (cells W H Wt l c) := by
  have w0 := ok.w0
  have h0 := ok.h0
  intro d
  induction d with
  | zero =>
    intro j hd hj
    refine ⟨1, fun k hk => ?_⟩
    obtain ⟨k, rfl⟩ : ∃ m, k = m + 1 := ⟨k - 1, by omega⟩
    simp only [bivouacref07_Grid.l0]
    rw [if_neg (by omega)]
    unfold cells firsts
    have e : j * W.toNat = (W * H).toNat := by
      rw [show j = H.toNat by omega, Int.mul_comm W H, Int.toNat_mul (by omega) (by omega)]
    rw [e]
  | succ d ih =>
    intro j hd hj
    obtain ⟨K, hK⟩ := ref_l1 ok c (j := j) (by omega) (by have := ih (j + 1) (by omega) (by omega); simpa using this) _ 0 rfl (by omega)
    refine ⟨K + 1, fun k hk => ?_⟩
    obtain ⟨k, rfl⟩ : ∃ m, k = m + 1 := ⟨k - 1, by omega⟩
    simp only [bivouacref07_Grid.l0]
    rw [if_pos (by omega)]
    have := hK k (by omega)
    simpa using this
theorem refGrid_eq {W H Wt : Int} {l : List Int} (ok : Ok W H Wt l) (c : Int) : ∃ K, ∀ k, K ≤ k → bivouacref07_Grid.f k W H Wt l c = some (cells W H Wt l c) := by
  obtain ⟨K, hK⟩ := ref_l0 ok c _ 0 rfl (by omega)
  refine ⟨K, fun k hk => ?_⟩
  have := hK k hk
  simpa [bivouacref07_Grid.f, firsts] using this


/-- Side by side, by the reference. -/
def bes (a b w : Int) : Bool := (a % w - b % w) * (a % w - b % w) + (a / w - b / w) * (a / w - b / w) == 1
theorem sqb {x B : Int} (h0 : -B ≤ x) (h1 : x ≤ B) : 0 ≤ x * x ∧ x * x ≤ B * B := by
  rcases (by omega : 0 ≤ x ∨ x < 0) with h | h
  · exact mulb h h1 h h1
  · have := mulb (a := -x) (b := -x) (A := B) (B := B) (by omega) (by omega) (by omega) (by omega)
    rwa [Int.neg_mul_neg] at this
theorem beside_eq {a b w : Int} (w0 : 1 ≤ w) (w1 : w ≤ 64) (a0 : 0 ≤ a) (a1 : a < 4096) (b0 : 0 ≤ b) (b1 : b < 4096) : bivouacref07_Beside.f a b w = some (bes a b w) := by
  have ea : Int.tmod a w = a % w := Int.tmod_eq_emod_of_nonneg a0
  have eb : Int.tmod b w = b % w := Int.tmod_eq_emod_of_nonneg b0
  have da : Int.tdiv a w = a / w := Int.tdiv_eq_ediv_of_nonneg a0
  have db : Int.tdiv b w = b / w := Int.tdiv_eq_ediv_of_nonneg b0
  have m0 := Int.emod_nonneg a (show w ≠ 0 by omega)
  have m1 := Int.emod_lt_of_pos a (show 0 < w by omega)
  have n0 := Int.emod_nonneg b (show w ≠ 0 by omega)
  have n1 := Int.emod_lt_of_pos b (show 0 < w by omega)
  have p0 := Int.ediv_nonneg a0 (show 0 ≤ w by omega)
  have p1 := Int.ediv_le_self w a0
  have q0 := Int.ediv_nonneg b0 (show 0 ≤ w by omega)
  have q1 := Int.ediv_le_self w b0
  unfold bivouacref07_Beside.f bes
  rw [if_neg (by omega), ea, eb, da, db]
  generalize a % w = r at *
  generalize a / w = q at *
  generalize b % w = s at *
  generalize b / w = p at *
  have s1 := sqb (x := r - s) (B := 64) (by omega) (by omega)
  have s2 := sqb (x := q - p) (B := 4096) (by omega) (by omega)
  rw [w64 (i := q) (by omega) (by omega), w64 (i := p) (by omega) (by omega), w64 (i := r - s) (by omega) (by omega), w64 (i := q - p) (by omega) (by omega), w64 (i := (r - s) * (r - s)) (by omega) (by omega), w64 (i := (q - p) * (q - p)) (by omega) (by omega), w64 (by omega) (by omega)]
theorem sq_nonneg (x : Int) : 0 ≤ x * x := by
  rcases (by omega : 0 ≤ x ∨ x ≤ 0) with h | h
  · exact Int.mul_nonneg h h
  · exact Int.mul_nonneg_of_nonpos_of_nonpos h h
theorem sq1 {x : Int} (h : x * x ≤ 1) : x = -1 ∨ x = 0 ∨ x = 1 := by
  rcases (by omega : 2 ≤ x ∨ x ≤ -2 ∨ (-1 ≤ x ∧ x ≤ 1)) with g | g | g
  · have := Int.mul_le_mul g g (by omega) (by omega)
    omega
  · have := Int.mul_le_mul (show (2 : Int) ≤ -x by omega) (show (2 : Int) ≤ -x by omega) (by omega) (by omega)
    rw [Int.neg_mul_neg] at this
    omega
  · omega
theorem bes_iff {a b w : Int} (w0 : 1 ≤ w) : bes a b w = true ↔ (b = a + w ∨ a = b + w ∨ (b = a + 1 ∧ a % w < w - 1) ∨ (a = b + 1 ∧ 0 < a % w)) := by
  have ea := Int.emod_add_mul_ediv a w
  have eb := Int.emod_add_mul_ediv b w
  have m0 := Int.emod_nonneg a (show w ≠ 0 by omega)
  have m1 := Int.emod_lt_of_pos a (show 0 < w by omega)
  have n0 := Int.emod_nonneg b (show w ≠ 0 by omega)
  have n1 := Int.emod_lt_of_pos b (show 0 < w by omega)
  unfold bes
  rw [beq_iff_eq]
  constructor
  · intro h
    generalize a % w = r at *
    generalize a / w = q at *
    generalize b % w = s at *
    generalize b / w = p at *
    have s1 := sq_nonneg (r - s)
    have s2 := sq_nonneg (q - p)
    have c1 := sq1 (x := r - s) (by omega)
    have c2 := sq1 (x := q - p) (by omega)
    rcases c2 with c | c | c
    · have e : p = q + 1 := by omega
      rw [c] at h
      have e2 : r - s = 0 := by rcases c1 with d | d | d <;> rw [d] at h <;> first | exact d | exact absurd h (by decide)
      have e3 : w * p = w * q + w := by rw [e, Int.mul_add, Int.mul_one]
      exact .inl (by omega)
    · have e : p = q := by omega
      rw [c] at h
      subst e
      rcases c1 with d | d | d
      · exact .inr (.inr (.inl ⟨by omega, by omega⟩))
      · rw [d] at h; exact absurd h (by decide)
      · exact .inr (.inr (.inr ⟨by omega, by omega⟩))
    · have e : q = p + 1 := by omega
      rw [c] at h
      have e2 : r - s = 0 := by rcases c1 with d | d | d <;> rw [d] at h <;> first | exact d | exact absurd h (by decide)
      have e3 : w * q = w * p + w := by rw [e, Int.mul_add, Int.mul_one]
      exact .inr (.inl (by omega))
  · have can : ∀ {x y : Int}, w * x = w * y → x = y := fun h => Int.eq_of_mul_eq_mul_left (by omega) h
    intro h
    rcases h with rfl | rfl | ⟨rfl, h⟩ | ⟨rfl, h⟩
    · have e1 : (a + w) % w = a % w := by simp
      have e2 : (a + w) / w = a / w + 1 := by
        apply can
        rw [Int.mul_add, Int.mul_one]
        omega
      rw [e1, e2]
      rw [show a % w - a % w = 0 by omega, show a / w - (a / w + 1) = -1 by omega]
      decide
    · have e1 : (b + w) % w = b % w := by simp
      have e2 : (b + w) / w = b / w + 1 := by
        apply can
        rw [Int.mul_add, Int.mul_one]
        omega
      rw [e1, e2]
      rw [show b % w - b % w = 0 by omega, show b / w + 1 - b / w = 1 by omega]
      decide
    · have e1 := mod_succ (by omega) h
      have e2 : (a + 1) / w = a / w := can (by omega)
      rw [e1, e2]
      rw [show a % w - (a % w + 1) = -1 by omega, show a / w - a / w = 0 by omega]
      decide
    · have e1 := mod_pred (by omega) h
      rw [show b + 1 - 1 = b by omega] at e1
      have e2 : (b + 1) / w = b / w := can (by omega)
      rw [e1, e2]
      rw [show (b + 1) % w - ((b + 1) % w - 1) = 1 by omega, show b / w - b / w = 0 by omega]
      decide

/-- Does cell k take the number of n? -/
def cnd (g : List Bool) (w k : Int) (s : List Int) (n : Int) : Prop := 0 ≤ n ∧ n < (g.length : Int) ∧ g.getD k.toNat false = true ∧ g.getD n.toNat false = true ∧ bes k n w = true ∧ s.getD n.toNat 0 < s.getD k.toNat 0
instance (g : List Bool) (w k : Int) (s : List Int) (n : Int) : Decidable (cnd g w k s n) := by unfold cnd; infer_instance
def stp (g : List Bool) (w k : Int) (s : List Int × Bool) (n : Int) : List Int × Bool := if cnd g w k s.1 n then (s.1.set k.toNat (s.1.getD n.toNat 0), true) else s
def cand (w k : Int) : List Int := [k - w, k - 1, k + 1, k + w]
def row (g : List Bool) (w : Int) (s : List Int × Bool) (k : Int) : List Int × Bool := (cand w k).foldl (stp g w k) s
def pass (g : List Bool) (w : Int) : Nat → Nat → List Int × Bool → List Int × Bool
  | 0, _, s => s
  | m + 1, i, s => pass g w m (i + 1) (row g w s (i : Int))
theorem stp_len (g : List Bool) (w k : Int) (s : List Int × Bool) (n : Int) : (stp g w k s n).1.length = s.1.length := by unfold stp; split <;> simp
theorem row_len (g : List Bool) (w k : Int) (s : List Int × Bool) : (row g w s k).1.length = s.1.length := by simp [row, cand, stp_len]

theorem l3_step {g : List Bool} {W : Int} (w0 : 1 ≤ W) (w1 : W ≤ 64) (hg : g.length ≤ 4096) {s : List Int} (c : Bool) (hs : s.length = g.length) {x : Int} (x0 : 0 ≤ x) (x1 : x < (g.length : Int)) (y : List Int) (hy : y.length = 4) {i : Int} (i0 : 0 ≤ i) (i1 : i < 4) (k : Nat) (H Wt : Int) (l : List Int) :
    bivouacref07_Regions.l3 (k + 1) g s c x y 4 i W H Wt l = bivouacref07_Regions.l3 k g (stp g W x (s, c) (rd y i)).1 (stp g W x (s, c) (rd y i)).2 x y 4 (i + 1) W H Wt l := by
  simp only [bivouacref07_Regions.l3]
  rw [if_pos i1, if_pos i0, if_pos (by omega), w64 (i := i + 1) (by omega) (by omega)]
  generalize rd y i = n
  unfold stp
  dsimp only
  by_cases h0 : n ≥ 0
  · rw [if_pos h0]
    by_cases h1 : n < (s.length : Int)
    · rw [if_pos h1, if_pos x0, if_pos x1]
      by_cases h2 : rdOf false g x = true
      · rw [if_pos h2, if_pos (by omega), if_pos (by omega)]
        by_cases h3 : rdOf false g n = true
        · rw [if_pos h3, beside_eq w0 w1 x0 (by omega) (by omega) (by omega)]
          simp only [Option.bind_some]
          by_cases h4 : bes x n W = true
          · rw [if_pos h4, if_pos (by omega)]
            by_cases h5 : rd s n < rd s x
            · rw [if_pos h5, if_pos (show cnd g W x s n from ⟨by omega, by omega, h2, h3, h4, h5⟩)]
              rfl
            · rw [if_neg h5, if_neg (fun e : cnd g W x s n => h5 e.2.2.2.2.2)]
          · rw [if_neg h4, if_neg (fun e : cnd g W x s n => h4 e.2.2.2.2.1)]
        · rw [if_neg h3, if_neg (fun e : cnd g W x s n => h3 e.2.2.2.1)]
      · rw [if_neg h2, if_neg (fun e : cnd g W x s n => h2 e.2.2.1)]
    · rw [if_neg h1, if_neg (fun e : cnd g W x s n => h1 (by have := e.2.1; omega))]
  · rw [if_neg h0, if_neg (fun e : cnd g W x s n => h0 e.1)]
theorem l2_step {g : List Bool} {W : Int} (w0 : 1 ≤ W) (w1 : W ≤ 64) (hg : g.length ≤ 4096) (s : List Int × Bool) (hs : s.1.length = g.length) {x : Int} (x0 : 0 ≤ x) (x1 : x < (g.length : Int)) (k : Nat) (H Wt : Int) (l : List Int) :
    bivouacref07_Regions.l2 (k + 6) g s.1 s.2 x W H Wt l = bivouacref07_Regions.l2 k g (row g W s x).1 (row g W s x).2 (x + 1) W H Wt l := by
  rw [show k + 6 = (k + 5) + 1 from rfl]
  simp only [bivouacref07_Regions.l2]
  rw [if_pos (by omega), w64 (i := x - W) (by omega) (by omega), w64 (i := x - 1) (by omega) (by omega), w64 (i := x + 1) (by omega) (by omega), w64 (i := x + W) (by omega) (by omega)]
  simp only [Option.bind_some]
  rw [show (([x - W, x - 1, x + 1, x + W].length : Nat) : Int) = 4 from rfl]
  rw [show k + 5 = (k + 4) + 1 from rfl, l3_step w0 w1 hg s.2 hs x0 x1 _ rfl (by decide) (by decide)]
  rw [show k + 4 = (k + 3) + 1 from rfl, l3_step w0 w1 hg _ (by rw [stp_len]; exact hs) x0 x1 _ rfl (by decide) (by decide)]
  rw [show k + 3 = (k + 2) + 1 from rfl, l3_step w0 w1 hg _ (by rw [stp_len, stp_len]; exact hs) x0 x1 _ rfl (by decide) (by decide)]
  rw [show k + 2 = (k + 1) + 1 from rfl, l3_step w0 w1 hg _ (by rw [stp_len, stp_len, stp_len]; exact hs) x0 x1 _ rfl (by decide) (by decide)]
  simp only [bivouacref07_Regions.l3]
  rw [if_neg (by decide), w64 (i := x + 1) (by omega) (by omega)]
  rfl
theorem l2_pass {g : List Bool} {W : Int} (w0 : 1 ≤ W) (w1 : W ≤ 64) (hg : g.length ≤ 4096) (k : Nat) (H Wt : Int) (l : List Int) : ∀ (m i : Nat) (s : List Int × Bool), s.1.length = g.length → i + m = g.length →
    bivouacref07_Regions.l2 (k + 6 * m + 1) g s.1 s.2 (i : Int) W H Wt l = bivouacref07_Regions.l1 k g (pass g W m i s).1 (pass g W m i s).2 W H Wt l
  | 0, i, s, hs, hi => by
    simp only [bivouacref07_Regions.l2, pass, Nat.mul_zero, Nat.add_zero]
    rw [if_neg (by omega)]
  | m + 1, i, s, hs, hi => by
    rw [show k + 6 * (m + 1) + 1 = (k + 6 * m + 1) + 6 by omega, l2_step w0 w1 hg s hs (by omega) (by omega)]
    have := l2_pass w0 w1 hg k H Wt l m (i + 1) (row g W s (i : Int)) (by rw [row_len]; exact hs) (by omega)
    simp only [pass]
    simpa using this

/-- What stays true of the numbers. -/
structure Inv (g : List Bool) (w : Int) (l : List Int) : Prop where
  len : l.length = g.length
  shut : ∀ a : Int, 0 ≤ a → a < (g.length : Int) → g.getD a.toNat false = false → l.getD a.toNat 0 = -1
  num : ∀ a : Int, 0 ≤ a → a < (g.length : Int) → g.getD a.toNat false = true → 0 ≤ l.getD a.toNat 0 ∧ l.getD a.toNat 0 ≤ a ∧ g.getD (l.getD a.toNat 0).toNat false = true ∧ Conn g w a (l.getD a.toNat 0)
def sm : List Int → Nat
  | [] => 0
  | x :: l => x.toNat + sm l
theorem sm_set : ∀ (l : List Int) (i : Nat) (v : Int), i < l.length → 0 ≤ v → v < l.getD i 0 → sm (l.set i v) < sm l
  | [], _, _, h, _, _ => by simp at h
  | x :: l, 0, v, _, h0, h => by
    simp at h
    simp only [List.set_cons_zero, sm]
    omega
  | x :: l, i + 1, v, h, h0, h2 => by
    have := sm_set l i v (by simpa using h) h0 (by simpa using h2)
    simp only [List.set_cons_succ, sm]
    omega
structure Step (g : List Bool) (w : Int) (s t : List Int × Bool) : Prop where
  inv : Inv g w t.1
  le : sm t.1 ≤ sm s.1
  up : t.2 = true → s.2 = true ∨ sm t.1 < sm s.1
  no : t.2 = false → t = s
theorem Step.trans {g : List Bool} {w : Int} {s t u : List Int × Bool} (h : Step g w s t) (k : Step g w t u) : Step g w s u :=
  ⟨k.inv, Nat.le_trans k.le h.le, fun e => by
    rcases k.up e with e2 | e2
    · rcases h.up e2 with e3 | e3
      · exact .inl e3
      · exact .inr (Nat.lt_of_le_of_lt k.le e3)
    · exact .inr (Nat.lt_of_lt_of_le e2 h.le), fun e => by
    have e1 := k.no e
    rw [e1] at e
    rw [e1]
    exact h.no e⟩
theorem Inv.stp {g : List Bool} {w k n : Int} (w0 : 1 ≤ w) {s : List Int × Bool} (h : Inv g w s.1) (k0 : 0 ≤ k) (k1 : k < (g.length : Int)) : Step g w s (stp g w k s n) ∧ ((stp g w k s n).2 = false → ¬ cnd g w k s.1 n) := by
  unfold L.stp
  by_cases c : cnd g w k s.1 n
  · rw [if_pos c]
    obtain ⟨n0, n1, gk, gn, hb, hlt⟩ := c
    obtain ⟨a0, a1, a2, a3⟩ := h.num n n0 n1 gn
    obtain ⟨b0, b1, b2, b3⟩ := h.num k k0 k1 gk
    have hA : Adj g w k n := ⟨k0, k1, n0, n1, gk, gn, (bes_iff w0).1 hb⟩
    have hk : k.toNat < s.1.length := by rw [h.len]; omega
    have get : ∀ a : Int, 0 ≤ a → (s.1.set k.toNat (s.1.getD n.toNat 0)).getD a.toNat 0 = if a = k then s.1.getD n.toNat 0 else s.1.getD a.toNat 0 := by
      intro a ha
      rw [getD_set]
      by_cases e : a = k
      · subst e; simp [hk]
      · rw [if_neg e, if_neg (by omega)]
    have hs := sm_set s.1 k.toNat (s.1.getD n.toNat 0) hk a0 hlt
    refine ⟨⟨⟨by simpa using h.len, ?_, ?_⟩, Nat.le_of_lt hs, fun _ => .inr hs, fun e => by cases e⟩, fun e => by cases e⟩
    · intro a x0 x1 hx
      rw [get a x0, if_neg (fun e => by subst e; rw [gk] at hx; cases hx)]
      exact h.shut a x0 x1 hx
    · intro a x0 x1 hx
      rw [get a x0]
      by_cases e : a = k
      · subst e
        rw [if_pos rfl]
        exact ⟨a0, by omega, a2, (Conn.step (.refl _) hA).trans a3⟩
      · rw [if_neg e]
        exact h.num a x0 x1 hx
  · rw [if_neg c]
    exact ⟨⟨h, Nat.le_refl _, fun e => .inl e, fun _ => rfl⟩, fun _ => c⟩
theorem Inv.fold {g : List Bool} {w k : Int} (w0 : 1 ≤ w) (k0 : 0 ≤ k) (k1 : k < (g.length : Int)) : ∀ (ns : List Int) (s : List Int × Bool), Inv g w s.1 → Step g w s (ns.foldl (L.stp g w k) s) ∧ ((ns.foldl (L.stp g w k) s).2 = false → ∀ n ∈ ns, ¬ cnd g w k s.1 n)
  | [], s, h => ⟨⟨h, Nat.le_refl _, fun e => .inl e, fun _ => rfl⟩, fun _ n hn => by simp at hn⟩
  | n :: ns, s, h => by
    obtain ⟨h1, h2⟩ := h.stp (n := n) w0 k0 k1
    obtain ⟨h3, h4⟩ := Inv.fold w0 k0 k1 ns (L.stp g w k s n) h1.inv
    simp only [List.foldl_cons]
    refine ⟨h1.trans h3, fun e m hm => ?_⟩
    have e1 := h3.no e
    have e2 : (L.stp g w k s n).2 = false := by rw [e1] at e; exact e
    rcases List.mem_cons.1 hm with rfl | hm
    · exact h2 e2
    · have := h4 e m hm
      rw [h1.no e2] at this
      exact this
theorem Inv.pass {g : List Bool} {w : Int} (w0 : 1 ≤ w) : ∀ (m i : Nat) (s : List Int × Bool), i + m = g.length → Inv g w s.1 → Step g w s (L.pass g w m i s) ∧ ((L.pass g w m i s).2 = false → ∀ j : Nat, i ≤ j → j < g.length → ∀ n ∈ cand w (j : Int), ¬ cnd g w (j : Int) s.1 n)
  | 0, i, s, hi, h => ⟨⟨h, Nat.le_refl _, fun e => .inl e, fun _ => rfl⟩, fun _ j h0 h1 => by omega⟩
  | m + 1, i, s, hi, h => by
    obtain ⟨h1, h2⟩ := Inv.fold (k := (i : Int)) w0 (by omega) (by omega) (cand w (i : Int)) s h
    obtain ⟨h3, h4⟩ := Inv.pass w0 m (i + 1) (row g w s (i : Int)) (by omega) h1.inv
    simp only [L.pass]
    refine ⟨h1.trans h3, fun e j j0 j1 n hn => ?_⟩
    have e1 := h3.no e
    have e2 : (row g w s (i : Int)).2 = false := by rw [e1] at e; exact e
    rcases (by omega : j = i ∨ i + 1 ≤ j) with rfl | hj
    · exact h2 e2 n hn
    · have := h4 e j hj j1 n hn
      rw [show row g w s (i : Int) = s from h1.no e2] at this
      exact this
theorem Inv.good {g : List Bool} {w : Int} (w0 : 1 ≤ w) {l : List Int} (h : Inv g w l) (hn : ∀ j : Nat, j < g.length → ∀ n ∈ cand w (j : Int), ¬ cnd g w (j : Int) l n) : Good g w l := by
  refine ⟨h.len, h.shut, h.num, ?_⟩
  have half : ∀ a b : Int, Adj g w a b → ¬ l.getD b.toNat 0 < l.getD a.toNat 0 := by
    intro a b hab hlt
    obtain ⟨a0, a1, b0, b1, ga, gb, h7⟩ := hab
    have := hn a.toNat (by omega) b (by
      rw [Int.toNat_of_nonneg a0]
      unfold cand
      simp only [List.mem_cons, List.not_mem_nil, or_false]
      omega)
    rw [Int.toNat_of_nonneg a0] at this
    exact this ⟨b0, b1, ga, gb, (bes_iff w0).2 h7, hlt⟩
  intro a b hab
  have h1 := half a b hab
  have h2 := half b a (hab.symm (by omega))
  omega
theorem fixes {g : List Bool} {W : Int} (w0 : 1 ≤ W) (w1 : W ≤ 64) (hg : g.length ≤ 4096) (H Wt : Int) (l : List Int) : ∀ (M : Nat) (s : List Int), sm s ≤ M → Inv g W s → ∃ L, Good g W L ∧ ∃ K, ∀ k, K ≤ k → bivouacref07_Regions.l1 k g s true W H Wt l = some L
  | M, s, hM, h => by
    obtain ⟨h1, h2⟩ := Inv.pass w0 g.length 0 (s, false) (by omega) h
    have go : ∀ k, 6 * g.length + 2 ≤ k → bivouacref07_Regions.l1 k g s true W H Wt l = bivouacref07_Regions.l1 (k - (6 * g.length + 2)) g (L.pass g W g.length 0 (s, false)).1 (L.pass g W g.length 0 (s, false)).2 W H Wt l := by
      intro k hk
      obtain ⟨k, rfl⟩ : ∃ j, k = j + 6 * g.length + 1 + 1 := ⟨k - (6 * g.length + 2), by omega⟩
      simp only [bivouacref07_Regions.l1]
      rw [if_pos trivial]
      have := l2_pass w0 w1 hg k H Wt l g.length 0 (s, false) h.len (by omega)
      rw [show k + 6 * g.length + 1 + 1 - (6 * g.length + 2) = k by omega]
      simpa using this
    cases hc : (L.pass g W g.length 0 (s, false)).2
    · refine ⟨s, h.good w0 (fun j hj => h2 hc j (by omega) hj), 6 * g.length + 3, fun k hk => ?_⟩
      rw [go k (by omega), hc, h1.no hc]
      obtain ⟨j, hj⟩ : ∃ j, k - (6 * g.length + 2) = j + 1 := ⟨k - (6 * g.length + 3), by omega⟩
      rw [hj]
      simp only [bivouacref07_Regions.l1]
      rw [if_neg (by decide)]
    · rcases h1.up hc with e | e
      · cases e
      · dsimp only at e
        cases M with
        | zero => omega
        | succ M =>
          obtain ⟨L, hL, K, hK⟩ := fixes w0 w1 hg H Wt l M _ (by omega) h1.inv
          refine ⟨L, hL, K + 6 * g.length + 2, fun k hk => ?_⟩
          rw [go k (by omega), hc]
          exact hK _ (by omega)
theorem starts {g : List Bool} {W : Int} (w0 : 1 ≤ W) (w1 : W ≤ 64) (hg : g.length ≤ 4096) (H Wt : Int) (l : List Int) : ∀ (d i : Nat) (s : List Int), s.length = g.length → i + d = g.length →
    (∀ a : Int, 0 ≤ a → a < (i : Int) → s.getD a.toNat 0 = if g.getD a.toNat false = true then a else -1) → ∃ L, Good g W L ∧ ∃ K, ∀ k, K ≤ k → bivouacref07_Regions.l0 k g s (i : Int) W H Wt l = some L
  | 0, i, s, hs, hi, ha => by
    obtain ⟨L, hL, K, hK⟩ := fixes w0 w1 hg H Wt l (sm s) s (Nat.le_refl _) ⟨hs, fun a a0 a1 h => by rw [ha a a0 (by omega), if_neg (by rw [h]; decide)], fun a a0 a1 h => by
      rw [ha a a0 (by omega), if_pos h]
      exact ⟨a0, Int.le_refl _, h, .refl _⟩⟩
    refine ⟨L, hL, K + 1, fun k hk => ?_⟩
    obtain ⟨k, rfl⟩ : ∃ j, k = j + 1 := ⟨k - 1, by omega⟩
    simp only [bivouacref07_Regions.l0]
    rw [if_neg (by omega)]
    exact hK k (by omega)
  | d + 1, i, s, hs, hi, ha => by
    have hil : i < s.length := by omega
    have key : ∀ t : List Int, t.length = g.length → (∀ a : Int, 0 ≤ a → t.getD a.toNat 0 = if a = (i : Int) then (if g.getD a.toNat false = true then a else -1) else s.getD a.toNat 0) →
        ∃ L, Good g W L ∧ ∃ K, ∀ k, K ≤ k → bivouacref07_Regions.l0 k g t ((i : Int) + 1) W H Wt l = some L := by
      intro t ht hta
      have := starts w0 w1 hg H Wt l d (i + 1) t ht (by omega) (fun a a0 a1 => by
        rw [hta a a0]
        by_cases e : a = (i : Int)
        · rw [if_pos e]
        · rw [if_neg e]; exact ha a a0 (by omega))
      simpa using this
    by_cases ho : rdOf false g (i : Int) = true
    · obtain ⟨L, hL, K, hK⟩ := key ((s.set i (-1)).set i (i : Int)) (by simpa using hs) (fun a a0 => by
        rw [getD_set, getD_set]
        by_cases e : a = (i : Int)
        · subst e
          have ho' : g.getD (i : Int).toNat false = true := ho
          rw [if_pos ⟨by simp, by simpa using hil⟩, if_pos rfl, if_pos ho']
        · rw [if_neg (by omega), if_neg (by omega), if_neg e])
      refine ⟨L, hL, K + 1, fun k hk => ?_⟩
      obtain ⟨k, rfl⟩ : ∃ j, k = j + 1 := ⟨k - 1, by omega⟩
      simp only [bivouacref07_Regions.l0]
      rw [if_pos (by omega), if_pos (by omega)]
      simp only [Option.bind_some]
      rw [if_pos (by omega), if_pos ho, w64 (by omega) (by omega)]
      exact hK k (by omega)
    · obtain ⟨L, hL, K, hK⟩ := key (s.set i (-1)) (by simpa using hs) (fun a a0 => by
        rw [getD_set]
        by_cases e : a = (i : Int)
        · subst e
          have ho' : ¬ g.getD (i : Int).toNat false = true := ho
          rw [if_pos ⟨by simp, by simpa using hil⟩, if_pos rfl, if_neg ho']
        · rw [if_neg (by omega), if_neg e])
      refine ⟨L, hL, K + 1, fun k hk => ?_⟩
      obtain ⟨k, rfl⟩ : ∃ j, k = j + 1 := ⟨k - 1, by omega⟩
      simp only [bivouacref07_Regions.l0]
      rw [if_pos (by omega), if_pos (by omega)]
      simp only [Option.bind_some]
      rw [if_pos (by omega), if_neg ho, w64 (by omega) (by omega)]
      exact hK k (by omega)
theorem refRegs {W H Wt : Int} {l : List Int} (ok : Ok W H Wt l) (c : Int) : ∃ L, Good (cells W H Wt l c) W L ∧ ∃ K, ∀ k, K ≤ k → bivouacref07_Regions.f k W H Wt l c = some L := by
  have hwh := wh ok.w0 ok.w1 ok.h0 ok.h1
  have hl := cells_len W H Wt l c
  obtain ⟨K1, hK1⟩ := refGrid_eq ok c
  obtain ⟨L, hL, K2, hK2⟩ := starts (g := cells W H Wt l c) ok.w0 ok.w1 (by omega) H Wt l (cells W H Wt l c).length 0 (List.replicate (cells W H Wt l c).length 0) (by simp) (by omega) (fun a a0 a1 => by omega)
  refine ⟨L, hL, K1 + K2, fun k hk => ?_⟩
  unfold bivouacref07_Regions.f
  rw [hK1 k (by omega)]
  simp only [Option.bind_some]
  rw [if_pos (by omega), if_pos (by omega)]
  have := hK2 k (by omega)
  simpa using this


theorem awake_ev : ∃ K, ∀ k, K ≤ k → bivouaclaw07_awake.f k = some true :=
  Ev.of (fun k => bivouaclaw07_awake.mono k) (k := 60) (by decide +kernel)

end Go.Proofs.Ytnpippechogagaa.L
namespace Go.Proofs.Ytnpippechogagaa.Pure
open Go.RowKit Go.Proofs.Ytnpippechogagaa.PA Go.Proofs.YtnpippechogagaaW.PrintWords Go.Proofs.YtnpippechogagaaW.PrintLast Go.Proofs.YtnpippechogagaaW.PrintMore
open Go.Proofs.Ytnpippechogagaa.L
theorem GroundRegions : bivouaclaw07_GroundRegions.Pure := by
  intro W H Wt l c a b _ _ _ _ hl _ _ _
  have hb := take_b hl
  obtain ⟨A, hA⟩ := awake_ev
  by_cases h : 0 ≤ c ∧ c ≤ 5 ∧ chk W H Wt (l.take 4300) = 0
  · have ok := (chk_zero hb).1 h.2.2
    obtain ⟨L, hg, hL⟩ := regs ok h.1 h.2.1
    obtain ⟨L2, hg2, K, hK⟩ := refRegs ok c
    obtain rfl := hg.unique hg2
    refine ⟨A + K + 20000, ?_⟩
    unfold bivouaclaw07_GroundRegions.f ground_Joined.f
    rw [few_eq]
    simp only [Option.bind_some]
    rw [hL _ (by omega), lawRight_eq (by omega), hK _ (by omega)]
    simp only [Option.bind_some]
    rw [if_pos (decide_eq_true h), if_pos ?_]
    · exact hA _ (by omega)
    have hwh := wh ok.w0 ok.w1 ok.h0 ok.h1
    have hcl := cells_len W H Wt (l.take 4300) c
    have hll := hg.len
    refine ⟨trivial, trivial, by omega, ?_⟩
    unfold ground_Joined.o bivouaclaw07_GroundRegions.jo
    simp
  · refine ⟨A + 20000, ?_⟩
    unfold bivouaclaw07_GroundRegions.f ground_Joined.f
    rw [few_eq]
    simp only [Option.bind_some]
    rw [regs_no (by omega) hb c h, lawRight_eq (by omega)]
    simp only [Option.bind_some]
    rw [if_neg (by simpa using h), if_pos ?_]
    · exact hA _ (by omega)
    refine ⟨trivial, trivial, ?_⟩
    unfold ground_Joined.o
    simp

end Go.Proofs.Ytnpippechogagaa.Pure
