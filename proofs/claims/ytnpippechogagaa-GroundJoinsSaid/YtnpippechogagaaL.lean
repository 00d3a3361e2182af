/- What the printed functions of the package relief and of its reference come to, for every map. -/
import Derived.Test.YtnpippechogagaaPAx1
import Derived.Test.YtnpippechogagaaPAx16
import Derived.Test.YtnpippechogagaaPAx17
import Derived.Test.YtnpippechogagaaPAx18
import Derived.Test.YtnpippechogagaaPAx5
import Derived.OpenShut
namespace Go.Proofs.Ytnpippechogagaa.L
open Go.RowKit Go.Proofs.Ytnpippechogagaa.PA Go.Proofs.YtnpippechogagaaW.PrintWords Go.Proofs.YtnpippechogagaaW.PrintLast Go.Proofs.YtnpippechogagaaW.PrintMore
set_option linter.unusedVariables false
set_option linter.unusedSimpArgs false

theorem w64 {i : Int} (h0 : -9223372036854775808 ≤ i) (h1 : i ≤ 9223372036854775807) : wrap64 i = i := by unfold wrap64; omega
theorem mulb {a b A B : Int} (ha : 0 ≤ a) (hA : a ≤ A) (hb : 0 ≤ b) (hB : b ≤ B) : 0 ≤ a * b ∧ a * b ≤ A * B :=
  ⟨Int.mul_nonneg ha hb, Int.le_trans (Int.mul_le_mul_of_nonneg_right hA hb) (Int.mul_le_mul_of_nonneg_left hB (Int.le_trans ha hA))⟩

/-- May a map be? -/
structure Ok (W H Wt : Int) (l : List Int) : Prop where
  w0 : 1 ≤ W
  w1 : W ≤ 64
  h0 : 1 ≤ H
  h1 : H ≤ 64
  t0 : 0 ≤ Wt
  t1 : Wt ≤ 255
  n : (l.length : Int) = (W + 1) * (H + 1)
  b : ∀ x ∈ l, 0 ≤ x ∧ x ≤ 255

/-- The error's number of a map. -/
def chk (W H Wt : Int) (l : List Int) : Int :=
  if 1 ≤ W ∧ W ≤ 64 ∧ 1 ≤ H ∧ H ≤ 64 ∧ 0 ≤ Wt ∧ Wt ≤ 255 then if (l.length : Int) < (W + 1) * (H + 1) then 2 else if (l.length : Int) > (W + 1) * (H + 1) then 7 else 0 else 1

theorem area {W H : Int} (w0 : 1 ≤ W) (w1 : W ≤ 64) (h0 : 1 ≤ H) (h1 : H ≤ 64) : wrap64 (wrap64 (W + 1) * wrap64 (H + 1)) = (W + 1) * (H + 1) ∧ 4 ≤ (W + 1) * (H + 1) ∧ (W + 1) * (H + 1) ≤ 4225 := by
  have h := mulb (a := W + 1) (b := H + 1) (A := 65) (B := 65) (by omega) (by omega) (by omega) (by omega)
  have g := mulb (a := W - 1) (b := H - 1) (A := 63) (B := 63) (by omega) (by omega) (by omega) (by omega)
  have e : (W + 1) * (H + 1) = (W - 1) * (H - 1) + 2 * W + 2 * H := by grind
  refine ⟨?_, by omega, by omega⟩
  rw [w64 (i := W + 1) (by omega) (by omega), w64 (i := H + 1) (by omega) (by omega), w64 (by omega) (by omega)]

theorem chk_zero {W H Wt : Int} {l : List Int} (hb : ∀ x ∈ l, 0 ≤ x ∧ x ≤ 255) : chk W H Wt l = 0 ↔ Ok W H Wt l := by
  unfold chk
  constructor
  · intro h
    split at h
    · rename_i hr
      obtain ⟨a, b, c, d, e, f⟩ := hr
      split at h
      · omega
      · split at h
        · omega
        · exact ⟨a, b, c, d, e, f, by omega, hb⟩
    · omega
  · intro h
    rw [if_pos ⟨h.w0, h.w1, h.h0, h.h1, h.t0, h.t1⟩, if_neg (by have := h.n; omega), if_neg (by have := h.n; omega)]

theorem check_eq {k : Nat} (hk : 1 ≤ k) (W H Wt : Int) (l : List Int) : relief_Check.f k W H Wt l = some (chk W H Wt l) := by
  obtain ⟨k, rfl⟩ : ∃ m, k = m + 1 := ⟨k - 1, by omega⟩
  unfold relief_Check.f chk
  simp only [relief_Check.j0]
  by_cases hr : 1 ≤ W ∧ W ≤ 64 ∧ 1 ≤ H ∧ H ≤ 64 ∧ 0 ≤ Wt ∧ Wt ≤ 255
  · have hr2 := hr
    obtain ⟨a, b, c, d, e, f⟩ := hr2
    rw [if_pos hr, if_neg (by omega), if_neg (by omega), if_neg (by omega), if_neg (by omega), if_neg (by omega), if_neg (by simpa using f), (area a b c d).1]
    repeat' split
    all_goals first | rfl | (exfalso; omega)
  · rw [if_neg hr]
    by_cases h1 : W < 1
    · rw [if_pos h1]; simp
    rw [if_neg h1]
    by_cases h2 : W > 64
    · rw [if_pos h2]; simp
    rw [if_neg h2]
    by_cases h3 : H < 1
    · rw [if_pos h3]; simp
    rw [if_neg h3]
    by_cases h4 : H > 64
    · rw [if_pos h4]; simp
    rw [if_neg h4]
    by_cases h5 : Wt < 0
    · rw [if_pos h5]; simp
    rw [if_neg h5, if_pos (by simp; omega)]

theorem refCheck_eq {k : Nat} (hk : 1 ≤ k) (W H Wt : Int) (l : List Int) : bivouacref06_Check.f k W H Wt l = some (chk W H Wt l) := by
  obtain ⟨k, rfl⟩ : ∃ m, k = m + 1 := ⟨k - 1, by omega⟩
  unfold bivouacref06_Check.f chk
  simp only [bivouacref06_Check.j0]
  by_cases hr : 1 ≤ W ∧ W ≤ 64 ∧ 1 ≤ H ∧ H ≤ 64 ∧ 0 ≤ Wt ∧ Wt ≤ 255
  · have hr2 := hr
    obtain ⟨a, b, c, d, e, f⟩ := hr2
    rw [if_pos hr, if_pos a, if_pos b, if_pos c, if_pos d, if_pos e, if_neg (by simpa using f), (area a b c d).1]
    repeat' split
    all_goals first | rfl | (exfalso; omega)
  · rw [if_neg hr]
    by_cases h1 : 1 ≤ W
    · rw [if_pos h1]
      by_cases h2 : W ≤ 64
      · rw [if_pos h2]
        by_cases h3 : 1 ≤ H
        · rw [if_pos h3]
          by_cases h4 : H ≤ 64
          · rw [if_pos h4]
            by_cases h5 : 0 ≤ Wt
            · rw [if_pos h5, if_pos (by simp; omega)]
            · rw [if_neg h5]; simp
          · rw [if_neg h4]; simp
        · rw [if_neg h3]; simp
      · rw [if_neg h2]; simp
    · rw [if_neg h1]; simp

theorem few_eq (W H Wt : Int) (l : List Int) : bivouaclaw07_few.f W H Wt l = some (W, H, Wt, l.take 4300) := by
  unfold bivouaclaw07_few.f
  by_cases h : (l.length : Int) > 4300
  · rw [if_pos h, if_pos (by omega)]
  · rw [if_neg h, List.take_of_length_le (by omega)]

theorem take_b {l : List Int} (h : ∀ x ∈ l, (Lit.int .u8 x).wf = true) : ∀ x ∈ l.take 4300, 0 ≤ x ∧ x ≤ 255 := fun x hx => Go.bounds_u8 (h x (List.mem_of_mem_take hx))

/-- A corner's height. -/
def cor (W : Int) (l : List Int) (i j : Int) : Int := rd l ((W + 1) * j + i)

theorem rd_b {l : List Int} (hb : ∀ x ∈ l, 0 ≤ x ∧ x ≤ 255) (i : Int) : 0 ≤ rd l i ∧ rd l i ≤ 255 := by
  unfold rd
  rw [List.getD_eq_getElem?_getD]
  rcases Nat.lt_or_ge i.toNat l.length with h | h
  · rw [List.getElem?_eq_getElem h]; exact hb _ (List.getElem_mem h)
  · rw [List.getElem?_eq_none h]; decide

theorem Ok.idx {W H Wt : Int} {l : List Int} (h : Ok W H Wt l) {i j : Int} (i0 : 0 ≤ i) (i1 : i ≤ W) (j0 : 0 ≤ j) (j1 : j ≤ H) :
    wrap64 (wrap64 (wrap64 (W + 1) * j) + i) = (W + 1) * j + i ∧ 0 ≤ (W + 1) * j + i ∧ (W + 1) * j + i < (l.length : Int) ∧ (l.length : Int) ≤ 4225 := by
  have hw := h.w1
  have hw0 := h.w0
  have hh := h.h1
  have a := (area h.w0 h.w1 h.h0 h.h1)
  have e := h.n
  have b := mulb (a := W + 1) (b := j) (A := W + 1) (B := H) (by omega) (by omega) j0 j1
  have f : (W + 1) * (H + 1) = (W + 1) * H + W + 1 := by grind
  refine ⟨?_, by omega, by omega, by omega⟩
  rw [w64 (i := W + 1) (by omega) (by omega), w64 (i := (W + 1) * j) (by omega) (by omega), w64 (by omega) (by omega)]

theorem Ok.cor_b {W H Wt : Int} {l : List Int} (h : Ok W H Wt l) (i j : Int) : 0 ≤ cor W l i j ∧ cor W l i j ≤ 255 := rd_b h.b _

theorem refCorner_eq {W H Wt : Int} {l : List Int} (h : Ok W H Wt l) {i j : Int} (i0 : 0 ≤ i) (i1 : i ≤ W) (j0 : 0 ≤ j) (j1 : j ≤ H) : bivouacref06_Corner.f W H Wt l i j = some (cor W l i j) := by
  obtain ⟨e, a, b, c⟩ := h.idx i0 i1 j0 j1
  unfold bivouacref06_Corner.f
  rw [e, if_pos a, if_pos b]
  have := h.cor_b i j
  unfold cor at *
  rw [w64 (by omega) (by omega)]

theorem corners_eq {W H Wt : Int} {l : List Int} (h : Ok W H Wt l) {i j : Int} (i0 : 0 ≤ i) (i1 : i < W) (j0 : 0 ≤ j) (j1 : j < H) :
    relief_corners.f W H Wt l i j = some (cor W l i j, cor W l (i + 1) j, cor W l i (j + 1), cor W l (i + 1) (j + 1)) := by
  obtain ⟨e, a, b, c⟩ := h.idx (i := i) (j := j) i0 (by omega) j0 (by omega)
  obtain ⟨_, a1, b1, _⟩ := h.idx (i := i + 1) (j := j) (by omega) (by omega) j0 (by omega)
  obtain ⟨_, a2, b2, _⟩ := h.idx (i := i) (j := j + 1) (by omega) (by omega) (by omega) (by omega)
  obtain ⟨_, a3, b3, _⟩ := h.idx (i := i + 1) (j := j + 1) (by omega) (by omega) (by omega) (by omega)
  have q0 := h.cor_b i j
  have q1 := h.cor_b (i + 1) j
  have q2 := h.cor_b i (j + 1)
  have q3 := h.cor_b (i + 1) (j + 1)
  unfold relief_corners.f cor at *
  have f : (W + 1) * (j + 1) = (W + 1) * j + W + 1 := by grind
  rw [f] at a2 b2 a3 b3 q2 q3 ⊢
  rw [e]
  have w0 := h.w0
  have w1 := h.w1
  generalize (W + 1) * j = m at *
  have e1 : wrap64 (m + i + 1) = m + (i + 1) := by rw [w64 (by omega) (by omega)]; omega
  have e2 : wrap64 (wrap64 (m + i + W) + 1) = m + W + 1 + i := by rw [w64 (i := m + i + W) (by omega) (by omega), w64 (by omega) (by omega)]; omega
  have e3 : wrap64 (m + W + 1 + i + 1) = m + W + 1 + (i + 1) := by rw [w64 (by omega) (by omega)]; omega
  rw [e1, e2, e3, if_pos a, if_pos b, if_pos a1, if_pos b1]
  rw [if_pos a2, if_pos b2, if_pos a3, if_pos b3]
  rw [w64 (by omega) (by omega), w64 (by omega) (by omega), w64 (by omega) (by omega), w64 (by omega) (by omega)]

theorem mn_self (a : Int) : mn a a = a := by unfold mn; split <;> rfl
theorem mx_self (a : Int) : mx a a = a := by unfold mx; split <;> rfl
theorem mn_le (a b : Int) : mn a b ≤ a ∧ mn a b ≤ b ∧ (mn a b = a ∨ mn a b = b) := by unfold mn; split <;> omega
theorem mx_ge (a b : Int) : a ≤ mx a b ∧ b ≤ mx a b ∧ (mx a b = a ∨ mx a b = b) := by unfold mx; split <;> omega

end Go.Proofs.Ytnpippechogagaa.L
