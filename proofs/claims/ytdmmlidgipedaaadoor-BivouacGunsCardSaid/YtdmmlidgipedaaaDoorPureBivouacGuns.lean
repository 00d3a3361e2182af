/- Whatever shot is told for a place bursts in that place's cell, and with a splash of two cells does at least half of its damage there. For all maps, places and speeds. -/
import Derived.Test.YtdmmlidgipedaaaDoorGAaimSolve
import Derived.Test.YtdmmlidgipedaaaDoorGAnumMulDiv
import Derived.Test.YtdmmlidgipedaaaDoorGAtrigHeading
import Derived.Test.YtdmmlidgipedaaaDoorGAtrigSin
import Derived.Test.YtdmmlidgipedaaaDoorPAx15
import Derived.Test.YtdmmlidgipedaaaDoorPAx16
import Derived.Test.YtdmmlidgipedaaaDoorPAx17
import Derived.Test.YtdmmlidgipedaaaDoorPAx18
import Derived.Test.YtdmmlidgipedaaaDoorPAx19
import Derived.Test.YtdmmlidgipedaaaDoorPAx2
import Derived.Test.YtdmmlidgipedaaaDoorPAx20
import Derived.Test.YtdmmlidgipedaaaDoorPAx21
import Derived.Test.YtdmmlidgipedaaaDoorPAx22
import Derived.Test.YtdmmlidgipedaaaDoorPAx23
import Derived.Test.YtdmmlidgipedaaaDoorPAx24
import Derived.Test.YtdmmlidgipedaaaDoorPAx25
import Derived.Test.YtdmmlidgipedaaaDoorPAx26
import Derived.Test.YtdmmlidgipedaaaDoorPAx27
import Derived.Test.YtdmmlidgipedaaaDoorPAx3
import Derived.Test.YtdmmlidgipedaaaDoorPAx30
import Derived.Test.YtdmmlidgipedaaaDoorPAx4
import Derived.Test.YtdmmlidgipedaaaDoorPAx5
import Derived.Test.YtdmmlidgipedaaaDoorPAx6
import Derived.Test.YtdmmlidgipedaaaDoorPAx7
import Derived.Test.YtdmmlidgipedaaaDoorPAx9
import Derived.OpenShut
namespace Go.Proofs.YtdmmlidgipedaaaDoor.Pure
open Go.RowKit Go.Proofs.YtdmmlidgipedaaaDoor.PA Go.Proofs.YtdmmlidgipedaaaDoorW.PrintWords Go.Proofs.YtdmmlidgipedaaaDoorW.PrintLast Go.Proofs.YtdmmlidgipedaaaDoorW.PrintMore
set_option linter.unusedVariables false
set_option linter.unusedSimpArgs false

theorem w64 {i : Int} (h0 : -9223372036854775808 ≤ i) (h1 : i ≤ 9223372036854775807) : wrap64 i = i := by unfold wrap64; omega
theorem mulb {a b A B : Int} (ha : 0 ≤ a) (hA : a ≤ A) (hb : 0 ≤ b) (hB : b ≤ B) : 0 ≤ a * b ∧ a * b ≤ A * B :=
  ⟨Int.mul_nonneg ha hb, Int.le_trans (Int.mul_le_mul_of_nonneg_right hA hb) (Int.mul_le_mul_of_nonneg_left hB (Int.le_trans ha hA))⟩

structure Ok (W H Wt : Int) (l : List Int) : Prop where
  w0 : 1 ≤ W
  w1 : W ≤ 64
  h0 : 1 ≤ H
  h1 : H ≤ 64
  t0 : 0 ≤ Wt
  t1 : Wt ≤ 255
  n : (l.length : Int) = (W + 1) * (H + 1)
  b : ∀ x ∈ l, 0 ≤ x ∧ x ≤ 255

def chk (W H Wt : Int) (l : List Int) : Int :=
  if 1 ≤ W ∧ W ≤ 64 ∧ 1 ≤ H ∧ H ≤ 64 ∧ 0 ≤ Wt ∧ Wt ≤ 255 then if (l.length : Int) < (W + 1) * (H + 1) then 2 else if (l.length : Int) > (W + 1) * (H + 1) then 7 else 0 else 1

theorem area {W H : Int} (w0 : 1 ≤ W) (w1 : W ≤ 64) (h0 : 1 ≤ H) (h1 : H ≤ 64) : wrap64 (wrap64 (W + 1) * wrap64 (H + 1)) = (W + 1) * (H + 1) ∧ 4 ≤ (W + 1) * (H + 1) ∧ (W + 1) * (H + 1) ≤ 4225 := by
  have h := mulb (a := W + 1) (b := H + 1) (A := 65) (B := 65) (by omega) (by omega) (by omega) (by omega)
  have g := mulb (a := W - 1) (b := H - 1) (A := 63) (B := 63) (by omega) (by omega) (by omega) (by omega)
  have e : (W + 1) * (H + 1) = (W - 1) * (H - 1) + 2 * W + 2 * H := by grind
  refine ⟨?_, by omega, by omega⟩
  rw [w64 (i := W + 1) (by omega) (by omega), w64 (i := H + 1) (by omega) (by omega), w64 (by omega) (by omega)]

theorem chk_zero {W H Wt : Int} {l : List Int} (hb : ∀ x ∈ l, 0 ≤ x ∧ x ≤ 255) : chk W H Wt l = 0 ↔ Ok W H Wt l := by
  unfold chk
  constructor
  · intro h
    split at h
    · rename_i hr
      obtain ⟨a, b, c, d, e, f⟩ := hr
      split at h
      · omega
      · split at h
        · omega
        · exact ⟨a, b, c, d, e, f, by omega, hb⟩
    · omega
  · intro h
    rw [if_pos ⟨h.w0, h.w1, h.h0, h.h1, h.t0, h.t1⟩, if_neg (by have := h.n; omega), if_neg (by have := h.n; omega)]

theorem check_eq {k : Nat} (hk : 1 ≤ k) (W H Wt : Int) (l : List Int) : relief_Check.f k W H Wt l = some (chk W H Wt l) := by
  obtain ⟨k, rfl⟩ : ∃ m, k = m + 1 := ⟨k - 1, by omega⟩
  unfold relief_Check.f chk
  simp only [relief_Check.j0]
  by_cases hr : 1 ≤ W ∧ W ≤ 64 ∧ 1 ≤ H ∧ H ≤ 64 ∧ 0 ≤ Wt ∧ Wt ≤ 255
  · have hr2 := hr
    obtain ⟨a, b, c, d, e, f⟩ := hr2
    rw [if_pos hr, if_neg (by omega), if_neg (by omega), if_neg (by omega), if_neg (by omega), if_neg (by omega), if_neg (by simpa using f), (area a b c d).1]
    repeat' split
    all_goals first | rfl | (exfalso; omega)
  · rw [if_neg hr]
    by_cases h1 : W < 1
    · rw [if_pos h1]; simp
    rw [if_neg h1]
    by_cases h2 : W > 64
    · rw [if_pos h2]; simp
    rw [if_neg h2]
    by_cases h3 : H < 1
    · rw [if_pos h3]; simp
    rw [if_neg h3]
    by_cases h4 : H > 64
    · rw [if_pos h4]; simp
    rw [if_neg h4]
    by_cases h5 : Wt < 0
    · rw [if_pos h5]; simp
    rw [if_neg h5, if_pos (by simp; omega)]

theorem few_eq (W H Wt : Int) (l : List Int) : bivouactop_few.f W H Wt l = some (W, H, Wt, l.take 4300) := by
  unfold bivouactop_few.f
  by_cases h : (l.length : Int) > 4300
  · rw [if_pos h, if_pos (by omega)]
  · rw [if_neg h, List.take_of_length_le (by omega)]

theorem take_b {l : List Int} (h : ∀ x ∈ l, (Lit.int .u8 x).wf = true) : ∀ x ∈ l.take 4300, 0 ≤ x ∧ x ≤ 255 := fun x hx => Go.bounds_u8 (h x (List.mem_of_mem_take hx))

def cor (W : Int) (l : List Int) (i j : Int) : Int := rd l ((W + 1) * j + i)

theorem rd_b {l : List Int} (hb : ∀ x ∈ l, 0 ≤ x ∧ x ≤ 255) (i : Int) : 0 ≤ rd l i ∧ rd l i ≤ 255 := by
  unfold rd
  rw [List.getD_eq_getElem?_getD]
  rcases Nat.lt_or_ge i.toNat l.length with h | h
  · rw [List.getElem?_eq_getElem h]; exact hb _ (List.getElem_mem h)
  · rw [List.getElem?_eq_none h]; decide

theorem Ok.idx {W H Wt : Int} {l : List Int} (h : Ok W H Wt l) {i j : Int} (i0 : 0 ≤ i) (i1 : i ≤ W) (j0 : 0 ≤ j) (j1 : j ≤ H) :
    wrap64 (wrap64 (wrap64 (W + 1) * j) + i) = (W + 1) * j + i ∧ 0 ≤ (W + 1) * j + i ∧ (W + 1) * j + i < (l.length : Int) ∧ (l.length : Int) ≤ 4225 := by
  have hw := h.w1
  have hw0 := h.w0
  have hh := h.h1
  have a := (area h.w0 h.w1 h.h0 h.h1)
  have e := h.n
  have b := mulb (a := W + 1) (b := j) (A := W + 1) (B := H) (by omega) (by omega) j0 j1
  have f : (W + 1) * (H + 1) = (W + 1) * H + W + 1 := by grind
  refine ⟨?_, by omega, by omega, by omega⟩
  rw [w64 (i := W + 1) (by omega) (by omega), w64 (i := (W + 1) * j) (by omega) (by omega), w64 (by omega) (by omega)]

theorem Ok.cor_b {W H Wt : Int} {l : List Int} (h : Ok W H Wt l) (i j : Int) : 0 ≤ cor W l i j ∧ cor W l i j ≤ 255 := rd_b h.b _

theorem corners_eq {W H Wt : Int} {l : List Int} (h : Ok W H Wt l) {i j : Int} (i0 : 0 ≤ i) (i1 : i < W) (j0 : 0 ≤ j) (j1 : j < H) :
    relief_corners.f W H Wt l i j = some (cor W l i j, cor W l (i + 1) j, cor W l i (j + 1), cor W l (i + 1) (j + 1)) := by
  obtain ⟨e, a, b, c⟩ := h.idx (i := i) (j := j) i0 (by omega) j0 (by omega)
  obtain ⟨_, a1, b1, _⟩ := h.idx (i := i + 1) (j := j) (by omega) (by omega) j0 (by omega)
  obtain ⟨_, a2, b2, _⟩ := h.idx (i := i) (j := j + 1) (by omega) (by omega) (by omega) (by omega)
  obtain ⟨_, a3, b3, _⟩ := h.idx (i := i + 1) (j := j + 1) (by omega) (by omega) (by omega) (by omega)
  have q0 := h.cor_b i j
  have q1 := h.cor_b (i + 1) j
  have q2 := h.cor_b i (j + 1)
  have q3 := h.cor_b (i + 1) (j + 1)
  unfold relief_corners.f cor at *
  have f : (W + 1) * (j + 1) = (W + 1) * j + W + 1 := by grind
  rw [f] at a2 b2 a3 b3 q2 q3 ⊢
  rw [e]
  have w0 := h.w0
  have w1 := h.w1
  generalize (W + 1) * j = m at *
  have e1 : wrap64 (m + i + 1) = m + (i + 1) := by rw [w64 (by omega) (by omega)]; omega
  have e2 : wrap64 (wrap64 (m + i + W) + 1) = m + W + 1 + i := by rw [w64 (i := m + i + W) (by omega) (by omega), w64 (by omega) (by omega)]; omega
  have e3 : wrap64 (m + W + 1 + i + 1) = m + W + 1 + (i + 1) := by rw [w64 (by omega) (by omega)]; omega
  rw [e1, e2, e3, if_pos a, if_pos b, if_pos a1, if_pos b1]
  rw [if_pos a2, if_pos b2, if_pos a3, if_pos b3]
  rw [w64 (by omega) (by omega), w64 (by omega) (by omega), w64 (by omega) (by omega), w64 (by omega) (by omega)]

theorem mx_ge (a b : Int) : a ≤ mx a b ∧ b ≤ mx a b ∧ (mx a b = a ∨ mx a b = b) := by unfold mx; split <;> omega

theorem on_eq {k : Nat} (hk : 1 ≤ k) {W H Wt : Int} {l : List Int} (hb : ∀ x ∈ l, 0 ≤ x ∧ x ≤ 255) (x y : Int) :
    relief_On.f k W H Wt l x y = some (if chk W H Wt l = 0 then decide (0 ≤ x ∧ x < W * 65536 ∧ 0 ≤ y ∧ y < H * 65536) else false) := by
  unfold relief_On.f
  rw [check_eq hk]
  simp only [Option.bind_some]
  by_cases hc : chk W H Wt l = 0
  · have h := (chk_zero hb).1 hc
    rw [if_pos hc, if_pos hc]
    have := h.w0
    have := h.w1
    have := h.h0
    have := h.h1
    rw [w64 (i := W * 65536) (by omega) (by omega), w64 (i := H * 65536) (by omega) (by omega)]
    by_cases a : 0 ≤ x
    · rw [if_pos a]
      by_cases b : x < W * 65536
      · rw [if_pos b]
        by_cases c : 0 ≤ y
        · rw [if_pos c]; simp [a, b, c]
        · rw [if_neg c]; simp [c]
      · rw [if_neg b]; simp [b]
    · rw [if_neg a]; simp [a]
  · rw [if_neg hc, if_neg hc]


theorem and_mod {x : Int} (h0 : 0 ≤ x) (h1 : x < 9223372036854775808) : Go.bits .and .i64 x 65535 = x % 65536 := by
  obtain ⟨n, rfl⟩ := Int.eq_ofNat_of_zero_le h0
  have hn : n < 9223372036854775808 := by omega
  have h1 : (BitVec.ofInt 64 (n : Int)).toNat = n := by
    rw [BitVec.ofInt_natCast, BitVec.toNat_ofNat]; exact Nat.mod_eq_of_lt (by omega)
  have h2 : (BitVec.ofInt 64 (65535 : Int)).toNat = 65535 := by decide +kernel
  show IntKind.i64.wrap ((BitVec.ofInt 64 (n : Int) &&& BitVec.ofInt 64 (65535 : Int)).toNat : Int) = _
  rw [BitVec.toNat_and, h1, h2, i64_w]
  have h3 : n &&& 65535 = n % 65536 := Nat.and_two_pow_sub_one_eq_mod n 16
  rw [h3, w64 (by omega) (by omega)]
  omega

def high4 (a b c d u v : Int) : Int := a * (65536 - u) * (65536 - v) + b * u * (65536 - v) + c * (65536 - u) * v + d * u * v
def height (W : Int) (l : List Int) (x y : Int) : Int :=
  high4 (cor W l (x / 65536) (y / 65536)) (cor W l (x / 65536 + 1) (y / 65536)) (cor W l (x / 65536) (y / 65536 + 1)) (cor W l (x / 65536 + 1) (y / 65536 + 1)) (x % 65536) (y % 65536) / 65536

theorem edge_b {a b u : Int} (a0 : 0 ≤ a) (a1 : a ≤ 255) (b0 : 0 ≤ b) (b1 : b ≤ 255) (u0 : 0 ≤ u) (u1 : u < 65536) :
    (0 ≤ a * (65536 - u) ∧ a * (65536 - u) ≤ 16711680) ∧ (0 ≤ b * u ∧ b * u ≤ 16711680) ∧ 0 ≤ a * (65536 - u) + b * u ∧ a * (65536 - u) + b * u ≤ 16711680 := by
  have h1 := mulb (a := a) (b := 65536 - u) (A := 255) (B := 65536) a0 a1 (by omega) (by omega)
  have h2 := mulb (a := b) (b := u) (A := 255) (B := 65536) b0 b1 (by omega) (by omega)
  have h3 := mulb (a := 255 - a) (b := 65536 - u) (A := 255) (B := 65536) (by omega) (by omega) (by omega) (by omega)
  have h4 := mulb (a := 255 - b) (b := u) (A := 255) (B := 65536) (by omega) (by omega) (by omega) (by omega)
  have e3 : (255 - a) * (65536 - u) = 255 * (65536 - u) - a * (65536 - u) := by grind
  have e4 : (255 - b) * u = 255 * u - b * u := by grind
  omega

theorem height_core {a b c d u v : Int} (a0 : 0 ≤ a ∧ a ≤ 255) (b0 : 0 ≤ b ∧ b ≤ 255) (c0 : 0 ≤ c ∧ c ≤ 255) (d0 : 0 ≤ d ∧ d ≤ 255) (u0 : 0 ≤ u) (u1 : u < 65536) (v0 : 0 ≤ v) (v1 : v < 65536) :
    wrap64 (wrap64 (wrap64 (wrap64 (a * wrap64 (65536 - u)) + wrap64 (b * u)) * wrap64 (65536 - v)) + wrap64 (wrap64 (wrap64 (c * wrap64 (65536 - u)) + wrap64 (d * u)) * v)) = high4 a b c d u v ∧
    wrap64 (wrap64 (wrap64 (wrap64 (wrap64 (a * wrap64 (65536 - u)) * wrap64 (65536 - v)) + wrap64 (wrap64 (b * u) * wrap64 (65536 - v))) + wrap64 (wrap64 (c * wrap64 (65536 - u)) * v)) + wrap64 (wrap64 (d * u) * v)) = high4 a b c d u v ∧
    0 ≤ high4 a b c d u v ∧ high4 a b c d u v ≤ 1095216660480 := by
  obtain ⟨⟨p1, p2⟩, ⟨p3, p4⟩, p5, p6⟩ := edge_b a0.1 a0.2 b0.1 b0.2 u0 u1
  obtain ⟨⟨q1, q2⟩, ⟨q3, q4⟩, q5, q6⟩ := edge_b c0.1 c0.2 d0.1 d0.2 u0 u1
  unfold high4
  rw [w64 (i := 65536 - u) (by omega) (by omega), w64 (i := 65536 - v) (by omega) (by omega)]
  generalize a * (65536 - u) = A at *
  generalize b * u = B at *
  generalize c * (65536 - u) = C at *
  generalize d * u = D at *
  have r1 := mulb (a := A) (b := 65536 - v) (A := 16711680) (B := 65536) p1 p2 (by omega) (by omega)
  have r2 := mulb (a := B) (b := 65536 - v) (A := 16711680) (B := 65536) p3 p4 (by omega) (by omega)
  have r3 := mulb (a := C) (b := v) (A := 16711680) (B := 65536) q1 q2 (by omega) (by omega)
  have r4 := mulb (a := D) (b := v) (A := 16711680) (B := 65536) q3 q4 (by omega) (by omega)
  have s1 := mulb (a := 16711680 - (A + B)) (b := 65536 - v) (A := 16711680) (B := 65536) (by omega) (by omega) (by omega) (by omega)
  have s2 := mulb (a := 16711680 - (C + D)) (b := v) (A := 16711680) (B := 65536) (by omega) (by omega) (by omega) (by omega)
  have f1 : (16711680 - (A + B)) * (65536 - v) = 16711680 * (65536 - v) - (A * (65536 - v) + B * (65536 - v)) := by grind
  have f2 : (16711680 - (C + D)) * v = 16711680 * v - (C * v + D * v) := by grind
  have e1 : (A + B) * (65536 - v) = A * (65536 - v) + B * (65536 - v) := by grind
  have e2 : (C + D) * v = C * v + D * v := by grind
  rw [w64 (i := A) (by omega) (by omega), w64 (i := B) (by omega) (by omega), w64 (i := C) (by omega) (by omega), w64 (i := D) (by omega) (by omega)]
  rw [w64 (i := A + B) (by omega) (by omega), w64 (i := C + D) (by omega) (by omega), e1, e2]
  rw [w64 (i := A * (65536 - v)) (by omega) (by omega), w64 (i := B * (65536 - v)) (by omega) (by omega), w64 (i := C * v) (by omega) (by omega), w64 (i := D * v) (by omega) (by omega)]
  rw [w64 (i := A * (65536 - v) + B * (65536 - v)) (by omega) (by omega), w64 (i := C * v + D * v) (by omega) (by omega), w64 (i := A * (65536 - v) + B * (65536 - v) + C * v) (by omega) (by omega)]
  rw [w64 (i := A * (65536 - v) + B * (65536 - v) + (C * v + D * v)) (by omega) (by omega), w64 (by omega) (by omega)]
  refine ⟨by omega, rfl, by omega, by omega⟩

theorem height_eq {k : Nat} (hk : 1 ≤ k) {W H Wt : Int} {l : List Int} (hb : ∀ x ∈ l, 0 ≤ x ∧ x ≤ 255) (x y : Int) :
    relief_Height.f k W H Wt l x y = some (if chk W H Wt l = 0 then if 0 ≤ x ∧ x < W * 65536 ∧ 0 ≤ y ∧ y < H * 65536 then (height W l x y, 0) else (0, 4) else (0, 1)) := by
  unfold relief_Height.f
  rw [check_eq hk, on_eq hk hb]
  simp only [Option.bind_some]
  by_cases hc : chk W H Wt l = 0
  · have ok := (chk_zero hb).1 hc
    have w0 := ok.w0
    have w1 := ok.w1
    have h0 := ok.h0
    have h1 := ok.h1
    rw [if_pos hc, if_pos hc, if_pos hc]
    by_cases hp : 0 ≤ x ∧ x < W * 65536 ∧ 0 ≤ y ∧ y < H * 65536
    · have hp2 := hp
      obtain ⟨a, b, c, d⟩ := hp2
      rw [if_pos (decide_eq_true hp), if_pos hp]
      unfold fix_Whole.f fix_Part.f
      simp only [Option.bind_some]
      rw [corners_eq ok (i := x / 65536) (j := y / 65536) (by omega) (by omega) (by omega) (by omega), and_mod a (by omega), and_mod c (by omega)]
      simp only [Option.bind_some]
      rw [(height_core (ok.cor_b _ _) (ok.cor_b _ _) (ok.cor_b _ _) (ok.cor_b _ _) (u := x % 65536) (v := y % 65536) (by omega) (by omega) (by omega) (by omega)).1]
      rfl
    · rw [if_neg (by rw [decide_eq_true_eq]; exact hp), if_neg hp]
  · rw [if_neg hc, if_neg hc]

theorem rd_get (l : List Int) (j : Nat) (h : j < l.length) : rd l (j : Int) = l[j] := by
  unfold rd
  rw [Int.toNat_natCast, List.getD_eq_getElem?_getD, List.getElem?_eq_getElem h]
  rfl

def inB (a b v : Int) : Bool := decide (a ≤ v ∧ v ≤ b)
theorem within_l0 (a b : Int) (l : List Int) (hl : l.length ≤ 1000) (d : Nat) : ∀ (k i : Nat), i ≤ l.length → l.length - i = d → d < k → shot_within.l0 k a b l l.length i = some ((l.drop i).all (inB a b)) := by
  induction d with
  | zero =>
    intro k i hi hd hk
    obtain ⟨k, rfl⟩ : ∃ q, k = q + 1 := ⟨k - 1, by omega⟩
    simp only [shot_within.l0]
    rw [if_neg (by omega), List.drop_of_length_le (by omega)]
    rfl
  | succ d ih =>
    intro k i hi hd hk
    obtain ⟨k, rfl⟩ : ∃ q, k = q + 1 := ⟨k - 1, by omega⟩
    have h := ih k (i + 1) (by omega) (by omega) (by omega)
    simp only [shot_within.l0]
    rw [if_pos (by omega), if_pos (by omega), if_pos (by omega), rd_get l i (by omega), List.drop_eq_getElem_cons (by omega), List.all_cons]
    by_cases h1 : l[i] < a
    · rw [if_pos h1]; simp [inB]; omega
    · rw [if_neg h1]
      by_cases h2 : l[i] > b
      · rw [if_pos h2]; simp [inB]; omega
      · rw [if_neg h2, w64 (by omega) (by omega), show inB a b l[i] = true by simp [inB]; omega, Bool.true_and]
        exact h
theorem within_eq {k : Nat} (hk : 9 ≤ k) (a b : Int) (l : List Int) (hl : l.length ≤ 8) : shot_within.f k a b l = some (l.all (inB a b)) := by
  unfold shot_within.f
  exact within_l0 a b l (by omega) l.length k 0 (by omega) rfl (by omega)

def spot (X Y Z U V Q : Int) : Bool := inB (-1099511627776) 1099511627776 X && (inB (-1099511627776) 1099511627776 Y && (inB (-1099511627776) 1099511627776 Z && (inB (-1073741824) 1073741824 U && (inB (-1073741824) 1073741824 V && inB (-1073741824) 1073741824 Q))))
theorem spot_b {X Y Z U V Q : Int} (h : spot X Y Z U V Q = true) : (-1099511627776 ≤ X ∧ X ≤ 1099511627776) ∧ (-1099511627776 ≤ Y ∧ Y ≤ 1099511627776) ∧ (-1099511627776 ≤ Z ∧ Z ≤ 1099511627776) ∧ (-1073741824 ≤ U ∧ U ≤ 1073741824) ∧ (-1073741824 ≤ V ∧ V ≤ 1073741824) ∧ (-1073741824 ≤ Q ∧ Q ≤ 1073741824) := by
  simp only [spot, inB, Bool.and_eq_true, decide_eq_true_eq] at h
  exact ⟨h.1, h.2.1, h.2.2.1, h.2.2.2.1, h.2.2.2.2.1, h.2.2.2.2.2⟩
def aX (X U n : Int) : Int := X + n * U
def aZ (Z Q n : Int) : Int := Z + n * Q - 512 * n * (n - 1)
def aQ (Q n : Int) : Int := Q - 1024 * n

theorem nb {n V : Int} (n0 : 0 ≤ n) (n1 : n ≤ 1024) (v : -1073741824 ≤ V ∧ V ≤ 1073741824) : -1099511627776 ≤ n * V ∧ n * V ≤ 1099511627776 := by
  have a := mulb (a := n) (b := V + 1073741824) (A := 1024) (B := 2147483648) n0 n1 (by omega) (by omega)
  have b := mulb (a := n) (b := 1073741824 - V) (A := 1024) (B := 2147483648) n0 n1 (by omega) (by omega)
  have e1 : n * (V + 1073741824) = n * V + 1073741824 * n := by grind
  have e2 : n * (1073741824 - V) = 1073741824 * n - n * V := by grind
  omega
theorem fall_b {n : Int} (n0 : 0 ≤ n) (n1 : n ≤ 1024) : 0 ≤ 512 * n * (n - 1) ∧ 512 * n * (n - 1) ≤ 536870912 := by
  rcases Int.lt_or_le n 1 with h | h
  · have : n = 0 := by omega
    subst this; decide
  · have a := mulb (a := 512 * n) (b := n - 1) (A := 524288) (B := 1024) (by omega) (by omega) (by omega) (by omega)
    omega

theorem tick_eq {X Y Z U V Q n : Int} (h : spot X Y Z U V Q = true) (n0 : 0 ≤ n) (n1 : n < 1024) : shot_tick.f (aX X U n) (aX Y V n) (aZ Z Q n) U V (aQ Q n) = some (aX X U (n + 1), aX Y V (n + 1), aZ Z Q (n + 1), U, V, aQ Q (n + 1)) := by
  obtain ⟨x, y, z, u, v, q⟩ := spot_b h
  have a := nb (n := n + 1) (by omega) (by omega) u
  have b := nb (n := n + 1) (by omega) (by omega) v
  have c := nb (n := n + 1) (by omega) (by omega) q
  have f := fall_b (n := n + 1) (by omega) (by omega)
  unfold shot_tick.f aX aZ aQ
  have e1 : X + n * U + U = X + (n + 1) * U := by grind
  have e2 : Y + n * V + V = Y + (n + 1) * V := by grind
  have e3 : Z + n * Q - 512 * n * (n - 1) + (Q - 1024 * n) = Z + (n + 1) * Q - 512 * (n + 1) * (n + 1 - 1) := by grind
  have e4 : Q - 1024 * n - 1024 = Q - 1024 * (n + 1) := by omega
  rw [e1, e2, e3, e4, w64 (by omega) (by omega), w64 (by omega) (by omega), w64 (by omega) (by omega), w64 (by omega) (by omega)]

theorem a_zero (X U Z Q : Int) : aX X U 0 = X ∧ aZ Z Q 0 = Z ∧ aQ Q 0 = Q := by unfold aX aZ aQ; omega

theorem spot_shot {X Y Z U V Q : Int} (x : 0 ≤ X ∧ X < 4194304) (y : 0 ≤ Y ∧ Y < 4194304) (z : 0 ≤ Z ∧ Z ≤ 1073741824) (u : -262144 ≤ U ∧ U ≤ 262144) (v : -262144 ≤ V ∧ V ≤ 262144) (q : -262144 ≤ Q ∧ Q ≤ 262144) : spot X Y Z U V Q = true := by
  simp only [spot, inB, Bool.and_eq_true, decide_eq_true_eq]
  omega

def may (W H X Y Z U V Q : Int) : Prop := (0 ≤ X ∧ X < W * 65536 ∧ 0 ≤ Y ∧ Y < H * 65536) ∧ (0 ≤ Z ∧ Z ≤ 1073741824) ∧ (-262144 ≤ U ∧ U ≤ 262144) ∧ (-262144 ≤ V ∧ V ≤ 262144) ∧ (-262144 ≤ Q ∧ Q ≤ 262144)
instance (W H X Y Z U V Q : Int) : Decidable (may W H X Y Z U V Q) := by unfold may; infer_instance

theorem may_eq {k : Nat} (hk : 9 ≤ k) {W H Wt : Int} {l : List Int} (hb : ∀ x ∈ l, 0 ≤ x ∧ x ≤ 255) (X Y Z U V Q : Int) :
    shot_May.f k W H Wt l X Y Z U V Q = some (decide (chk W H Wt l = 0 ∧ may W H X Y Z U V Q)) := by
  unfold shot_May.f
  rw [on_eq (by omega) hb, within_eq hk _ _ _ (by simp), within_eq hk _ _ _ (by simp)]
  simp only [Option.bind_some, List.all_cons, List.all_nil, Bool.and_true]
  by_cases hc : chk W H Wt l = 0
  · rw [if_pos hc]
    by_cases ho : 0 ≤ X ∧ X < W * 65536 ∧ 0 ≤ Y ∧ Y < H * 65536
    · rw [if_pos (decide_eq_true ho)]
      by_cases hz : 0 ≤ Z ∧ Z ≤ 1073741824
      · rw [if_pos (by simp only [inB]; exact decide_eq_true hz)]
        congr 1
        simp only [inB, ← Bool.decide_and]
        rw [decide_eq_decide]
        unfold may
        constructor
        · intro h; exact ⟨hc, ho, hz, h.1, h.2.1, h.2.2⟩
        · intro h; exact ⟨h.2.2.2.1, h.2.2.2.2.1, h.2.2.2.2.2⟩
      · rw [if_neg (by simp only [inB, decide_eq_true_eq]; exact hz), decide_eq_false (fun h => hz h.2.2.1)]
    · rw [if_neg (by rw [decide_eq_true_eq]; exact ho), decide_eq_false (fun h => ho h.2.1)]
  · rw [if_neg hc, decide_eq_false (fun h => hc h.1)]
    rfl

def how (W H Wt : Int) (l : List Int) (X Y Z : Int) : Int :=
  if 0 ≤ X ∧ X < W * 65536 ∧ 0 ≤ Y ∧ Y < H * 65536 then
    if height W l X Y < Z ∧ Wt * 65536 < Z then 0 else if Wt * 65536 ≤ height W l X Y then 1 else 2
  else 3

theorem how_eq {k : Nat} (hk : 1 ≤ k) {W H Wt : Int} {l : List Int} (hb : ∀ x ∈ l, 0 ≤ x ∧ x ≤ 255) (X Y Z U V Q : Int) :
    shot_How.f k W H Wt l X Y Z U V Q = some (if chk W H Wt l = 0 then (how W H Wt l X Y Z, 0) else (0, 1)) := by
  unfold shot_How.f how
  rw [height_eq hk hb]
  simp only [Option.bind_some]
  by_cases hc : chk W H Wt l = 0
  · have ok := (chk_zero hb).1 hc
    have t0 := ok.t0
    have t1 := ok.t1
    rw [if_pos hc, if_pos hc]
    by_cases ho : 0 ≤ X ∧ X < W * 65536 ∧ 0 ≤ Y ∧ Y < H * 65536
    · rw [if_pos ho, if_pos ho, w64 (i := Wt * 65536) (by omega) (by omega)]
      generalize height W l X Y = h
      simp only [show ¬ (0 : Int) = 1 by decide, show ¬ (0 : Int) = 4 by decide, if_false]
      have m := mx_ge h (Wt * 65536)
      by_cases hz : h < Z ∧ Wt * 65536 < Z
      · rw [if_pos (by omega), if_pos hz]
      · rw [if_neg (by omega), if_neg hz]
        by_cases hg : h ≥ Wt * 65536
        · rw [if_pos hg, if_pos (by omega)]
        · rw [if_neg hg, if_neg (by omega)]
    · rw [if_neg ho, if_neg ho]
      rfl
  · rw [if_neg hc, if_neg hc]
    rfl

def fly (W H Wt : Int) (l : List Int) (X Y Z U V Q : Int) (n : Nat) : Nat → Int × Int × Int × Int × Int × Int × Int × Int
  | 0 => (n, 0, aX X U n, aX Y V n, aZ Z Q n, U, V, aQ Q n)
  | d + 1 => if how W H Wt l (aX X U ((n - d : Nat) : Int)) (aX Y V ((n - d : Nat) : Int)) (aZ Z Q ((n - d : Nat) : Int)) = 0 then fly W H Wt l X Y Z U V Q n d
    else (((n - d : Nat) : Int), how W H Wt l (aX X U ((n - d : Nat) : Int)) (aX Y V ((n - d : Nat) : Int)) (aZ Z Q ((n - d : Nat) : Int)), aX X U ((n - d : Nat) : Int), aX Y V ((n - d : Nat) : Int), aZ Z Q ((n - d : Nat) : Int), U, V, aQ Q ((n - d : Nat) : Int))

def with0 (t : Int × Int × Int × Int × Int × Int × Int × Int) (e : Int) : Int × Int × Int × Int × Int × Int × Int × Int × Int := (t.1, t.2.1, t.2.2.1, t.2.2.2.1, t.2.2.2.2.1, t.2.2.2.2.2.1, t.2.2.2.2.2.2.1, t.2.2.2.2.2.2.2, e)

theorem fly_l0 {W H Wt : Int} {l : List Int} (ok : Ok W H Wt l) {X Y Z U V Q : Int} (h : spot X Y Z U V Q = true) (n : Nat) (hn : n ≤ 1024) (d : Nat) : ∀ (k i : Nat), i ≤ n → n - i = d → d + 2 < k →
    shot_Fly.l0 k n n i W H Wt l (aX X U i) (aX Y V i) (aZ Z Q i) U V (aQ Q i) = some (with0 (fly W H Wt l X Y Z U V Q n d) 0) := by
  induction d with
  | zero =>
    intro k i hi hd hk
    obtain ⟨k, rfl⟩ : ∃ q, k = q + 1 := ⟨k - 1, by omega⟩
    obtain rfl : i = n := by omega
    simp only [shot_Fly.l0]
    rw [if_neg (by omega)]
    rfl
  | succ d ih =>
    intro k i hi hd hk
    obtain ⟨k, rfl⟩ : ∃ q, k = q + 1 := ⟨k - 1, by omega⟩
    have g := ih k (i + 1) (by omega) (by omega) (by omega)
    have e : n - d = i + 1 := by omega
    simp only [shot_Fly.l0, fly]
    rw [if_pos (by omega), tick_eq h (by omega) (by omega), e]
    simp only [Option.bind_some]
    rw [how_eq (by omega) ok.b, if_pos ((chk_zero ok.b).2 ok), w64 (by omega) (by omega)]
    simp only [Option.bind_some]
    rw [show ((i + 1 : Nat) : Int) = (i : Int) + 1 by omega] at g ⊢
    by_cases hh : how W H Wt l (aX X U ((i : Int) + 1)) (aX Y V ((i : Int) + 1)) (aZ Z Q ((i : Int) + 1)) = 0
    · rw [if_pos hh, if_pos hh]
      exact g
    · rw [if_neg hh, if_neg hh]
      rfl

theorem may_spot {W H Wt : Int} {l : List Int} (ok : Ok W H Wt l) {X Y Z U V Q : Int} (h : may W H X Y Z U V Q) : spot X Y Z U V Q = true := by
  have w1 := ok.w1
  have h1 := ok.h1
  obtain ⟨⟨a, b, c, d⟩, z, u, v, q⟩ := h
  exact spot_shot (by omega) (by omega) z u v q

theorem fly_eq {k : Nat} (hk : 1100 ≤ k) {W H Wt : Int} {l : List Int} (hb : ∀ x ∈ l, 0 ≤ x ∧ x ≤ 255) (X Y Z U V Q n : Int) :
    shot_Fly.f k W H Wt l X Y Z U V Q n = some (if (chk W H Wt l = 0 ∧ may W H X Y Z U V Q) ∧ 0 ≤ n ∧ n ≤ 1024 then with0 (fly W H Wt l X Y Z U V Q n.toNat n.toNat) 0 else (0, 0, 0, 0, 0, 0, 0, 0, 1)) := by
  obtain ⟨k, rfl⟩ : ∃ q, k = q + 1 := ⟨k - 1, by omega⟩
  have no : ∀ n, shot_Fly.j0 (k + 1) n true W H Wt l X Y Z U V Q = some (0, 0, 0, 0, 0, 0, 0, 0, 1) := by intro n; simp only [shot_Fly.j0]; rw [if_pos trivial]
  unfold shot_Fly.f
  rw [no, may_eq (by omega) hb]
  simp only [Option.bind_some]
  by_cases hm : chk W H Wt l = 0 ∧ may W H X Y Z U V Q
  · rw [if_pos (decide_eq_true hm)]
    by_cases h0 : n < 0
    · rw [if_pos h0, if_neg (by omega)]
    rw [if_neg h0]
    by_cases h1 : n > 1024
    · rw [decide_eq_true h1, no, if_neg (by omega)]
    rw [decide_eq_false h1, if_pos ⟨hm, by omega, by omega⟩]
    simp only [shot_Fly.j0]
    rw [if_neg (by decide)]
    have ok := (chk_zero hb).1 hm.1
    obtain ⟨m, rfl⟩ := Int.eq_ofNat_of_zero_le (show 0 ≤ n by omega)
    have g := fly_l0 ok (may_spot ok hm.2) m (by omega) m k 0 (by omega) (by omega) (by omega)
    obtain ⟨z1, z2, z3⟩ := a_zero X U Z Q
    obtain ⟨z4, _, _⟩ := a_zero Y V Z Q
    simp only [Int.natCast_zero, Int.ofNat_zero, z1, z2, z3, z4] at g
    rw [Int.toNat_natCast]
    exact g
  · rw [if_neg (by rw [decide_eq_true_eq]; exact hm), if_neg (fun h => hm h.1)]

theorem fly_how (W H Wt : Int) (l : List Int) (X Y Z U V Q : Int) (n : Nat) : ∀ d, (fly W H Wt l X Y Z U V Q n d).2.1 = 0 ∨
    (fly W H Wt l X Y Z U V Q n d).2.1 = how W H Wt l (fly W H Wt l X Y Z U V Q n d).2.2.1 (fly W H Wt l X Y Z U V Q n d).2.2.2.1 (fly W H Wt l X Y Z U V Q n d).2.2.2.2.1
  | 0 => Or.inl rfl
  | d + 1 => by
    simp only [fly]
    split
    · exact fly_how W H Wt l X Y Z U V Q n d
    · exact Or.inr rfl
theorem how_on {W H Wt : Int} {l : List Int} {X Y Z : Int} (h : how W H Wt l X Y Z = 1 ∨ how W H Wt l X Y Z = 2) : 0 ≤ X ∧ X < W * 65536 ∧ 0 ≤ Y ∧ Y < H * 65536 := by
  unfold how at h
  split at h
  · assumption
  · omega
/-- A flight that bursts on a map ends without an error, on the map. -/
theorem fly_hit {k : Nat} (hk : 1100 ≤ k) {W H Wt : Int} {l : List Int} (hb : ∀ x ∈ l, 0 ≤ x ∧ x ≤ 255) (X Y Z U V Q n : Int) :
    ∃ t hw x y z u v q e, shot_Fly.f k W H Wt l X Y Z U V Q n = some (t, hw, x, y, z, u, v, q, e) ∧ ((hw = 1 ∨ hw = 2) → e = 0 ∧ 0 ≤ x ∧ x < 4194304 ∧ 0 ≤ y ∧ y < 4194304) := by
  rw [fly_eq hk hb]
  by_cases hc : (chk W H Wt l = 0 ∧ may W H X Y Z U V Q) ∧ 0 ≤ n ∧ n ≤ 1024
  · rw [if_pos hc]
    refine ⟨_, _, _, _, _, _, _, _, _, rfl, fun hh => ⟨rfl, ?_⟩⟩
    have ok := (chk_zero hb).1 hc.1.1
    have w1 := ok.w1
    have h1 := ok.h1
    rcases fly_how W H Wt l X Y Z U V Q n.toNat n.toNat with e | e
    · rw [e] at hh; omega
    · rw [e] at hh
      have := how_on hh
      omega
  · rw [if_neg hc]
    exact ⟨_, _, _, _, _, _, _, _, _, rfl, fun hh => by omega⟩
theorem sinV_b {r : Int} (h0 : 0 ≤ r) (h1 : r ≤ 16384) : -131072 ≤ sinV r ∧ sinV r ≤ 131072 := by
  unfold sinV
  by_cases hf : r % 256 > 0
  · rw [if_pos hf]
    obtain ⟨a0, a1⟩ := sines_b (i := r / 256) (by omega) (by omega)
    obtain ⟨b0, b1⟩ := sines_b (i := r / 256 + 1) (by omega) (by omega)
    have f1 : r % 256 ≤ 255 := by omega
    clear h0 h1
    generalize rd sines (r / 256) = a at *
    generalize rd sines (r / 256 + 1) = b at *
    generalize r % 256 = f at *
    have p := mulb b0 b1 (show 0 ≤ f by omega) f1
    have q := mulb a0 a1 (show 0 ≤ f by omega) f1
    rw [Int.sub_mul]
    generalize b * f = u at *
    generalize a * f = v at *
    rw [w64 (i := u - v) (by omega) (by omega), w64 (by omega) (by omega)]
    omega
  · rw [if_neg hf]
    have := sines_b (i := r / 256) (by omega) (by omega)
    omega
theorem sinP_b {p : Int} (h0 : 0 ≤ p) (h1 : p < 65536) : -131072 ≤ sinP p ∧ sinP p ≤ 131072 := by
  unfold sinP
  have hr : 0 ≤ sinR p ∧ sinR p ≤ 16384 := by unfold sinR; split <;> omega
  have := sinV_b hr.1 hr.2
  split
  · rw [w64 (by omega) (by omega)]; omega
  · exact this
theorem sin_some (a : Int) : ∃ s, trig_Sin.f a = some s ∧ -131072 ≤ s ∧ s ≤ 131072 := ⟨_, rfl, sinP_b (sin_mask a).1 (sin_mask a).2⟩

theorem far_some (x : Int) : ∃ b, trig_far.f x = some b ∧ (b = false → -1073741824 ≤ x ∧ x ≤ 1073741824) := by
  unfold trig_far.f
  by_cases h : x < -1073741824
  · rw [if_pos h]; exact ⟨true, rfl, fun h => by cases h⟩
  · rw [if_neg h]; exact ⟨_, rfl, fun h => by have := of_decide_eq_false h; omega⟩
theorem mul_some {a b : Int} (a0 : -1073741824 ≤ a ∧ a ≤ 1073741824) (b0 : -131072 ≤ b ∧ b ≤ 131072) : fix_Mul.f a b = some (a * b / 65536, 0) := by
  unfold fix_Mul.f num_MulDiv.f
  rw [if_pos (by omega)]
  rfl
theorem vec_some (a n : Int) : ∃ t, trig_Vec.f a n = some t := by
  unfold trig_Vec.f
  obtain ⟨b, hb, hn⟩ := far_some n
  rw [hb]
  simp only [Option.bind_some]
  cases b
  · obtain ⟨s, hs, sb⟩ := sin_some a
    obtain ⟨c, hc, cb⟩ := sin_some (wrap64 (Go.bits .and .i64 a 65535 + 16384))
    rw [if_neg (by decide), show trig_Cos.f a = some c from by unfold trig_Cos.f trig_Norm.f; simp only [Option.bind_some]; rw [hc]; rfl, hs]
    simp only [Option.bind_some]
    rw [mul_some (hn rfl) cb, mul_some (hn rfl) sb]
    exact ⟨_, rfl⟩
  · exact ⟨_, rfl⟩
theorem heading_some (x y : Int) : ∃ t, trig_Heading.f x y = some t := by
  unfold trig_Heading.f
  obtain ⟨b, hb, _⟩ := far_some x
  obtain ⟨c, hc, _⟩ := far_some y
  rw [hb, hc]
  cases b
  · cases c <;> exact ⟨_, rfl⟩
  · exact ⟨_, rfl⟩
theorem inside_l0 (l : List Int) (hl : l.length ≤ 8) (d : Nat) : ∀ (k i : Nat), i ≤ l.length → l.length - i = d → d < k → ∃ b, aim_inside.l0 k l (l.length : Int) i = some b := by
  induction d with
  | zero =>
    intro k i hi hd hk
    obtain ⟨k, rfl⟩ : ∃ q, k = q + 1 := ⟨k - 1, by omega⟩
    simp only [aim_inside.l0]
    rw [if_neg (by omega)]
    exact ⟨_, rfl⟩
  | succ d ih =>
    intro k i hi hd hk
    obtain ⟨k, rfl⟩ : ∃ q, k = q + 1 := ⟨k - 1, by omega⟩
    obtain ⟨b, g⟩ := ih k (i + 1) (by omega) (by omega) (by omega)
    simp only [aim_inside.l0]
    rw [if_pos (by omega), if_pos (by omega), if_pos (by omega)]
    split
    · exact ⟨_, rfl⟩
    · split
      · exact ⟨_, rfl⟩
      · rw [w64 (by omega) (by omega), show (i : Int) + 1 = ((i + 1 : Nat) : Int) from by omega]
        exact ⟨_, g⟩
theorem fast_some (s : Int) : ∃ b, aim_fast.f s = some b := by unfold aim_fast.f; split <;> exact ⟨_, rfl⟩
theorem shot_some {k : Nat} (hk : 9 ≤ k) (a b c d e f x y s i : Int) : ∃ s1 s2 s3 s4 s5 s6 s7, aim_Shot.f k a b c d e f x y s i = some (s1, s2, s3, s4, s5, s6, s7) := by
  obtain ⟨k, rfl⟩ : ∃ q, k = q + 1 := ⟨k - 1, by omega⟩
  have no : ∀ q, q = true → ∃ s1 s2 s3 s4 s5 s6 s7, aim_Shot.j0 (k + 1) x y s i q a b c d e f = some (s1, s2, s3, s4, s5, s6, s7) := by
    rintro q rfl
    simp only [aim_Shot.j0]
    exact ⟨_, _, _, _, _, _, _, rfl⟩
  have yes : ∃ s1 s2 s3 s4 s5 s6 s7, aim_Shot.j0 (k + 1) x y s i false a b c d e f = some (s1, s2, s3, s4, s5, s6, s7) := by
    simp only [aim_Shot.j0]
    rw [if_neg (by decide)]
    obtain ⟨t, ht⟩ := heading_some (wrap64 (x - a)) (wrap64 (y - b))
    obtain ⟨u, hu⟩ := vec_some (wrap64 (i * 256)) s
    obtain ⟨v, hv⟩ := vec_some (wrap64 (t.1 * 256)) u.1
    rw [ht]
    simp only [Option.bind_some]
    rw [hu]
    simp only [Option.bind_some]
    rw [hv]
    exact ⟨_, _, _, _, _, _, _, rfl⟩
  unfold aim_Shot.f
  split
  · exact no _ rfl
  split
  · exact no _ rfl
  obtain ⟨p, hp⟩ := fast_some s
  rw [hp]
  simp only [Option.bind_some]
  cases p
  · rw [if_neg (by decide)]; exact no _ rfl
  · rw [if_pos rfl]
    obtain ⟨q, hq⟩ := inside_l0 [a, b, x, y] (by simp) 4 (k + 1) 0 (by simp) (by simp) (by omega)
    rw [show aim_inside.f (k + 1) [a, b, x, y] = some q from hq]
    simp only [Option.bind_some]
    cases q
    · exact no _ rfl
    · exact yes
/-- Where a shot that is let fly bursts: in the cell that is meant. -/
def Bursts (k : Nat) (W H Wt : Int) (l : List Int) (s1 s2 s3 s4 s5 s6 gx gy : Int) : Prop :=
  ∃ t hw x y z u v q, shot_Fly.f k W H Wt l s1 s2 s3 s4 s5 s6 1024 = some (t, hw, x, y, z, u, v, q, 0) ∧ (hw = 1 ∨ hw = 2) ∧ x / 65536 = gx / 65536 ∧ y / 65536 = gy / 65536 ∧ 0 ≤ x ∧ x < 4194304 ∧ 0 ≤ y ∧ y < 4194304
theorem hit_some {k : Nat} (hk : 1100 ≤ k) {W H Wt : Int} {l : List Int} (hb : ∀ x ∈ l, 0 ≤ x ∧ x ≤ 255) (a b c d e f gx gy sp i : Int) :
    ∃ s1 s2 s3 s4 s5 s6 s7 p, aim_Shot.f k a b c d e f gx gy sp i = some (s1, s2, s3, s4, s5, s6, s7) ∧ solveHit k W H Wt l a b c d e f gx gy sp i = some p ∧ (p = true → Bursts k W H Wt l s1 s2 s3 s4 s5 s6 gx gy) := by
  obtain ⟨s1, s2, s3, s4, s5, s6, s7, hs⟩ := shot_some (show 9 ≤ k by omega) a b c d e f gx gy sp i
  obtain ⟨t, hw, x, y, z, u, v, q, er, hf, hh⟩ := fly_hit hk hb (W := W) (H := H) (Wt := Wt) s1 s2 s3 s4 s5 s6 1024
  refine ⟨s1, s2, s3, s4, s5, s6, s7, ((hw == 1) || (hw == 2)) && (x / 65536 == gx / 65536) && (y / 65536 == gy / 65536), hs, ?_, ?_⟩
  · unfold solveHit
    rw [hs]
    simp only [Option.bind_some]
    rw [hf]
    rfl
  · intro hp
    simp only [Bool.and_eq_true, Bool.or_eq_true, beq_iff_eq] at hp
    obtain ⟨⟨h1, h2⟩, h3⟩ := hp
    obtain ⟨rfl, b0, b1, b2, b3⟩ := hh h1
    exact ⟨t, hw, x, y, z, u, v, q, hf, h1, h2, h3, b0, b1, b2, b3⟩
theorem first_some (Hf : Int → Option Bool) (h : ∀ i, ∃ b, Hf i = some b) : ∀ (n : Nat) (i : Int), ∃ r ok, firstHit Hf n i = some (r, ok) ∧ (ok = true → Hf r = some true)
  | 0, i => ⟨0, false, rfl, fun h => by cases h⟩
  | n + 1, i => by
    obtain ⟨b, hb⟩ := h i
    simp only [firstHit]
    rw [hb]
    simp only [Option.bind_some]
    cases b
    · exact first_some Hf h n (i + 1)
    · exact ⟨i, true, rfl, fun _ => hb⟩
/-- What is told of a place: nothing, or a shot that bursts there. -/
def Told (k : Nat) (W H Wt : Int) (l : List Int) (gx gy : Int) (o : Option (Int × Int × Int × Int × Int × Int × Int × Int)) : Prop :=
  (∃ e, e ≠ 0 ∧ o = some (0, 0, 0, 0, 0, 0, 0, e)) ∨
  ∃ s1 s2 s3 s4 s5 s6 r, o = some (s1, s2, s3, s4, s5, s6, r, 0) ∧ Bursts k W H Wt l s1 s2 s3 s4 s5 s6 gx gy ∧ 0 ≤ gx ∧ gx < 4194304 ∧ 0 ≤ gy ∧ gy < 4194304
theorem solve_some {k : Nat} (hk : 1100 ≤ k) {W H Wt : Int} {l : List Int} (hb : ∀ x ∈ l, 0 ≤ x ∧ x ≤ 255) (a b c d e f gx gy sp : Int) : Told k W H Wt l gx gy (aim_Solve.f k W H Wt l a b c d e f gx gy sp) := by
  have no : ∀ e, e ≠ 0 → Told k W H Wt l gx gy (some (0, 0, 0, 0, 0, 0, 0, e)) := fun e he => Or.inl ⟨e, he, rfl⟩
  obtain ⟨p1, h1⟩ : ∃ p1, relief_On.f k W H Wt l a b = some p1 := ⟨_, on_eq (by omega) hb a b⟩
  obtain ⟨p2, h2, hon⟩ : ∃ p2, relief_On.f k W H Wt l gx gy = some p2 ∧ (p2 = true → 0 ≤ gx ∧ gx < 4194304 ∧ 0 ≤ gy ∧ gy < 4194304) := by
    refine ⟨_, on_eq (by omega) hb gx gy, fun h => ?_⟩
    by_cases hc : chk W H Wt l = 0
    · rw [if_pos hc] at h
      have ok := (chk_zero hb).1 hc
      have w1 := ok.w1
      have h1 := ok.h1
      have := of_decide_eq_true h
      omega
    · rw [if_neg hc] at h; cases h
  unfold aim_Solve.f
  rw [h1, h2]
  simp only [Option.bind_some]
  cases p1
  · exact no 1 (by decide)
  rw [if_neg (by decide)]
  cases p2
  · exact no 1 (by decide)
  rw [if_neg (by decide)]
  split
  · exact no 1 (by decide)
  split
  · exact no 1 (by decide)
  obtain ⟨p, hp⟩ := fast_some sp
  rw [hp]
  simp only [Option.bind_some]
  split
  · exact no 1 (by decide)
  obtain ⟨r, ok, hr, hok⟩ := first_some (solveHit k W H Wt l a b c d e f gx gy sp) (fun i => by
    obtain ⟨_, _, _, _, _, _, _, p, _, h, _⟩ := hit_some hk hb (W := W) (H := H) (Wt := Wt) a b c d e f gx gy sp i
    exact ⟨p, h⟩) 65 0
  rw [hr]
  simp only [Option.bind_some]
  cases ok
  · rw [if_pos rfl]; exact no 6 (by decide)
  rw [if_neg (by decide)]
  obtain ⟨s1, s2, s3, s4, s5, s6, s7, q, hs, hq, hB⟩ := hit_some hk hb (W := W) (H := H) (Wt := Wt) a b c d e f gx gy sp r
  have hqt : q = true := Option.some.inj (hq.symm.trans (hok rfl))
  rw [hs]
  exact Or.inr ⟨s1, s2, s3, s4, s5, s6, r, rfl, hB hqt, hon rfl⟩
theorem sq_b {d B : Int} (h0 : -B ≤ d) (h1 : d ≤ B) : 0 ≤ d * d ∧ d * d ≤ B * B := by
  rcases Int.le_total 0 d with h | h
  · exact mulb h h1 h h1
  · rw [← Int.neg_mul_neg d d]
    exact mulb (a := -d) (b := -d) (by omega) (by omega) (by omega) (by omega)
theorem span_eq {x y : Int} (hx : 0 ≤ x ∧ x ≤ 67108864) (hy : 0 ≤ y ∧ y ≤ 67108864) : blast_span.f x y = some true := by
  unfold blast_span.f
  rw [if_pos (by omega), if_pos (by omega), if_pos (by omega), decide_eq_true (by omega)]
/-- With a splash of two cells, whoever stands less than a cell away each way has at least half of the damage. -/
theorem hurts_some {k : Nat} (hk : 1 ≤ k) {X Y D x y : Int} (hX : 0 ≤ X ∧ X ≤ 67108864) (hY : 0 ≤ Y ∧ Y ≤ 67108864) (hD : 0 ≤ D ∧ D ≤ 9999) (hx : 0 ≤ x ∧ x ≤ 67108864) (hy : 0 ≤ y ∧ y ≤ 67108864)
    (dx : -65535 ≤ x - X ∧ x - X ≤ 65535) (dy : -65535 ≤ y - Y ∧ y - Y ≤ 65535) : ∃ h, blast_Hurts.f k X Y D 2 x y = some h ∧ D / 2 ≤ h ∧ h ≤ D := by
  obtain ⟨k, rfl⟩ : ∃ q, k = q + 1 := ⟨k - 1, by omega⟩
  have hm : blast_may.f X Y D 2 = some true := by
    unfold blast_may.f
    rw [span_eq hX hY]
    simp only [Option.bind_some]
    rw [if_pos trivial, if_pos (by omega), if_pos (by omega), if_pos (by omega), decide_eq_true (by omega)]
  unfold blast_Hurts.f
  rw [hm, span_eq hx hy]
  simp only [Option.bind_some, Bool.not_true, blast_Hurts.j0]
  rw [if_pos trivial, if_neg (by decide), show wrap64 (mx (wrap64 (2 * 65536)) 32768 * mx (wrap64 (2 * 65536)) 32768) = 17179869184 from by decide +kernel]
  rw [w64 (i := x - X) (by omega) (by omega), w64 (i := y - Y) (by omega) (by omega)]
  have p := sq_b dx.1 dx.2
  have q := sq_b dy.1 dy.2
  generalize (x - X) * (x - X) = u at *
  generalize (y - Y) * (y - Y) = v at *
  rw [w64 (i := u) (by omega) (by omega), w64 (i := v) (by omega) (by omega), w64 (i := u + v) (by omega) (by omega), if_neg (by omega), if_neg (by decide), w64 (i := 17179869184 - (u + v)) (by omega) (by omega)]
  have m0 : D * 8589934592 ≤ D * (17179869184 - (u + v)) := Int.mul_le_mul_of_nonneg_left (by omega) hD.1
  have m1 : D * (17179869184 - (u + v)) ≤ D * 17179869184 := Int.mul_le_mul_of_nonneg_left (by omega) hD.1
  generalize D * (17179869184 - (u + v)) = P at *
  rw [w64 (i := P) (by omega) (by omega), Int.tdiv_eq_ediv_of_nonneg (by omega), w64 (by omega) (by omega)]
  exact ⟨_, rfl, by omega, by omega⟩

theorem BivouacGuns : bivouactop_BivouacGuns.Pure := by
  intro W H Wt l fx fy fz fu fv fq gx gy sp dm U V _ _ _ _ hlb _ _ _ _ _ _ _ _ _ _ hU hV
  have hb := take_b hlb
  have u := Go.bounds_u16 hU
  have v := Go.bounds_u16 hV
  obtain ⟨k, hk⟩ : ∃ k : Nat, k = 2000 := ⟨_, rfl⟩
  refine ⟨k + 1, ?_⟩
  unfold bivouactop_BivouacGuns.f
  rw [few_eq]
  simp only [Option.bind_some]
  have h100 : blast_Hurts.f (k + 1) 0 0 100 2 0 0 = some 100 := by
    unfold blast_Hurts.f
    simp only [blast_Hurts.j0]
    decide +kernel
  rw [h100]
  simp only [Option.bind_some]
  rw [if_pos trivial]
  rcases solve_some (show 1100 ≤ k + 1 by omega) hb (W := W) (H := H) (Wt := Wt) fx fy fz fu fv fq gx gy sp with ⟨e, he, hs⟩ | ⟨s1, s2, s3, s4, s5, s6, r, hs, ⟨t, hw, x, y, z, u', v', q, hf, hh, hx, hy, x0, x1, y0, y1⟩, g0, g1, g2, g3⟩
  · rw [hs]
    simp only [Option.bind_some]
    rw [if_neg he]
    rfl
  rw [hs]
  simp only [Option.bind_some]
  rw [if_pos trivial, hf]
  simp only [Option.bind_some]
  rw [if_pos trivial]
  have t1 : ∀ n : Int, 0 ≤ n → n < 4194304 → wrap64 (Int.tdiv n 65536) = n / 65536 := fun n n0 n1 => by
    rw [Int.tdiv_eq_ediv_of_nonneg n0, w64 (by omega) (by omega)]
  have fin : bivouactop_BivouacGuns.j0 (k + 1) false W H Wt l fx fy fz fu fv fq gx gy sp dm U V t hw x y z u' v' q = some true := by
    simp only [bivouactop_BivouacGuns.j0]
    rw [if_neg (by decide), t1 gx g0 g1, t1 gy g2 g3]
    split
    · rfl
    split
    · rfl
    rw [w64 (i := gx / 65536 * 65536) (by omega) (by omega), w64 (i := gy / 65536 * 65536) (by omega) (by omega), w64 (i := U) (by omega) (by omega), w64 (i := V) (by omega) (by omega), w64 (i := gx / 65536 * 65536 + U) (by omega) (by omega), w64 (i := gy / 65536 * 65536 + V) (by omega) (by omega)]
    obtain ⟨h, hh, h0, h1⟩ := hurts_some (show 1 ≤ k by omega) (X := x) (Y := y) (D := dm) (x := gx / 65536 * 65536 + U) (y := gy / 65536 * 65536 + V) (by omega) (by omega) (by omega) (by omega) (by omega) (by omega) (by omega)
    rw [hh]
    simp only [Option.bind_some]
    rw [Int.tdiv_eq_ediv_of_nonneg (by omega), w64 (by omega) (by omega), if_pos h0, decide_eq_true h1]
  rw [t1 x x0 x1, t1 y y0 y1, t1 gx g0 g1, t1 gy g2 g3, if_pos hx, show (y / 65536 != gy / 65536) = false from by simpa using hy, fin]
  rcases hh with rfl | rfl
  · rfl
  · rfl

end Go.Proofs.YtdmmlidgipedaaaDoor.Pure
