/- Heights of places. -/
import Derived.Test.YtfcocbkfodmmbaaPAx10
import Derived.Test.YtfcocbkfodmmbaaPAx11
import Derived.Test.YtfcocbkfodmmbaaPAx24
import Derived.Test.YtfcocbkfodmmbaaLO
namespace Go.Proofs.Ytfcocbkfodmmbaa.L
open Go.RowKit Go.Proofs.Ytfcocbkfodmmbaa.PA Go.Proofs.YtfcocbkfodmmbaaW.PrintWords Go.Proofs.YtfcocbkfodmmbaaW.PrintLast Go.Proofs.YtfcocbkfodmmbaaW.PrintMore
set_option linter.unusedVariables false
set_option linter.unusedSimpArgs false

theorem and_mod {x : Int} (h0 : 0 ≤ x) (h1 : x < 9223372036854775808) : Go.bits .and .i64 x 65535 = x % 65536 := by
  obtain ⟨n, rfl⟩ := Int.eq_ofNat_of_zero_le h0
  have hn : n < 9223372036854775808 := by omega
  have h1 : (BitVec.ofInt 64 (n : Int)).toNat = n := by
    rw [BitVec.ofInt_natCast, BitVec.toNat_ofNat]; exact Nat.mod_eq_of_lt (by omega)
  have h2 : (BitVec.ofInt 64 (65535 : Int)).toNat = 65535 := by decide +kernel
  show IntKind.i64.wrap ((BitVec.ofInt 64 (n : Int) &&& BitVec.ofInt 64 (65535 : Int)).toNat : Int) = _
  rw [BitVec.toNat_and, h1, h2, i64_w]
  have h3 : n &&& 65535 = n % 65536 := Nat.and_two_pow_sub_one_eq_mod n 16
  rw [h3, w64 (by omega) (by omega)]
  omega

/-- A place's height, by 2^16: the sum of four products. -/
def high4 (a b c d u v : Int) : Int := a * (65536 - u) * (65536 - v) + b * u * (65536 - v) + c * (65536 - u) * v + d * u * v
def height (W : Int) (l : List Int) (x y : Int) : Int :=
  high4 (cor W l (x / 65536) (y / 65536)) (cor W l (x / 65536 + 1) (y / 65536)) (cor W l (x / 65536) (y / 65536 + 1)) (cor W l (x / 65536 + 1) (y / 65536 + 1)) (x % 65536) (y % 65536) / 65536

theorem edge_b {a b u : Int} (a0 : 0 ≤ a) (a1 : a ≤ 255) (b0 : 0 ≤ b) (b1 : b ≤ 255) (u0 : 0 ≤ u) (u1 : u < 65536) :
    (0 ≤ a * (65536 - u) ∧ a * (65536 - u) ≤ 16711680) ∧ (0 ≤ b * u ∧ b * u ≤ 16711680) ∧ 0 ≤ a * (65536 - u) + b * u ∧ a * (65536 - u) + b * u ≤ 16711680 := by
  have h1 := mulb (a := a) (b := 65536 - u) (A := 255) (B := 65536) a0 a1 (by omega) (by omega)
  have h2 := mulb (a := b) (b := u) (A := 255) (B := 65536) b0 b1 (by omega) (by omega)
  have h3 := mulb (a := 255 - a) (b := 65536 - u) (A := 255) (B := 65536) (by omega) (by omega) (by omega) (by omega)
  have h4 := mulb (a := 255 - b) (b := u) (A := 255) (B := 65536) (by omega) (by omega) (by omega) (by omega)
  have e3 : (255 - a) * (65536 - u) = 255 * (65536 - u) - a * (65536 - u) := by grind
  have e4 : (255 - b) * u = 255 * u - b * u := by grind
  omega

theorem height_core {a b c d u v : Int} (a0 : 0 ≤ a ∧ a ≤ 255) (b0 : 0 ≤ b ∧ b ≤ 255) (c0 : 0 ≤ c ∧ c ≤ 255) (d0 : 0 ≤ d ∧ d ≤ 255) (u0 : 0 ≤ u) (u1 : u < 65536) (v0 : 0 ≤ v) (v1 : v < 65536) :
    wrap64 (wrap64 (wrap64 (wrap64 (a * wrap64 (65536 - u)) + wrap64 (b * u)) * wrap64 (65536 - v)) + wrap64 (wrap64 (wrap64 (c * wrap64 (65536 - u)) + wrap64 (d * u)) * v)) = high4 a b c d u v ∧
    wrap64 (wrap64 (wrap64 (wrap64 (wrap64 (a * wrap64 (65536 - u)) * wrap64 (65536 - v)) + wrap64 (wrap64 (b * u) * wrap64 (65536 - v))) + wrap64 (wrap64 (c * wrap64 (65536 - u)) * v)) + wrap64 (wrap64 (d * u) * v)) = high4 a b c d u v ∧
    0 ≤ high4 a b c d u v ∧ high4 a b c d u v ≤ 1095216660480 := by
  obtain ⟨⟨p1, p2⟩, ⟨p3, p4⟩, p5, p6⟩ := edge_b a0.1 a0.2 b0.1 b0.2 u0 u1
  obtain ⟨⟨q1, q2⟩, ⟨q3, q4⟩, q5, q6⟩ := edge_b c0.1 c0.2 d0.1 d0.2 u0 u1
  unfold high4
  rw [w64 (i := 65536 - u) (by omega) (by omega), w64 (i := 65536 - v) (by omega) (by omega)]
  generalize a * (65536 - u) = A at *
  generalize b * u = B at *
  generalize c * (65536 - u) = C at *
  generalize d * u = D at *
  have r1 := mulb (a := A) (b := 65536 - v) (A := 16711680) (B := 65536) p1 p2 (by omega) (by omega)
  have r2 := mulb (a := B) (b := 65536 - v) (A := 16711680) (B := 65536) p3 p4 (by omega) (by omega)
  have r3 := mulb (a := C) (b := v) (A := 16711680) (B := 65536) q1 q2 (by omega) (by omega)
  have r4 := mulb (a := D) (b := v) (A := 16711680) (B := 65536) q3 q4 (by omega) (by omega)
  have s1 := mulb (a := 16711680 - (A + B)) (b := 65536 - v) (A := 16711680) (B := 65536) (by omega) (by omega) (by omega) (by omega)
  have s2 := mulb (a := 16711680 - (C + D)) (b := v) (A := 16711680) (B := 65536) (by omega) (by omega) (by omega) (by omega)
  have f1 : (16711680 - (A + B)) * (65536 - v) = 16711680 * (65536 - v) - (A * (65536 - v) + B * (65536 - v)) := by grind
  have f2 : (16711680 - (C + D)) * v = 16711680 * v - (C * v + D * v) := by grind
  have e1 : (A + B) * (65536 - v) = A * (65536 - v) + B * (65536 - v) := by grind
  have e2 : (C + D) * v = C * v + D * v := by grind
  rw [w64 (i := A) (by omega) (by omega), w64 (i := B) (by omega) (by omega), w64 (i := C) (by omega) (by omega), w64 (i := D) (by omega) (by omega)]
  rw [w64 (i := A + B) (by omega) (by omega), w64 (i := C + D) (by omega) (by omega), e1, e2]
  rw [w64 (i := A * (65536 - v)) (by omega) (by omega), w64 (i := B * (65536 - v)) (by omega) (by omega), w64 (i := C * v) (by omega) (by omega), w64 (i := D * v) (by omega) (by omega)]
  rw [w64 (i := A * (65536 - v) + B * (65536 - v)) (by omega) (by omega), w64 (i := C * v + D * v) (by omega) (by omega), w64 (i := A * (65536 - v) + B * (65536 - v) + C * v) (by omega) (by omega)]
  rw [w64 (i := A * (65536 - v) + B * (65536 - v) + (C * v + D * v)) (by omega) (by omega), w64 (by omega) (by omega)]
  refine ⟨by omega, rfl, by omega, by omega⟩

theorem height_eq {k : Nat} (hk : 1 ≤ k) {W H Wt : Int} {l : List Int} (hb : ∀ x ∈ l, 0 ≤ x ∧ x ≤ 255) (x y : Int) :
    relief_Height.f k W H Wt l x y = some (if chk W H Wt l = 0 then if 0 ≤ x ∧ x < W * 65536 ∧ 0 ≤ y ∧ y < H * 65536 then (height W l x y, 0) else (0, 4) else (0, 1)) := by
  unfold relief_Height.f
  rw [check_eq hk, on_eq hk hb]
  simp only [Option.bind_some]
  by_cases hc : chk W H Wt l = 0
  · have ok := (chk_zero hb).1 hc
    have w0 := ok.w0
    have w1 := ok.w1
    have h0 := ok.h0
    have h1 := ok.h1
    rw [if_pos hc, if_pos hc, if_pos hc]
    by_cases hp : 0 ≤ x ∧ x < W * 65536 ∧ 0 ≤ y ∧ y < H * 65536
    · have hp2 := hp
      obtain ⟨a, b, c, d⟩ := hp2
      rw [if_pos (decide_eq_true hp), if_pos hp]
      unfold fix_Whole.f fix_Part.f
      simp only [Option.bind_some]
      rw [corners_eq ok (i := x / 65536) (j := y / 65536) (by omega) (by omega) (by omega) (by omega), and_mod a (by omega), and_mod c (by omega)]
      simp only [Option.bind_some]
      rw [(height_core (ok.cor_b _ _) (ok.cor_b _ _) (ok.cor_b _ _) (ok.cor_b _ _) (u := x % 65536) (v := y % 65536) (by omega) (by omega) (by omega) (by omega)).1]
      rfl
    · rw [if_neg (by rw [decide_eq_true_eq]; exact hp), if_neg hp]
  · rw [if_neg hc, if_neg hc]

theorem refHeight_eq {W H Wt : Int} {l : List Int} (ok : Ok W H Wt l) {x y : Int} (a : 0 ≤ x) (b : x < W * 65536) (c : 0 ≤ y) (d : y < H * 65536) :
    bivouacref06_Height.f W H Wt l x y = some (height W l x y) := by
  have w0 := ok.w0
  have w1 := ok.w1
  have h0 := ok.h0
  have h1 := ok.h1
  unfold bivouacref06_Height.f
  rw [Int.tdiv_eq_ediv_of_nonneg a, Int.tdiv_eq_ediv_of_nonneg c, Int.tmod_eq_emod_of_nonneg a, Int.tmod_eq_emod_of_nonneg c]
  rw [w64 (i := x / 65536) (by omega) (by omega), w64 (i := y / 65536) (by omega) (by omega), w64 (i := x / 65536 + 1) (by omega) (by omega), w64 (i := y / 65536 + 1) (by omega) (by omega)]
  rw [refCorner_eq ok (by omega) (by omega) (by omega) (by omega), refCorner_eq ok (by omega) (by omega) (by omega) (by omega), refCorner_eq ok (by omega) (by omega) (by omega) (by omega), refCorner_eq ok (by omega) (by omega) (by omega) (by omega)]
  simp only [Option.bind_some]
  obtain ⟨_, e, g0, g1⟩ := height_core (ok.cor_b (x / 65536) (y / 65536)) (ok.cor_b (x / 65536 + 1) (y / 65536)) (ok.cor_b (x / 65536) (y / 65536 + 1)) (ok.cor_b (x / 65536 + 1) (y / 65536 + 1)) (u := x % 65536) (v := y % 65536) (by omega) (by omega) (by omega) (by omega)
  rw [e, Int.tdiv_eq_ediv_of_nonneg g0]
  unfold height
  rw [w64 (by omega) (by omega)]


end Go.Proofs.Ytfcocbkfodmmbaa.L
