/- The line, by the reference. -/
import Derived.Test.YtincnaejgimlbaaPAx16
import Derived.Test.YtincnaejgimlbaaPAx17
import Derived.Test.YtincnaejgimlbaaPAx5
import Derived.Test.YtincnaejgimlbaaRL
namespace Go.Proofs.Ytincnaejgimlbaa.L
open Go.RowKit Go.Proofs.Ytincnaejgimlbaa.PA Go.Proofs.YtincnaejgimlbaaW.PrintWords Go.Proofs.YtincnaejgimlbaaW.PrintLast Go.Proofs.YtincnaejgimlbaaW.PrintMore
set_option linter.unusedVariables false
set_option linter.unusedSimpArgs false

/-! ### The line, by the reference -/
theorem floor_eq {a b : Int} (hb : 1 ≤ b) (b1 : b ≤ 1000000) (a0 : -1000000 ≤ a) (a1 : a ≤ 1000000) : bivouacref08_floor.f a b = some (a / b) := by
  have key : ∀ c t : Int, 0 ≤ t → t < b → a = b * c + t → a / b = c := by
    intro c t h0 h1 e
    rw [show a = t + b * c by omega, Int.add_mul_ediv_left _ _ (by omega : b ≠ 0), Int.ediv_eq_zero_of_lt h0 h1]; omega
  have bd : ∀ x : Int, 0 ≤ x → x ≤ 1000000 → 0 ≤ x / b ∧ x / b ≤ 1000000 ∧ x / b * b ≤ x ∧ x < x / b * b + b := by
    intro x x0 x1
    have m := Int.mul_ediv_add_emod x b
    have m0 := Int.emod_nonneg x (show b ≠ 0 by omega)
    have m1 := Int.emod_lt_of_pos x (show 0 < b by omega)
    have q0 : 0 ≤ x / b := Int.ediv_nonneg x0 (by omega)
    have q1 : x / b ≤ x := Int.ediv_le_self b x0
    have c : b * (x / b) = x / b * b := Int.mul_comm _ _
    omega
  unfold bivouacref08_floor.f
  rw [if_neg (by omega)]
  by_cases h : 0 ≤ a
  · obtain ⟨q0, q1, q2, q3⟩ := bd a h a1
    rw [Int.tdiv_eq_ediv_of_nonneg h, w64 (i := a / b) (by omega) (by omega), w64 (i := a / b * b) (by omega) (by omega), if_neg (by omega)]
  · obtain ⟨q0, q1, q2, q3⟩ := bd (-a) (by omega) (by omega)
    have e : Int.tdiv a b = -((-a) / b) := by
      rw [← Int.tdiv_eq_ediv_of_nonneg (show 0 ≤ -a by omega), Int.neg_tdiv, Int.neg_neg]
    rw [e]
    generalize (-a) / b = m at *
    have c1 : -m * b = -(m * b) := Int.neg_mul _ _
    have c2 : b * (-m - 1) = -(m * b) - b := by grind
    have c3 : b * (-m) = -(m * b) := by grind
    rw [w64 (i := -m) (by omega) (by omega), w64 (i := -m * b) (by omega) (by omega)]
    by_cases g : -m * b > a
    · rw [if_pos g, key (-m - 1) (a + m * b + b) (by omega) (by omega) (by omega), w64 (by omega) (by omega)]
    · rw [if_neg g, key (-m) (a + m * b) (by omega) (by omega) (by omega)]

theorem abs_eq {v : Int} (a : -1000000 ≤ v) (b : v ≤ 1000000) : bivouacref08_abs.f v = some (ab v) := by
  unfold bivouacref08_abs.f ab
  rw [w64 (i := -v) (by omega) (by omega)]
  split <;> rfl

theorem long_eq {i j k l : Int} (hi : Inn i) (hj : Inn j) (hk : Inn k) (hl : Inn l) : bivouacref08_Long.f i j k l = some (lng i j k l) := by
  unfold Inn at *
  unfold bivouacref08_Long.f lng
  rw [w64 (i := k - i) (by omega) (by omega), w64 (i := l - j) (by omega) (by omega), abs_eq (by omega) (by omega), abs_eq (by omega) (by omega)]
  simp only [Option.bind_some]
  split <;> rfl

theorem pos_in {n d q : Int} (hn : 1 ≤ n) (q0 : 0 ≤ q) (q1 : q ≤ n) (i : Int) : (0 ≤ d → i ≤ pos n i d q ∧ pos n i d q ≤ i + d) ∧ (d < 0 → i + d ≤ pos n i d q ∧ pos n i d q ≤ i) := by
  unfold pos
  have e1 : 2 * q * d = 2 * (q * d) := by grind
  rw [e1]
  constructor
  · intro hd
    have m := mulb (a := q) (b := d) (A := n) (B := d) q0 q1 hd (Int.le_refl _)
    have e2 : (d + 1) * (2 * n) = 2 * (n * d) + 2 * n := by grind
    have u : 0 ≤ (2 * (q * d) + n) / (2 * n) := Int.ediv_nonneg (by omega) (by omega)
    have v : (2 * (q * d) + n) / (2 * n) < d + 1 := Int.ediv_lt_of_lt_mul (by omega) (by omega)
    omega
  · intro hd
    have m := mulb (a := q) (b := -d) (A := n) (B := -d) q0 q1 (by omega) (Int.le_refl _)
    have e2 : d * (2 * n) = -(2 * (n * -d)) := by grind
    have e3 : q * -d = -(q * d) := by grind
    have u : d ≤ (2 * (q * d) + n) / (2 * n) := (Int.le_ediv_iff_mul_le (by omega)).2 (by omega)
    have v : (2 * (q * d) + n) / (2 * n) < 1 := Int.ediv_lt_of_lt_mul (by omega) (by omega)
    omega

theorem pos_zero (i d q : Int) : pos 0 i d q = i := by unfold pos; simp

/-- The line's cells lie between its ends. -/
theorem cel_in {i j k l q : Int} (hi : Inn i) (hj : Inn j) (hk : Inn k) (hl : Inn l) (q0 : 0 ≤ q) (q1 : q ≤ lng i j k l) :
    (i ≤ k → i ≤ (cel i j k l q).f0 ∧ (cel i j k l q).f0 ≤ k) ∧ (k ≤ i → k ≤ (cel i j k l q).f0 ∧ (cel i j k l q).f0 ≤ i) ∧
    (j ≤ l → j ≤ (cel i j k l q).f1 ∧ (cel i j k l q).f1 ≤ l) ∧ (l ≤ j → l ≤ (cel i j k l q).f1 ∧ (cel i j k l q).f1 ≤ j) := by
  have b := lng_b hi hj hk hl
  show (i ≤ k → i ≤ pos (lng i j k l) i (k - i) q ∧ pos (lng i j k l) i (k - i) q ≤ k) ∧ (k ≤ i → k ≤ pos (lng i j k l) i (k - i) q ∧ pos (lng i j k l) i (k - i) q ≤ i) ∧
    (j ≤ l → j ≤ pos (lng i j k l) j (l - j) q ∧ pos (lng i j k l) j (l - j) q ≤ l) ∧ (l ≤ j → l ≤ pos (lng i j k l) j (l - j) q ∧ pos (lng i j k l) j (l - j) q ≤ j)
  by_cases z : lng i j k l = 0
  · rw [z, pos_zero, pos_zero]; omega
  · have x := pos_in (d := k - i) (show 1 ≤ lng i j k l by omega) q0 q1 i
    have y := pos_in (d := l - j) (show 1 ≤ lng i j k l by omega) q0 q1 j
    omega

theorem cell_ref {i j k l q : Int} (hi : Inn i) (hj : Inn j) (hk : Inn k) (hl : Inn l) (q0 : 0 ≤ q) (q1 : q ≤ lng i j k l) :
    bivouacref08_Cell.f i j k l q = some ((cel i j k l q).f0, (cel i j k l q).f1) := by
  have b := lng_b hi hj hk hl
  unfold bivouacref08_Cell.f
  rw [long_eq hi hj hk hl]
  simp only [Option.bind_some]
  by_cases z : lng i j k l = 0
  · rw [if_pos z]
    unfold cel
    rw [z, pos_zero, pos_zero]
  · rw [if_neg z]
    have c := cel_in hi hj hk hl q0 q1
    unfold cel at *
    dsimp only at c
    unfold Inn at *
    have m1 := mulb (a := q) (b := k - i + 63) (A := 63) (B := 126) q0 (by omega) (by omega) (by omega)
    have m2 := mulb (a := q) (b := l - j + 63) (A := 63) (B := 126) q0 (by omega) (by omega) (by omega)
    have e1 : 2 * q * (k - i) = 2 * (q * (k - i + 63)) - 126 * q := by grind
    have e2 : 2 * q * (l - j) = 2 * (q * (l - j + 63)) - 126 * q := by grind
    rw [w64 (i := 2 * q) (by omega) (by omega), w64 (i := k - i) (by omega) (by omega), w64 (i := l - j) (by omega) (by omega), w64 (i := 2 * q * (k - i)) (by omega) (by omega), w64 (i := 2 * q * (l - j)) (by omega) (by omega),
      w64 (i := 2 * q * (k - i) + lng i j k l) (by omega) (by omega), w64 (i := 2 * q * (l - j) + lng i j k l) (by omega) (by omega), w64 (i := 2 * lng i j k l) (by omega) (by omega),
      floor_eq (by omega) (by omega) (by omega) (by omega), floor_eq (by omega) (by omega) (by omega) (by omega)]
    simp only [Option.bind_some]
    have g1 : i + (2 * q * (k - i) + lng i j k l) / (2 * lng i j k l) = pos (lng i j k l) i (k - i) q := rfl
    have g2 : j + (2 * q * (l - j) + lng i j k l) / (2 * lng i j k l) = pos (lng i j k l) j (l - j) q := rfl
    rw [g1, g2]
    rw [w64 (by omega) (by omega), w64 (by omega) (by omega)]

theorem lin_len (i j k l : Int) : (lin i j k l).length = (lng i j k l).toNat + 1 := by unfold lin; simp
theorem rd_lin {i j k l q : Int} (q0 : 0 ≤ q) (q1 : q ≤ lng i j k l) : rd_T36 (lin i j k l) q = cel i j k l q := by
  unfold rd_T36 lin
  rw [List.getD_eq_getElem?_getD, List.getElem?_map, List.getElem?_range (by omega)]
  simp only [Option.map_some, Option.getD_some]
  rw [show ((q.toNat : Nat) : Int) = q by omega]
theorem in_eq (v : Int) : bivouaclaw08_in.f v = some (decide (Inn v)) := by
  unfold bivouaclaw08_in.f
  by_cases h : v ≥ 0
  · rw [if_pos h]; congr 1; rw [decide_eq_decide]; unfold Inn; omega
  · rw [if_neg h]; congr 1; exact (decide_eq_false (by unfold Inn; omega)).symm

end Go.Proofs.Ytincnaejgimlbaa.L
