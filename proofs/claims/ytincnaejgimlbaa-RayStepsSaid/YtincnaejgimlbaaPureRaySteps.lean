/- A line begins and ends in its cells, and goes one step at most each way from cell to cell, and never back. -/
import Derived.Test.YtincnaejgimlbaaPAx15
import Derived.Test.YtincnaejgimlbaaPAx19
import Derived.Test.YtincnaejgimlbaaRC
import Derived.Test.YtincnaejgimlbaaRA
import Derived.OpenShut
namespace Go.Proofs.Ytincnaejgimlbaa.Pure
open Go.RowKit Go.Proofs.Ytincnaejgimlbaa.PA Go.Proofs.YtincnaejgimlbaaW.PrintWords Go.Proofs.YtincnaejgimlbaaW.PrintLast Go.Proofs.YtincnaejgimlbaaW.PrintMore
open Go.Proofs.Ytincnaejgimlbaa.L
set_option linter.unusedVariables false
set_option linter.unusedSimpArgs false

theorem cel_0 {i j k l : Int} (hi : Inn i) (hj : Inn j) (hk : Inn k) (hl : Inn l) : cel i j k l 0 = ⟨i, j⟩ ∧ cel i j k l (lng i j k l) = ⟨k, l⟩ := by
  have b := lng_b hi hj hk hl
  unfold cel
  by_cases z : lng i j k l = 0
  · rw [z, pos_zero, pos_zero]
    obtain rfl : k = i := by omega
    obtain rfl : l = j := by omega
    exact ⟨rfl, rfl⟩
  · have p0 : ∀ x d : Int, pos (lng i j k l) x d 0 = x := by
      intro x d
      unfold pos
      rw [show 2 * 0 * d + lng i j k l = lng i j k l by omega, Int.ediv_eq_zero_of_lt (by omega) (by omega)]; omega
    rw [p0, p0, pos_end (by omega), pos_end (by omega)]
    refine ⟨rfl, ?_⟩
    congr 1 <;> omega

/-- From one cell to the next. -/
theorem step_b {n i d q : Int} (hn : 1 ≤ n) (d0 : -n ≤ d) (d1 : d ≤ n) : -1 ≤ pos n i d (q + 1) - pos n i d q ∧ pos n i d (q + 1) - pos n i d q ≤ 1 ∧ (0 < pos n i d (q + 1) - pos n i d q → 0 < d) ∧ (pos n i d (q + 1) - pos n i d q < 0 → d < 0) := by
  have r := rst_b (n := n) (d := d) (q := q) hn
  have x := (pos_next (n := n) (i := i) (d := d) (q := q) hn).1
  obtain ⟨q1, q2, q3⟩ := div1 (n := n) (r := rst n d q + 2 * d) hn (by omega)
  by_cases c : rst n d q + 2 * d ≥ 2 * n
  · have := (q1 c).1; omega
  · by_cases g : rst n d q + 2 * d < 0
    · have := (q3 g).1; omega
    · have := (q2 (by omega) (by omega)).1; omega

theorem steps_1 {K : Nat} {i j k l q : Int} {r : Bool} (hi : Inn i) (hj : Inn j) (hk : Inn k) (hl : Inn l) (q0 : 1 ≤ q) (q1 : q ≤ lng i j k l)
    (h : bivouaclaw08_RaySteps.l1 K (lin i j k l) q 2 = some r) : bivouaclaw08_RaySteps.l1 (K + 1) (lin i j k l) q 1 = some r := by
  have b := lng_b hi hj hk hl
  have L := lin_len i j k l
  have ends := cel_0 hi hj hk hl
  have w1 : wrap64 (q - 1) = q - 1 := w64 (by omega) (by omega)
  have w2 : wrap64 (((lin i j k l).length : Int) - 1) = lng i j k l := by rw [w64 (by omega) (by omega)]; omega
  have c0 := cel_in hi hj hk hl (q := q) (by omega) q1
  have c1 := cel_in hi hj hk hl (q := q - 1) (by omega) (by omega)
  have sx := step_b (n := lng i j k l) (i := i) (d := k - i) (q := q - 1) (by omega) (by omega) (by omega)
  have sy := step_b (n := lng i j k l) (i := j) (d := l - j) (q := q - 1) (by omega) (by omega) (by omega)
  rw [show q - 1 + 1 = q by omega] at sx sy
  have gx : ∀ t, (cel i j k l t).f0 = pos (lng i j k l) i (k - i) t := fun t => rfl
  have gy : ∀ t, (cel i j k l t).f1 = pos (lng i j k l) j (l - j) t := fun t => rfl
  rw [← gx, ← gx] at sx
  rw [← gy, ← gy] at sy
  unfold Inn at hi hj hk hl
  have dd : wrap64 ((cel i j k l q).f1 - (cel i j k l (q - 1)).f1) = (cel i j k l q).f1 - (cel i j k l (q - 1)).f1 := w64 (by omega) (by omega)
  have aa : wrap64 (l - j) = l - j := w64 (by omega) (by omega)
  simp only [bivouaclaw08_RaySteps.l1, w1, w2, rd_lin (show 0 ≤ q by omega) q1, rd_lin (show 0 ≤ q - 1 by omega) (show q - 1 ≤ lng i j k l by omega), rd_lin (show 0 ≤ lng i j k l by omega) (Int.le_refl _), rd_lin (Int.le_refl 0) (show 0 ≤ lng i j k l by omega), ends.1, ends.2, dd, aa,
    show wrap64 ((1 : Int) + 1) = 2 from w64 (by omega) (by omega)]
  rw [if_pos (by omega), if_pos (by omega), if_pos (by omega), if_neg (by decide), if_pos trivial, if_pos (by omega), if_pos (by omega), if_pos (by omega), if_pos (by omega), if_pos (by omega), if_neg (by omega), if_neg (by omega)]
  by_cases p : (cel i j k l q).f1 - (cel i j k l (q - 1)).f1 > 0
  · rw [if_pos p, if_neg (by omega), if_neg (by omega)]; exact h
  · rw [if_neg p]
    by_cases g : (cel i j k l q).f1 - (cel i j k l (q - 1)).f1 < 0
    · rw [if_pos g, if_neg (by omega)]; exact h
    · rw [if_neg g]; exact h
theorem steps_0 {K : Nat} {i j k l q : Int} {r : Bool} (hi : Inn i) (hj : Inn j) (hk : Inn k) (hl : Inn l) (q0 : 1 ≤ q) (q1 : q ≤ lng i j k l)
    (h : bivouaclaw08_RaySteps.l1 K (lin i j k l) q 1 = some r) : bivouaclaw08_RaySteps.l1 (K + 1) (lin i j k l) q 0 = some r := by
  have b := lng_b hi hj hk hl
  have L := lin_len i j k l
  have ends := cel_0 hi hj hk hl
  have w1 : wrap64 (q - 1) = q - 1 := w64 (by omega) (by omega)
  have w2 : wrap64 (((lin i j k l).length : Int) - 1) = lng i j k l := by rw [w64 (by omega) (by omega)]; omega
  have c0 := cel_in hi hj hk hl (q := q) (by omega) q1
  have c1 := cel_in hi hj hk hl (q := q - 1) (by omega) (by omega)
  have sx := step_b (n := lng i j k l) (i := i) (d := k - i) (q := q - 1) (by omega) (by omega) (by omega)
  have sy := step_b (n := lng i j k l) (i := j) (d := l - j) (q := q - 1) (by omega) (by omega) (by omega)
  rw [show q - 1 + 1 = q by omega] at sx sy
  have gx : ∀ t, (cel i j k l t).f0 = pos (lng i j k l) i (k - i) t := fun t => rfl
  have gy : ∀ t, (cel i j k l t).f1 = pos (lng i j k l) j (l - j) t := fun t => rfl
  rw [← gx, ← gx] at sx
  rw [← gy, ← gy] at sy
  unfold Inn at hi hj hk hl
  have dd : wrap64 ((cel i j k l q).f0 - (cel i j k l (q - 1)).f0) = (cel i j k l q).f0 - (cel i j k l (q - 1)).f0 := w64 (by omega) (by omega)
  have aa : wrap64 (k - i) = k - i := w64 (by omega) (by omega)
  simp only [bivouaclaw08_RaySteps.l1, w1, w2, rd_lin (show 0 ≤ q by omega) q1, rd_lin (show 0 ≤ q - 1 by omega) (show q - 1 ≤ lng i j k l by omega), rd_lin (show 0 ≤ lng i j k l by omega) (Int.le_refl _), rd_lin (Int.le_refl 0) (show 0 ≤ lng i j k l by omega), ends.1, ends.2, dd, aa,
    show wrap64 ((0 : Int) + 1) = 1 from w64 (by omega) (by omega)]
  rw [if_pos (by omega), if_pos (by omega), if_pos (by omega), if_pos trivial, if_pos (by omega), if_pos (by omega), if_pos (by omega), if_pos (by omega), if_pos (by omega), if_neg (by omega), if_neg (by omega)]
  by_cases p : (cel i j k l q).f0 - (cel i j k l (q - 1)).f0 > 0
  · rw [if_pos p, if_neg (by omega), if_neg (by omega)]; exact h
  · rw [if_neg p]
    by_cases g : (cel i j k l q).f0 - (cel i j k l (q - 1)).f0 < 0
    · rw [if_pos g, if_neg (by omega)]; exact h
    · rw [if_neg g]; exact h
theorem steps_l1 {K : Nat} {i j k l q : Int} {r : Bool} (hi : Inn i) (hj : Inn j) (hk : Inn k) (hl : Inn l) (q0 : 1 ≤ q) (q1 : q ≤ lng i j k l)
    (h : bivouaclaw08_RaySteps.l0 K (lin i j k l) (q + 1) = some r) : bivouaclaw08_RaySteps.l1 (K + 3) (lin i j k l) q 0 = some r := by
  have b := lng_b hi hj hk hl
  refine steps_0 hi hj hk hl q0 q1 (steps_1 hi hj hk hl q0 q1 ?_)
  simp only [bivouaclaw08_RaySteps.l1]
  rw [if_neg (by omega), w64 (by omega) (by omega)]
  exact h

theorem steps_l0 {KA : Nat} (hA : ∀ k, KA ≤ k → bivouaclaw08_awake.f k = some true) {i j k l : Int} (hi : Inn i) (hj : Inn j) (hk : Inn k) (hl : Inn l) :
    ∀ (m : Nat) (q : Int), 1 ≤ q → q + (m : Int) = lng i j k l + 1 → bivouaclaw08_RaySteps.l0 (KA + 4 * m + 1) (lin i j k l) q = some true
  | 0, q, q0, hq => by
    have L := lin_len i j k l
    simp only [bivouaclaw08_RaySteps.l0]
    rw [if_neg (by omega), hA _ (by omega)]
    rfl
  | m + 1, q, q0, hq => by
    have L := lin_len i j k l
    rw [show KA + 4 * (m + 1) + 1 = KA + 4 * m + 1 + 3 + 1 by omega]
    simp only [bivouaclaw08_RaySteps.l0]
    rw [if_pos (by omega)]
    exact steps_l1 hi hj hk hl q0 (by omega) (steps_l0 hA hi hj hk hl m (q + 1) (by omega) (by omega))

theorem RaySteps : bivouaclaw08_RaySteps.Pure := by
  intro a b c cs i j k l u v _ _ _ _ _ _ _ _ _ _ _
  obtain ⟨KA, hA⟩ := awake_ev
  refine ⟨KA + 1000, ?_⟩
  unfold bivouaclaw08_RaySteps.f
  rw [line_eq (by omega)]
  by_cases hc : Inn i ∧ Inn j ∧ Inn k ∧ Inn l
  · rw [if_pos hc]
    obtain ⟨hi, hj, hk, hl⟩ := hc
    have b := lng_b hi hj hk hl
    have L := lin_len i j k l
    have ends := cel_0 hi hj hk hl
    have w2 : wrap64 (((lin i j k l).length : Int) - 1) = lng i j k l := by rw [w64 (by omega) (by omega)]; omega
    simp only [Option.bind_some, if_true]
    rw [if_neg (by omega), if_pos (by omega), rd_lin (Int.le_refl 0) (by omega), ends.1, if_neg (by simp), w2, if_pos (by omega), if_pos (by omega), rd_lin (by omega) (Int.le_refl _), ends.2]
    simp only [beq_self_eq_true, Bool.not_true, Bool.or_self, bivouaclaw08_RaySteps.j0]
    rw [if_neg (by decide)]
    have g := steps_l0 hA hi hj hk hl (lng i j k l).toNat 1 (by omega) (by omega)
    exact up (F := fun K => bivouaclaw08_RaySteps.l0 K (lin i j k l) 1) (fun K => (bivouaclaw08_RaySteps.mono_l K).2.1 _ _) g (by omega)
  · rw [if_neg hc]
    simp only [Option.bind_some]
    rw [if_neg (by decide), if_pos (by simp), hA _ (by omega)]
    rfl

end Go.Proofs.Ytincnaejgimlbaa.Pure
