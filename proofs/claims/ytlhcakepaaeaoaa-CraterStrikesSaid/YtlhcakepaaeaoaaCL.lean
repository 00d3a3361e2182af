/- Whether a hit may be, and by how much it lowers a corner, by the printed functions of crater and of its reference. -/
import Derived.Test.YtlhcakepaaeaoaaPCrx1
import Derived.Test.YtlhcakepaaeaoaaPCrx2
import Derived.Test.YtlhcakepaaeaoaaPCrx3
import Derived.Test.YtlhcakepaaeaoaaPCrx4
import Derived.Test.YtlhcakepaaeaoaaPCrx5
import Derived.Test.YtlhcakepaaeaoaaPCrx6
import Derived.Test.YtlhcakepaaeaoaaPCrx7
import Derived.OpenShut
namespace Go.Proofs.Ytlhcakepaaeaoaa.CL
open Go.RowKit Go.Proofs.Ytlhcakepaaeaoaa.PCr Go.Proofs.YtlhcakepaaeaoaaW.PrintWords Go.Proofs.YtlhcakepaaeaoaaW.PrintLast Go.Proofs.YtlhcakepaaeaoaaW.PrintMore
set_option linter.unusedVariables false
set_option linter.unusedSimpArgs false

theorem w64 {i : Int} (h0 : -9223372036854775808 ≤ i) (h1 : i ≤ 9223372036854775807) : wrap64 i = i := by unfold wrap64; omega
theorem mulb {a b A B : Int} (ha : 0 ≤ a) (hA : a ≤ A) (hb : 0 ≤ b) (hB : b ≤ B) : 0 ≤ a * b ∧ a * b ≤ A * B :=
  ⟨Int.mul_nonneg ha hb, Int.le_trans (Int.mul_le_mul_of_nonneg_right hA hb) (Int.mul_le_mul_of_nonneg_left hB (Int.le_trans ha hA))⟩
theorem sqb {a A : Int} (h0 : -A ≤ a) (h1 : a ≤ A) : 0 ≤ a * a ∧ a * a ≤ A * A := by
  rcases Int.le_total 0 a with h | h
  · exact mulb h h1 h h1
  · have := mulb (a := -a) (b := -a) (A := A) (B := A) (by omega) (by omega) (by omega) (by omega)
    have e : -a * -a = a * a := by grind
    omega

/-- May a hit be? -/
def may (I J R D : Int) : Prop := 1 ≤ R ∧ R ≤ 8 ∧ 0 ≤ D ∧ D ≤ 255 ∧ (-64 ≤ I ∧ I ≤ 128) ∧ (-64 ≤ J ∧ J ≤ 128)
instance (I J R D : Int) : Decidable (may I J R D) := by unfold may; infer_instance
theorem near_eq (i : Int) : crater_near.f i = some (decide (-64 ≤ i ∧ i ≤ 128)) := by
  unfold crater_near.f
  by_cases h : i ≥ -64
  · rw [if_pos h]; simp; omega
  · rw [if_neg h]; simp; omega
theorem place_eq (i : Int) : bivouacref09_place.f i = some (decide (-64 ≤ i ∧ i ≤ 128)) := by
  unfold bivouacref09_place.f
  by_cases h : -64 ≤ i
  · rw [if_pos h]; simp; omega
  · rw [if_neg h]; simp; omega
theorem may_eq (I J R D : Int) : crater_May.f I J R D = some (decide (may I J R D)) := by
  unfold crater_May.f
  rw [near_eq, near_eq]
  simp only [Option.bind_some]
  by_cases h1 : R ≥ 1
  · rw [if_pos h1]
    by_cases h2 : R ≤ 8
    · rw [if_pos h2]
      by_cases h3 : D ≥ 0
      · rw [if_pos h3]
        by_cases h4 : D ≤ 255
        · rw [if_pos h4]
          by_cases h5 : -64 ≤ I ∧ I ≤ 128
          · rw [if_pos (decide_eq_true h5)]
            congr 1
            rw [decide_eq_decide]
            unfold may
            omega
          · rw [if_neg (by rw [decide_eq_true_eq]; exact h5), decide_eq_false (by unfold may; omega)]
        · rw [if_neg h4, decide_eq_false (by unfold may; omega)]
      · rw [if_neg h3, decide_eq_false (by unfold may; omega)]
    · rw [if_neg h2, decide_eq_false (by unfold may; omega)]
  · rw [if_neg h1, decide_eq_false (by unfold may; omega)]
theorem refMay_eq (I J R D : Int) : bivouacref09_May.f I J R D = some (decide (may I J R D)) := by
  unfold bivouacref09_May.f
  rw [place_eq, place_eq]
  simp only [Option.bind_some]
  by_cases h1 : 1 ≤ R
  · rw [if_pos h1]
    by_cases h2 : R ≤ 8
    · rw [if_pos h2]
      by_cases h3 : 0 ≤ D
      · rw [if_pos h3]
        by_cases h4 : D ≤ 255
        · rw [if_pos h4]
          by_cases h5 : -64 ≤ I ∧ I ≤ 128
          · rw [if_pos (decide_eq_true h5)]
            congr 1
            rw [decide_eq_decide]
            unfold may
            omega
          · rw [if_neg (by rw [decide_eq_true_eq]; exact h5), decide_eq_false (by unfold may; omega)]
        · rw [if_neg h4, decide_eq_false (by unfold may; omega)]
      · rw [if_neg h3, decide_eq_false (by unfold may; omega)]
    · rw [if_neg h2, decide_eq_false (by unfold may; omega)]
  · rw [if_neg h1, decide_eq_false (by unfold may; omega)]

/-- By how much a corner is lowered. -/
def lowers (I J R D i j : Int) : Int :=
  if may I J R D ∧ (-64 ≤ i ∧ i ≤ 128) ∧ (-64 ≤ j ∧ j ≤ 128) then
    (if R * R ≤ (i - I) * (i - I) + (j - J) * (j - J) then 0 else D * (R * R - ((i - I) * (i - I) + (j - J) * (j - J))) / (R * R))
  else 0

theorem low_core {I J R D i j : Int} (h : may I J R D) (hi : -64 ≤ i ∧ i ≤ 128) (hj : -64 ≤ j ∧ j ≤ 128) :
    wrap64 (i - I) = i - I ∧ wrap64 (j - J) = j - J ∧ wrap64 (R * R) = R * R ∧ wrap64 ((i - I) * (i - I)) = (i - I) * (i - I) ∧ wrap64 ((j - J) * (j - J)) = (j - J) * (j - J) ∧
    1 ≤ R * R ∧ R * R ≤ 64 ∧ 0 ≤ (i - I) * (i - I) ∧ (i - I) * (i - I) ≤ 36864 ∧ 0 ≤ (j - J) * (j - J) ∧ (j - J) * (j - J) ≤ 36864 := by
  obtain ⟨h1, h2, h3, h4, h5, h6⟩ := h
  have a := sqb (a := i - I) (A := 192) (by omega) (by omega)
  have b := sqb (a := j - J) (A := 192) (by omega) (by omega)
  have c := mulb (a := R) (b := R) (A := 8) (B := 8) (by omega) (by omega) (by omega) (by omega)
  have d := mulb (a := R - 1) (b := R - 1) (A := 7) (B := 7) (by omega) (by omega) (by omega) (by omega)
  have e : (R - 1) * (R - 1) = R * R - 2 * R + 1 := by grind
  refine ⟨w64 (by omega) (by omega), w64 (by omega) (by omega), w64 (by omega) (by omega), w64 (by omega) (by omega), w64 (by omega) (by omega), by omega, by omega, by omega, by omega, by omega, by omega⟩

theorem prod_b {D q : Int} (h3 : 0 ≤ D) (h4 : D ≤ 255) (q0 : -100000 ≤ q) (q1 : q ≤ 64) : -25500000 ≤ D * q ∧ D * q ≤ 16320 ∧ (q ≤ 0 → D * q ≤ 0) ∧ (0 ≤ q → 0 ≤ D * q) := by
  have a := mulb (a := D) (b := 64 - q) (A := 255) (B := 100064) h3 h4 (by omega) (by omega)
  have b := mulb (a := D) (b := q + 100000) (A := 255) (B := 100064) h3 h4 (by omega) (by omega)
  have e1 : D * (64 - q) = D * 64 - D * q := by grind
  have e2 : D * (q + 100000) = D * q + D * 100000 := by grind
  refine ⟨by omega, by omega, fun h => ?_, fun h => Int.mul_nonneg h3 h⟩
  have c := Int.mul_nonneg h3 (show 0 ≤ -q by omega)
  have e3 : D * -q = -(D * q) := by grind
  omega

theorem lowers_eq (I J R D i j : Int) : crater_Lowers.f I J R D i j = some (lowers I J R D i j) := by
  unfold crater_Lowers.f lowers
  rw [may_eq, near_eq, near_eq]
  simp only [Option.bind_some]
  by_cases hm : may I J R D
  · rw [if_pos (decide_eq_true hm)]
    by_cases hi : -64 ≤ i ∧ i ≤ 128
    · rw [if_pos (decide_eq_true hi)]
      by_cases hj : -64 ≤ j ∧ j ≤ 128
      · rw [if_pos (decide_eq_true hj), if_pos (show may I J R D ∧ (-64 ≤ i ∧ i ≤ 128) ∧ (-64 ≤ j ∧ j ≤ 128) from ⟨hm, hi, hj⟩)]
        obtain ⟨e1, e2, e3, e4, e5, r1, r2, x1, x2, y1, y2⟩ := low_core hm hi hj
        rw [e1, e2, e3, e4, e5, if_neg (by omega)]
        have hm2 := hm
        obtain ⟨_, _, d1, d2, _⟩ := hm2
        rw [w64 (i := R * R - (i - I) * (i - I)) (by omega) (by omega)]
        generalize (i - I) * (i - I) = x at *
        generalize (j - J) * (j - J) = y at *
        generalize R * R = r at *
        rw [w64 (i := r - x - y) (by omega) (by omega)]
        obtain ⟨p1, p2, p3, p4⟩ := prod_b (D := D) (q := r - (x + y)) d1 d2 (by omega) (by omega)
        rw [show r - x - y = r - (x + y) by omega]
        generalize D * (r - (x + y)) = P at *
        rw [w64 (i := P) (by omega) (by omega)]
        by_cases hs : r ≤ x + y
        · have e : mx 0 P = 0 := by unfold mx; have := p3 (by omega); split <;> omega
          rw [if_pos hs, e, Int.zero_ediv, w64 (by omega) (by omega)]
        · have e : mx 0 P = P := by unfold mx; have := p4 (by omega); split <;> omega
          have z0 := p4 (by omega)
          have z1 : 0 ≤ P / r := Int.ediv_nonneg z0 (by omega)
          have z2 : P / r ≤ P := Int.ediv_le_self _ z0
          rw [if_neg hs, e, w64 (by omega) (by omega)]
      · rw [if_neg (by rw [decide_eq_true_eq]; exact hj), if_neg (fun h => hj h.2.2)]
    · rw [if_neg (by rw [decide_eq_true_eq]; exact hi), if_neg (fun h => hi h.2.1)]
  · rw [if_neg (by rw [decide_eq_true_eq]; exact hm), if_neg (fun h => hm h.1)]

theorem refLowers_eq {k : Nat} (hk : 1 ≤ k) (I J R D i j : Int) : bivouacref09_Lowers.f k I J R D i j = some (lowers I J R D i j) := by
  obtain ⟨k, rfl⟩ : ∃ m, k = m + 1 := ⟨k - 1, by omega⟩
  unfold bivouacref09_Lowers.f lowers
  rw [refMay_eq, place_eq, place_eq]
  simp only [Option.bind_some, bivouacref09_Lowers.j0]
  by_cases hm : may I J R D
  · rw [if_pos (decide_eq_true hm)]
    by_cases hi : -64 ≤ i ∧ i ≤ 128
    · rw [if_pos (decide_eq_true hi)]
      by_cases hj : -64 ≤ j ∧ j ≤ 128
      · rw [decide_eq_true hj, if_neg (by decide), if_pos (show may I J R D ∧ (-64 ≤ i ∧ i ≤ 128) ∧ (-64 ≤ j ∧ j ≤ 128) from ⟨hm, hi, hj⟩)]
        obtain ⟨e1, e2, e3, e4, e5, r1, r2, x1, x2, y1, y2⟩ := low_core hm hi hj
        rw [e1, e2, e3, e4, e5]
        have hm2 := hm
        obtain ⟨_, _, d1, d2, _⟩ := hm2
        generalize (i - I) * (i - I) = x at *
        generalize (j - J) * (j - J) = y at *
        generalize R * R = r at *
        rw [w64 (i := x + y) (by omega) (by omega)]
        obtain ⟨p1, p2, p3, p4⟩ := prod_b (D := D) (q := r - (x + y)) d1 d2 (by omega) (by omega)
        by_cases hs : r ≤ x + y
        · rw [if_pos (by omega), if_pos hs]
        · rw [if_neg (by omega), if_neg (by omega), if_neg hs, w64 (i := r - (x + y)) (by omega) (by omega)]
          generalize D * (r - (x + y)) = P at *
          have z0 := p4 (by omega)
          have z1 : 0 ≤ P / r := Int.ediv_nonneg z0 (by omega)
          have z2 : P / r ≤ P := Int.ediv_le_self _ z0
          rw [w64 (i := P) (by omega) (by omega), Int.tdiv_eq_ediv_of_nonneg z0, w64 (by omega) (by omega)]
      · rw [decide_eq_false hj, if_pos (by decide), if_neg (fun h => hj h.2.2)]
    · rw [if_neg (by rw [decide_eq_true_eq]; exact hi), if_pos trivial, if_neg (fun h => hi h.2.1)]
  · rw [if_neg (by rw [decide_eq_true_eq]; exact hm), if_pos trivial, if_neg (fun h => hm h.1)]

theorem awake_eq : bivouaclaw09_awake.f = some true := by decide +kernel

end Go.Proofs.Ytlhcakepaaeaoaa.CL
