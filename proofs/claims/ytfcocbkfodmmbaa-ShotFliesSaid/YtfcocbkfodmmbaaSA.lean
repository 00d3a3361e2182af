/- Where a shot is behind some ticks, by the printed functions of shot and of its reference. -/
import Derived.Test.YtfcocbkfodmmbaaPAx18
import Derived.Test.YtfcocbkfodmmbaaPAx21
import Derived.Test.YtfcocbkfodmmbaaPAx22
import Derived.Test.YtfcocbkfodmmbaaPAx3
import Derived.Test.YtfcocbkfodmmbaaPAx4
import Derived.Test.YtfcocbkfodmmbaaPAx5
import Derived.Test.YtfcocbkfodmmbaaL
namespace Go.Proofs.Ytfcocbkfodmmbaa.L
open Go.RowKit Go.Proofs.Ytfcocbkfodmmbaa.PA Go.Proofs.YtfcocbkfodmmbaaW.PrintWords Go.Proofs.YtfcocbkfodmmbaaW.PrintLast Go.Proofs.YtfcocbkfodmmbaaW.PrintMore
set_option linter.unusedVariables false
set_option linter.unusedSimpArgs false

theorem rd_get (l : List Int) (j : Nat) (h : j < l.length) : rd l (j : Int) = l[j] := by
  unfold rd
  rw [Int.toNat_natCast, List.getD_eq_getElem?_getD, List.getElem?_eq_getElem h]
  rfl

def inB (a b v : Int) : Bool := decide (a ≤ v ∧ v ≤ b)
theorem within_l0 (a b : Int) (l : List Int) (hl : l.length ≤ 1000) (d : Nat) : ∀ (k i : Nat), i ≤ l.length → l.length - i = d → d < k → shot_within.l0 k a b l l.length i = some ((l.drop i).all (inB a b)) := by
  induction d with
  | zero =>
    intro k i hi hd hk
    obtain ⟨k, rfl⟩ : ∃ q, k = q + 1 := ⟨k - 1, by omega⟩
    simp only [shot_within.l0]
    rw [if_neg (by omega), List.drop_of_length_le (by omega)]
    rfl
  | succ d ih =>
    intro k i hi hd hk
    obtain ⟨k, rfl⟩ : ∃ q, k = q + 1 := ⟨k - 1, by omega⟩
    have h := ih k (i + 1) (by omega) (by omega) (by omega)
    simp only [shot_within.l0]
    rw [if_pos (by omega), if_pos (by omega), if_pos (by omega), rd_get l i (by omega), List.drop_eq_getElem_cons (by omega), List.all_cons]
    by_cases h1 : l[i] < a
    · rw [if_pos h1]; simp [inB]; omega
    · rw [if_neg h1]
      by_cases h2 : l[i] > b
      · rw [if_pos h2]; simp [inB]; omega
      · rw [if_neg h2, w64 (by omega) (by omega), show inB a b l[i] = true by simp [inB]; omega, Bool.true_and]
        exact h
theorem within_eq {k : Nat} (hk : 9 ≤ k) (a b : Int) (l : List Int) (hl : l.length ≤ 8) : shot_within.f k a b l = some (l.all (inB a b)) := by
  unfold shot_within.f
  exact within_l0 a b l (by omega) l.length k 0 (by omega) rfl (by omega)

theorem size_eq {v m : Int} (h0 : 0 ≤ m) (h1 : m ≤ 1099511627776) : bivouacref16_size.f v m = some (inB (-m) m v) := by
  unfold bivouacref16_size.f inB
  rw [w64 (by omega) (by omega)]
  by_cases h : -m ≤ v
  · rw [if_pos h]; simp [h]
  · rw [if_neg h]; simp [h]

/-- May At be asked of these? -/
def spot (X Y Z U V Q : Int) : Bool := inB (-1099511627776) 1099511627776 X && (inB (-1099511627776) 1099511627776 Y && (inB (-1099511627776) 1099511627776 Z && (inB (-1073741824) 1073741824 U && (inB (-1073741824) 1073741824 V && inB (-1073741824) 1073741824 Q))))
theorem spot_b {X Y Z U V Q : Int} (h : spot X Y Z U V Q = true) : (-1099511627776 ≤ X ∧ X ≤ 1099511627776) ∧ (-1099511627776 ≤ Y ∧ Y ≤ 1099511627776) ∧ (-1099511627776 ≤ Z ∧ Z ≤ 1099511627776) ∧ (-1073741824 ≤ U ∧ U ≤ 1073741824) ∧ (-1073741824 ≤ V ∧ V ≤ 1073741824) ∧ (-1073741824 ≤ Q ∧ Q ≤ 1073741824) := by
  simp only [spot, inB, Bool.and_eq_true, decide_eq_true_eq] at h
  exact ⟨h.1, h.2.1, h.2.2.1, h.2.2.2.1, h.2.2.2.2.1, h.2.2.2.2.2⟩
theorem asked_eq (X Y Z U V Q n : Int) : bivouacref16_Asked.f X Y Z U V Q n = some (spot X Y Z U V Q && decide (0 ≤ n ∧ n ≤ 1024)) := by
  unfold bivouacref16_Asked.f spot
  rw [size_eq (by decide) (by decide), size_eq (by decide) (by decide), size_eq (by decide) (by decide), size_eq (by decide) (by decide), size_eq (by decide) (by decide), size_eq (by decide) (by decide)]
  simp only [Option.bind_some]
  cases inB (-1099511627776) 1099511627776 X <;> simp only [Bool.true_and, Bool.false_and, if_true, if_false, Bool.false_eq_true]
  cases inB (-1099511627776) 1099511627776 Y <;> simp only [Bool.true_and, Bool.false_and, if_true, if_false, Bool.false_eq_true]
  cases inB (-1099511627776) 1099511627776 Z <;> simp only [Bool.true_and, Bool.false_and, if_true, if_false, Bool.false_eq_true]
  cases inB (-1073741824) 1073741824 U <;> simp only [Bool.true_and, Bool.false_and, if_true, if_false, Bool.false_eq_true]
  cases inB (-1073741824) 1073741824 V <;> simp only [Bool.true_and, Bool.false_and, if_true, if_false, Bool.false_eq_true]
  cases inB (-1073741824) 1073741824 Q <;> simp only [Bool.true_and, Bool.false_and, if_true, if_false, Bool.false_eq_true]
  by_cases h : 0 ≤ n
  · rw [if_pos h]; simp [h]
  · rw [if_neg h]; simp [h]

/-- Where something is behind n ticks. -/
def aX (X U n : Int) : Int := X + n * U
def aZ (Z Q n : Int) : Int := Z + n * Q - 512 * n * (n - 1)
def aQ (Q n : Int) : Int := Q - 1024 * n

theorem nb {n V : Int} (n0 : 0 ≤ n) (n1 : n ≤ 1024) (v : -1073741824 ≤ V ∧ V ≤ 1073741824) : -1099511627776 ≤ n * V ∧ n * V ≤ 1099511627776 := by
  have a := mulb (a := n) (b := V + 1073741824) (A := 1024) (B := 2147483648) n0 n1 (by omega) (by omega)
  have b := mulb (a := n) (b := 1073741824 - V) (A := 1024) (B := 2147483648) n0 n1 (by omega) (by omega)
  have e1 : n * (V + 1073741824) = n * V + 1073741824 * n := by grind
  have e2 : n * (1073741824 - V) = 1073741824 * n - n * V := by grind
  omega
theorem fall_b {n : Int} (n0 : 0 ≤ n) (n1 : n ≤ 1024) : 0 ≤ 512 * n * (n - 1) ∧ 512 * n * (n - 1) ≤ 536870912 := by
  rcases Int.lt_or_le n 1 with h | h
  · have : n = 0 := by omega
    subst this; decide
  · have a := mulb (a := 512 * n) (b := n - 1) (A := 524288) (B := 1024) (by omega) (by omega) (by omega) (by omega)
    omega

theorem refAt_eq {X Y Z U V Q n : Int} (h : spot X Y Z U V Q = true) (n0 : 0 ≤ n) (n1 : n ≤ 1024) : bivouacref16_At.f X Y Z U V Q n = some (aX X U n, aX Y V n, aZ Z Q n, U, V, aQ Q n) := by
  obtain ⟨x, y, z, u, v, q⟩ := spot_b h
  have a := nb n0 n1 u
  have b := nb n0 n1 v
  have c := nb n0 n1 q
  have f := fall_b n0 n1
  unfold bivouacref16_At.f aX aZ aQ
  rw [w64 (i := n * U) (by omega) (by omega), w64 (i := n * V) (by omega) (by omega), w64 (i := n * Q) (by omega) (by omega), w64 (i := X + n * U) (by omega) (by omega), w64 (i := Y + n * V) (by omega) (by omega), w64 (i := Z + n * Q) (by omega) (by omega)]
  rw [w64 (i := 512 * n) (by omega) (by omega), w64 (i := n - 1) (by omega) (by omega), w64 (i := 512 * n * (n - 1)) (by omega) (by omega), w64 (i := Z + n * Q - 512 * n * (n - 1)) (by omega) (by omega), w64 (i := 1024 * n) (by omega) (by omega), w64 (i := Q - 1024 * n) (by omega) (by omega)]

theorem tick_eq {X Y Z U V Q n : Int} (h : spot X Y Z U V Q = true) (n0 : 0 ≤ n) (n1 : n < 1024) : shot_tick.f (aX X U n) (aX Y V n) (aZ Z Q n) U V (aQ Q n) = some (aX X U (n + 1), aX Y V (n + 1), aZ Z Q (n + 1), U, V, aQ Q (n + 1)) := by
  obtain ⟨x, y, z, u, v, q⟩ := spot_b h
  have a := nb (n := n + 1) (by omega) (by omega) u
  have b := nb (n := n + 1) (by omega) (by omega) v
  have c := nb (n := n + 1) (by omega) (by omega) q
  have f := fall_b (n := n + 1) (by omega) (by omega)
  unfold shot_tick.f aX aZ aQ
  have e1 : X + n * U + U = X + (n + 1) * U := by grind
  have e2 : Y + n * V + V = Y + (n + 1) * V := by grind
  have e3 : Z + n * Q - 512 * n * (n - 1) + (Q - 1024 * n) = Z + (n + 1) * Q - 512 * (n + 1) * (n + 1 - 1) := by grind
  have e4 : Q - 1024 * n - 1024 = Q - 1024 * (n + 1) := by omega
  rw [e1, e2, e3, e4, w64 (by omega) (by omega), w64 (by omega) (by omega), w64 (by omega) (by omega), w64 (by omega) (by omega)]

theorem at_l0 {X Y Z U V Q : Int} (h : spot X Y Z U V Q = true) (n : Nat) (hn : n ≤ 1024) (d : Nat) : ∀ (k i : Nat), i ≤ n → n - i = d → d < k →
    shot_At.l0 k n i (aX X U i) (aX Y V i) (aZ Z Q i) U V (aQ Q i) = some (aX X U n, aX Y V n, aZ Z Q n, U, V, aQ Q n, 0) := by
  induction d with
  | zero =>
    intro k i hi hd hk
    obtain ⟨k, rfl⟩ : ∃ q, k = q + 1 := ⟨k - 1, by omega⟩
    obtain rfl : i = n := by omega
    simp only [shot_At.l0]
    rw [if_neg (by omega)]
  | succ d ih =>
    intro k i hi hd hk
    obtain ⟨k, rfl⟩ : ∃ q, k = q + 1 := ⟨k - 1, by omega⟩
    have g := ih k (i + 1) (by omega) (by omega) (by omega)
    simp only [shot_At.l0]
    rw [if_pos (by omega), tick_eq h (by omega) (by omega)]
    simp only [Option.bind_some]
    rw [w64 (by omega) (by omega)]
    exact g

theorem a_zero (X U Z Q : Int) : aX X U 0 = X ∧ aZ Z Q 0 = Z ∧ aQ Q 0 = Q := by unfold aX aZ aQ; omega

theorem at_eq {k : Nat} (hk : 1100 ≤ k) (X Y Z U V Q n : Int) : shot_At.f k X Y Z U V Q n = some (if (spot X Y Z U V Q && decide (0 ≤ n ∧ n ≤ 1024)) = true then (aX X U n, aX Y V n, aZ Z Q n, U, V, aQ Q n, 0) else (0, 0, 0, 0, 0, 0, 1)) := by
  obtain ⟨k, rfl⟩ : ∃ q, k = q + 1 := ⟨k - 1, by omega⟩
  have no : ∀ n, shot_At.j0 (k + 1) n true X Y Z U V Q = some (0, 0, 0, 0, 0, 0, 1) := by intro n; simp only [shot_At.j0]; rw [if_pos trivial]
  unfold shot_At.f
  rw [no]
  by_cases h0 : n < 0
  · rw [if_pos h0, if_neg (by simp; omega)]
  rw [if_neg h0]
  by_cases h1 : n > 1024
  · rw [if_pos h1, if_neg (by simp; omega)]
  rw [if_neg h1, within_eq (by omega) _ _ _ (by simp), within_eq (by omega) _ _ _ (by simp)]
  simp only [Option.bind_some, List.all_cons, List.all_nil, Bool.and_true]
  have hn : decide (0 ≤ n ∧ n ≤ 1024) = true := by simp; omega
  rw [hn, Bool.and_true]
  by_cases hs : spot X Y Z U V Q = true
  · rw [if_pos hs]
    have hs2 := hs
    unfold spot at hs2
    simp only [Bool.and_eq_true] at hs2
    obtain ⟨a, b, c, d, e, f⟩ := hs2
    rw [a, b, c, d, e, f]
    simp only [Bool.and_self, if_true, Bool.not_true, shot_At.j0]
    rw [if_neg (by decide)]
    obtain ⟨m, rfl⟩ := Int.eq_ofNat_of_zero_le (show 0 ≤ n by omega)
    have g := at_l0 hs m (by omega) m k 0 (by omega) (by omega) (by omega)
    obtain ⟨z1, z2, z3⟩ := a_zero X U Z Q
    obtain ⟨z4, _, _⟩ := a_zero Y V Z Q
    simp only [Int.natCast_zero, Int.ofNat_zero, z1, z2, z3, z4] at g
    exact g
  · rw [if_neg hs]
    by_cases ha : (inB (-1099511627776) 1099511627776 X && (inB (-1099511627776) 1099511627776 Y && inB (-1099511627776) 1099511627776 Z)) = true
    · rw [if_pos ha]
      have hb : (inB (-1073741824) 1073741824 U && (inB (-1073741824) 1073741824 V && inB (-1073741824) 1073741824 Q)) = false := by
        rw [← Bool.not_eq_true]
        intro hb
        apply hs
        unfold spot
        simp only [Bool.and_eq_true] at ha hb ⊢
        exact ⟨ha.1, ha.2.1, ha.2.2, hb.1, hb.2.1, hb.2.2⟩
      rw [hb]
      simp only [Bool.not_false]
      exact no n
    · rw [if_neg ha]

end Go.Proofs.Ytfcocbkfodmmbaa.L
