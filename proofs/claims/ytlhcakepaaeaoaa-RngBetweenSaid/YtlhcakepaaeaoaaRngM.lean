/- Facts on numbers below 2^64: products, halves, xor with what is shifted down; without conditions beyond what each says. -/
import Derived.Laws.Bits64
import Derived.RowKit
import Derived.OpenShut
namespace Go.Proofs.Ytlhcakepaaeaoaa.RngM
set_option linter.unusedVariables false
open Go Go.RowKit

theorem u64w (x : Int) : IntKind.u64.wrap x = x % 18446744073709551616 := Go.IntKind.wrap_u64 x
theorem u64w_range (x : Int) : 0 ≤ IntKind.u64.wrap x ∧ IntKind.u64.wrap x < 18446744073709551616 := by
  rw [u64w]; omega
theorem xor_range (a b : Int) : 0 ≤ Go.bits .xor .u64 a b ∧ Go.bits .xor .u64 a b < 18446744073709551616 := u64w_range _
theorem tdivw {x c : Int} (h0 : 0 ≤ x) (h1 : x < 18446744073709551616) (hc : 0 < c) : IntKind.u64.wrap (Int.tdiv x c) = x / c := by
  rw [Int.tdiv_eq_ediv_of_nonneg h0, u64w]
  have h2 : 0 ≤ x / c := Int.ediv_nonneg h0 (Int.le_of_lt hc)
  have h3 : x / c ≤ x := Int.ediv_le_self _ h0
  omega
theorem mulmod (a b q : Int) : (b % 18446744073709551616 + (a % 18446744073709551616) * q) % 18446744073709551616 = (b + a * q) % 18446744073709551616 := by
  simp [Int.add_emod, Int.mul_emod]

theorem xor_nat {a b : Int} (ha : 0 ≤ a) (ha' : a < 18446744073709551616) (hb : 0 ≤ b) (hb' : b < 18446744073709551616) :
    Go.bits .xor .u64 a b = ((a.toNat ^^^ b.toNat : Nat) : Int) := by
  have := Go.bits_xor_u64_nat a.toNat b.toNat (by omega) (by omega)
  rw [Int.toNat_of_nonneg ha, Int.toNat_of_nonneg hb] at this
  exact this

theorem and_nat {a : Int} (ha : 0 ≤ a) (ha' : a < 18446744073709551616) : Go.bits .and .u64 a 4294967295 = a % 4294967296 := by
  obtain ⟨n, rfl⟩ := Int.eq_ofNat_of_zero_le ha
  have hx : n &&& 4294967295 < 2 ^ 64 := Nat.lt_of_le_of_lt Nat.and_le_left (by omega)
  have h1 : (BitVec.ofInt 64 (n : Int)).toNat = n := by
    rw [BitVec.ofInt_natCast, BitVec.toNat_ofNat]; exact Nat.mod_eq_of_lt (by omega)
  have h2 : (BitVec.ofInt 64 (4294967295 : Int)).toNat = 4294967295 := by decide +kernel
  show IntKind.u64.wrap ((BitVec.ofInt 64 (n : Int) &&& BitVec.ofInt 64 (4294967295 : Int)).toNat : Int) = _
  rw [BitVec.toNat_and, h1, h2, u64w]
  have h3 : n &&& 4294967295 = n % 4294967296 := Nat.and_two_pow_sub_one_eq_mod n 32
  rw [h3]
  omega

/-- xor with itself shifted down has one preimage -/
theorem xs_inj (s : Nat) (hs : 1 < s) (hp : ∃ k, s = 2 ^ k) {x y : Nat} (h : x ^^^ x / s = y ^^^ y / s) : x = y := by
  obtain ⟨k, rfl⟩ := hp
  have e : (x ^^^ y) = (x ^^^ y) / 2 ^ k := by
    rw [Nat.xor_div_two_pow]
    have h2 : (x ^^^ x / 2 ^ k) ^^^ (y ^^^ y / 2 ^ k) = 0 := by rw [h]; exact Nat.xor_self _
    have h3 : (x ^^^ y) ^^^ (x / 2 ^ k ^^^ y / 2 ^ k) = 0 := by
      rw [← h2]
      ac_rfl
    have h4 := congrArg (· ^^^ (x / 2 ^ k ^^^ y / 2 ^ k)) h3
    simpa [Nat.xor_assoc] using h4
  have z : x ^^^ y = 0 := by
    have h5 : (x ^^^ y) / 2 ^ k < (x ^^^ y) ∨ x ^^^ y = 0 := by
      rcases Nat.eq_zero_or_pos (x ^^^ y) with h | h
      · exact .inr h
      · exact .inl (Nat.div_lt_self h hs)
    omega
  have h6 := congrArg (· ^^^ y) z
  simpa [Nat.xor_assoc] using h6

theorem xsi_inj {a b : Int} (s : Nat) (hs : 1 < s) (hp : ∃ k, s = 2 ^ k) (ha : 0 ≤ a) (ha' : a < 18446744073709551616) (hb : 0 ≤ b) (hb' : b < 18446744073709551616)
    (h : Go.bits .xor .u64 a (a / (s : Int)) = Go.bits .xor .u64 b (b / (s : Int))) : a = b := by
  obtain ⟨m, rfl⟩ := Int.eq_ofNat_of_zero_le ha
  obtain ⟨n, rfl⟩ := Int.eq_ofNat_of_zero_le hb
  rw [Go.xorShift_u64 m s (by omega), Go.xorShift_u64 n s (by omega)] at h
  have := xs_inj s hs hp (Int.ofNat.inj h)
  rw [this]

theorem mul_inj {a b c d : Int} (hc : c * d % 18446744073709551616 = 1) (ha : 0 ≤ a) (ha' : a < 18446744073709551616) (hb : 0 ≤ b) (hb' : b < 18446744073709551616)
    (h : IntKind.u64.wrap (a * c) = IntKind.u64.wrap (b * c)) : a = b := by
  rw [u64w, u64w] at h
  have h1 : (a * c * d) % 18446744073709551616 = (b * c * d) % 18446744073709551616 := by
    rw [Int.mul_emod, h, ← Int.mul_emod]
  rw [Int.mul_assoc, Int.mul_assoc, Int.mul_emod a, Int.mul_emod b, hc] at h1
  omega

/-- The high word. -/
theorem high_eq (a b : Int) (ha : 0 ≤ a) (ha' : a < 18446744073709551616) (hb : 0 ≤ b) (hb' : b < 18446744073709551616)
    (p q r s : Int) (hp : p = (a / 4294967296) * (b / 4294967296)) (hq : q = (a / 4294967296) * (b % 4294967296)) (hr : r = (a % 4294967296) * (b / 4294967296)) (hs : s = (a % 4294967296) * (b % 4294967296)) :
    (0 ≤ p ∧ p ≤ 18446744065119617025) ∧ (0 ≤ q ∧ q ≤ 18446744065119617025) ∧ (0 ≤ r ∧ r ≤ 18446744065119617025) ∧ (0 ≤ s ∧ s ≤ 18446744065119617025) ∧ a * b = p * 18446744073709551616 + (q + r) * 4294967296 + s := by
  have bd : ∀ x y : Int, 0 ≤ x → x ≤ 4294967295 → 0 ≤ y → y ≤ 4294967295 → 0 ≤ x * y ∧ x * y ≤ 18446744065119617025 := by
    intro x y h1 h2 h3 h4
    refine ⟨Int.mul_nonneg h1 h3, ?_⟩
    exact Int.le_trans (Int.mul_le_mul_of_nonneg_right h2 h3) (by omega)
  refine ⟨?_, ?_, ?_, ?_, ?_⟩
  · rw [hp]; exact bd _ _ (by omega) (by omega) (by omega) (by omega)
  · rw [hq]; exact bd _ _ (by omega) (by omega) (by omega) (by omega)
  · rw [hr]; exact bd _ _ (by omega) (by omega) (by omega) (by omega)
  · rw [hs]; exact bd _ _ (by omega) (by omega) (by omega) (by omega)
  · have e1 : a = (a / 4294967296) * 4294967296 + a % 4294967296 := by omega
    have e2 : b = (b / 4294967296) * 4294967296 + b % 4294967296 := by omega
    generalize a / 4294967296 = a1 at *
    generalize a % 4294967296 = a0 at *
    generalize b / 4294967296 = b1 at *
    generalize b % 4294967296 = b0 at *
    subst hp hq hr hs
    rw [e1, e2]
    grind

end Go.Proofs.Ytlhcakepaaeaoaa.RngM
