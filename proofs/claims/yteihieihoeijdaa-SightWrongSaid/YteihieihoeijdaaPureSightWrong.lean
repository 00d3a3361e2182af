/- How far any echo is off is the reference's, and no more than a cell either way. For all seeds, ticks and numbers. -/
import Derived.Test.YteihieihoeijdaaPAx30
import Derived.Test.YteihieihoeijdaaPAx43
import Derived.Test.YteihieihoeijdaaPAx44
import Derived.Test.YteihieihoeijdaaPAx45
import Derived.Test.YteihieihoeijdaaPAx46
import Derived.Test.YteihieihoeijdaaPAx47
import Derived.Test.YteihieihoeijdaaPAx48
import Derived.Test.YteihieihoeijdaaPAx49
import Derived.OpenShut
namespace Go.Proofs.Yteihieihoeijdaa.Pure
open Go.RowKit Go.Proofs.Yteihieihoeijdaa.PA Go.Proofs.YteihieihoeijdaaW.PrintWords Go.Proofs.YteihieihoeijdaaW.PrintLast Go.Proofs.YteihieihoeijdaaW.PrintMore
set_option linter.unusedVariables false
set_option linter.unusedSimpArgs false

end Go.Proofs.Yteihieihoeijdaa.Pure
namespace Go.Proofs.Yteihieihoeijdaa.RngM
set_option linter.unusedVariables false
open Go Go.RowKit

theorem u64w (x : Int) : IntKind.u64.wrap x = x % 18446744073709551616 := Go.IntKind.wrap_u64 x
theorem u64w_range (x : Int) : 0 ≤ IntKind.u64.wrap x ∧ IntKind.u64.wrap x < 18446744073709551616 := by
  rw [u64w]; omega
theorem xor_range (a b : Int) : 0 ≤ Go.bits .xor .u64 a b ∧ Go.bits .xor .u64 a b < 18446744073709551616 := u64w_range _
theorem tdivw {x c : Int} (h0 : 0 ≤ x) (h1 : x < 18446744073709551616) (hc : 0 < c) : IntKind.u64.wrap (Int.tdiv x c) = x / c := by
  rw [Int.tdiv_eq_ediv_of_nonneg h0, u64w]
  have h2 : 0 ≤ x / c := Int.ediv_nonneg h0 (Int.le_of_lt hc)
  have h3 : x / c ≤ x := Int.ediv_le_self _ h0
  omega
theorem mulmod (a b q : Int) : (b % 18446744073709551616 + (a % 18446744073709551616) * q) % 18446744073709551616 = (b + a * q) % 18446744073709551616 := by
  simp [Int.add_emod, Int.mul_emod]

theorem xor_nat {a b : Int} (ha : 0 ≤ a) (ha' : a < 18446744073709551616) (hb : 0 ≤ b) (hb' : b < 18446744073709551616) :
    Go.bits .xor .u64 a b = ((a.toNat ^^^ b.toNat : Nat) : Int) := by
  have := Go.bits_xor_u64_nat a.toNat b.toNat (by omega) (by omega)
  rw [Int.toNat_of_nonneg ha, Int.toNat_of_nonneg hb] at this
  exact this

theorem and_nat {a : Int} (ha : 0 ≤ a) (ha' : a < 18446744073709551616) : Go.bits .and .u64 a 4294967295 = a % 4294967296 := by
  obtain ⟨n, rfl⟩ := Int.eq_ofNat_of_zero_le ha
  have hx : n &&& 4294967295 < 2 ^ 64 := Nat.lt_of_le_of_lt Nat.and_le_left (by omega)
  have h1 : (BitVec.ofInt 64 (n : Int)).toNat = n := by
    rw [BitVec.ofInt_natCast, BitVec.toNat_ofNat]; exact Nat.mod_eq_of_lt (by omega)
  have h2 : (BitVec.ofInt 64 (4294967295 : Int)).toNat = 4294967295 := by decide +kernel
  show IntKind.u64.wrap ((BitVec.ofInt 64 (n : Int) &&& BitVec.ofInt 64 (4294967295 : Int)).toNat : Int) = _
  rw [BitVec.toNat_and, h1, h2, u64w]
  have h3 : n &&& 4294967295 = n % 4294967296 := Nat.and_two_pow_sub_one_eq_mod n 32
  rw [h3]
  omega

/-- xor with itself shifted down has one preimage -/
theorem xs_inj (s : Nat) (hs : 1 < s) (hp : ∃ k, s = 2 ^ k) {x y : Nat} (h : x ^^^ x / s = y ^^^ y / s) : x = y := by
  obtain ⟨k, rfl⟩ := hp
  have e : (x ^^^ y) = (x ^^^ y) / 2 ^ k := by
    rw [Nat.xor_div_two_pow]
    have h2 : (x ^^^ x / 2 ^ k) ^^^ (y ^^^ y / 2 ^ k) = 0 := by rw [h]; exact Nat.xor_self _
    have h3 : (x ^^^ y) ^^^ (x / 2 ^ k ^^^ y / 2 ^ k) = 0 := by
      rw [← h2]
      ac_rfl
    have h4 := congrArg (· ^^^ (x / 2 ^ k ^^^ y / 2 ^ k)) h3
    simpa [Nat.xor_assoc] using h4
  have z : x ^^^ y = 0 := by
    have h5 : (x ^^^ y) / 2 ^ k < (x ^^^ y) ∨ x ^^^ y = 0 := by
      rcases Nat.eq_zero_or_pos (x ^^^ y) with h | h
      · exact .inr h
      · exact .inl (Nat.div_lt_self h hs)
    omega
  have h6 := congrArg (· ^^^ y) z
  simpa [Nat.xor_assoc] using h6

theorem xsi_inj {a b : Int} (s : Nat) (hs : 1 < s) (hp : ∃ k, s = 2 ^ k) (ha : 0 ≤ a) (ha' : a < 18446744073709551616) (hb : 0 ≤ b) (hb' : b < 18446744073709551616)
    (h : Go.bits .xor .u64 a (a / (s : Int)) = Go.bits .xor .u64 b (b / (s : Int))) : a = b := by
  obtain ⟨m, rfl⟩ := Int.eq_ofNat_of_zero_le ha
  obtain ⟨n, rfl⟩ := Int.eq_ofNat_of_zero_le hb
  rw [Go.xorShift_u64 m s (by omega), Go.xorShift_u64 n s (by omega)] at h
  have := xs_inj s hs hp (Int.ofNat.inj h)
  rw [this]

theorem mul_inj {a b c d : Int} (hc : c * d % 18446744073709551616 = 1) (ha : 0 ≤ a) (ha' : a < 18446744073709551616) (hb : 0 ≤ b) (hb' : b < 18446744073709551616)
    (h : IntKind.u64.wrap (a * c) = IntKind.u64.wrap (b * c)) : a = b := by
  rw [u64w, u64w] at h
  have h1 : (a * c * d) % 18446744073709551616 = (b * c * d) % 18446744073709551616 := by
    rw [Int.mul_emod, h, ← Int.mul_emod]
  rw [Int.mul_assoc, Int.mul_assoc, Int.mul_emod a, Int.mul_emod b, hc] at h1
  omega

/-- The high word. -/
theorem high_eq (a b : Int) (ha : 0 ≤ a) (ha' : a < 18446744073709551616) (hb : 0 ≤ b) (hb' : b < 18446744073709551616)
    (p q r s : Int) (hp : p = (a / 4294967296) * (b / 4294967296)) (hq : q = (a / 4294967296) * (b % 4294967296)) (hr : r = (a % 4294967296) * (b / 4294967296)) (hs : s = (a % 4294967296) * (b % 4294967296)) :
    (0 ≤ p ∧ p ≤ 18446744065119617025) ∧ (0 ≤ q ∧ q ≤ 18446744065119617025) ∧ (0 ≤ r ∧ r ≤ 18446744065119617025) ∧ (0 ≤ s ∧ s ≤ 18446744065119617025) ∧ a * b = p * 18446744073709551616 + (q + r) * 4294967296 + s := by
  have bd : ∀ x y : Int, 0 ≤ x → x ≤ 4294967295 → 0 ≤ y → y ≤ 4294967295 → 0 ≤ x * y ∧ x * y ≤ 18446744065119617025 := by
    intro x y h1 h2 h3 h4
    refine ⟨Int.mul_nonneg h1 h3, ?_⟩
    exact Int.le_trans (Int.mul_le_mul_of_nonneg_right h2 h3) (by omega)
  refine ⟨?_, ?_, ?_, ?_, ?_⟩
  · rw [hp]; exact bd _ _ (by omega) (by omega) (by omega) (by omega)
  · rw [hq]; exact bd _ _ (by omega) (by omega) (by omega) (by omega)
  · rw [hr]; exact bd _ _ (by omega) (by omega) (by omega) (by omega)
  · rw [hs]; exact bd _ _ (by omega) (by omega) (by omega) (by omega)
  · have e1 : a = (a / 4294967296) * 4294967296 + a % 4294967296 := by omega
    have e2 : b = (b / 4294967296) * 4294967296 + b % 4294967296 := by omega
    generalize a / 4294967296 = a1 at *
    generalize a % 4294967296 = a0 at *
    generalize b / 4294967296 = b1 at *
    generalize b % 4294967296 = b0 at *
    subst hp hq hr hs
    rw [e1, e2]
    grind

end Go.Proofs.Yteihieihoeijdaa.RngM

namespace Go.Proofs.Yteihieihoeijdaa.Pure
open Go.RowKit Go.Proofs.Yteihieihoeijdaa.PA Go.Proofs.YteihieihoeijdaaW.PrintWords Go.Proofs.YteihieihoeijdaaW.PrintLast Go.Proofs.Yteihieihoeijdaa
theorem at_some (s n : Int) : ∃ v, rng_At.f s n = some v ∧ 0 ≤ v ∧ v < 18446744073709551616 :=
  ⟨_, rfl, (RngM.xor_range _ _).1, (RngM.xor_range _ _).2⟩


theorem times_l0 (d : Nat) : ∀ (k : Nat) (x0 x1 x5 : Int), 0 ≤ x1 → x1 < 2 ^ d → x1 < 18446744073709551616 → 0 ≤ x5 → x5 < 18446744073709551616 → d < k →
    bivouacref05_times.l0 k x0 x1 x5 = some ((x5 + x0 * x1) % 18446744073709551616) := by
  induction d with
  | zero =>
    intro k x0 x1 x5 h0 h1 h2 h3 h4 hk
    obtain ⟨k, rfl⟩ : ∃ m, k = m + 1 := ⟨k - 1, by omega⟩
    have : x1 = 0 := by have : (2 : Int) ^ 0 = 1 := rfl; omega
    subst this
    simp only [bivouacref05_times.l0]
    rw [if_neg (by omega), Int.mul_zero, Int.add_zero]
    congr 1; omega
  | succ d ih =>
    intro k x0 x1 x5 h0 h1 h2 h3 h4 hk
    obtain ⟨k, rfl⟩ : ∃ m, k = m + 1 := ⟨k - 1, by omega⟩
    simp only [bivouacref05_times.l0]
    by_cases hp : x1 > 0
    · rw [if_pos hp]
      have hq : IntKind.u64.wrap (Int.tdiv x1 2) = x1 / 2 := RngM.tdivw h0 h2 (by decide)
      have hb : x1 / 2 < 2 ^ d := by
        have : (2 : Int) ^ (d + 1) = 2 ^ d * 2 := Int.pow_succ 2 d
        omega
      rw [hq, Int.tmod_eq_emod_of_nonneg h0]
      have r1 := RngM.u64w_range (x5 + x0)
      by_cases ho : x1 % 2 = 1
      · rw [if_pos ho, ih k _ (x1 / 2) _ (by omega) hb (by omega) r1.1 r1.2 (by omega)]
        congr 1
        rw [RngM.u64w, RngM.u64w, RngM.mulmod]
        obtain ⟨q, rfl⟩ : ∃ q, x1 = 2 * q + 1 := ⟨x1 / 2, by omega⟩
        rw [show (2 * q + 1) / 2 = q by omega]
        congr 1
        grind
      · rw [if_neg ho, ih k _ (x1 / 2) _ (by omega) hb (by omega) h3 h4 (by omega)]
        congr 1
        obtain ⟨q, rfl⟩ : ∃ q, x1 = 2 * q := ⟨x1 / 2, by omega⟩
        rw [show (2 * q) / 2 = q by omega, RngM.u64w]
        have := RngM.mulmod (x0 + x0) x5 q
        rw [show x5 % 18446744073709551616 = x5 by omega] at this
        rw [this]
        congr 1
        grind
    · rw [if_neg hp]
      have : x1 = 0 := by omega
      subst this
      rw [Int.mul_zero, Int.add_zero]
      congr 1; omega

theorem times_eq {k : Nat} (hk : 65 ≤ k) (a b : Int) (h0 : 0 ≤ b) (h1 : b < 18446744073709551616) :
    bivouacref05_times.f k a b = some (IntKind.u64.wrap (a * b)) := by
  unfold bivouacref05_times.f
  rw [times_l0 64 k a b 0 h0 (by exact h1) h1 (by decide) (by decide) (by omega), Int.zero_add, RngM.u64w]

theorem refAt_eq {k : Nat} (hk : 65 ≤ k) (s n : Int) : bivouacref05_At.f k s n = rng_At.f s n := by
  unfold bivouacref05_At.f rng_At.f
  rw [times_eq hk _ _ (by decide) (by decide)]
  simp only [Option.bind_some]
  have r1 := RngM.u64w_range (s + IntKind.u64.wrap (IntKind.u64.wrap (n + 1) * 11400714819323198485))
  rw [RngM.tdivw r1.1 r1.2 (by decide)]
  rw [times_eq hk _ _ (by decide) (by decide)]
  simp only [Option.bind_some]
  rw [RngM.tdivw (RngM.u64w_range _).1 (RngM.u64w_range _).2 (by decide)]
  rw [times_eq hk _ _ (by decide) (by decide)]
  simp only [Option.bind_some]
  rw [RngM.tdivw (RngM.u64w_range _).1 (RngM.u64w_range _).2 (by decide)]

theorem mul64_some (a b : Int) (ha : 0 ≤ a) (ha' : a < 18446744073709551616) (hb : 0 ≤ b) (hb' : b < 18446744073709551616) :
    ∃ v lo, bits_Mul64.f a b = some (v, lo) ∧ 0 ≤ v ∧ v * 18446744073709551616 ≤ a * b := by
  have A0 := RngM.and_nat ha ha'
  have B0 := RngM.and_nat hb hb'
  obtain ⟨⟨p0, p1⟩, ⟨q0, q1⟩, ⟨r0, r1⟩, ⟨s0, s1⟩, e⟩ := RngM.high_eq a b ha ha' hb hb' _ _ _ _ rfl rfl rfl rfl
  unfold bits_Mul64.f
  rw [A0, B0]
  generalize a / 4294967296 * (b / 4294967296) = p at *
  generalize a / 4294967296 * (b % 4294967296) = q at *
  generalize a % 4294967296 * (b / 4294967296) = r at *
  generalize a % 4294967296 * (b % 4294967296) = s at *
  rw [RngM.u64w s, RngM.u64w p, RngM.u64w q, RngM.u64w r]
  have e1 : s % 18446744073709551616 = s := by omega
  have e2 : q % 18446744073709551616 = q := by omega
  have e3 : r % 18446744073709551616 = r := by omega
  have e4 : p % 18446744073709551616 = p := by omega
  rw [e1, e2, e3, e4]
  have e5 : IntKind.u64.wrap (q + s / 4294967296) = q + s / 4294967296 := by rw [RngM.u64w]; omega
  rw [e5, RngM.and_nat (by omega) (by omega)]
  refine ⟨_, _, rfl, (RngM.u64w_range _).1, ?_⟩
  simp only [RngM.u64w]
  rw [e]
  omega

theorem below_some (s n m : Int) (hm : 0 ≤ m) (hm' : m < 18446744073709551616) :
    ∃ v, rng_Below.f s n m = some v ∧ 0 ≤ v ∧ (v < m ∨ m = 0 ∧ v = 0) := by
  obtain ⟨a, ha, h0, h1⟩ := at_some s n
  obtain ⟨v, lo, hv, g0, g1⟩ := mul64_some a m h0 h1 hm hm'
  refine ⟨v, ?_, g0, ?_⟩
  · unfold rng_Below.f
    rw [ha]
    simp only [Option.bind_some]
    rw [hv]
    rfl
  · have h2 : a * m ≤ 18446744073709551615 * m := Int.mul_le_mul_of_nonneg_right (by omega) hm
    omega

theorem high_mul64 (a b : Int) (ha : 0 ≤ a) (ha' : a < 18446744073709551616) (hb : 0 ≤ b) (hb' : b < 18446744073709551616) {v lo : Int} (h : bits_Mul64.f a b = some (v, lo)) :
    bivouacref05_High.f a b = some v := by
  unfold bits_Mul64.f at h
  rw [RngM.and_nat ha ha', RngM.and_nat hb hb'] at h
  unfold bivouacref05_High.f
  rw [RngM.tdivw ha ha' (by decide), RngM.tdivw hb hb' (by decide), Int.tmod_eq_emod_of_nonneg ha, Int.tmod_eq_emod_of_nonneg hb]
  have z := fun x : Int => RngM.tdivw (RngM.u64w_range x).1 (RngM.u64w_range x).2 (c := 4294967296) (by decide)
  simp only [z]
  rw [Int.tmod_eq_emod_of_nonneg (RngM.u64w_range _).1]
  rw [RngM.and_nat (RngM.u64w_range _).1 (RngM.u64w_range _).2] at h
  have h := congrArg Prod.fst (Option.some.inj h)
  simp only at h
  rw [← h]
  congr 1
  rw [Int.add_comm (IntKind.u64.wrap (a % 4294967296 * (b / 4294967296)))]

theorem refBelow_eq {k : Nat} (hk : 65 ≤ k) (s n m : Int) (hm : 0 ≤ m) (hm' : m < 18446744073709551616) :
    bivouacref05_Below.f k s n m = rng_Below.f s n m := by
  obtain ⟨a, ha, h0, h1⟩ := at_some s n
  obtain ⟨v, lo, hv, _, _⟩ := mul64_some a m h0 h1 hm hm'
  unfold bivouacref05_Below.f rng_Below.f
  rw [refAt_eq hk, ha]
  simp only [Option.bind_some]
  rw [hv, high_mul64 a m h0 h1 hm hm' hv]
  rfl

theorem w64 {i : Int} (h0 : -9223372036854775808 ≤ i) (h1 : i ≤ 9223372036854775807) : wrap64 i = i := by unfold wrap64; omega
theorem awake_ev : ∃ K, ∀ k, K ≤ k → bivouaclaw21_awake.f k = some true :=
  Ev.of (fun k => bivouaclaw21_awake.mono k) (k := 80) (by decide +kernel)
theorem and_1023 {a : Int} (ha : 0 ≤ a) (ha' : a < 18446744073709551616) : Go.bits .and .u64 a 1023 = a % 1024 := by
  obtain ⟨n, rfl⟩ := Int.eq_ofNat_of_zero_le ha
  have hx : n &&& 1023 < 2 ^ 64 := Nat.lt_of_le_of_lt Nat.and_le_left (by omega)
  have h1 : (BitVec.ofInt 64 (n : Int)).toNat = n := by
    rw [BitVec.ofInt_natCast, BitVec.toNat_ofNat]; exact Nat.mod_eq_of_lt (by omega)
  have h2 : (BitVec.ofInt 64 (1023 : Int)).toNat = 1023 := by decide +kernel
  show IntKind.u64.wrap ((BitVec.ofInt 64 (n : Int) &&& BitVec.ofInt 64 (1023 : Int)).toNat : Int) = _
  rw [BitVec.toNat_and, h1, h2, RngM.u64w]
  have h3 : n &&& 1023 = n % 1024 := Nat.and_two_pow_sub_one_eq_mod n 10
  rw [h3]
  omega
theorem place_eq {t i : Int} (hi0 : -9223372036854775808 ≤ i) (hi1 : i ≤ 9223372036854775807) :
    bivouacref21_Place.f t i = some (IntKind.u64.wrap (2 * (IntKind.u64.wrap ((IntKind.u64.wrap ((IntKind.u64.wrap (t)) * 1024)) + (Go.bits .and .u64 (IntKind.u64.wrap (i)) 1023))))) := by
  have hr := RngM.u64w_range i
  rw [and_1023 hr.1 hr.2]
  unfold bivouacref21_Place.f
  have e : IntKind.u64.wrap i % 1024 = i % 1024 := by rw [RngM.u64w]; omega
  rw [e]
  have h1 := Int.emod_nonneg i (show (1024 : Int) ≠ 0 by decide)
  have h2 := Int.emod_lt_of_pos i (show (0 : Int) < 1024 by decide)
  by_cases h : 0 ≤ i
  · have et : Int.tmod i 1024 = i % 1024 := Int.tmod_eq_emod_of_nonneg h
    rw [et, if_neg (by omega)]
    have e2 : IntKind.u64.wrap (i % 1024) = i % 1024 := by rw [RngM.u64w]; omega
    rw [e2]
  · have et : Int.tmod i 1024 = -((-i) % 1024) := by
      have := Int.neg_tmod (-i) 1024
      rw [Int.neg_neg] at this
      rw [this, Int.tmod_eq_emod_of_nonneg (by omega)]
    rw [et]
    by_cases hz : -((-i) % 1024) < 0
    · rw [if_pos hz, w64 (by omega) (by omega)]
      have e2 : IntKind.u64.wrap (-((-i) % 1024) + 1024) = i % 1024 := by rw [RngM.u64w]; omega
      rw [e2]
    · rw [if_neg hz]
      have e2 : IntKind.u64.wrap (-((-i) % 1024)) = i % 1024 := by rw [RngM.u64w]; omega
      rw [e2]
theorem between_eq (s n : Int) : ∃ v, rng_Between.f s n (-65536) 65536 = some (v - 65536, 0) ∧ (∀ k, 65 ≤ k → bivouacref21_Off.f k s n = some (v - 65536)) ∧ 0 ≤ v ∧ v < 131073 := by
  obtain ⟨v, hv, h0, h1⟩ := below_some s n 131073 (by decide) (by decide)
  have hw : wrap64 v = v := w64 (by omega) (by omega)
  refine ⟨v, ?_, fun k hk => ?_, h0, by omega⟩
  · unfold rng_Between.f
    have e : IntKind.u64.wrap (IntKind.u64.wrap (IntKind.u64.wrap 65536 - IntKind.u64.wrap (-65536)) + 1) = 131073 := by decide +kernel
    rw [e, if_neg (by decide), if_neg (by decide), hv]
    simp only [Option.bind_some]
    rw [hw, w64 (by omega) (by omega)]
    congr 2
    omega
  · unfold bivouacref21_Off.f
    rw [refBelow_eq hk _ _ _ (by decide) (by decide), hv]
    simp only [Option.bind_some]
    rw [hw, w64 (by omega) (by omega)]
theorem SightWrong : bivouaclaw21_SightWrong.Pure := by
  intro s t i _ _ hi
  have hi := Go.bounds_i64 hi
  obtain ⟨A, hA⟩ := awake_ev
  refine ⟨A + 65, ?_⟩
  unfold bivouaclaw21_SightWrong.f sight_Wrong.f
  rw [place_eq hi.1 hi.2]
  generalize IntKind.u64.wrap (2 * (IntKind.u64.wrap ((IntKind.u64.wrap ((IntKind.u64.wrap (t)) * 1024)) + (Go.bits .and .u64 (IntKind.u64.wrap (i)) 1023)))) = n
  obtain ⟨u, h1, h2, h3, h4⟩ := between_eq s n
  obtain ⟨v, g1, g2, g3, g4⟩ := between_eq s (IntKind.u64.wrap (n + 1))
  rw [h1, g1]
  simp only [Option.bind_some]
  rw [h2 _ (by omega), g2 _ (by omega)]
  simp only [Option.bind_some]
  rw [if_pos trivial, if_pos trivial, if_pos (by omega), if_pos (by omega), if_pos (by omega), if_pos (by omega), hA _ (by omega)]
  rfl

end Go.Proofs.Yteihieihoeijdaa.Pure
