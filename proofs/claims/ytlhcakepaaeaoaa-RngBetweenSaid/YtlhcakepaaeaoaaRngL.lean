/- What the printed functions of the package rng and of its reference come to, for every argument. -/
import Derived.Test.YtlhcakepaaeaoaaPRngx
import Derived.Test.YtlhcakepaaeaoaaRngM
import Derived.OpenShut
namespace Go.Proofs.Ytlhcakepaaeaoaa.RngL
open Go.RowKit Go.Proofs.Ytlhcakepaaeaoaa.PRng Go.Proofs.YtlhcakepaaeaoaaW.PrintWords Go.Proofs.YtlhcakepaaeaoaaW.PrintLast
set_option linter.unusedVariables false
set_option linter.unusedSimpArgs false
theorem awake_ev : ∃ K, ∀ k, K ≤ k → bivouaclaw05_awake.f k = some true :=
  Ev.of (fun k => bivouaclaw05_awake.mono k) (k := 9) (by decide +kernel)

theorem at_some (s n : Int) : ∃ v, rng_At.f s n = some v ∧ 0 ≤ v ∧ v < 18446744073709551616 :=
  ⟨_, rfl, (RngM.xor_range _ _).1, (RngM.xor_range _ _).2⟩

theorem times_l0 (d : Nat) : ∀ (k : Nat) (x0 x1 x5 : Int), 0 ≤ x1 → x1 < 2 ^ d → x1 < 18446744073709551616 → 0 ≤ x5 → x5 < 18446744073709551616 → d < k →
    bivouacref05_times.l0 k x0 x1 x5 = some ((x5 + x0 * x1) % 18446744073709551616) := by
  induction d with
  | zero =>
    intro k x0 x1 x5 h0 h1 h2 h3 h4 hk
    obtain ⟨k, rfl⟩ : ∃ m, k = m + 1 := ⟨k - 1, by omega⟩
    have : x1 = 0 := by have : (2 : Int) ^ 0 = 1 := rfl; omega
    subst this
    simp only [bivouacref05_times.l0]
    rw [if_neg (by omega), Int.mul_zero, Int.add_zero]
    congr 1; omega
  | succ d ih =>
    intro k x0 x1 x5 h0 h1 h2 h3 h4 hk
    obtain ⟨k, rfl⟩ : ∃ m, k = m + 1 := ⟨k - 1, by omega⟩
    simp only [bivouacref05_times.l0]
    by_cases hp : x1 > 0
    · rw [if_pos hp]
      have hq : IntKind.u64.wrap (Int.tdiv x1 2) = x1 / 2 := RngM.tdivw h0 h2 (by decide)
      have hb : x1 / 2 < 2 ^ d := by
        have : (2 : Int) ^ (d + 1) = 2 ^ d * 2 := Int.pow_succ 2 d
        omega
      rw [hq, Int.tmod_eq_emod_of_nonneg h0]
      have r1 := RngM.u64w_range (x5 + x0)
      by_cases ho : x1 % 2 = 1
      · rw [if_pos ho, ih k _ (x1 / 2) _ (by omega) hb (by omega) r1.1 r1.2 (by omega)]
        congr 1
        rw [RngM.u64w, RngM.u64w, RngM.mulmod]
        obtain ⟨q, rfl⟩ : ∃ q, x1 = 2 * q + 1 := ⟨x1 / 2, by omega⟩
        rw [show (2 * q + 1) / 2 = q by omega]
        congr 1
        grind
      · rw [if_neg ho, ih k _ (x1 / 2) _ (by omega) hb (by omega) h3 h4 (by omega)]
        congr 1
        obtain ⟨q, rfl⟩ : ∃ q, x1 = 2 * q := ⟨x1 / 2, by omega⟩
        rw [show (2 * q) / 2 = q by omega, RngM.u64w]
        have := RngM.mulmod (x0 + x0) x5 q
        rw [show x5 % 18446744073709551616 = x5 by omega] at this
        rw [this]
        congr 1
        grind
    · rw [if_neg hp]
      have : x1 = 0 := by omega
      subst this
      rw [Int.mul_zero, Int.add_zero]
      congr 1; omega

theorem times_eq {k : Nat} (hk : 65 ≤ k) (a b : Int) (h0 : 0 ≤ b) (h1 : b < 18446744073709551616) :
    bivouacref05_times.f k a b = some (IntKind.u64.wrap (a * b)) := by
  unfold bivouacref05_times.f
  rw [times_l0 64 k a b 0 h0 (by exact h1) h1 (by decide) (by decide) (by omega), Int.zero_add, RngM.u64w]

theorem refAt_eq {k : Nat} (hk : 65 ≤ k) (s n : Int) : bivouacref05_At.f k s n = rng_At.f s n := by
  unfold bivouacref05_At.f rng_At.f
  rw [times_eq hk _ _ (by decide) (by decide)]
  simp only [Option.bind_some]
  have r1 := RngM.u64w_range (s + IntKind.u64.wrap (IntKind.u64.wrap (n + 1) * 11400714819323198485))
  rw [RngM.tdivw r1.1 r1.2 (by decide)]
  rw [times_eq hk _ _ (by decide) (by decide)]
  simp only [Option.bind_some]
  rw [RngM.tdivw (RngM.u64w_range _).1 (RngM.u64w_range _).2 (by decide)]
  rw [times_eq hk _ _ (by decide) (by decide)]
  simp only [Option.bind_some]
  rw [RngM.tdivw (RngM.u64w_range _).1 (RngM.u64w_range _).2 (by decide)]

theorem mul64_some (a b : Int) (ha : 0 ≤ a) (ha' : a < 18446744073709551616) (hb : 0 ≤ b) (hb' : b < 18446744073709551616) :
    ∃ v lo, bits_Mul64.f a b = some (v, lo) ∧ 0 ≤ v ∧ v * 18446744073709551616 ≤ a * b := by
  have A0 := RngM.and_nat ha ha'
  have B0 := RngM.and_nat hb hb'
  obtain ⟨⟨p0, p1⟩, ⟨q0, q1⟩, ⟨r0, r1⟩, ⟨s0, s1⟩, e⟩ := RngM.high_eq a b ha ha' hb hb' _ _ _ _ rfl rfl rfl rfl
  unfold bits_Mul64.f
  rw [A0, B0]
  generalize a / 4294967296 * (b / 4294967296) = p at *
  generalize a / 4294967296 * (b % 4294967296) = q at *
  generalize a % 4294967296 * (b / 4294967296) = r at *
  generalize a % 4294967296 * (b % 4294967296) = s at *
  rw [RngM.u64w s, RngM.u64w p, RngM.u64w q, RngM.u64w r]
  have e1 : s % 18446744073709551616 = s := by omega
  have e2 : q % 18446744073709551616 = q := by omega
  have e3 : r % 18446744073709551616 = r := by omega
  have e4 : p % 18446744073709551616 = p := by omega
  rw [e1, e2, e3, e4]
  have e5 : IntKind.u64.wrap (q + s / 4294967296) = q + s / 4294967296 := by rw [RngM.u64w]; omega
  rw [e5, RngM.and_nat (by omega) (by omega)]
  refine ⟨_, _, rfl, (RngM.u64w_range _).1, ?_⟩
  simp only [RngM.u64w]
  rw [e]
  omega

theorem below_some (s n m : Int) (hm : 0 ≤ m) (hm' : m < 18446744073709551616) :
    ∃ v, rng_Below.f s n m = some v ∧ 0 ≤ v ∧ (v < m ∨ m = 0 ∧ v = 0) := by
  obtain ⟨a, ha, h0, h1⟩ := at_some s n
  obtain ⟨v, lo, hv, g0, g1⟩ := mul64_some a m h0 h1 hm hm'
  refine ⟨v, ?_, g0, ?_⟩
  · unfold rng_Below.f
    rw [ha]
    simp only [Option.bind_some]
    rw [hv]
    rfl
  · have h2 : a * m ≤ 18446744073709551615 * m := Int.mul_le_mul_of_nonneg_right (by omega) hm
    omega

theorem high_mul64 (a b : Int) (ha : 0 ≤ a) (ha' : a < 18446744073709551616) (hb : 0 ≤ b) (hb' : b < 18446744073709551616) {v lo : Int} (h : bits_Mul64.f a b = some (v, lo)) :
    bivouacref05_High.f a b = some v := by
  unfold bits_Mul64.f at h
  rw [RngM.and_nat ha ha', RngM.and_nat hb hb'] at h
  unfold bivouacref05_High.f
  rw [RngM.tdivw ha ha' (by decide), RngM.tdivw hb hb' (by decide), Int.tmod_eq_emod_of_nonneg ha, Int.tmod_eq_emod_of_nonneg hb]
  have z := fun x : Int => RngM.tdivw (RngM.u64w_range x).1 (RngM.u64w_range x).2 (c := 4294967296) (by decide)
  simp only [z]
  rw [Int.tmod_eq_emod_of_nonneg (RngM.u64w_range _).1]
  rw [RngM.and_nat (RngM.u64w_range _).1 (RngM.u64w_range _).2] at h
  have h := congrArg Prod.fst (Option.some.inj h)
  simp only at h
  rw [← h]
  congr 1
  rw [Int.add_comm (IntKind.u64.wrap (a % 4294967296 * (b / 4294967296)))]

theorem refBelow_eq {k : Nat} (hk : 65 ≤ k) (s n m : Int) (hm : 0 ≤ m) (hm' : m < 18446744073709551616) :
    bivouacref05_Below.f k s n m = rng_Below.f s n m := by
  obtain ⟨a, ha, h0, h1⟩ := at_some s n
  obtain ⟨v, lo, hv, _, _⟩ := mul64_some a m h0 h1 hm hm'
  unfold bivouacref05_Below.f rng_Below.f
  rw [refAt_eq hk, ha]
  simp only [Option.bind_some]
  rw [hv, high_mul64 a m h0 h1 hm hm' hv]
  rfl

theorem wrap_ok {i : Int} (h0 : -9223372036854775808 ≤ i) (h1 : i ≤ 9223372036854775807) : wrap64 i = i := by unfold wrap64; omega

/-- 0, 1, .., m - 1 -/
def iota (m : Nat) : List Int := (List.range m).map fun j : Nat => (j : Int)
theorem iota_length (m : Nat) : (iota m).length = m := by simp [iota]
theorem iota_succ (m : Nat) : iota (m + 1) = iota m ++ [(m : Int)] := by simp [iota, List.range_succ]

theorem fill_set (m i : Nat) (h : i < m) : (iota i ++ List.replicate (m - i) (0 : Int)).set i (i : Int) = iota (i + 1) ++ List.replicate (m - (i + 1)) 0 := by
  rw [List.set_append_right _ _ (by rw [iota_length]; omega), iota_length, Nat.sub_self, iota_succ]
  obtain ⟨d, hd⟩ : ∃ d, m - i = d + 1 := ⟨m - i - 1, by omega⟩
  rw [hd, show m - (i + 1) = d by omega, List.replicate_succ, List.set_cons_zero, List.append_assoc]
  rfl

/-- The first loop lays 0, 1, .. -/
theorem order_fill (s n : Int) (m : Nat) (hm : m ≤ 256) (d : Nat) : ∀ (k i : Nat), i ≤ m → m - i = d → d < k →
    ∃ k', k - d = k' + 1 ∧ rng_Order.l0 k s n m (iota i ++ List.replicate (m - i) 0) m i = rng_Order.l1 k' s n (iota m) (m - 1) := by
  induction d with
  | zero =>
    intro k i hi hd hk
    obtain ⟨k, rfl⟩ : ∃ q, k = q + 1 := ⟨k - 1, by omega⟩
    obtain rfl : i = m := by omega
    refine ⟨k, by omega, ?_⟩
    simp only [rng_Order.l0]
    rw [if_neg (by omega), Nat.sub_self, List.replicate_zero, List.append_nil, wrap_ok (by omega) (by omega)]
  | succ d ih =>
    intro k i hi hd hk
    obtain ⟨k, rfl⟩ : ∃ q, k = q + 1 := ⟨k - 1, by omega⟩
    obtain ⟨k', h1, h2⟩ := ih k (i + 1) (by omega) (by omega) (by omega)
    refine ⟨k', by omega, ?_⟩
    simp only [rng_Order.l0]
    rw [if_pos (by omega), if_pos (by omega), if_pos (by simp [iota_length]; omega)]
    rw [wrap_ok (by omega) (by omega), Int.toNat_natCast, fill_set m i (by omega)]
    exact h2

/-- the swaps, as a function -/
def swaps (s n : Int) : Nat → List Int → List Int
  | 0, l => l
  | i + 1, l => match rng_Below.f s (IntKind.u64.wrap (n + IntKind.u64.wrap ((i : Int) + 1))) ((i : Int) + 2) with
    | some t => swaps s n i ((l.set (i + 1) (rd l t)).set t.toNat (rd l ((i : Int) + 1)))
    | none => l

theorem order_swaps (s n : Int) : ∀ (i k : Nat) (l : List Int), i < 256 → (i = 0 ∨ i < l.length) → l.length ≤ 256 → i < k →
    rng_Order.l1 k s n l i = some (swaps s n i l, 0) := by
  intro i
  induction i with
  | zero =>
    intro k l _ _ _ hk
    obtain ⟨k, rfl⟩ : ∃ q, k = q + 1 := ⟨k - 1, by omega⟩
    simp only [rng_Order.l1]
    rw [if_neg (by omega)]
    rfl
  | succ i ih =>
    intro k l hi hl hl2 hk
    obtain ⟨k, rfl⟩ : ∃ q, k = q + 1 := ⟨k - 1, by omega⟩
    have hl : i + 1 < l.length := by omega
    simp only [rng_Order.l1]
    have e1 : IntKind.u64.wrap (IntKind.u64.wrap ((i + 1 : Nat) : Int) + 1) = (i : Int) + 2 := by simp only [RngM.u64w]; omega
    have e2 : ((i + 1 : Nat) : Int) = (i : Int) + 1 := by omega
    obtain ⟨t, ht, h0, h1⟩ := below_some s (IntKind.u64.wrap (n + IntKind.u64.wrap ((i : Int) + 1))) ((i : Int) + 2) (by omega) (by omega)
    rw [if_pos (by omega), e1, e2, ht]
    simp only [Option.bind_some]
    rw [if_pos h0, if_pos (by omega), if_pos (by omega), if_pos (by omega)]
    rw [wrap_ok (by omega) (by omega), show (i : Int) + 1 - 1 = (i : Int) by omega, show ((i : Int) + 1).toNat = i + 1 by omega]
    rw [ih k _ (by omega) (by simp; omega) (by simp; omega) (by omega)]
    simp only [swaps, ht]

theorem order_some (s n : Int) (m : Nat) (hm : m ≤ 256) : ∃ K, ∀ k, K ≤ k → rng_Order.f k s n m = some (swaps s n (m - 1) (iota m), 0) := by
  refine ⟨2 * m + 5, fun k hk => ?_⟩
  unfold rng_Order.f
  rw [if_neg (by omega), decide_eq_false (by omega)]
  obtain ⟨k, rfl⟩ : ∃ q, k = q + 1 := ⟨k - 1, by omega⟩
  simp only [rng_Order.j0]
  rw [if_neg (by decide), if_pos (by omega), if_pos (by omega)]
  simp only [Option.bind_some, List.length_replicate, Int.toNat_natCast]
  obtain ⟨k', h1, h2⟩ := order_fill s n m hm m k 0 (by omega) (by omega) (by omega)
  have h3 : (iota 0 ++ List.replicate (m - 0) (0 : Int)) = List.replicate m 0 := rfl
  rw [h3] at h2
  have h2 : rng_Order.l0 k s n m (List.replicate m 0) m 0 = _ := h2
  rw [h2]
  by_cases hz : m = 0
  · subst hz
    obtain ⟨k', rfl⟩ : ∃ q, k' = q + 1 := ⟨k' - 1, by omega⟩
    simp only [rng_Order.l1]
    rw [if_neg (by omega)]
    rfl
  · rw [show ((m : Int) - 1) = ((m - 1 : Nat) : Int) by omega]
    exact order_swaps s n (m - 1) k' (iota m) (by omega) (by rw [iota_length]; omega) (by rw [iota_length]; omega) (by omega)

theorem order_no (s n c : Int) (h : c < 0 ∨ c > 256) : ∃ K, ∀ k, K ≤ k → rng_Order.f k s n c = some ([], 1) := by
  refine ⟨1, fun k hk => ?_⟩
  obtain ⟨k, rfl⟩ : ∃ q, k = q + 1 := ⟨k - 1, by omega⟩
  unfold rng_Order.f
  by_cases h0 : c < 0
  · rw [if_pos h0]; simp only [rng_Order.j0]; rw [if_pos trivial]
  · rw [if_neg h0, decide_eq_true (by omega)]; simp only [rng_Order.j0]; rw [if_pos trivial]

end Go.Proofs.Ytlhcakepaaeaoaa.RngL
