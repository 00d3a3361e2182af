/- Every order is the reference's, or is refused just if there are too many, for all arguments. -/
import Derived.Test.YtlhcakepaaeaoaaRngL
namespace Go.Proofs.Ytlhcakepaaeaoaa.Pure
open Go.RowKit Go.Proofs.Ytlhcakepaaeaoaa.PRng Go.Proofs.YtlhcakepaaeaoaaW.PrintWords Go.Proofs.YtlhcakepaaeaoaaW.PrintLast
set_option linter.unusedVariables false
set_option linter.unusedSimpArgs false
open Go.Proofs.Ytlhcakepaaeaoaa.RngL Go.Proofs.Ytlhcakepaaeaoaa
theorem ref_swaps (s n : Int) : ∀ (i k : Nat) (l : List Int), i < 256 → (i = 0 ∨ i < l.length) → l.length ≤ 256 → i + 65 < k →
    bivouacref05_Order.l1 k s n l i = some (swaps s n i l) := by
  intro i
  induction i with
  | zero =>
    intro k l _ _ _ hk
    obtain ⟨k, rfl⟩ : ∃ q, k = q + 1 := ⟨k - 1, by omega⟩
    simp only [bivouacref05_Order.l1]
    rw [if_neg (by omega)]
    rfl
  | succ i ih =>
    intro k l hi hl hl2 hk
    obtain ⟨k, rfl⟩ : ∃ q, k = q + 1 := ⟨k - 1, by omega⟩
    have hl : i + 1 < l.length := by omega
    simp only [bivouacref05_Order.l1]
    have e1 : IntKind.u64.wrap (wrap64 (((i + 1 : Nat) : Int) + 1)) = (i : Int) + 2 := by rw [wrap_ok (by omega) (by omega)]; simp only [RngM.u64w]; omega
    have e2 : ((i + 1 : Nat) : Int) = (i : Int) + 1 := by omega
    obtain ⟨t, ht, h0, h1⟩ := below_some s (IntKind.u64.wrap (n + IntKind.u64.wrap ((i : Int) + 1))) ((i : Int) + 2) (by omega) (by omega)
    rw [if_pos (by omega), e1, e2, refBelow_eq (by omega) _ _ _ (by omega) (by omega), ht]
    simp only [Option.bind_some]
    have e3 : wrap64 t = t := wrap_ok (by omega) (by omega)
    rw [e3, if_pos (by omega), if_pos (by omega), if_pos h0, if_pos (by omega)]
    rw [wrap_ok (by omega) (by omega), show (i : Int) + 1 - 1 = (i : Int) by omega, show ((i : Int) + 1).toNat = i + 1 by omega]
    rw [ih k _ (by omega) (by simp; omega) (by simp; omega) (by omega)]
    simp only [swaps, ht]

theorem ref_fill (s n : Int) (m : Nat) (hm : m ≤ 256) (d : Nat) : ∀ (k i : Nat), i ≤ m → m - i = d → d < k →
    ∃ k', k - d = k' + 1 ∧ bivouacref05_Order.l0 k s n m (iota i) i = bivouacref05_Order.l1 k' s n (iota m) (m - 1) := by
  induction d with
  | zero =>
    intro k i hi hd hk
    obtain ⟨k, rfl⟩ : ∃ q, k = q + 1 := ⟨k - 1, by omega⟩
    obtain rfl : i = m := by omega
    refine ⟨k, by omega, ?_⟩
    simp only [bivouacref05_Order.l0]
    rw [if_neg (by omega), wrap_ok (by omega) (by omega)]
  | succ d ih =>
    intro k i hi hd hk
    obtain ⟨k, rfl⟩ : ∃ q, k = q + 1 := ⟨k - 1, by omega⟩
    obtain ⟨k', h1, h2⟩ := ih k (i + 1) (by omega) (by omega) (by omega)
    refine ⟨k', by omega, ?_⟩
    simp only [bivouacref05_Order.l0]
    rw [if_pos (by omega), if_pos (by rw [iota_length]; omega), wrap_ok (by omega) (by omega), ← iota_succ]
    exact h2

theorem refOrder_some (s n : Int) (m : Nat) (hm : m ≤ 256) : ∃ K, ∀ k, K ≤ k → bivouacref05_Order.f k s n m = some (swaps s n (m - 1) (iota m)) := by
  refine ⟨2 * m + 75, fun k hk => ?_⟩
  unfold bivouacref05_Order.f
  obtain ⟨k', h1, h2⟩ := ref_fill s n m hm m k 0 (by omega) (by omega) (by omega)
  have h2 : bivouacref05_Order.l0 k s n m [] 0 = _ := h2
  rw [h2]
  by_cases hz : m = 0
  · subst hz
    obtain ⟨k', rfl⟩ : ∃ q, k' = q + 1 := ⟨k' - 1, by omega⟩
    simp only [bivouacref05_Order.l1]
    rw [if_neg (by omega)]
    rfl
  · rw [show ((m : Int) - 1) = ((m - 1 : Nat) : Int) by omega]
    exact ref_swaps s n (m - 1) k' (iota m) (by omega) (by rw [iota_length]; omega) (by rw [iota_length]; omega) (by omega)

theorem same_l0 (l : List Int) (hl : l.length ≤ 1000) (K : Nat) (hK : ∀ k, K ≤ k → bivouaclaw05_awake.f k = some true) (d : Nat) : ∀ (k i : Nat), i ≤ l.length → l.length - i = d → d + K < k →
    bivouaclaw05_RngOrders.l0 k l l i = some true := by
  induction d with
  | zero =>
    intro k i hi hd hk
    obtain ⟨k, rfl⟩ : ∃ q, k = q + 1 := ⟨k - 1, by omega⟩
    simp only [bivouaclaw05_RngOrders.l0]
    rw [if_neg (by omega), hK k (by omega)]
    rfl
  | succ d ih =>
    intro k i hi hd hk
    obtain ⟨k, rfl⟩ : ∃ q, k = q + 1 := ⟨k - 1, by omega⟩
    simp only [bivouaclaw05_RngOrders.l0]
    rw [if_pos (by omega), if_pos (by omega), if_pos (by omega), if_pos trivial, wrap_ok (by omega) (by omega)]
    exact ih k (i + 1) (by omega) (by omega) (by omega)

theorem swaps_length (s n : Int) : ∀ (i : Nat) (l : List Int), (swaps s n i l).length = l.length := by
  intro i
  induction i with
  | zero => intro l; rfl
  | succ i ih =>
    intro l
    unfold swaps
    split
    · rw [ih]; simp
    · rfl

theorem RngOrders : bivouaclaw05_RngOrders.Pure := by
  intro s n c _ _ hc
  have hc := Go.bounds_i64 hc
  refine Ev.rounds (r := true) ?_
  obtain ⟨K, hK⟩ := awake_ev
  by_cases h : c < 0 ∨ c > 256
  · obtain ⟨K1, hK1⟩ := order_no s n c h
    refine ⟨max K K1 + 2, fun k hk => ?_⟩
    dsimp only
    unfold bivouaclaw05_RngOrders.f
    rw [hK1 k (by omega)]
    simp only [Option.bind_some]
    obtain ⟨k, rfl⟩ : ∃ q, k = q + 1 := ⟨k - 1, by omega⟩
    have e : bivouaclaw05_RngOrders.j0 (k + 1) s n c [] 1 true = some true := by
      simp only [bivouaclaw05_RngOrders.j0]
      rw [if_pos trivial, if_pos (by rfl), if_pos trivial, hK k (by omega)]
      rfl
    by_cases h0 : c < 0
    · rw [if_pos h0]; exact e
    · rw [if_neg h0, decide_eq_true (by omega)]; exact e
  · obtain ⟨m, rfl⟩ := Int.eq_ofNat_of_zero_le (show 0 ≤ c by omega)
    obtain ⟨K1, hK1⟩ := order_some s n m (by omega)
    obtain ⟨K2, hK2⟩ := refOrder_some s n m (by omega)
    refine ⟨max (max K K1) K2 + 1100, fun k hk => ?_⟩
    dsimp only
    unfold bivouaclaw05_RngOrders.f
    rw [hK1 k (by omega)]
    simp only [Option.bind_some]
    rw [if_neg (by omega), decide_eq_false (by omega)]
    obtain ⟨k, rfl⟩ : ∃ q, k = q + 2 := ⟨k - 2, by omega⟩
    simp only [bivouaclaw05_RngOrders.j0]
    rw [if_neg (by decide), hK2 (k + 1) (by omega)]
    simp only [Option.bind_some]
    rw [if_pos trivial]
    simp only [bivouaclaw05_RngOrders.j1]
    have hl : (swaps s n (m - 1) (iota m)).length = m := by rw [swaps_length, iota_length]
    rw [if_neg (by simp)]
    exact same_l0 _ (by omega) K hK _ k 0 (by omega) rfl (by omega)

end Go.Proofs.Ytlhcakepaaeaoaa.Pure
