/- Every number between two lies between them and is the reference's, for all arguments. -/
import Derived.Test.YtlhcakepaaeaoaaRngL
namespace Go.Proofs.Ytlhcakepaaeaoaa.Pure
open Go.RowKit Go.Proofs.Ytlhcakepaaeaoaa.PRng Go.Proofs.YtlhcakepaaeaoaaW.PrintWords Go.Proofs.YtlhcakepaaeaoaaW.PrintLast
set_option linter.unusedVariables false
set_option linter.unusedSimpArgs false
open Go.Proofs.Ytlhcakepaaeaoaa.RngL Go.Proofs.Ytlhcakepaaeaoaa
theorem RngBetween : bivouaclaw05_RngBetween.Pure := by
  intro s n a b _ _ ha hb
  have ha := Go.bounds_i64 ha
  have hb := Go.bounds_i64 hb
  refine Ev.rounds (r := true) ?_
  obtain ⟨K, hK⟩ := awake_ev
  refine ⟨max K 65 + 1, fun k hk => ?_⟩
  dsimp only
  unfold bivouaclaw05_RngBetween.f rng_Between.f
  by_cases h : a > b
  · rw [if_pos h]
    simp only [Option.bind_some]
    rw [if_pos h, if_pos trivial, if_pos trivial, hK k (by omega)]
    rfl
  · rw [if_neg h]
    obtain ⟨k, rfl⟩ : ∃ m, k = m + 1 := ⟨k - 1, by omega⟩
    have e : IntKind.u64.wrap (IntKind.u64.wrap (IntKind.u64.wrap b - IntKind.u64.wrap a) + 1) = (b - a + 1) % 18446744073709551616 := by
      simp only [RngM.u64w]; omega
    by_cases hc : (b - a + 1) % 18446744073709551616 = 0
    · rw [e, if_pos hc]
      obtain ⟨v, hv, h0, h1⟩ := at_some s n
      rw [hv]
      simp only [Option.bind_some]
      have hw : wrap64 v = (v + 9223372036854775808) % 18446744073709551616 - 9223372036854775808 := by unfold wrap64; rfl
      have hx : IntKind.u64.wrap (wrap64 v) = v := by rw [hw, RngM.u64w]; omega
      rw [if_neg h, if_pos trivial, if_neg (by omega), decide_eq_false (by omega)]
      simp only [bivouaclaw05_RngBetween.j0]
      rw [e, if_neg (by decide), if_pos hc, refAt_eq (by omega), hv]
      simp only [Option.bind_some]
      rw [if_pos hx, hK k (by omega)]
      rfl
    · rw [e, if_neg hc]
      obtain ⟨v, hv, h0, h1⟩ := below_some s n ((b - a + 1) % 18446744073709551616) (by omega) (by omega)
      rw [hv]
      simp only [Option.bind_some]
      have hw : wrap64 (a + wrap64 v) = a + v := by unfold wrap64; omega
      have hx : IntKind.u64.wrap (IntKind.u64.wrap (a + v) - IntKind.u64.wrap a) = v := by simp only [RngM.u64w]; omega
      rw [hw, if_neg h, if_pos trivial, if_neg (by omega), decide_eq_false (by omega)]
      simp only [bivouaclaw05_RngBetween.j0]
      rw [e, if_neg (by decide), if_neg hc, refBelow_eq (by omega) _ _ _ (by omega) (by omega), hv]
      simp only [Option.bind_some]
      rw [if_pos hx, hK k (by omega)]
      rfl

end Go.Proofs.Ytlhcakepaaeaoaa.Pure
