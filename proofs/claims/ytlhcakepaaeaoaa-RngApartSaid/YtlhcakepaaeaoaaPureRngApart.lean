/- Unlike places of one seed have unlike numbers, for all seeds and places. -/
import Derived.Test.YtlhcakepaaeaoaaRngL
namespace Go.Proofs.Ytlhcakepaaeaoaa.Pure
open Go.RowKit Go.Proofs.Ytlhcakepaaeaoaa.PRng Go.Proofs.YtlhcakepaaeaoaaW.PrintWords Go.Proofs.YtlhcakepaaeaoaaW.PrintLast
set_option linter.unusedVariables false
set_option linter.unusedSimpArgs false
open Go.Proofs.Ytlhcakepaaeaoaa.RngL Go.Proofs.Ytlhcakepaaeaoaa
theorem at_inj {s n m : Int} (hn : 0 ≤ n ∧ n ≤ 18446744073709551615) (hm : 0 ≤ m ∧ m ≤ 18446744073709551615) {v : Int} (h1 : rng_At.f s n = some v) (h2 : rng_At.f s m = some v) : n = m := by
  have h := h1.trans h2.symm
  unfold rng_At.f at h
  have h := Option.some.inj h
  have h := RngM.xsi_inj 2147483648 (by decide) ⟨31, by decide⟩ (RngM.u64w_range _).1 (RngM.u64w_range _).2 (RngM.u64w_range _).1 (RngM.u64w_range _).2 h
  have h := RngM.mul_inj (d := 3573116690164977347) (by decide +kernel) (RngM.xor_range _ _).1 (RngM.xor_range _ _).2 (RngM.xor_range _ _).1 (RngM.xor_range _ _).2 h
  have h := RngM.xsi_inj 134217728 (by decide) ⟨27, by decide⟩ (RngM.u64w_range _).1 (RngM.u64w_range _).2 (RngM.u64w_range _).1 (RngM.u64w_range _).2 h
  have h := RngM.mul_inj (d := 10871156337175269513) (by decide +kernel) (RngM.xor_range _ _).1 (RngM.xor_range _ _).2 (RngM.xor_range _ _).1 (RngM.xor_range _ _).2 h
  have h := RngM.xsi_inj 1073741824 (by decide) ⟨30, by decide⟩ (RngM.u64w_range _).1 (RngM.u64w_range _).2 (RngM.u64w_range _).1 (RngM.u64w_range _).2 h
  have h : IntKind.u64.wrap (IntKind.u64.wrap (n + 1) * 11400714819323198485) = IntKind.u64.wrap (IntKind.u64.wrap (m + 1) * 11400714819323198485) := by
    rw [RngM.u64w (s + _), RngM.u64w (s + _)] at h
    have a := RngM.u64w_range (IntKind.u64.wrap (n + 1) * 11400714819323198485)
    have b := RngM.u64w_range (IntKind.u64.wrap (m + 1) * 11400714819323198485)
    omega
  have h := RngM.mul_inj (d := 17428512612931826493) (by decide +kernel) (RngM.u64w_range _).1 (RngM.u64w_range _).2 (RngM.u64w_range _).1 (RngM.u64w_range _).2 h
  rw [RngM.u64w, RngM.u64w] at h
  omega

theorem RngApart : bivouaclaw05_RngApart.Pure := by
  intro s n m hs hn hm
  have hn := Go.bounds_u64 hn
  have hm := Go.bounds_u64 hm
  obtain ⟨v, hv, _, _⟩ := at_some s n
  obtain ⟨w, hw, _, _⟩ := at_some s m
  refine Ev.rounds (r := true) ?_
  obtain ⟨K, hK⟩ := awake_ev
  refine ⟨K, fun k hk => ?_⟩
  dsimp only
  unfold bivouaclaw05_RngApart.f
  rw [hv, hw]
  simp only [Option.bind_some]
  have e : ((v == w) == (n == m)) = true := by
    by_cases h : n = m
    · subst h
      have : v = w := Option.some.inj (hv.symm.trans hw)
      subst this
      simp
    · have : v ≠ w := fun e => by subst e; exact h (at_inj hn hm hv hw)
      rw [beq_eq_false_iff_ne.2 this, beq_eq_false_iff_ne.2 h]; rfl
  rw [if_pos e, hK k hk]
  rfl

end Go.Proofs.Ytlhcakepaaeaoaa.Pure
