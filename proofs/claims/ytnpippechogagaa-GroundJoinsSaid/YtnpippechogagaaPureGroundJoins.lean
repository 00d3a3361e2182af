/- Open neighbours are of one region; a region's number is its own least cell's, which is of it; no cell that is not open is of any. For all maps and classes. -/
import Derived.Test.YtnpippechogagaaGAbivouaclaw07GroundJoins
import Derived.Test.YtnpippechogagaaLJ
import Derived.Test.YtnpippechogagaaLA
namespace Go.Proofs.Ytnpippechogagaa.Pure
open Go.RowKit Go.Proofs.Ytnpippechogagaa.PA Go.Proofs.YtnpippechogagaaW.PrintWords Go.Proofs.YtnpippechogagaaW.PrintLast Go.Proofs.YtnpippechogagaaW.PrintMore
open Go.Proofs.Ytnpippechogagaa.L
set_option linter.unusedVariables false
set_option linter.unusedSimpArgs false

theorem rdD {xs : List Int} (i : Int) : rd xs i = xs.getD i.toNat 0 := rfl
theorem rdB {xs : List Bool} (i : Int) : rdOf false xs i = xs.getD i.toNat false := rfl
theorem joins_at {g : List Bool} {L : List Int} {W : Int} (hW : 1 ≤ W) (hg : Go.Proofs.Ytnpippechogagaa.L.Good g W L) {i : Nat} (hi : i < L.length) : bivouaclaw07_GroundJoins.at W L g (i : Int) = true := by
  have hlen := hg.len
  have h0 : (0 : Int) ≤ (i : Int) := by omega
  have h1 : (i : Int) < (g.length : Int) := by omega
  unfold bivouaclaw07_GroundJoins.at
  simp only [Bool.and_eq_true, Bool.or_eq_true, decide_eq_true_eq, beq_iff_eq, Bool.not_eq_true']
  simp only [rdD, rdB]
  cases ho : g.getD (i : Int).toNat false
  · have hs := hg.shut i h0 h1 ho
    have hs2 : L.getD (i : Int).toNat 0 < 0 := by omega
    refine ⟨⟨⟨⟨(decide_eq_false (Int.not_le.2 hs2)).symm, show L.getD (i : Int).toNat 0 ≤ (i : Int) by omega⟩, .inl hs2⟩, ?_⟩, ?_⟩
    · exact .inl (.inl (.inr rfl))
    · exact .inl (.inl (.inr rfl))
  · obtain ⟨n0, n1, n2, n3⟩ := hg.num i h0 h1 ho
    refine ⟨⟨⟨⟨(decide_eq_true n0).symm, n1⟩, .inr (hg.own h0 h1 ho)⟩, ?_⟩, ?_⟩
    · by_cases h : (i : Int) % W ≤ 0
      · exact .inl (.inl (.inl h))
      · by_cases h2 : g.getD ((i : Int) - 1).toNat false = false
        · exact .inl (.inr h2)
        · refine .inr (hg.adj _ _ ⟨h0, h1, ?_, by omega, ho, (Bool.not_eq_false _).mp h2, .inr (.inr (.inr ⟨by omega, by omega⟩))⟩)
          rcases (by omega : (i : Int) = 0 ∨ 0 < (i : Int)) with e | e
          · rw [e] at h; simp at h
          · omega
    · by_cases h : (i : Int) < W
      · exact .inl (.inl (.inl h))
      · by_cases h2 : g.getD ((i : Int) - W).toNat false = false
        · exact .inl (.inr h2)
        · exact .inr (hg.adj _ _ ⟨h0, h1, by omega, by omega, ho, (Bool.not_eq_false _).mp h2, .inr (.inl (by omega))⟩)
theorem GroundJoins : bivouaclaw07_GroundJoins.Pure := by
  intro W H Wt l c _ _ _ _ hl _
  have hb := take_b hl
  obtain ⟨K, hK⟩ := awake_ev
  refine ⟨K + 20000, ?_⟩
  unfold bivouaclaw07_GroundJoins.f
  rw [few_eq]
  simp only [Option.bind_some]
  by_cases h : 0 ≤ c ∧ c ≤ 5 ∧ chk W H Wt (l.take 4300) = 0
  · have ok := (chk_zero hb).1 h.2.2
    obtain ⟨L, hg, hL⟩ := regs ok h.1 h.2.1
    rw [hL _ (by omega), grid_eq (by omega) hb, if_pos h]
    simp only [Option.bind_some]
    rw [if_pos ?_]
    · exact hK _ (by omega)
    unfold bivouaclaw07_GroundJoins.ok
    have hwh := wh ok.w0 ok.w1 ok.h0 ok.h1
    have hcl := cells_len W H Wt (l.take 4300) c
    have hll := hg.len
    dsimp only
    rw [if_pos rfl, Bool.and_eq_true]
    refine ⟨decide_eq_true ⟨hll.symm, ok.w0, ok.w1, by rw [hwh.2.2]; omega, by omega⟩, List.all_eq_true.2 fun j hj => joins_at ok.w0 hg (List.mem_range.1 hj)⟩
  · rw [regs_no (by omega) hb c h, grid_eq (by omega) hb, if_neg h]
    simp only [Option.bind_some]
    rw [if_pos (by simp [bivouaclaw07_GroundJoins.ok])]
    exact hK _ (by omega)

end Go.Proofs.Ytnpippechogagaa.Pure
