/- Every map's cells are open to any class just as the reference says. For all maps and classes. -/
import Derived.Test.YtnpippechogagaaPAx15
import Derived.Test.YtnpippechogagaaPAx24
import Derived.Test.YtnpippechogagaaLR
import Derived.Test.YtnpippechogagaaLA
namespace Go.Proofs.Ytnpippechogagaa.Pure
open Go.RowKit Go.Proofs.Ytnpippechogagaa.PA Go.Proofs.YtnpippechogagaaW.PrintWords Go.Proofs.YtnpippechogagaaW.PrintLast Go.Proofs.YtnpippechogagaaW.PrintMore
open Go.Proofs.Ytnpippechogagaa.L
set_option linter.unusedVariables false
set_option linter.unusedSimpArgs false

theorem grids_l0 {A : Nat} (hA : ∀ k, A ≤ k → bivouaclaw07_awake.f k = some true) (xs : List Bool) (hl : xs.length ≤ 5000) : ∀ (d i k : Nat), xs.length - i = d → i ≤ xs.length → A + d < k → bivouaclaw07_GroundGrids.l0 k xs xs (i : Int) = some true := by
  intro d
  induction d with
  | zero =>
    intro i k hd hi hk
    obtain ⟨k, rfl⟩ : ∃ m, k = m + 1 := ⟨k - 1, by omega⟩
    simp only [bivouaclaw07_GroundGrids.l0]
    rw [if_neg (by omega), hA k (by omega)]
    rfl
  | succ d ih =>
    intro i k hd hi hk
    obtain ⟨k, rfl⟩ : ∃ m, k = m + 1 := ⟨k - 1, by omega⟩
    simp only [bivouaclaw07_GroundGrids.l0]
    rw [if_pos (by omega), if_pos (by omega), if_pos (by omega), if_neg (by simp), w64 (by omega) (by omega)]
    have := ih (i + 1) k (by omega) (by omega) (by omega)
    simpa using this
theorem GroundGrids : bivouaclaw07_GroundGrids.Pure := by
  intro W H Wt l c _ _ _ _ hl _
  have hb := take_b hl
  refine Ev.rounds (r := true) ?_
  obtain ⟨K, hK⟩ := awake_ev
  by_cases h : 0 ≤ c ∧ c ≤ 5 ∧ chk W H Wt (l.take 4300) = 0
  · have ok := (chk_zero hb).1 h.2.2
    obtain ⟨K2, hK2⟩ := refGrid_eq ok c
    refine ⟨K + K2 + 10000, fun k hk => ?_⟩
    dsimp only
    unfold bivouaclaw07_GroundGrids.f
    rw [few_eq]
    simp only [Option.bind_some]
    rw [grid_eq (by omega) hb, lawRight_eq (by omega)]
    simp only [Option.bind_some]
    rw [if_pos (decide_eq_true h), if_pos h, hK2 k (by omega)]
    simp only [Option.bind_some]
    rw [if_pos trivial]
    obtain ⟨k, rfl⟩ : ∃ m, k = m + 1 := ⟨k - 1, by omega⟩
    simp only [bivouaclaw07_GroundGrids.j0]
    rw [if_neg (by decide)]
    have hwh := wh ok.w0 ok.w1 ok.h0 ok.h1
    have hcl := cells_len W H Wt (l.take 4300) c
    exact grids_l0 hK _ (by omega) _ 0 k rfl (by omega) (by omega)
  · refine ⟨K + 10000, fun k hk => ?_⟩
    dsimp only
    unfold bivouaclaw07_GroundGrids.f
    rw [few_eq]
    simp only [Option.bind_some]
    rw [grid_eq (by omega) hb, lawRight_eq (by omega)]
    simp only [Option.bind_some]
    rw [if_neg (by simpa using h), if_neg h]
    simp [hK k (by omega)]

end Go.Proofs.Ytnpippechogagaa.Pure
