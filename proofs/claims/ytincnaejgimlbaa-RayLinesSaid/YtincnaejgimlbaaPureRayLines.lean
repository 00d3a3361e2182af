/- Every line has just the reference's cells, or is refused, for all places. -/
import Derived.Test.YtincnaejgimlbaaPAx15
import Derived.Test.YtincnaejgimlbaaPAx18
import Derived.Test.YtincnaejgimlbaaRC
import Derived.Test.YtincnaejgimlbaaRA
import Derived.OpenShut
namespace Go.Proofs.Ytincnaejgimlbaa.Pure
open Go.RowKit Go.Proofs.Ytincnaejgimlbaa.PA Go.Proofs.YtincnaejgimlbaaW.PrintWords Go.Proofs.YtincnaejgimlbaaW.PrintLast Go.Proofs.YtincnaejgimlbaaW.PrintMore
open Go.Proofs.Ytincnaejgimlbaa.L
set_option linter.unusedVariables false
set_option linter.unusedSimpArgs false

theorem lines_l0 {KA : Nat} (hA : ∀ k, KA ≤ k → bivouaclaw08_awake.f k = some true) {a b c : Int} {cs : List Int} {i j k l u v : Int} (hi : Inn i) (hj : Inn j) (hk : Inn k) (hl : Inn l) :
    ∀ (m K : Nat) (q : Int), KA + m + 1 ≤ K → 0 ≤ q → q + (m : Int) = lng i j k l + 1 → bivouaclaw08_RayLines.l0 K (lin i j k l) (lng i j k l) q a b c cs i j k l u v = some true
  | 0, K, q, hK, q0, hq => by
    obtain ⟨K, rfl⟩ : ∃ m, K = m + 1 := ⟨K - 1, by omega⟩
    simp only [bivouaclaw08_RayLines.l0]
    rw [if_neg (by omega), hA K (by omega)]
    rfl
  | m + 1, K, q, hK, q0, hq => by
    obtain ⟨K, rfl⟩ : ∃ m, K = m + 1 := ⟨K - 1, by omega⟩
    have b := lng_b hi hj hk hl
    have L := lin_len i j k l
    simp only [bivouaclaw08_RayLines.l0]
    rw [if_pos (by omega), cell_ref hi hj hk hl q0 (by omega)]
    simp only [Option.bind_some]
    rw [if_pos q0, if_pos (by omega), rd_lin q0 (by omega), if_neg (by simp), w64 (by omega) (by omega)]
    exact lines_l0 hA hi hj hk hl m K (q + 1) (by omega) (by omega) (by omega)

theorem RayLines : bivouaclaw08_RayLines.Pure := by
  intro a b c cs i j k l u v _ _ _ _ _ _ _ _ _ _ _
  obtain ⟨KA, hA⟩ := awake_ev
  refine ⟨KA + 1000, ?_⟩
  unfold bivouaclaw08_RayLines.f
  rw [line_eq (by omega), in_eq, in_eq, in_eq, in_eq]
  by_cases hc : Inn i ∧ Inn j ∧ Inn k ∧ Inn l
  · obtain ⟨hi, hj, hk, hl⟩ := hc
    have b := lng_b hi hj hk hl
    have L := lin_len i j k l
    rw [if_pos ⟨hi, hj, hk, hl⟩]
    simp only [Option.bind_some, decide_eq_true hi, decide_eq_true hj, decide_eq_true hk, decide_eq_true hl, if_true, Bool.not_true, bivouaclaw08_RayLines.j0]
    rw [if_neg (by simp), long_eq hi hj hk hl]
    simp only [Option.bind_some]
    rw [if_pos (by rw [w64 (by omega) (by omega)]; omega)]
    simp only [bivouaclaw08_RayLines.j1]
    rw [if_neg (by decide)]
    exact lines_l0 hA hi hj hk hl ((lng i j k l).toNat + 1) _ 0 (by omega) (by omega) (by omega)
  · rw [if_neg hc]
    have no : bivouaclaw08_RayLines.j0 (KA + 1000) [] 4 true a b c cs i j k l u v = some true := by
      simp only [bivouaclaw08_RayLines.j0]
      rw [if_pos trivial, if_pos (by simp), if_pos trivial, hA _ (by omega)]
      rfl
    simp only [Option.bind_some]
    by_cases hi : Inn i
    · rw [if_pos (decide_eq_true hi)]
      by_cases hj : Inn j
      · rw [if_pos (decide_eq_true hj)]
        by_cases hk : Inn k
        · rw [if_pos (decide_eq_true hk)]
          have hl : ¬ Inn l := fun h => hc ⟨hi, hj, hk, h⟩
          rw [decide_eq_false hl]
          exact no
        · rw [if_neg (by simp [hk])]; exact no
      · rw [if_neg (by simp [hj])]; exact no
    · rw [if_neg (by simp [hi])]; exact no

end Go.Proofs.Ytincnaejgimlbaa.Pure
