/- Whether one eye sees another one is as the reference says, or it is refused. -/
import Derived.Test.YtincnaejgimlbaaPAx26
import Derived.Test.YtincnaejgimlbaaRS
import Derived.Test.YtincnaejgimlbaaRA
import Derived.OpenShut
namespace Go.Proofs.Ytincnaejgimlbaa.Pure
open Go.RowKit Go.Proofs.Ytincnaejgimlbaa.PA Go.Proofs.YtincnaejgimlbaaW.PrintWords Go.Proofs.YtincnaejgimlbaaW.PrintLast Go.Proofs.YtincnaejgimlbaaW.PrintMore
open Go.Proofs.Ytincnaejgimlbaa.L
set_option linter.unusedVariables false
set_option linter.unusedSimpArgs false

theorem RaySees : bivouaclaw08_RaySees.Pure := by
  intro W H Wt m i j k l u v _ _ _ _ hl _ _ _ _ _ _
  obtain ⟨KA, hA⟩ := awake_ev
  have hb := take_b hl
  refine ⟨KA + 1000, ?_⟩
  unfold bivouaclaw08_RaySees.f
  rw [few_eq]
  simp only [Option.bind_some]
  rw [rsees_eq (by omega) hb, refCheck_eq (by omega)]
  simp only [Option.bind_some]
  have no : ∀ (r : Bool × Int), r = (false, 1) → bivouaclaw08_RaySees.j0 (KA + 1000) r.1 r.2 true W H Wt m i j k l u v W H Wt (m.take 4300) = some true := by
    rintro r rfl
    simp only [bivouaclaw08_RaySees.j0]
    rw [if_pos trivial, if_neg (by decide), if_pos trivial, hA _ (by omega)]
    rfl
  by_cases h : chk W H Wt (m.take 4300) = 0
  · rw [if_pos h]
    by_cases u0 : u < 0
    · rw [if_pos u0]; exact no _ (if_neg (by omega))
    rw [if_neg u0]
    by_cases u1 : u > 255
    · rw [if_pos u1]; exact no _ (if_neg (by omega))
    rw [if_neg u1]
    by_cases v0 : v < 0
    · rw [if_pos v0]; exact no _ (if_neg (by omega))
    rw [if_neg v0]
    by_cases v1 : v > 255
    · rw [decide_eq_true v1]; exact no _ (if_neg (by omega))
    rw [decide_eq_false v1, if_pos ⟨h, ⟨by omega, by omega⟩, by omega, by omega⟩]
    simp only [bivouaclaw08_RaySees.j0]
    rw [if_neg (by decide), is_eq, is_eq]
    simp only [Option.bind_some, decide_eq_true_eq]
    have no4 : bivouaclaw08_RaySees.j1 (KA + 999) false 4 true W H Wt m i j k l u v W H Wt (m.take 4300) = some true := by
      simp only [bivouaclaw08_RaySees.j1]
      rw [if_pos trivial, if_neg (by decide), if_pos trivial, hA _ (by omega)]
      rfl
    by_cases c1 : 0 ≤ i ∧ i < W ∧ 0 ≤ j ∧ j < H
    · rw [if_pos c1]
      by_cases c2 : 0 ≤ k ∧ k < W ∧ 0 ≤ l ∧ l < H
      · rw [if_pos ⟨c1, c2⟩, decide_eq_true c2]
        simp only [Bool.not_true, bivouaclaw08_RaySees.j1]
        rw [if_neg (by decide), refSees_eq (by omega) ((chk_zero hb).1 h) ⟨c1.1, c1.2.1, c1.2.2.1, c1.2.2.2, c2.1, c2.2.1, c2.2.2.1, c2.2.2.2⟩ ⟨by omega, by omega⟩ ⟨by omega, by omega⟩]
        simp only [Option.bind_some]
        rw [if_pos (by simp), if_pos trivial, hA _ (by omega)]
        rfl
      · rw [if_neg (fun c => c2 c.2), decide_eq_false c2]
        exact no4
    · rw [if_neg c1, if_neg (fun c => c1 c.1)]
      exact no4
  · rw [if_neg h]
    exact no _ (if_neg (fun c => h c.1))

end Go.Proofs.Ytincnaejgimlbaa.Pure
