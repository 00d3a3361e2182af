/- A higher eye sees no less, a higher one is seen no less, and neighbours always see one another. -/
import Derived.Test.YtincnaejgimlbaaPAx27
import Derived.Test.YtincnaejgimlbaaRS
import Derived.Test.YtincnaejgimlbaaRA
import Derived.OpenShut
namespace Go.Proofs.Ytincnaejgimlbaa.Pure
open Go.RowKit Go.Proofs.Ytincnaejgimlbaa.PA Go.Proofs.YtincnaejgimlbaaW.PrintWords Go.Proofs.YtincnaejgimlbaaW.PrintLast Go.Proofs.YtincnaejgimlbaaW.PrintMore
open Go.Proofs.Ytincnaejgimlbaa.L
set_option linter.unusedVariables false
set_option linter.unusedSimpArgs false

theorem clr_mono {W : Int} {m : List Int} {i j k l a b a' b' : Int} (ha : a ≤ a') (hb : b ≤ b') : ∀ (n : Nat) (q : Int), 0 ≤ q → q + (n : Int) ≤ lng i j k l → clr W m i j k l a b n q = true → clr W m i j k l a' b' n q = true
  | 0, q, q0, q1, h => rfl
  | n + 1, q, q0, q1, h => by
    simp only [clr] at h ⊢
    by_cases hk : blk W m i j k l a b q = true
    · rw [if_pos hk] at h; exact absurd h (by decide)
    · rw [if_neg hk] at h
      rw [if_neg, clr_mono ha hb n (q + 1) (by omega) (by omega) h]
      unfold blk at hk ⊢
      rw [decide_eq_true_eq] at hk ⊢
      have m1 := Int.mul_le_mul_of_nonneg_right ha (show 0 ≤ lng i j k l - q by omega)
      have m2 := Int.mul_le_mul_of_nonneg_right hb q0
      omega

theorem vis_mono {W H Wt : Int} {m : List Int} (ok : Ok W H Wt m) {i j k l u v u' v' : Int} (o : OnB W H i j k l) (hu : u ≤ u') (hv : v ≤ v') (h : vis W m i j k l u v = true) : vis W m i j k l u' v' = true := by
  obtain ⟨hi', hj, hk, hl⟩ := o.inn ok
  have L := lng_b hi' hj hk hl
  unfold vis at *
  by_cases z : lng i j k l = 0
  · rw [z]; rfl
  · exact clr_mono (by omega) (by omega) _ 1 (by omega) (by omega) h

theorem RayHigher : bivouaclaw08_RayHigher.Pure := by
  intro W H Wt m i j k l u v more _ _ _ _ hl _ _ _ _ _ _ hm
  obtain ⟨KA, hA⟩ := awake_ev
  have hb := take_b hl
  have wm := Go.bounds_i64 hm
  refine ⟨KA + 1000, ?_⟩
  unfold bivouaclaw08_RayHigher.f
  rw [few_eq]
  simp only [Option.bind_some]
  rw [rsees_eq (by omega) hb]
  simp only [Option.bind_some]
  have no : ∀ (r : Bool × Int), (r.2 = 0 ∨ r.1 = false) → bivouaclaw08_RayHigher.j0 (KA + 1000) more r.1 r.2 true W H Wt m i j k l u v W H Wt (m.take 4300) i j k l = some true := by
    intro r hr
    simp only [bivouaclaw08_RayHigher.j0]
    rw [if_pos trivial, hA _ (by omega)]
    by_cases g : r.2 = 0
    · rw [if_pos g]; rfl
    · rw [if_neg g]
      rcases hr with hr | hr
      · exact absurd hr g
      · rw [if_neg (by rw [hr]; decide)]; rfl
  by_cases h : chk W H Wt (m.take 4300) = 0 ∧ (0 ≤ u ∧ u ≤ 255) ∧ (0 ≤ v ∧ v ≤ 255)
  · rw [if_pos h]
    by_cases c : (0 ≤ i ∧ i < W ∧ 0 ≤ j ∧ j < H) ∧ (0 ≤ k ∧ k < W ∧ 0 ≤ l ∧ l < H)
    · rw [if_pos c, if_pos rfl]
      have no' := no (vis W (m.take 4300) i j k l u v, 0) (Or.inl rfl)
      by_cases m0 : more < 0
      · rw [if_pos m0]; exact no'
      rw [if_neg m0, w64 (i := 255 - u) (by omega) (by omega), w64 (i := 255 - v) (by omega) (by omega)]
      by_cases m1 : more > 255 - u
      · rw [if_pos m1]; exact no'
      rw [if_neg m1]
      by_cases m2 : more > 255 - v
      · rw [decide_eq_true m2]; exact no'
      rw [decide_eq_false m2]
      have ok := (chk_zero hb).1 h.1
      obtain ⟨c1, c2⟩ := c
      have o : OnB W H i j k l := ⟨c1.1, c1.2.1, c1.2.2.1, c1.2.2.2, c2.1, c2.2.1, c2.2.2.1, c2.2.2.2⟩
      obtain ⟨hi', hj, hk, hl'⟩ := o.inn ok
      have L := lng_b hi' hj hk hl'
      have hh1 : chk W H Wt (m.take 4300) = 0 ∧ (0 ≤ u + more ∧ u + more ≤ 255) ∧ (0 ≤ v ∧ v ≤ 255) := ⟨h.1, by omega, by omega⟩
      have hh2 : chk W H Wt (m.take 4300) = 0 ∧ (0 ≤ u ∧ u ≤ 255) ∧ (0 ≤ v + more ∧ v + more ≤ 255) := ⟨h.1, by omega, by omega⟩
      have hcc : (0 ≤ i ∧ i < W ∧ 0 ≤ j ∧ j < H) ∧ (0 ≤ k ∧ k < W ∧ 0 ≤ l ∧ l < H) := ⟨c1, c2⟩
      simp only [bivouaclaw08_RayHigher.j0]
      rw [if_neg (by decide), w64 (i := u + more) (by omega) (by omega), w64 (i := v + more) (by omega) (by omega), rsees_eq (by omega) hb, rsees_eq (by omega) hb, if_pos hh1, if_pos hcc, if_pos hh2, if_pos hcc, long_eq hi' hj hk hl']
      simp only [Option.bind_some, if_true]
      rw [hA _ (show KA ≤ KA + 999 by omega)]
      simp only [Option.bind_some]
      have near : lng i j k l ≤ 1 → vis W (m.take 4300) i j k l u v = true := by
        intro n1
        unfold vis
        rw [show (lng i j k l - 1).toNat = 0 by omega]
        rfl
      by_cases s : vis W (m.take 4300) i j k l u v = true
      · rw [if_pos s, if_pos (vis_mono ok o (by omega) (Int.le_refl _) s), if_pos (vis_mono ok o (Int.le_refl _) (by omega) s)]
        simp
      · rw [if_neg s, if_neg (fun n1 => s (near n1))]
    · rw [if_neg c, if_neg (by decide)]; exact no (false, 4) (Or.inr rfl)
  · rw [if_neg h, if_neg (by decide)]; exact no (false, 1) (Or.inr rfl)

end Go.Proofs.Ytincnaejgimlbaa.Pure
