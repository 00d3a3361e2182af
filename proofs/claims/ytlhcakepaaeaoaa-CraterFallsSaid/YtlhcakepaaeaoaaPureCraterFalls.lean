/- No corner is raised by a hit, none is lowered by more than it is deep, one that is farther is lowered no more, and the map may still be: for all maps and hits. -/
import Derived.Test.YtlhcakepaaeaoaaGCrcraterStrike
import Derived.Test.YtlhcakepaaeaoaaPCrx15
import Derived.Test.YtlhcakepaaeaoaaCS
namespace Go.Proofs.Ytlhcakepaaeaoaa.Pure
open Go.RowKit Go.Proofs.Ytlhcakepaaeaoaa.PCr Go.Proofs.YtlhcakepaaeaoaaW.PrintWords Go.Proofs.YtlhcakepaaeaoaaW.PrintLast Go.Proofs.YtlhcakepaaeaoaaW.PrintMore
open Go.Proofs.Ytlhcakepaaeaoaa.CL
open Go.Proofs.Ytlhcakepaaeaoaa.CS
set_option linter.unusedVariables false
set_option linter.unusedSimpArgs false

theorem rd_le {W H : Int} {l : List Int} {h : S23} (hk : ok h) (hB : Bm W H l) {q : Int} (q0 : 0 ≤ q) (q1 : q < l.length) :
    rd (crater_strikes.one W H l h) q ≤ rd l q ∧ rd l q - rd (crater_strikes.one W H l h) q ≤ h.f3 ∧ 0 ≤ rd (crater_strikes.one W H l h) q ∧ rd l q ≤ 255 := by
  obtain ⟨b1, r1⟩ := one_ok hk hB
  obtain ⟨p1, p2, p3, p4, p5⟩ := place (H := H) hB.w0 q0 (by rw [← hB.n]; exact q1)
  have e := r1 _ _ p1 p2 p3 p4
  rw [p5] at e
  have hl := L_b hk (q % (W + 1)) (q / (W + 1))
  have hb := L.rd_b hB.b q
  rw [e]
  unfold mx
  split <;> omega
theorem L_far {h : S23} (hk : ok h) {i j : Int} (hi : 0 ≤ i ∧ i ≤ 64) (hj : 0 ≤ j ∧ j ≤ 64) : (h.f0 ≤ i → L h (i + 1) j ≤ L h i j) ∧ (j ≤ h.f1 → L h i (j - 1) ≤ L h i j) := by
  have key : ∀ a b c d : Int, (-64 ≤ a ∧ a ≤ 128) → (-64 ≤ b ∧ b ≤ 128) → (-64 ≤ c ∧ c ≤ 128) → (-64 ≤ d ∧ d ≤ 128) → (a - h.f0) * (a - h.f0) + (b - h.f1) * (b - h.f1) ≤ (c - h.f0) * (c - h.f0) + (d - h.f1) * (d - h.f1) → L h c d ≤ L h a b := by
    intro a b c d ha hb hc hd hs
    obtain ⟨_, _, _, _, _, r1, r2, x1, x2, y1, y2⟩ := low_core hk ha hb
    have l0 := (L_b hk a b).1
    unfold L lowers at l0 ⊢
    rw [if_pos (show may h.f0 h.f1 h.f2 h.f3 ∧ (-64 ≤ c ∧ c ≤ 128) ∧ (-64 ≤ d ∧ d ≤ 128) from ⟨hk, hc, hd⟩)]
    rw [if_pos (show may h.f0 h.f1 h.f2 h.f3 ∧ (-64 ≤ a ∧ a ≤ 128) ∧ (-64 ≤ b ∧ b ≤ 128) from ⟨hk, ha, hb⟩)] at l0 ⊢
    have h3 := hk.2.2.1
    by_cases hz : h.f2 * h.f2 ≤ (c - h.f0) * (c - h.f0) + (d - h.f1) * (d - h.f1)
    · rw [if_pos hz]
      exact l0
    · rw [if_neg hz, if_neg (by omega)]
      exact Int.ediv_le_ediv (by omega) (Int.mul_le_mul_of_nonneg_left (by omega) h3)
  obtain ⟨h1, h2, h3, h4, h5, h6⟩ := id hk
  constructor
  · intro h0
    refine key i j (i + 1) j (by omega) (by omega) (by omega) (by omega) ?_
    have a := Int.mul_le_mul (show i - h.f0 ≤ i + 1 - h.f0 by omega) (show i - h.f0 ≤ i + 1 - h.f0 by omega) (by omega) (by omega)
    omega
  · intro h0
    refine key i j i (j - 1) (by omega) (by omega) (by omega) (by omega) ?_
    have a := Int.mul_le_mul (show h.f1 - j ≤ h.f1 - (j - 1) by omega) (show h.f1 - j ≤ h.f1 - (j - 1) by omega) (by omega) (by omega)
    have e1 : (h.f1 - j) * (h.f1 - j) = (j - h.f1) * (j - h.f1) := by grind
    have e2 : (h.f1 - (j - 1)) * (h.f1 - (j - 1)) = (j - 1 - h.f1) * (j - 1 - h.f1) := by grind
    omega
theorem loop {W H Wt : Int} {l : List Int} {h : S23} (hk : ok h) (hO : L.Ok W H Wt l) (wt : Int) : ∀ (m : Nat) (q : Int), 0 ≤ q → q + m = l.length → ∀ k, 3 * m + 2 ≤ k →
    bivouaclaw09_CraterFalls.l0 k q W H Wt l h.f0 h.f1 h.f2 h.f3 W H wt (crater_strikes.one W H l h) = some true
  | 0, q, q0, e, k, hk2 => by
    obtain ⟨k, rfl⟩ : ∃ j, k = j + 1 := ⟨k - 1, by omega⟩
    simp only [bivouaclaw09_CraterFalls.l0]
    rw [if_neg (by omega), awake_eq]
    rfl
  | m + 1, q, q0, e, k, hk2 => by
    obtain ⟨k, rfl⟩ : ∃ j, k = j + 3 := ⟨k - 3, by omega⟩
    have hB := bm hO
    have hw := hO.w0
    have hw1 := hO.w1
    have hh1 := hO.h1
    have hlen : (crater_strikes.one W H l h).length = l.length := by have := (one_ok hk hB).1.n; have := hO.n; omega
    have hle : (l.length : Int) ≤ 4225 := by have := L.area hO.w0 hO.w1 hO.h0 hO.h1; have := hO.n; omega
    obtain ⟨p1, p2, p3, p4, p5⟩ := place (H := H) hO.w0 q0 (by rw [← hO.n]; omega)
    obtain ⟨c1, c2, c3, c4⟩ := rd_le hk hB q0 (by omega)
    have eW : wrap64 (W + 1) = W + 1 := w64 (by omega) (by omega)
    have et : Int.tmod q (W + 1) = q % (W + 1) := Int.tmod_eq_emod_of_nonneg q0
    have ed : Int.tdiv q (W + 1) = q / (W + 1) := Int.tdiv_eq_ediv_of_nonneg q0
    have hb := L.rd_b hB.b q
    obtain ⟨f1, f2⟩ := L_far hk (i := q % (W + 1)) (j := q / (W + 1)) (by omega) (by omega)
    have hd := hk.2.2.2.1
    have hfin := loop hk hO wt m (q + 1) (by omega) (by omega) k (by omega)
    rw [show k + 3 = (k + 2) + 1 from rfl]
    simp only [bivouaclaw09_CraterFalls.l0]
    rw [if_pos (by omega), eW, if_neg (by omega), if_pos q0, if_pos (by omega), if_neg (by omega), et, ed]
    rw [w64 (i := rd l q) (by omega) (by omega), w64 (i := rd (crater_strikes.one W H l h) q) (by omega) (by omega), w64 (i := rd l q - _) (by omega) (by omega), decide_eq_false (by omega), w64 (i := q / (W + 1)) (by omega) (by omega)]
    generalize hi : q % (W + 1) = i at *
    generalize hj : q / (W + 1) = j at *
    have j3 : bivouaclaw09_CraterFalls.j3 (k + 1) q false W H Wt l h.f0 h.f1 h.f2 h.f3 W H wt (crater_strikes.one W H l h) = some true := by
      simp only [bivouaclaw09_CraterFalls.j3]
      rw [if_neg (by simp), w64 (i := q + 1) (by omega) (by omega)]
      exact hfin
    rw [show k + 2 = (k + 1) + 1 from rfl]
    simp only [bivouaclaw09_CraterFalls.j2]
    rw [if_neg (by simp), lowers_eq, lowers_eq, lowers_eq, w64 (i := i + 1) (by omega) (by omega), w64 (i := j - 1) (by omega) (by omega)]
    simp only [Option.bind_some]
    have jj : j ≤ h.f1 → decide (lowers h.f0 h.f1 h.f2 h.f3 i (j - 1) > lowers h.f0 h.f1 h.f2 h.f3 i j) = false := fun hle => decide_eq_false (by have := f2 hle; unfold L at this; omega)
    by_cases a1 : i ≥ h.f0
    · rw [if_pos a1, if_neg (by have := f1 a1; unfold L at this; omega)]
      by_cases a2 : j ≤ h.f1
      · rw [if_pos a2, jj a2]; exact j3
      · rw [if_neg a2]; exact j3
    · rw [if_neg a1]
      by_cases a2 : j ≤ h.f1
      · rw [if_pos a2, jj a2]; exact j3
      · rw [if_neg a2]; exact j3
theorem CraterFalls : bivouaclaw09_CraterFalls.Pure := by
  intro W H Wt l0 I J R D _ _ _ _ hb0 _ _ _ _
  have hb := L.take_b hb0
  generalize hl : l0.take 4300 = l at *
  have hst : ∀ k, 1 ≤ k → crater_Strike.f k W H Wt l I J R D = some (res W H Wt l [⟨I, J, R, D⟩]) := fun k hk => strikes_eq hk hb _
  by_cases hc : L.Ok W H Wt l ∧ ∀ h ∈ [(⟨I, J, R, D⟩ : S23)], ok h
  · obtain ⟨hO, hall⟩ := hc
    have hk : ok ⟨I, J, R, D⟩ := hall _ (by simp)
    obtain ⟨b1, _⟩ := one_ok hk (bm hO)
    refine ⟨3 * l.length + 10, ?_⟩
    unfold bivouaclaw09_CraterFalls.f
    rw [L.few_eq, hl]
    simp only [Option.bind_some]
    rw [hst _ (by omega), res_pos hO hall]
    simp only [Option.bind_some, List.foldl_cons, List.foldl_nil]
    have hO2 : L.Ok W H Wt (crater_strikes.one W H l ⟨I, J, R, D⟩) := ⟨hO.w0, hO.w1, hO.h0, hO.h1, hO.t0, hO.t1, b1.n, b1.b⟩
    rw [if_pos trivial, L.refCheck_eq (by omega), (L.chk_zero b1.b).2 hO2]
    simp only [Option.bind_some]
    rw [if_pos trivial]
    have hlen : (crater_strikes.one W H l ⟨I, J, R, D⟩).length = l.length := by have := b1.n; have := hO.n; omega
    rw [hlen, bne_self_eq_false]
    rw [show 3 * l.length + 10 = (3 * l.length + 9) + 1 from rfl]
    simp only [bivouaclaw09_CraterFalls.j0]
    rw [if_neg (by simp)]
    exact loop (h := ⟨I, J, R, D⟩) hk hO Wt l.length 0 (by omega) (by omega) _ (by omega)
  · refine ⟨5, ?_⟩
    unfold bivouaclaw09_CraterFalls.f
    rw [L.few_eq, hl]
    simp only [Option.bind_some]
    rw [hst _ (by omega), res_neg hc]
    simp only [Option.bind_some]
    rw [if_neg (by decide), same_eq, awake_eq]
    rfl

end Go.Proofs.Ytlhcakepaaeaoaa.Pure
