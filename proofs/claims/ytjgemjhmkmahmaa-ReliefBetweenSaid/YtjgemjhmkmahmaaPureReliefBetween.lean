/- A height lies between the least and the greatest of its cell's corners, and is a corner's at the corner. For all maps and places. -/
import Derived.Test.YtjgemjhmkmahmaaPAx22
import Derived.Test.YtjgemjhmkmahmaaLH
import Derived.Test.YtjgemjhmkmahmaaLE
import Derived.Test.YtjgemjhmkmahmaaLA
namespace Go.Proofs.Ytjgemjhmkmahmaa.Pure
open Go.RowKit Go.Proofs.Ytjgemjhmkmahmaa.PA Go.Proofs.YtjgemjhmkmahmaaW.PrintWords Go.Proofs.YtjgemjhmkmahmaaW.PrintLast Go.Proofs.YtjgemjhmkmahmaaW.PrintMore
open Go.Proofs.Ytjgemjhmkmahmaa.L
set_option linter.unusedVariables false
set_option linter.unusedSimpArgs false

theorem edge_between {a b u m M : Int} (a0 : m ≤ a) (a1 : a ≤ M) (b0 : m ≤ b) (b1 : b ≤ M) (u0 : 0 ≤ u) (u1 : u < 65536) :
    m * 65536 ≤ a * (65536 - u) + b * u ∧ a * (65536 - u) + b * u ≤ M * 65536 := by
  have h1 := Int.mul_nonneg (a := a - m) (b := 65536 - u) (by omega) (by omega)
  have h2 := Int.mul_nonneg (a := b - m) (b := u) (by omega) (by omega)
  have h3 := Int.mul_nonneg (a := M - a) (b := 65536 - u) (by omega) (by omega)
  have h4 := Int.mul_nonneg (a := M - b) (b := u) (by omega) (by omega)
  have e1 : (a - m) * (65536 - u) + (b - m) * u = a * (65536 - u) + b * u - m * 65536 := by grind
  have e2 : (M - a) * (65536 - u) + (M - b) * u = M * 65536 - (a * (65536 - u) + b * u) := by grind
  omega

theorem high_between {a b c d u v m M : Int} (a0 : m ≤ a ∧ a ≤ M) (b0 : m ≤ b ∧ b ≤ M) (c0 : m ≤ c ∧ c ≤ M) (d0 : m ≤ d ∧ d ≤ M) (u0 : 0 ≤ u) (u1 : u < 65536) (v0 : 0 ≤ v) (v1 : v < 65536) :
    m * 65536 * 65536 ≤ high4 a b c d u v ∧ high4 a b c d u v ≤ M * 65536 * 65536 := by
  have h1 := edge_between a0.1 a0.2 b0.1 b0.2 u0 u1
  have h2 := edge_between c0.1 c0.2 d0.1 d0.2 u0 u1
  have h3 := edge_between h1.1 h1.2 h2.1 h2.2 v0 v1
  unfold high4
  have e : a * (65536 - u) * (65536 - v) + b * u * (65536 - v) + c * (65536 - u) * v + d * u * v = (a * (65536 - u) + b * u) * (65536 - v) + (c * (65536 - u) + d * u) * v := by grind
  rw [e]
  exact h3

theorem ReliefBetween : bivouaclaw06_ReliefBetween.Pure := by
  intro W H Wt l x y _ _ _ _ hl _ _
  have hb := take_b hl
  refine Ev.rounds (r := true) ?_
  obtain ⟨K, hK⟩ := awake_ev
  refine ⟨max K 9 + 1, fun k hk => ?_⟩
  dsimp only
  unfold bivouaclaw06_ReliefBetween.f
  rw [few_eq]
  simp only [Option.bind_some]
  rw [refCheck_eq (by omega), height_eq (by omega) hb]
  simp only [Option.bind_some]
  by_cases h : chk W H Wt (l.take 4300) = 0
  · have ok := (chk_zero hb).1 h
    have w0 := ok.w0
    have w1 := ok.w1
    have h0 := ok.h0
    have h1 := ok.h1
    rw [if_pos h, if_pos h, refOn_eq ok]
    simp only [Option.bind_some]
    by_cases hp : 0 ≤ x ∧ x < W * 65536 ∧ 0 ≤ y ∧ y < H * 65536
    · have hp2 := hp
      obtain ⟨a, b, c, d⟩ := hp2
      rw [if_pos hp, decide_eq_true hp, if_pos (by rfl)]
      obtain ⟨k, rfl⟩ : ∃ m, k = m + 1 := ⟨k - 1, by omega⟩
      simp only [bivouaclaw06_ReliefBetween.j0]
      rw [if_neg (by decide), Int.tdiv_eq_ediv_of_nonneg a, Int.tdiv_eq_ediv_of_nonneg c, w64 (i := x / 65536) (by omega) (by omega), w64 (i := y / 65536) (by omega) (by omega)]
      rw [w64 (i := x / 65536 * 65536) (by omega) (by omega), w64 (i := y / 65536 * 65536) (by omega) (by omega)]
      rw [slope_eq (by omega) hb, height_eq (by omega) hb, ends_l0 ok (i := x / 65536) (j := y / 65536) (by omega) (by omega) (by omega) (by omega) (by omega), refCorner_eq ok (i := x / 65536) (j := y / 65536) (by omega) (by omega) (by omega) (by omega)]
      simp only [Option.bind_some]
      rw [if_pos h, if_pos (show 0 ≤ x / 65536 ∧ x / 65536 < W ∧ 0 ≤ y / 65536 ∧ y / 65536 < H by omega), if_pos h, if_pos (show 0 ≤ x / 65536 * 65536 ∧ x / 65536 * 65536 < W * 65536 ∧ 0 ≤ y / 65536 * 65536 ∧ y / 65536 * 65536 < H * 65536 by omega)]
      have g := lo_hi ok (x / 65536) (y / 65536)
      have q := ok.cor_b (x / 65536) (y / 65536)
      have hh := high_between (a := cor W (l.take 4300) (x / 65536) (y / 65536)) (b := cor W (l.take 4300) (x / 65536 + 1) (y / 65536)) (c := cor W (l.take 4300) (x / 65536) (y / 65536 + 1)) (d := cor W (l.take 4300) (x / 65536 + 1) (y / 65536 + 1)) (m := lo W (l.take 4300) (x / 65536) (y / 65536)) (M := hi W (l.take 4300) (x / 65536) (y / 65536)) (u := x % 65536) (v := y % 65536) (by omega) (by omega) (by omega) (by omega) (by omega) (by omega) (by omega) (by omega)
      have he : height W (l.take 4300) (x / 65536 * 65536) (y / 65536 * 65536) = cor W (l.take 4300) (x / 65536) (y / 65536) * 65536 := by
        unfold height high4
        rw [show x / 65536 * 65536 / 65536 = x / 65536 by omega, show y / 65536 * 65536 / 65536 = y / 65536 by omega, show x / 65536 * 65536 % 65536 = 0 by omega, show y / 65536 * 65536 % 65536 = 0 by omega]
        omega
      have hx : lo W (l.take 4300) (x / 65536) (y / 65536) * 65536 ≤ height W (l.take 4300) x y ∧ height W (l.take 4300) x y ≤ hi W (l.take 4300) (x / 65536) (y / 65536) * 65536 := by
        unfold height
        omega
      dsimp only
      rw [w64 (by omega) (by omega), w64 (by omega) (by omega), w64 (by omega) (by omega), w64 (by omega) (by omega)]
      rw [if_pos rfl, if_pos rfl, if_pos rfl, if_pos he, if_pos hx.1, if_pos hx.2, hK k (by omega)]
      rfl
    · rw [if_neg hp]
      simp [hK k (by omega)]
  · rw [if_neg h]
    simp [hK k (by omega)]

end Go.Proofs.Ytjgemjhmkmahmaa.Pure
