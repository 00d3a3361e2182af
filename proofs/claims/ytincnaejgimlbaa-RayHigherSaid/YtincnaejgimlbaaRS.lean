/- Whether one eye sees another one, by the printed functions of ray and of its reference. -/
import Derived.Test.YtincnaejgimlbaaGAraySees
import Derived.Test.YtincnaejgimlbaaPAx12
import Derived.Test.YtincnaejgimlbaaPAx13
import Derived.Test.YtincnaejgimlbaaPAx22
import Derived.Test.YtincnaejgimlbaaPAx25
import Derived.Test.YtincnaejgimlbaaRC
import Derived.Test.YtincnaejgimlbaaLC
import Derived.Test.YtincnaejgimlbaaLE
namespace Go.Proofs.Ytincnaejgimlbaa.L
open Go.RowKit Go.Proofs.Ytincnaejgimlbaa.PA Go.Proofs.YtincnaejgimlbaaW.PrintWords Go.Proofs.YtincnaejgimlbaaW.PrintLast Go.Proofs.YtincnaejgimlbaaW.PrintMore
set_option linter.unusedVariables false
set_option linter.unusedSimpArgs false

/-! ### A cell's top and floor -/
theorem rends_eq {k : Nat} (hk : 1 ≤ k) {W H Wt : Int} {l : List Int} (hb : ∀ x ∈ l, 0 ≤ x ∧ x ≤ 255) (i j : Int) :
    ray_ends.f k W H Wt l i j = some (if chk W H Wt l = 0 then if 0 ≤ i ∧ i < W ∧ 0 ≤ j ∧ j < H then (lo W l i j, hi W l i j, 0) else (0, 0, 4) else (0, 0, 1)) := by
  unfold ray_ends.f
  rw [slope_eq hk hb]
  simp only [Option.bind_some]
  by_cases h : chk W H Wt l = 0
  · rw [if_pos h, if_pos h]
    by_cases hc : 0 ≤ i ∧ i < W ∧ 0 ≤ j ∧ j < H
    · rw [if_pos hc, if_pos hc]
      have ok := (chk_zero hb).1 h
      have g := lo_hi ok i j
      obtain ⟨i0, i1, j0, j1⟩ := hc
      obtain ⟨e, a, b, c⟩ := ok.idx (i := i) (j := j) i0 (by omega) j0 (by omega)
      obtain ⟨_, a1, b1, _⟩ := ok.idx (i := i + 1) (j := j) (by omega) (by omega) j0 (by omega)
      obtain ⟨_, a2, b2, _⟩ := ok.idx (i := i) (j := j + 1) (by omega) (by omega) (by omega) (by omega)
      obtain ⟨_, a3, b3, _⟩ := ok.idx (i := i + 1) (j := j + 1) (by omega) (by omega) (by omega) (by omega)
      have f : (W + 1) * (j + 1) = (W + 1) * j + W + 1 := by grind
      unfold lo hi cor at *
      rw [f] at a2 b2 a3 b3 g ⊢
      rw [e]
      have w0 := ok.w0
      have w1 := ok.w1
      generalize (W + 1) * j = m at *
      have e1 : wrap64 (m + i + 1) = m + (i + 1) := by rw [w64 (by omega) (by omega)]; omega
      have e2 : wrap64 (wrap64 (m + i + W) + 1) = m + W + 1 + i := by rw [w64 (i := m + i + W) (by omega) (by omega), w64 (by omega) (by omega)]; omega
      have e3 : wrap64 (wrap64 (m + i + W) + 2) = m + W + 1 + (i + 1) := by rw [w64 (i := m + i + W) (by omega) (by omega), w64 (by omega) (by omega)]; omega
      dsimp only
      rw [e1, e2, e3, if_pos rfl, if_pos a, if_pos b, if_pos a1, if_pos b1, if_pos a2, if_pos b2, if_pos a3, if_pos b3]
      rw [w64 (i := mn (mn (mn (rd l (m + i)) (rd l (m + (i + 1)))) (rd l (m + W + 1 + i))) (rd l (m + W + 1 + (i + 1)))) (by omega) (by omega), w64 (by omega) (by omega)]
      congr 2
      congr 1
      omega
    · rw [if_neg hc, if_neg hc]; rfl
  · rw [if_neg h, if_neg h]; rfl

theorem top_eq {k : Nat} (hk : 1 ≤ k) {W H Wt : Int} {l : List Int} (hb : ∀ x ∈ l, 0 ≤ x ∧ x ≤ 255) (i j : Int) :
    ray_Top.f k W H Wt l i j = some (if chk W H Wt l = 0 then if 0 ≤ i ∧ i < W ∧ 0 ≤ j ∧ j < H then (hi W l i j, 0) else (0, 4) else (0, 1)) := by
  unfold ray_Top.f
  rw [rends_eq hk hb]
  simp only [Option.bind_some]
  split
  · split <;> rfl
  · rfl
theorem rfloor_eq {k : Nat} (hk : 1 ≤ k) {W H Wt : Int} {l : List Int} (hb : ∀ x ∈ l, 0 ≤ x ∧ x ≤ 255) (i j : Int) :
    ray_Floor.f k W H Wt l i j = some (if chk W H Wt l = 0 then if 0 ≤ i ∧ i < W ∧ 0 ≤ j ∧ j < H then (lo W l i j, 0) else (0, 4) else (0, 1)) := by
  unfold ray_Floor.f
  rw [rends_eq hk hb]
  simp only [Option.bind_some]
  split
  · split <;> rfl
  · rfl
theorem high_eq (v : Int) : ray_high.f v = some (decide (0 ≤ v ∧ v ≤ 255)) := by
  unfold ray_high.f
  by_cases h : v ≥ 0
  · rw [if_pos h]; congr 1; rw [decide_eq_decide]; omega
  · rw [if_neg h]; congr 1; exact (decide_eq_false (by omega)).symm
theorem is_eq (W H Wt : Int) (l : List Int) (i j : Int) : bivouacref08_Is.f W H Wt l i j = some (decide (0 ≤ i ∧ i < W ∧ 0 ≤ j ∧ j < H)) := by
  unfold bivouacref08_Is.f
  by_cases h : i ≥ 0
  · rw [if_pos h]
    by_cases g : i < W
    · rw [if_pos g]
      by_cases p : j ≥ 0
      · rw [if_pos p]; congr 1; rw [decide_eq_decide]; omega
      · rw [if_neg p]; congr 1; exact (decide_eq_false (by omega)).symm
    · rw [if_neg g]; congr 1; exact (decide_eq_false (by omega)).symm
  · rw [if_neg h]; congr 1; exact (decide_eq_false (by omega)).symm

/-! ### Whether one eye sees another one -/
/-- Does the line's q-th cell stand in the way? -/
def blk (W : Int) (m : List Int) (i j k l a b q : Int) : Bool := decide (hi W m (cel i j k l q).f0 (cel i j k l q).f1 * lng i j k l > a * (lng i j k l - q) + b * q)
/-- Nothing stands in the way, from the q-th cell on, so many of them. -/
def clr (W : Int) (m : List Int) (i j k l a b : Int) : Nat → Int → Bool
  | 0, _ => true
  | n + 1, q => if blk W m i j k l a b q = true then false else clr W m i j k l a b n (q + 1)
/-- Is it seen? -/
def vis (W : Int) (m : List Int) (i j k l up low : Int) : Bool := clr W m i j k l (lo W m i j + up) (lo W m k l + low) (lng i j k l - 1).toNat 1

/-- Both ends' cells are on the map. -/
structure OnB (W H i j k l : Int) : Prop where
  i0 : 0 ≤ i
  i1 : i < W
  j0 : 0 ≤ j
  j1 : j < H
  k0 : 0 ≤ k
  k1 : k < W
  l0 : 0 ≤ l
  l1 : l < H

theorem OnB.inn {W H Wt : Int} {m : List Int} (ok : Ok W H Wt m) {i j k l : Int} (o : OnB W H i j k l) : Inn i ∧ Inn j ∧ Inn k ∧ Inn l := by
  obtain ⟨a, b, c, d, e, f, g, h⟩ := o
  have := ok.w1
  have := ok.h1
  unfold Inn
  omega

theorem OnB.cel {W H Wt : Int} {m : List Int} (ok : Ok W H Wt m) {i j k l q : Int} (o : OnB W H i j k l) (q0 : 0 ≤ q) (q1 : q ≤ lng i j k l) :
    0 ≤ (cel i j k l q).f0 ∧ (cel i j k l q).f0 < W ∧ 0 ≤ (cel i j k l q).f1 ∧ (cel i j k l q).f1 < H := by
  obtain ⟨hi, hj, hk, hl⟩ := o.inn ok
  have c := cel_in hi hj hk hl q0 q1
  obtain ⟨a, b, c', d, e, f, g, h⟩ := o
  omega

theorem blk_w {W H Wt : Int} {m : List Int} (ok : Ok W H Wt m) {i j k l a u b v q : Int} (hn : 0 ≤ lng i j k l ∧ lng i j k l ≤ 63) (a0 : 0 ≤ a ∧ a ≤ 255) (u0 : 0 ≤ u ∧ u ≤ 255) (b0 : 0 ≤ b ∧ b ≤ 255) (v0 : 0 ≤ v ∧ v ≤ 255) (q0 : 0 ≤ q) (q1 : q ≤ lng i j k l) :
    wrap64 (hi W m (cel i j k l q).f0 (cel i j k l q).f1 * lng i j k l) = hi W m (cel i j k l q).f0 (cel i j k l q).f1 * lng i j k l ∧
    wrap64 (wrap64 (wrap64 (a + u) * wrap64 (lng i j k l - q)) + wrap64 (wrap64 (b + v) * q)) = (a + u) * (lng i j k l - q) + (b + v) * q := by
  have g := lo_hi ok (cel i j k l q).f0 (cel i j k l q).f1
  have m1 := mulb (a := hi W m (cel i j k l q).f0 (cel i j k l q).f1) (b := lng i j k l) (A := 255) (B := 63) (by omega) (by omega) hn.1 hn.2
  have m2 := mulb (a := a + u) (b := lng i j k l - q) (A := 510) (B := 63) (by omega) (by omega) (by omega) (by omega)
  have m3 := mulb (a := b + v) (b := q) (A := 510) (B := 63) (by omega) (by omega) (by omega) (by omega)
  refine ⟨w64 (by omega) (by omega), ?_⟩
  rw [w64 (i := a + u) (by omega) (by omega), w64 (i := b + v) (by omega) (by omega), w64 (i := lng i j k l - q) (by omega) (by omega), w64 (i := (a + u) * (lng i j k l - q)) (by omega) (by omega), w64 (i := (b + v) * q) (by omega) (by omega), w64 (by omega) (by omega)]

theorem rsees_l0 {W H Wt : Int} {m : List Int} (ok : Ok W H Wt m) {i j k l a u b v : Int} (o : OnB W H i j k l) (a0 : 0 ≤ a ∧ a ≤ 255) (u0 : 0 ≤ u ∧ u ≤ 255) (b0 : 0 ≤ b ∧ b ≤ 255) (v0 : 0 ≤ v ∧ v ≤ 255) :
    ∀ (n K : Nat) (q : Int), 1 ≤ q → n = (lng i j k l - q).toNat → n + 2 ≤ K → ray_Sees.l0 K W H Wt m (lin i j k l) (lng i j k l) a u b v q = some (clr W m i j k l (a + u) (b + v) n q)
  | 0, K, q, q0, hn, hK => by
    obtain ⟨K, rfl⟩ : ∃ d, K = d + 1 := ⟨K - 1, by omega⟩
    simp only [ray_Sees.l0]
    rw [if_neg (by omega)]
    rfl
  | n + 1, K, q, q0, hn, hK => by
    obtain ⟨K, rfl⟩ : ∃ d, K = d + 1 := ⟨K - 1, by omega⟩
    obtain ⟨hi', hj, hk, hl⟩ := o.inn ok
    have L := lng_b hi' hj hk hl
    have ln := lin_len i j k l
    obtain ⟨e1, e2⟩ := blk_w ok ⟨L.1, L.2.1⟩ a0 u0 b0 v0 (show 0 ≤ q by omega) (show q ≤ lng i j k l by omega)
    simp only [ray_Sees.l0]
    rw [if_pos (by omega)]
    unfold ray_Sees.b
    rw [if_pos (by omega), if_pos (by omega), rd_lin (by omega) (by omega), top_eq (by omega) ok.b, if_pos ((chk_zero ok.b).2 ok), if_pos (o.cel ok (by omega) (by omega))]
    simp only [Option.bind_some]
    rw [e1, e2, w64 (i := q + 1) (by omega) (by omega)]
    show (if blk W m i j k l (a + u) (b + v) q = true then some false else _) = some (if blk W m i j k l (a + u) (b + v) q = true then false else _)
    by_cases hb : blk W m i j k l (a + u) (b + v) q = true
    · rw [if_pos hb, if_pos hb]
    · rw [if_neg hb, if_neg hb]
      exact rsees_l0 ok o a0 u0 b0 v0 n K (q + 1) (by omega) (by omega) (by omega)

theorem refSees_l0 {W H Wt : Int} {m : List Int} (ok : Ok W H Wt m) {i j k l a u b v : Int} (o : OnB W H i j k l) (a0 : 0 ≤ a ∧ a ≤ 255) (u0 : 0 ≤ u ∧ u ≤ 255) (b0 : 0 ≤ b ∧ b ≤ 255) (v0 : 0 ≤ v ∧ v ≤ 255) :
    ∀ (n K : Nat) (q : Int), 1 ≤ q → n = (lng i j k l - q).toNat → n + 6 ≤ K → bivouacref08_Sees.l0 K i j k l u v (lng i j k l) a b q W H Wt m = some (clr W m i j k l (a + u) (b + v) n q)
  | 0, K, q, q0, hn, hK => by
    obtain ⟨K, rfl⟩ : ∃ d, K = d + 1 := ⟨K - 1, by omega⟩
    simp only [bivouacref08_Sees.l0]
    rw [if_neg (by omega)]
    rfl
  | n + 1, K, q, q0, hn, hK => by
    obtain ⟨K, rfl⟩ : ∃ d, K = d + 1 := ⟨K - 1, by omega⟩
    obtain ⟨hi', hj, hk, hl⟩ := o.inn ok
    have L := lng_b hi' hj hk hl
    obtain ⟨e1, e2⟩ := blk_w ok ⟨L.1, L.2.1⟩ a0 u0 b0 v0 (show 0 ≤ q by omega) (show q ≤ lng i j k l by omega)
    have c := o.cel ok (q := q) (by omega) (by omega)
    simp only [bivouacref08_Sees.l0]
    rw [if_pos (by omega), cell_ref hi' hj hk hl (by omega) (by omega)]
    simp only [Option.bind_some]
    rw [ends_l0 ok c.1 c.2.1 c.2.2.1 c.2.2.2 (by omega)]
    simp only [Option.bind_some]
    rw [e1, e2, w64 (i := q + 1) (by omega) (by omega)]
    by_cases hb : hi W m (cel i j k l q).f0 (cel i j k l q).f1 * lng i j k l > (a + u) * (lng i j k l - q) + (b + v) * q
    · rw [if_pos hb]
      have hB : blk W m i j k l (a + u) (b + v) q = true := decide_eq_true hb
      simp only [clr]
      rw [if_pos hB]
    · rw [if_neg hb]
      have hB : ¬ blk W m i j k l (a + u) (b + v) q = true := fun h => hb (of_decide_eq_true h)
      simp only [clr]
      rw [if_neg hB]
      exact refSees_l0 ok o a0 u0 b0 v0 n K (q + 1) (by omega) (by omega) (by omega)

theorem rsees_eq {K : Nat} (hK : 800 ≤ K) {W H Wt : Int} {m : List Int} (hb : ∀ x ∈ m, 0 ≤ x ∧ x ≤ 255) (i j k l u v : Int) :
    ray_Sees.f K W H Wt m i j k l u v = some (if chk W H Wt m = 0 ∧ (0 ≤ u ∧ u ≤ 255) ∧ (0 ≤ v ∧ v ≤ 255) then if (0 ≤ i ∧ i < W ∧ 0 ≤ j ∧ j < H) ∧ (0 ≤ k ∧ k < W ∧ 0 ≤ l ∧ l < H) then (vis W m i j k l u v, 0) else (false, 4) else (false, 1)) := by
  unfold ray_Sees.f
  rw [check_eq (by omega), high_eq, high_eq]
  simp only [Option.bind_some, decide_eq_true_eq]
  by_cases h : chk W H Wt m = 0
  · rw [if_pos h]
    by_cases hu : 0 ≤ u ∧ u ≤ 255
    · rw [if_pos hu]
      by_cases hv : 0 ≤ v ∧ v ≤ 255
      · have hh : chk W H Wt m = 0 ∧ (0 ≤ u ∧ u ≤ 255) ∧ (0 ≤ v ∧ v ≤ 255) := ⟨h, hu, hv⟩
        rw [if_pos hv, if_pos hh, rfloor_eq (by omega) hb, rfloor_eq (by omega) hb, if_pos h, if_pos h]
        simp only [Option.bind_some]
        by_cases c1 : 0 ≤ i ∧ i < W ∧ 0 ≤ j ∧ j < H
        · rw [if_pos c1]
          by_cases c2 : 0 ≤ k ∧ k < W ∧ 0 ≤ l ∧ l < H
          · have c12 : (0 ≤ i ∧ i < W ∧ 0 ≤ j ∧ j < H) ∧ (0 ≤ k ∧ k < W ∧ 0 ≤ l ∧ l < H) := ⟨c1, c2⟩
            rw [if_pos c2, if_pos c12]
            have ok := (chk_zero hb).1 h
            have o : OnB W H i j k l := ⟨c1.1, c1.2.1, c1.2.2.1, c1.2.2.2, c2.1, c2.2.1, c2.2.2.1, c2.2.2.2⟩
            obtain ⟨hi', hj, hk, hl⟩ := o.inn ok
            have L := lng_b hi' hj hk hl
            have ln := lin_len i j k l
            have g1 := lo_hi ok i j
            have g2 := lo_hi ok k l
            dsimp only
            rw [if_pos rfl, if_pos rfl, line_eq (by omega), if_pos ⟨hi', hj, hk, hl⟩]
            simp only [Option.bind_some]
            rw [show wrap64 (((lin i j k l).length : Int) - 1) = lng i j k l by rw [w64 (by omega) (by omega)]; omega]
            rw [rsees_l0 ok o (by omega) hu (by omega) hv (lng i j k l - 1).toNat K 1 (by omega) rfl (by omega)]
            rfl
          · have c12 : ¬ ((0 ≤ i ∧ i < W ∧ 0 ≤ j ∧ j < H) ∧ (0 ≤ k ∧ k < W ∧ 0 ≤ l ∧ l < H)) := fun c => c2 c.2
            rw [if_neg c2, if_neg c12]
            dsimp only
            rw [if_pos rfl, if_neg (by decide)]
        · have c12 : ¬ ((0 ≤ i ∧ i < W ∧ 0 ≤ j ∧ j < H) ∧ (0 ≤ k ∧ k < W ∧ 0 ≤ l ∧ l < H)) := fun c => c1 c.1
          rw [if_neg c1, if_neg c12]
          dsimp only
          rw [if_neg (by decide)]
      · rw [if_neg hv, if_neg (fun c => hv c.2.2)]
    · rw [if_neg hu, if_neg (fun c => hu c.2.1)]
  · rw [if_neg h, if_neg (fun c => h c.1)]

theorem refSees_eq {K : Nat} (hK : 100 ≤ K) {W H Wt : Int} {m : List Int} (ok : Ok W H Wt m) {i j k l u v : Int} (o : OnB W H i j k l) (hu : 0 ≤ u ∧ u ≤ 255) (hv : 0 ≤ v ∧ v ≤ 255) :
    bivouacref08_Sees.f K W H Wt m i j k l u v = some (vis W m i j k l u v) := by
  obtain ⟨hi', hj, hk, hl⟩ := o.inn ok
  have L := lng_b hi' hj hk hl
  have g1 := lo_hi ok i j
  have g2 := lo_hi ok k l
  unfold bivouacref08_Sees.f
  rw [long_eq hi' hj hk hl, ends_l0 ok o.i0 o.i1 o.j0 o.j1 (by omega), ends_l0 ok o.k0 o.k1 o.l0 o.l1 (by omega)]
  simp only [Option.bind_some]
  exact refSees_l0 ok o (by omega) hu (by omega) hv (lng i j k l - 1).toNat K 1 (by omega) rfl (by omega)

end Go.Proofs.Ytincnaejgimlbaa.L
