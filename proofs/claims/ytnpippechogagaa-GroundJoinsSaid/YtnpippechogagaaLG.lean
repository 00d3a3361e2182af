/- What the printed functions of the package ground come to, for every map. -/
import Derived.Test.YtnpippechogagaaGAbivouacref07Open
import Derived.Test.YtnpippechogagaaPAx10
import Derived.Test.YtnpippechogagaaPAx11
import Derived.Test.YtnpippechogagaaPAx18
import Derived.Test.YtnpippechogagaaPAx2
import Derived.Test.YtnpippechogagaaPAx9
import Derived.Test.YtnpippechogagaaLC
import Derived.Test.YtnpippechogagaaLD
namespace Go.Proofs.Ytnpippechogagaa.L
open Go.RowKit Go.Proofs.Ytnpippechogagaa.PA Go.Proofs.YtnpippechogagaaW.PrintWords Go.Proofs.YtnpippechogagaaW.PrintLast Go.Proofs.YtnpippechogagaaW.PrintMore
set_option linter.unusedVariables false
set_option linter.unusedSimpArgs false

theorem gopen_eq {c s d : Int} (h0 : 0 ≤ c) (h5 : c ≤ 5) : ground_open.f c s d = some (bivouacref07_Open.o c s d) := by
  unfold ground_open.f bivouacref07_Open.o
  rcases (by omega : c = 0 ∨ c = 1 ∨ c = 2 ∨ c = 3 ∨ c = 4 ∨ c = 5) with rfl | rfl | rfl | rfl | rfl | rfl
  · by_cases h : s ≤ 24 <;> simp [h]
  · by_cases h : d > 0 <;> simp [h]
  all_goals simp

theorem right_eq {k : Nat} (hk : 1 ≤ k) (W H Wt : Int) (l : List Int) (c : Int) : ground_right.f k W H Wt l c = some (decide (0 ≤ c ∧ c ≤ 5 ∧ chk W H Wt l = 0)) := by
  unfold ground_right.f
  by_cases h0 : c ≥ 0
  · rw [if_pos h0]
    by_cases h5 : c ≤ 5
    · rw [if_pos h5, check_eq hk]
      simp only [Option.bind_some]
      by_cases h : chk W H Wt l = 0
      · simp [h, h5, h0]
      · simp [h]
    · rw [if_neg h5]
      simp [h5]
  · rw [if_neg h0]
    simp [h0]
theorem lawRight_eq {k : Nat} (hk : 1 ≤ k) (W H Wt : Int) (l : List Int) (c : Int) : bivouaclaw07_right.f k W H Wt l c = some (decide (0 ≤ c ∧ c ≤ 5 ∧ chk W H Wt l = 0)) := by
  unfold bivouaclaw07_right.f
  rw [refCheck_eq hk]
  simp only [Option.bind_some]
  by_cases h : chk W H Wt l = 0
  · rw [if_pos h]
    by_cases h0 : c ≥ 0
    · rw [if_pos h0]; simp [h, h0]
    · rw [if_neg h0]; simp [h0]
  · rw [if_neg h]; simp [h]

/-- Is a cell open to a class? -/
def isO (W Wt : Int) (l : List Int) (c i j : Int) : Bool := bivouacref07_Open.o c (hi W l i j - lo W l i j) (mx 0 (Wt - lo W l i j))
theorem open_eq {k : Nat} (hk : 1 ≤ k) {W H Wt : Int} {l : List Int} (hb : ∀ x ∈ l, 0 ≤ x ∧ x ≤ 255) (c i j : Int) :
    ground_Open.f k W H Wt l c i j = some (if 0 ≤ c ∧ c ≤ 5 ∧ chk W H Wt l = 0 then if 0 ≤ i ∧ i < W ∧ 0 ≤ j ∧ j < H then (isO W Wt l c i j, 0) else (false, 4) else (false, 1)) := by
  unfold ground_Open.f
  rw [right_eq hk]
  simp only [Option.bind_some]
  by_cases h : 0 ≤ c ∧ c ≤ 5 ∧ chk W H Wt l = 0
  · rw [if_pos (decide_eq_true h), if_pos h, slope_eq hk hb, if_pos h.2.2]
    simp only [Option.bind_some]
    by_cases hc : 0 ≤ i ∧ i < W ∧ 0 ≤ j ∧ j < H
    · rw [if_pos hc, if_pos hc, if_pos rfl, depth_eq hk hb, if_pos h.2.2, if_pos hc]
      simp only [Option.bind_some]
      rw [gopen_eq h.1 h.2.1]
      rfl
    · rw [if_neg hc, if_neg hc, if_neg (by decide)]
  · rw [if_neg (by simpa using h), if_neg h]
theorem refOpen_eq {k : Nat} (hk : 5 ≤ k) {W H Wt : Int} {l : List Int} (h : Ok W H Wt l) {i j : Int} (i0 : 0 ≤ i) (i1 : i < W) (j0 : 0 ≤ j) (j1 : j < H) (c : Int) :
    bivouacref07_Open.f k W H Wt l c i j = some (isO W Wt l c i j) := by
  have g := lo_hi h i j
  unfold bivouacref07_Open.f
  rw [ends_l0 h i0 i1 j0 j1 hk, refDepth_eq h i0 i1 j0 j1 hk]
  simp only [Option.bind_some]
  rw [w64 (by omega) (by omega)]
  rfl

/-- All cells. -/
def cells (W H Wt : Int) (l : List Int) (c : Int) : List Bool := (List.range (W * H).toNat).map fun m : Nat => isO W Wt l c ((m : Int) % W) ((m : Int) / W)
theorem cells_len (W H Wt : Int) (l : List Int) (c : Int) : (cells W H Wt l c).length = (W * H).toNat := by simp [cells]
theorem wh {W H : Int} (w0 : 1 ≤ W) (w1 : W ≤ 64) (h0 : 1 ≤ H) (h1 : H ≤ 64) : 1 ≤ W * H ∧ W * H ≤ 4096 ∧ wrap64 (W * H) = W * H := by
  have h := mulb (a := W) (b := H) (A := 64) (B := 64) (by omega) (by omega) (by omega) (by omega)
  have g := mulb (a := W - 1) (b := H - 1) (A := 63) (B := 63) (by omega) (by omega) (by omega) (by omega)
  have e : W * H = (W - 1) * (H - 1) + W + H - 1 := by grind
  exact ⟨by omega, by omega, w64 (by omega) (by omega)⟩
theorem cell_in {W H m : Int} (w0 : 1 ≤ W) (m0 : 0 ≤ m) (m1 : m < W * H) : 0 ≤ m % W ∧ m % W < W ∧ 0 ≤ m / W ∧ m / W < H := by
  refine ⟨Int.emod_nonneg _ (by omega), Int.emod_lt_of_pos _ (by omega), Int.ediv_nonneg m0 (by omega), ?_⟩
  rw [Int.mul_comm] at m1
  exact Int.ediv_lt_of_lt_mul (by omega) m1
theorem grid_l0 {W H Wt : Int} {l : List Int} (ok : Ok W H Wt l) {c : Int} (c0 : 0 ≤ c) (c5 : c ≤ 5) : ∀ (d i k : Nat) (xs : List Bool), (W * H).toNat - i = d → xs.length = (W * H).toNat →
    (∀ m, m < i → xs[m]? = some (isO W Wt l c ((m : Int) % W) ((m : Int) / W))) → i ≤ (W * H).toNat → d + 1 < k → ground_Grid.l0 k c xs (xs.length : Int) (i : Int) W H Wt l = some (cells W H Wt l c, 0) := by
  have hwh := wh ok.w0 ok.w1 ok.h0 ok.h1
  have w0 := ok.w0
  intro d
  induction d with
  | zero =>
    intro i k xs hd hx hm hi hk
    obtain ⟨k, rfl⟩ : ∃ m, k = m + 1 := ⟨k - 1, by omega⟩
    simp only [ground_Grid.l0]
    rw [if_neg (by omega)]
    have : xs = cells W H Wt l c := by
      apply List.ext_getElem?
      intro m
      rcases Nat.lt_or_ge m (W * H).toNat with h | h
      · rw [hm m (by omega)]
        simp [cells, h]
      · rw [List.getElem?_eq_none (by omega), List.getElem?_eq_none (by rw [cells_len]; omega)]
    rw [this]
  | succ d ih =>
    intro i k xs hd hx hm hi hk
    obtain ⟨k, rfl⟩ : ∃ m, k = m + 1 := ⟨k - 1, by omega⟩
    simp only [ground_Grid.l0]
    have hc := cell_in (m := (i : Int)) w0 (by omega) (show (i : Int) < W * H by omega)
    have et : Int.tmod (i : Int) W = (i : Int) % W := Int.tmod_eq_emod_of_nonneg (by omega)
    have ed : Int.tdiv (i : Int) W = (i : Int) / W := Int.tdiv_eq_ediv_of_nonneg (by omega)
    rw [if_pos (by omega), if_neg (by omega), et, ed, w64 (i := (i : Int) / W) (by omega) (by have := ok.h1; omega), open_eq (by omega) ok.b]
    rw [if_pos (show 0 ≤ c ∧ c ≤ 5 ∧ chk W H Wt l = 0 from ⟨c0, c5, (chk_zero ok.b).2 ok⟩), if_pos hc]
    simp only [Option.bind_some]
    rw [if_pos (by omega), if_pos (by omega), w64 (by omega) (by omega)]
    have := ih (i + 1) k (xs.set i (isO W Wt l c ((i : Int) % W) ((i : Int) / W))) (by omega) (by simpa using hx) (fun m h => by
      rw [List.getElem?_set]
      by_cases e : i = m
      · subst e; simp; omega
      · rw [if_neg e]; exact hm m (by omega)) (by omega) (by omega)
    rw [List.length_set] at this
    simpa using this
theorem grid_eq {k : Nat} (hk : 4099 ≤ k) {W H Wt : Int} {l : List Int} (hb : ∀ x ∈ l, 0 ≤ x ∧ x ≤ 255) (c : Int) :
    ground_Grid.f k W H Wt l c = some (if 0 ≤ c ∧ c ≤ 5 ∧ chk W H Wt l = 0 then (cells W H Wt l c, 0) else ([], 1)) := by
  unfold ground_Grid.f
  rw [right_eq (by omega)]
  simp only [Option.bind_some]
  by_cases h : 0 ≤ c ∧ c ≤ 5 ∧ chk W H Wt l = 0
  · have ok := (chk_zero hb).1 h.2.2
    have hwh := wh ok.w0 ok.w1 ok.h0 ok.h1
    rw [if_pos (decide_eq_true h), if_pos h, hwh.2.2, if_pos (by omega), if_pos (by omega)]
    exact grid_l0 ok h.1 h.2.1 _ 0 k _ rfl (by simp) (fun m h => absurd h (Nat.not_lt_zero _)) (by omega) (by omega)
  · rw [if_neg (by simpa using h), if_neg h]

end Go.Proofs.Ytnpippechogagaa.L
