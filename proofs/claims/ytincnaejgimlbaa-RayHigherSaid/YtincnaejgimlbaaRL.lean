/- What the printed function ray.Line comes to, for all places. -/
import Derived.Test.YtincnaejgimlbaaPAx2
import Derived.Test.YtincnaejgimlbaaPAx3
import Derived.Test.YtincnaejgimlbaaPAx4
import Derived.Test.YtincnaejgimlbaaL
namespace Go.Proofs.Ytincnaejgimlbaa.L
open Go.RowKit Go.Proofs.Ytincnaejgimlbaa.PA Go.Proofs.YtincnaejgimlbaaW.PrintWords Go.Proofs.YtincnaejgimlbaaW.PrintLast Go.Proofs.YtincnaejgimlbaaW.PrintMore
set_option linter.unusedVariables false
set_option linter.unusedSimpArgs false

theorem up {α : Type} {F : Nat → Option α} (m : ∀ k, LeO (F k) (F (k + 1))) {k : Nat} {r : α} (h : F k = some r) {k' : Nat} (hk : k ≤ k') : F k' = some r := by
  obtain ⟨d, rfl⟩ : ∃ d, k' = k + d := ⟨k' - k, by omega⟩
  clear hk
  induction d with
  | zero => exact h
  | succ d ih => exact m _ _ ih

/-! ### The line -/
theorem l2_0 (k : Nat) (x2 x3 n : Int) (out : List S36) (y a0 a1 d0 d1 r0 r1 : Int) : ray_Line.l2 (k + 1) x2 x3 n out 0 y a0 a1 d0 d1 r0 r1 = if r0 ≥ wrap64 (2 * n) then ray_Line.l2 k x2 x3 n out 0 y (wrap64 (a0 + 1)) a1 d0 d1 (wrap64 (r0 - wrap64 (2 * n))) r1 else ray_Line.j3 k x2 x3 n out 0 y a0 a1 d0 d1 r0 r1 := rfl
theorem l2_1 (k : Nat) (x2 x3 n : Int) (out : List S36) (y a0 a1 d0 d1 r0 r1 : Int) : ray_Line.l2 (k + 1) x2 x3 n out 1 y a0 a1 d0 d1 r0 r1 = if r1 ≥ wrap64 (2 * n) then ray_Line.l2 k x2 x3 n out 1 y a0 (wrap64 (a1 + 1)) d0 d1 r0 (wrap64 (r1 - wrap64 (2 * n))) else ray_Line.j3 k x2 x3 n out 1 y a0 a1 d0 d1 r0 r1 := rfl
theorem j3_ (k : Nat) (x2 x3 n : Int) (out : List S36) (x y a0 a1 d0 d1 r0 r1 : Int) : ray_Line.j3 (k + 1) x2 x3 n out x y a0 a1 d0 d1 r0 r1 = ray_Line.l3 k x2 x3 n out x y a0 a1 d0 d1 r0 r1 := rfl
theorem l3_0 (k : Nat) (x2 x3 n : Int) (out : List S36) (y a0 a1 d0 d1 r0 r1 : Int) : ray_Line.l3 (k + 1) x2 x3 n out 0 y a0 a1 d0 d1 r0 r1 = if r0 < 0 then ray_Line.l3 k x2 x3 n out 0 y (wrap64 (a0 - 1)) a1 d0 d1 (wrap64 (r0 + wrap64 (2 * n))) r1 else ray_Line.l1 k x2 x3 n out (wrap64 (y + 1)) a0 a1 d0 d1 r0 r1 := rfl
theorem l3_1 (k : Nat) (x2 x3 n : Int) (out : List S36) (y a0 a1 d0 d1 r0 r1 : Int) : ray_Line.l3 (k + 1) x2 x3 n out 1 y a0 a1 d0 d1 r0 r1 = if r1 < 0 then ray_Line.l3 k x2 x3 n out 1 y a0 (wrap64 (a1 - 1)) d0 d1 r0 (wrap64 (r1 + wrap64 (2 * n))) else ray_Line.l1 k x2 x3 n out (wrap64 (y + 1)) a0 a1 d0 d1 r0 r1 := rfl
theorem l1_0 (k : Nat) (x2 x3 n : Int) (out : List S36) (a0 a1 d0 d1 r0 r1 : Int) : ray_Line.l1 (k + 1) x2 x3 n out 0 a0 a1 d0 d1 r0 r1 = ray_Line.l2 k x2 x3 n out 0 0 a0 a1 d0 d1 (wrap64 (r0 + wrap64 (2 * d0))) r1 := rfl
theorem l1_1 (k : Nat) (x2 x3 n : Int) (out : List S36) (a0 a1 d0 d1 r0 r1 : Int) : ray_Line.l1 (k + 1) x2 x3 n out 1 a0 a1 d0 d1 r0 r1 = ray_Line.l2 k x2 x3 n out 1 1 a0 a1 d0 d1 r0 (wrap64 (r1 + wrap64 (2 * d1))) := rfl
theorem l1_2 (k : Nat) (x2 x3 n : Int) (out : List S36) (a0 a1 d0 d1 r0 r1 : Int) : ray_Line.l1 (k + 1) x2 x3 n out 2 a0 a1 d0 d1 r0 r1 = if out.length < 8796093022208 then ray_Line.l0 k x2 x3 n (out ++ [(⟨a0, a1⟩ : S36)]) a0 a1 d0 d1 r0 r1 else none := rfl

theorem div1 {n r : Int} (hn : 1 ≤ n) (b : -(2 * n) ≤ r ∧ r < 4 * n) :
    (r ≥ 2 * n → r / (2 * n) = 1 ∧ r % (2 * n) = r - 2 * n) ∧ (0 ≤ r → r < 2 * n → r / (2 * n) = 0 ∧ r % (2 * n) = r) ∧ (r < 0 → r / (2 * n) = -1 ∧ r % (2 * n) = r + 2 * n) := by
  have key : ∀ a t : Int, 0 ≤ t → t < 2 * n → r = 2 * n * a + t → r / (2 * n) = a ∧ r % (2 * n) = t := by
    intro a t h0 h1 e
    have e' : r = t + 2 * n * a := by omega
    rw [e', Int.add_mul_ediv_left _ _ (by omega), Int.add_mul_emod_self_left, Int.ediv_eq_zero_of_lt h0 h1, Int.emod_eq_of_lt h0 h1]
    exact ⟨by omega, rfl⟩
  refine ⟨fun h => key 1 _ (by omega) (by omega) (by omega), fun h g => key 0 _ h g (by omega), fun h => key (-1) _ (by omega) (by omega) (by omega)⟩

theorem s0 {k : Nat} {x2 x3 n : Int} {out : List S36} {a0 a1 d0 d1 r0 r1 : Int} {r : List S36 × Int} (hn : 1 ≤ n) (hm : n ≤ 63) (a : -1000 ≤ a0 ∧ a0 ≤ 1000) (b : -(2 * n) ≤ r0 ∧ r0 < 4 * n)
    (h : ray_Line.l1 k x2 x3 n out 1 (a0 + r0 / (2 * n)) a1 d0 d1 (r0 % (2 * n)) r1 = some r) : ray_Line.l2 (k + 4) x2 x3 n out 0 0 a0 a1 d0 d1 r0 r1 = some r := by
  have hD : wrap64 (2 * n) = 2 * n := w64 (by omega) (by omega)
  obtain ⟨q1, q2, q3⟩ := div1 hn b
  have up1 := (ray_Line.mono_l k).2.1 _ _ _ _ _ _ _ _ _ _ _ _ h
  by_cases c : r0 ≥ 2 * n
  · obtain ⟨e1, e2⟩ := q1 c
    rw [e1, e2] at h
    rw [l2_0, hD, if_pos c, w64 (i := a0 + 1) (by omega) (by omega), w64 (i := r0 - 2 * n) (by omega) (by omega), l2_0, hD, if_neg (by omega), j3_, l3_0, if_neg (by omega), show wrap64 ((0 : Int) + 1) = 1 from w64 (by omega) (by omega)]
    exact h
  · by_cases g : r0 < 0
    · obtain ⟨e1, e2⟩ := q3 g
      rw [e1, e2] at h
      rw [l2_0, hD, if_neg c, j3_, l3_0, hD, if_pos g, w64 (i := a0 - 1) (by omega) (by omega), w64 (i := r0 + 2 * n) (by omega) (by omega), l3_0, if_neg (by omega), show wrap64 ((0 : Int) + 1) = 1 from w64 (by omega) (by omega)]
      exact h
    · obtain ⟨e1, e2⟩ := q2 (by omega) (by omega)
      rw [e1, e2, Int.add_zero] at up1
      rw [l2_0, hD, if_neg c, j3_, l3_0, if_neg g, show wrap64 ((0 : Int) + 1) = 1 from w64 (by omega) (by omega)]
      exact up1

theorem s1 {k : Nat} {x2 x3 n : Int} {out : List S36} {a0 a1 d0 d1 r0 r1 : Int} {r : List S36 × Int} (hn : 1 ≤ n) (hm : n ≤ 63) (a : -1000 ≤ a1 ∧ a1 ≤ 1000) (b : -(2 * n) ≤ r1 ∧ r1 < 4 * n)
    (h : ray_Line.l1 k x2 x3 n out 2 a0 (a1 + r1 / (2 * n)) d0 d1 r0 (r1 % (2 * n)) = some r) : ray_Line.l2 (k + 4) x2 x3 n out 1 1 a0 a1 d0 d1 r0 r1 = some r := by
  have hD : wrap64 (2 * n) = 2 * n := w64 (by omega) (by omega)
  obtain ⟨q1, q2, q3⟩ := div1 hn b
  have up1 := (ray_Line.mono_l k).2.1 _ _ _ _ _ _ _ _ _ _ _ _ h
  by_cases c : r1 ≥ 2 * n
  · obtain ⟨e1, e2⟩ := q1 c
    rw [e1, e2] at h
    rw [l2_1, hD, if_pos c, w64 (i := a1 + 1) (by omega) (by omega), w64 (i := r1 - 2 * n) (by omega) (by omega), l2_1, hD, if_neg (by omega), j3_, l3_1, if_neg (by omega), show wrap64 ((1 : Int) + 1) = 2 from w64 (by omega) (by omega)]
    exact h
  · by_cases g : r1 < 0
    · obtain ⟨e1, e2⟩ := q3 g
      rw [e1, e2] at h
      rw [l2_1, hD, if_neg c, j3_, l3_1, hD, if_pos g, w64 (i := a1 - 1) (by omega) (by omega), w64 (i := r1 + 2 * n) (by omega) (by omega), l3_1, if_neg (by omega), show wrap64 ((1 : Int) + 1) = 2 from w64 (by omega) (by omega)]
      exact h
    · obtain ⟨e1, e2⟩ := q2 (by omega) (by omega)
      rw [e1, e2, Int.add_zero] at up1
      rw [l2_1, hD, if_neg c, j3_, l3_1, if_neg g, show wrap64 ((1 : Int) + 1) = 2 from w64 (by omega) (by omega)]
      exact up1

/-- The q-th number of n of a line from i on, so far in all. -/
def pos (n i d q : Int) : Int := i + (2 * q * d + n) / (2 * n)
def rst (n d q : Int) : Int := (2 * q * d + n) % (2 * n)

theorem rst_b {n d q : Int} (hn : 1 ≤ n) : 0 ≤ rst n d q ∧ rst n d q < 2 * n := ⟨Int.emod_nonneg _ (by omega), Int.emod_lt_of_pos _ (by omega)⟩

theorem pos_next {n i d q : Int} (hn : 1 ≤ n) : pos n i d q + (rst n d q + 2 * d) / (2 * n) = pos n i d (q + 1) ∧ (rst n d q + 2 * d) % (2 * n) = rst n d (q + 1) := by
  unfold pos rst
  have e : 2 * (q + 1) * d + n = (2 * q * d + n) + 2 * d := by grind
  rw [e]
  generalize 2 * q * d + n = p
  have h := Int.mul_ediv_add_emod p (2 * n)
  have e2 : p + 2 * d = (p % (2 * n) + 2 * d) + 2 * n * (p / (2 * n)) := by omega
  generalize hq : p / (2 * n) = a at *
  generalize hr : p % (2 * n) = b at *
  rw [e2, Int.add_mul_ediv_left _ _ (by omega : 2 * n ≠ 0), Int.add_mul_emod_self_left]
  exact ⟨by omega, rfl⟩

theorem pos_end {n i d : Int} (hn : 1 ≤ n) : pos n i d n = i + d := by
  unfold pos
  rw [show 2 * n * d + n = n + 2 * n * d by omega, Int.add_mul_ediv_left _ _ (by omega : 2 * n ≠ 0), Int.ediv_eq_zero_of_lt (by omega) (by omega)]
  omega

theorem pos_b {n i d q : Int} (hn : 1 ≤ n) (d0 : -n ≤ d) (d1 : d ≤ n) (q0 : 0 ≤ q) : i - q ≤ pos n i d q ∧ pos n i d q ≤ i + q := by
  unfold pos
  have a := mulb (a := q) (b := d + n) (A := q) (B := 2 * n) q0 (Int.le_refl _) (by omega) (by omega)
  have e1 : q * (d + n) = q * d + q * n := by grind
  have e2 : q * (2 * n) = 2 * (q * n) := by grind
  have e3 : 2 * q * d = 2 * (q * d) := by grind
  have e4 : -q * (2 * n) = - (2 * (q * n)) := by grind
  have e5 : (q + 1) * (2 * n) = 2 * (q * n) + 2 * n := by grind
  have u : (-q) ≤ (2 * q * d + n) / (2 * n) := (Int.le_ediv_iff_mul_le (by omega)).2 (by omega)
  have v : (2 * q * d + n) / (2 * n) < q + 1 := Int.ediv_lt_of_lt_mul (by omega) (by omega)
  constructor <;> omega

theorem pos_edge {n i q : Int} (hn : 1 ≤ n) : pos n i n q = i + q ∧ pos n i (-n) q = i - q := by
  unfold pos
  constructor
  · rw [show 2 * q * n + n = n + 2 * n * q by grind, Int.add_mul_ediv_left _ _ (by omega : 2 * n ≠ 0), Int.ediv_eq_zero_of_lt (by omega) (by omega)]; omega
  · rw [show 2 * q * (-n) + n = n + 2 * n * (-q) by grind, Int.add_mul_ediv_left _ _ (by omega : 2 * n ≠ 0), Int.ediv_eq_zero_of_lt (by omega) (by omega)]; omega

theorem line_go {i j dx dy n : Int} (i0 : -100 ≤ i ∧ i ≤ 100) (j0 : -100 ≤ j ∧ j ≤ 100) (hn : 1 ≤ n) (hm : n ≤ 63) (x0 : -n ≤ dx) (x1 : dx ≤ n) (y0 : -n ≤ dy) (y1 : dy ≤ n) (he : dx = n ∨ dx = -n ∨ dy = n ∨ dy = -n) :
    ∀ (m : Nat) (q : Int), 0 ≤ q → q + (m : Int) = n → ∀ out : List S36, (out.length : Int) ≤ q + 1 →
      ray_Line.l0 (12 * m + 1) (i + dx) (j + dy) n out (pos n i dx q) (pos n j dy q) dx dy (rst n dx q) (rst n dy q) = some (out ++ (List.range m).map (fun (t : Nat) => (⟨pos n i dx (q + 1 + (t : Int)), pos n j dy (q + 1 + (t : Int))⟩ : S36)), 0)
  | 0, q, q0, hq, out, ho => by
    obtain rfl : q = n := by omega
    simp only [ray_Line.l0]
    rw [pos_end hn, pos_end hn, if_neg (by simp)]
    simp
  | m + 1, q, q0, hq, out, ho => by
    have px := pos_b (i := i) hn x0 x1 q0
    have py := pos_b (i := j) hn y0 y1 q0
    have ex := pos_edge (i := i) (q := q) hn
    have ey := pos_edge (i := j) (q := q) hn
    have rx := rst_b (d := dx) (q := q) hn
    have ry := rst_b (d := dy) (q := q) hn
    have nx := pos_next (i := i) (d := dx) (q := q) hn
    have ny := pos_next (i := j) (d := dy) (q := q) hn
    have ne : ¬ (pos n i dx q = i + dx ∧ pos n j dy q = j + dy) := by
      rintro ⟨h1, h2⟩
      rcases he with rfl | rfl | rfl | rfl
      · omega
      · omega
      · omega
      · omega
    rw [show 12 * (m + 1) + 1 = 12 * m + 1 + 12 by omega]
    simp only [ray_Line.l0]
    rw [if_pos (by
      by_cases h1 : pos n i dx q = i + dx
      · have h2 : ¬ pos n j dy q = j + dy := fun h => ne ⟨h1, h⟩
        simp [h2]
      · simp [h1])]
    rw [l1_0, w64 (i := 2 * dx) (by omega) (by omega), w64 (i := rst n dx q + 2 * dx) (by omega) (by omega)]
    refine s0 (k := 12 * m + 7) hn hm (by omega) (by omega) ?_
    rw [nx.1, nx.2, l1_1, w64 (i := 2 * dy) (by omega) (by omega), w64 (i := rst n dy q + 2 * dy) (by omega) (by omega)]
    refine s1 (k := 12 * m + 2) hn hm (by omega) (by omega) ?_
    rw [ny.1, ny.2, l1_2, if_pos (by omega)]
    rw [line_go i0 j0 hn hm x0 x1 y0 y1 he m (q + 1) (by omega) (by omega) _ (by simp; omega)]
    congr 2
    rw [List.range_succ_eq_map, List.map_cons, List.append_assoc, List.map_map]
    congr 1
    simp only [List.singleton_append, List.cons.injEq]
    refine ⟨by simp, ?_⟩
    apply List.map_congr_left
    intro t _
    simp only [Function.comp]
    rw [show q + 1 + ((t.succ : Nat) : Int) = q + 1 + 1 + (t : Int) by omega]

def ab (x : Int) : Int := if x < 0 then -x else x
/-- How many steps a line has. -/
def lng (i j k l : Int) : Int := if ab (k - i) > ab (l - j) then ab (k - i) else ab (l - j)
/-- A line's q-th cell. -/
def cel (i j k l q : Int) : S36 := ⟨pos (lng i j k l) i (k - i) q, pos (lng i j k l) j (l - j) q⟩
def lin (i j k l : Int) : List S36 := (List.range ((lng i j k l).toNat + 1)).map fun (q : Nat) => cel i j k l (q : Int)

def Inn (v : Int) : Prop := 0 ≤ v ∧ v ≤ 63
instance (v : Int) : Decidable (Inn v) := by unfold Inn; infer_instance

theorem inside_eq {k : Nat} (hk : 5 ≤ k) (a b c d : Int) : ray_inside.f k [a, b, c, d] = some (decide (Inn a ∧ Inn b ∧ Inn c ∧ Inn d)) := by
  obtain ⟨k, rfl⟩ : ∃ m, k = m + 5 := ⟨k - 5, by omega⟩
  have step : ∀ (k : Nat) (l : List Int) (n q : Int), ray_inside.l0 (k + 1) l n q = if q < n then (if 0 ≤ q then (if q < (l.length : Int) then (if rd l q < 0 then some false else if rd l q ≥ 64 then some false else ray_inside.l0 k l n (wrap64 (q + 1))) else none) else none) else some true := fun k l n q => by simp only [ray_inside.l0]
  unfold ray_inside.f
  simp only [step, List.length_cons, List.length_nil]
  simp [rd, wrap64, Inn]
  grind

theorem lng_b {i j k l : Int} (hi : Inn i) (hj : Inn j) (hk : Inn k) (hl : Inn l) : 0 ≤ lng i j k l ∧ lng i j k l ≤ 63 ∧ -lng i j k l ≤ k - i ∧ k - i ≤ lng i j k l ∧ -lng i j k l ≤ l - j ∧ l - j ≤ lng i j k l ∧ (k - i = lng i j k l ∨ k - i = -lng i j k l ∨ l - j = lng i j k l ∨ l - j = -lng i j k l) := by
  unfold lng ab Inn at *
  split <;> split <;> split <;> omega

theorem line_eq {K : Nat} (hK : 800 ≤ K) (i j k l : Int) : ray_Line.f K i j k l = if Inn i ∧ Inn j ∧ Inn k ∧ Inn l then some (lin i j k l, 0) else some ([], 4) := by
  unfold ray_Line.f
  rw [inside_eq (by omega)]
  simp only [Option.bind_some, decide_eq_true_eq]
  by_cases hc : Inn i ∧ Inn j ∧ Inn k ∧ Inn l
  · rw [if_pos hc, if_pos hc]
    obtain ⟨hi, hj, hk, hl⟩ := hc
    have b := lng_b hi hj hk hl
    have e1 : wrap64 (k - i) = k - i := by unfold Inn at *; exact w64 (by omega) (by omega)
    have e2 : wrap64 (l - j) = l - j := by unfold Inn at *; exact w64 (by omega) (by omega)
    have f1 : ray_size.f (k - i) = some (ab (k - i)) := by
      unfold ray_size.f ab mx Inn at *
      rw [w64 (i := -(k - i)) (by omega) (by omega)]
      congr 1; split <;> split <;> omega
    have f2 : ray_size.f (l - j) = some (ab (l - j)) := by
      unfold ray_size.f ab mx Inn at *
      rw [w64 (i := -(l - j)) (by omega) (by omega)]
      congr 1; split <;> split <;> omega
    rw [e1, e2, f1, f2]
    simp only [Option.bind_some]
    rw [show mx (ab (k - i)) (ab (l - j)) = lng i j k l by unfold mx lng; split <;> split <;> omega]
    by_cases z : lng i j k l = 0
    · obtain ⟨K, rfl⟩ : ∃ m, K = m + 1 := ⟨K - 1, by omega⟩
      obtain rfl : k = i := by omega
      obtain rfl : l = j := by omega
      simp only [ray_Line.l0]
      rw [if_neg (by simp)]
      unfold lin cel pos
      rw [z]
      simp
    · have hn : 1 ≤ lng i j k l := by omega
      have hi' : -100 ≤ i ∧ i ≤ 100 := by unfold Inn at hi; omega
      have hj' : -100 ≤ j ∧ j ≤ 100 := by unfold Inn at hj; omega
      have g := line_go (i := i) (j := j) (dx := k - i) (dy := l - j) (n := lng i j k l) hi' hj' hn b.2.1 b.2.2.1 b.2.2.2.1 b.2.2.2.2.1 b.2.2.2.2.2.1 b.2.2.2.2.2.2 (lng i j k l).toNat 0 (by omega) (by omega) [(⟨i, j⟩ : S36)] (by simp)
      have p0 : ∀ x d : Int, pos (lng i j k l) x d 0 = x := by
        intro x d
        unfold pos
        rw [show 2 * 0 * d + lng i j k l = lng i j k l by omega, Int.ediv_eq_zero_of_lt (by omega) (by omega)]; omega
      have r0 : ∀ d : Int, rst (lng i j k l) d 0 = lng i j k l := by
        intro d
        unfold rst
        rw [show 2 * 0 * d + lng i j k l = lng i j k l by omega, Int.emod_eq_of_lt (by omega) (by omega)]
      rw [p0, p0, r0, r0, show i + (k - i) = k by omega, show j + (l - j) = l by omega] at g
      rw [up (F := fun K => ray_Line.l0 K k l (lng i j k l) [(⟨i, j⟩ : S36)] i j (k - i) (l - j) (lng i j k l) (lng i j k l)) (fun K => (ray_Line.mono_l K).1 _ _ _ _ _ _ _ _ _ _) g (by omega)]
      congr 2
      unfold lin cel
      rw [List.range_succ_eq_map, List.map_cons, List.map_map]
      simp only [Int.natCast_zero, p0, List.singleton_append, List.cons.injEq, true_and]
      apply List.map_congr_left
      intro t _
      simp only [Function.comp]
      rw [show (0 : Int) + 1 + (t : Int) = ((t.succ : Nat) : Int) by omega]
  · rw [if_neg hc, if_neg hc]

end Go.Proofs.Ytincnaejgimlbaa.L
