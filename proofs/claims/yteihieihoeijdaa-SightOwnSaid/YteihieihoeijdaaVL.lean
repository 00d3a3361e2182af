/- What a view comes to, for every map and eyes. -/
import Derived.Test.YteihieihoeijdaaGAsightView
import Derived.Test.YteihieihoeijdaaPAx19
import Derived.Test.YteihieihoeijdaaPAx20
import Derived.Test.YteihieihoeijdaaPAx21
import Derived.Test.YteihieihoeijdaaPAx22
import Derived.Test.YteihieihoeijdaaPAx23
import Derived.Test.YteihieihoeijdaaVB
namespace Go.Proofs.Yteihieihoeijdaa.L
open Go.RowKit Go.Proofs.Yteihieihoeijdaa.PA Go.Proofs.YteihieihoeijdaaW.PrintWords Go.Proofs.YteihieihoeijdaaW.PrintLast Go.Proofs.YteihieihoeijdaaW.PrintMore
set_option linter.unusedVariables false
set_option linter.unusedSimpArgs false

/-! ### What a view comes to -/
def EyeOk (W H : Int) (x : S27) : Prop := (0 ≤ x.f0 ∧ x.f0 ≤ 7) ∧ (0 ≤ x.f1 ∧ x.f1 ≤ W - 1) ∧ (0 ≤ x.f2 ∧ x.f2 ≤ H - 1) ∧ (0 ≤ x.f3 ∧ x.f3 ≤ 255) ∧ (0 ≤ x.f4 ∧ x.f4 ≤ 32) ∧ (0 ≤ x.f5 ∧ x.f5 ≤ 32) ∧ (0 ≤ x.f6 ∧ x.f6 ≤ 32) ∧ (0 ≤ x.f7 ∧ x.f7 ≤ 32)
instance (W H : Int) (x : S27) : Decidable (EyeOk W H x) := by unfold EyeOk; infer_instance
def nr (W : Int) (x : S27) (c r : Int) : Bool := decide ((c % W - x.f1) * (c % W - x.f1) + (c / W - x.f2) * (c / W - x.f2) ≤ r * r)
def eB (W Wt : Int) (m : List Int) (x : S27) (c : Int) : Bool := nr W x c x.f5 || (decide (0 < mx 0 (Wt - lo W m (c % W) (c / W))) && nr W x c x.f6)
def sB (W : Int) (m : List Int) (x : S27) (c : Int) : Bool := seenB W m x.f1 x.f2 x.f3 x.f4 (c % W) (c / W)
def jB (W : Int) (x : S27) (c : Int) : Bool := decide (0 < x.f7) && nr W x c x.f7
def vS (W : Int) (m : List Int) (t c : Int) (l : List S27) : Bool := l.any (fun x => decide (x.f0 = t) && sB W m x c)
def vJ (W : Int) (t c : Int) (l : List S27) : Bool := l.any (fun x => decide (x.f0 ≠ t) && jB W x c)
def vE (W Wt : Int) (m : List Int) (t c : Int) (l : List S27) : Bool := l.any (fun x => decide (x.f0 = t) && eB W Wt m x c)
def viewB (W Wt : Int) (m : List Int) (l : List S27) (t c : Int) : Int := if vS W m t c l = true then 2 else if vJ W t c l = true then 0 else if vE W Wt m t c l = true then 1 else 0
def MayP (W H Wt : Int) (m : List Int) (l : List S27) : Prop := chk W H Wt m = 0 ∧ l.length ≤ 64 ∧ ∀ x ∈ l, EyeOk W H x
instance (W H Wt : Int) (m : List Int) (l : List S27) : Decidable (MayP W H Wt m l) := by unfold MayP; infer_instance

theorem sq_b {a : Int} (h : -64 ≤ a) (g : a ≤ 64) : 0 ≤ a * a ∧ a * a ≤ 4096 := by
  rcases Int.le_total 0 a with c | c
  · exact mulb c g c g
  · have := mulb (a := -a) (b := -a) (A := 64) (B := 64) (by omega) (by omega) (by omega) (by omega)
    rw [Int.neg_mul_neg] at this; exact this
theorem within_eq (a b : Int) : sight_within.f a b = some (decide (0 ≤ a ∧ a ≤ b)) := by
  unfold sight_within.f
  by_cases h : 0 ≤ a
  · rw [if_pos h]; simp [h]
  · rw [if_neg h]; simp [h]
theorem reach_l0 (l : List Int) (hl : l.length ≤ 1000) : ∀ (r q K : Nat), q + r = l.length → r + 1 ≤ K → sight_reach.l0 K l (l.length : Int) (q : Int) = some (decide (∀ x ∈ l.drop q, 0 ≤ x ∧ x ≤ 32))
  | 0, q, K, hq, hK => by
    obtain ⟨K, rfl⟩ : ∃ d, K = d + 1 := ⟨K - 1, by omega⟩
    simp only [sight_reach.l0]
    rw [if_neg (by omega), List.drop_eq_nil_of_le (by omega)]
    simp
  | r + 1, q, K, hq, hK => by
    obtain ⟨K, rfl⟩ : ∃ d, K = d + 1 := ⟨K - 1, by omega⟩
    simp only [sight_reach.l0]
    rw [if_pos (by omega), if_pos (by omega), if_pos (by omega), within_eq, w64 (i := (q : Int) + 1) (by omega) (by omega)]
    simp only [Option.bind_some]
    have ih := reach_l0 l hl r (q + 1) K (by omega) (by omega)
    rw [show (((q + 1 : Nat)) : Int) = (q : Int) + 1 by omega] at ih
    have e : rd l (q : Int) = l[q]'(by omega) := by unfold rd; simp [List.getD_eq_getElem?_getD, List.getElem?_eq_getElem (show q < l.length by omega)]
    rw [List.drop_eq_getElem_cons (show q < l.length by omega), ← e]
    by_cases h : 0 ≤ rd l (q : Int) ∧ rd l (q : Int) ≤ 32
    · rw [decide_eq_true h, if_pos rfl, ih]; simp [h]
    · rw [decide_eq_false h, if_neg (by decide), decide_eq_false (by intro a; exact h (a _ (List.mem_cons_self ..)))]
theorem eye_eq {K : Nat} (hK : 5 ≤ K) {W H : Int} (w0 : 1 ≤ W) (w1 : W ≤ 64) (h0 : 1 ≤ H) (h1 : H ≤ 64) (Wt : Int) (m : List Int) (x : S27) : sight_eye.f K W H Wt m x.f0 x.f1 x.f2 x.f3 x.f4 x.f5 x.f6 x.f7 = some (decide (EyeOk W H x)) := by
  unfold sight_eye.f
  have g := reach_l0 [x.f4, x.f5, x.f6, x.f7] (by simp) 4 0 K (by simp) hK
  have g' : sight_reach.f K [x.f4, x.f5, x.f6, x.f7] = some (decide ((0 ≤ x.f4 ∧ x.f4 ≤ 32) ∧ (0 ≤ x.f5 ∧ x.f5 ≤ 32) ∧ (0 ≤ x.f6 ∧ x.f6 ≤ 32) ∧ (0 ≤ x.f7 ∧ x.f7 ≤ 32))) := by
    unfold sight_reach.f
    rw [show (0 : Int) = ((0 : Nat) : Int) from rfl, g]
    simp
  simp only [within_eq, g', Option.bind_some, decide_eq_true_eq]
  rw [w64 (i := W - 1) (by omega) (by omega), w64 (i := H - 1) (by omega) (by omega)]
  by_cases c0 : 0 ≤ x.f0 ∧ x.f0 ≤ 7
  · rw [if_pos c0]
    by_cases c1 : 0 ≤ x.f1 ∧ x.f1 ≤ W - 1
    · rw [if_pos c1]
      by_cases c2 : 0 ≤ x.f2 ∧ x.f2 ≤ H - 1
      · rw [if_pos c2]
        by_cases c3 : 0 ≤ x.f3 ∧ x.f3 ≤ 255
        · rw [if_pos c3]; exact congrArg some (decide_eq_decide.2 ⟨fun h => ⟨c0, c1, c2, c3, h⟩, fun h => h.2.2.2.2⟩)
        · rw [if_neg c3, decide_eq_false (fun c : EyeOk W H x => c3 c.2.2.2.1)]
      · rw [if_neg c2, decide_eq_false (fun c : EyeOk W H x => c2 c.2.2.1)]
    · rw [if_neg c1, decide_eq_false (fun c : EyeOk W H x => c1 c.2.1)]
  · rw [if_neg c0, decide_eq_false (fun c : EyeOk W H x => c0 c.1)]
theorem may_l0 {W H : Int} (w0 : 1 ≤ W) (w1 : W ≤ 64) (h0 : 1 ≤ H) (h1 : H ≤ 64) (Wt : Int) (m : List Int) (l : List S27) (hl : l.length ≤ 1000) : ∀ (r q K : Nat), q + r = l.length → r + 6 ≤ K → sight_May.l0 K l (l.length : Int) (q : Int) W H Wt m = some (decide (∀ x ∈ l.drop q, EyeOk W H x))
  | 0, q, K, hq, hK => by
    obtain ⟨K, rfl⟩ : ∃ d, K = d + 1 := ⟨K - 1, by omega⟩
    simp only [sight_May.l0]
    rw [if_neg (by omega), List.drop_eq_nil_of_le (by omega)]
    simp
  | r + 1, q, K, hq, hK => by
    obtain ⟨K, rfl⟩ : ∃ d, K = d + 1 := ⟨K - 1, by omega⟩
    simp only [sight_May.l0]
    rw [if_pos (by omega), if_pos (by omega), if_pos (by omega), eye_eq (by omega) w0 w1 h0 h1, w64 (i := (q : Int) + 1) (by omega) (by omega)]
    simp only [Option.bind_some]
    have ih := may_l0 w0 w1 h0 h1 Wt m l hl r (q + 1) K (by omega) (by omega)
    rw [show (((q + 1 : Nat)) : Int) = (q : Int) + 1 by omega] at ih
    have e : rd_T27 l (q : Int) = l[q]'(by omega) := by unfold rd_T27; simp [List.getD_eq_getElem?_getD, List.getElem?_eq_getElem (show q < l.length by omega)]
    rw [List.drop_eq_getElem_cons (show q < l.length by omega), ← e]
    by_cases h : EyeOk W H (rd_T27 l (q : Int))
    · rw [decide_eq_true h, if_pos rfl, ih]; simp [h]
    · rw [decide_eq_false h, if_neg (by decide), decide_eq_false (by intro a; exact h (a _ (List.mem_cons_self ..)))]
theorem may_eq {K : Nat} (hK : 100 ≤ K) {W H Wt : Int} {m : List Int} (hb : ∀ x ∈ m, 0 ≤ x ∧ x ≤ 255) (l : List S27) (hl : l.length ≤ 80) : sight_May.f K W H Wt m l = some (decide (MayP W H Wt m l)) := by
  obtain ⟨K, rfl⟩ : ∃ d, K = d + 1 := ⟨K - 1, by omega⟩
  unfold sight_May.f
  rw [check_eq (by omega)]
  simp only [Option.bind_some]
  by_cases h : chk W H Wt m = 0
  · have ok := (chk_zero hb).1 h
    rw [if_pos h]
    simp only [sight_May.j0]
    by_cases g : l.length ≤ 64
    · rw [decide_eq_false (by omega : ¬ (l.length : Int) > 64), if_neg (by decide)]
      have e := may_l0 ok.w0 ok.w1 ok.h0 ok.h1 Wt m l (by omega) l.length 0 K (by omega) (by omega)
      rw [show ((0 : Nat) : Int) = 0 from rfl] at e
      rw [e]
      exact congrArg some (decide_eq_decide.2 ⟨fun z => ⟨h, g, z⟩, fun z => z.2.2⟩)
    · rw [decide_eq_true (by omega : (l.length : Int) > 64), if_pos rfl, decide_eq_false (fun c : MayP W H Wt m l => g c.2.1)]
  · rw [if_neg h]
    simp only [sight_May.j0]
    rw [if_pos trivial, decide_eq_false (fun c : MayP W H Wt m l => h c.1)]

theorem near_eq {W H Wt : Int} {m : List Int} (ok : Ok W H Wt m) {x : S27} (e : EyeOk W H x) {c r : Int} (c0 : 0 ≤ c) (c1 : c < W * H) (r0 : 0 ≤ r) (r1 : r ≤ 32) : sight_near.f W H Wt m x.f0 x.f1 x.f2 x.f3 x.f4 x.f5 x.f6 x.f7 c r = some (nr W x c r) := by
  have w0 := ok.w0
  have w1 := ok.w1
  have h0 := ok.h0
  have h1 := ok.h1
  obtain ⟨q0, q1, q2, q3⟩ := cell_of ok c0 c1
  obtain ⟨-, ⟨i0, i1⟩, ⟨j0, j1⟩, -⟩ := e
  unfold sight_near.f nr
  rw [if_neg (by omega), Int.tmod_eq_emod_of_nonneg c0, Int.tdiv_eq_ediv_of_nonneg c0]
  have b1 := sq_b (a := c % W - x.f1) (by omega) (by omega)
  have b2 := sq_b (a := c / W - x.f2) (by omega) (by omega)
  have b3 := sq_b (a := r) (by omega) (by omega)
  rw [w64 (i := c / W) (by omega) (by omega), w64 (i := c % W - x.f1) (by omega) (by omega), w64 (i := c / W - x.f2) (by omega) (by omega), w64 (i := (c % W - x.f1) * (c % W - x.f1)) (by omega) (by omega), w64 (i := (c / W - x.f2) * (c / W - x.f2)) (by omega) (by omega), w64 (i := r * r) (by omega) (by omega), w64 (by omega) (by omega)]

theorem ech_eq {K : Nat} (hK : 1 ≤ K) {W H Wt : Int} {m : List Int} (ok : Ok W H Wt m) {x : S27} (e : EyeOk W H x) {c : Int} (c0 : 0 ≤ c) (c1 : c < W * H) : sight_View.ech K W H Wt m x c = some (eB W Wt m x c) := by
  unfold sight_View.ech eB
  have q := cell_of ok c0 c1
  have r5 := e.2.2.2.2.2.1
  have r6 := e.2.2.2.2.2.2.1
  rw [near_eq ok e c0 c1 r5.1 r5.2, near_eq ok e c0 c1 r6.1 r6.2, depth_eq hK ok.b, if_pos ((chk_zero ok.b).2 ok), if_pos q]
  simp only [Option.bind_some]
  cases h : nr W x c x.f5
  · rw [if_neg (by decide), Bool.false_or]
    by_cases g : 0 < mx 0 (Wt - lo W m (c % W) (c / W))
    · rw [if_pos g, decide_eq_true g, Bool.true_and]
    · rw [if_neg g, decide_eq_false g, Bool.false_and]
  · rw [if_pos rfl, Bool.true_or]

/-! ### Lists by their cells -/
theorem rd_rng {n : Nat} (f : Nat → Int) {i : Nat} (h : i < n) : rd ((List.range n).map f) (i : Int) = f i := by unfold rd; simp [List.getD_eq_getElem?_getD, h]
theorem set_rng {n : Nat} (f : Nat → Int) (i : Nat) (u : Int) : ((List.range n).map f).set i u = (List.range n).map (fun c => if c = i then u else f c) := by
  apply List.ext_getElem
  · simp
  · intro j h1 h2
    simp only [List.length_set, List.length_map, List.length_range] at h1
    rw [List.getElem_set]
    simp only [List.getElem_map, List.getElem_range]
    by_cases h : i = j
    · rw [if_pos h, if_pos h.symm]
    · rw [if_neg h, if_neg (fun c => h c.symm)]
theorem map_rng {n : Nat} {f g : Nat → Int} (h : ∀ c, c < n → f c = g c) : (List.range n).map f = (List.range n).map g := List.map_congr_left (fun c hc => h c (List.mem_range.1 hc))

theorem rse_eq {n : Nat} {h : Int → Option Bool} {g : Nat → Bool} {u : Int} (hg : ∀ c : Nat, c < n → h (c : Int) = some (g c)) : ∀ (d i : Nat) (f : Nat → Int), i + d = n → sight_View.rse h u d (i : Int) ((List.range n).map f) = some ((List.range n).map (fun c => if i ≤ c ∧ f c < u ∧ g c = true then u else f c))
  | 0, i, f, hi => by
    simp only [sight_View.rse]
    rw [map_rng]
    intro c hc
    rw [if_neg (by omega)]
  | d + 1, i, f, hi => by
    simp only [sight_View.rse]
    rw [rd_rng f (by omega), hg i (by omega), show ((i : Int) + 1) = ((i + 1 : Nat) : Int) by omega]
    simp only [Option.bind_some, Int.toNat_natCast]
    by_cases hu : f i < u
    · rw [if_pos hu]
      cases hb : g i
      · rw [if_neg (by decide), rse_eq hg d (i + 1) f (by omega)]
        rw [map_rng]
        intro c hc
        by_cases e : c = i
        · subst e; rw [if_neg (by omega), if_neg (by rw [hb]; simp)]
        · by_cases c1 : i + 1 ≤ c ∧ f c < u ∧ g c = true
          · rw [if_pos c1, if_pos ⟨by omega, c1.2⟩]
          · rw [if_neg c1, if_neg (fun z => c1 ⟨by omega, z.2⟩)]
      · rw [if_pos rfl, set_rng, rse_eq hg d (i + 1) _ (by omega)]
        rw [map_rng]
        intro c hc
        by_cases e : c = i
        · subst e; rw [if_neg (by omega), if_pos rfl, if_pos ⟨Nat.le_refl _, hu, hb⟩]
        · rw [if_neg e]
          by_cases c1 : i + 1 ≤ c ∧ f c < u ∧ g c = true
          · rw [if_pos c1, if_pos ⟨by omega, c1.2⟩]
          · rw [if_neg c1, if_neg (fun z => c1 ⟨by omega, z.2⟩)]
    · rw [if_neg hu, rse_eq hg d (i + 1) f (by omega)]
      rw [map_rng]
      intro c hc
      by_cases e : c = i
      · subst e; rw [if_neg (by omega), if_neg (fun z => hu z.2.1)]
      · by_cases c1 : i + 1 ≤ c ∧ f c < u ∧ g c = true
        · rw [if_pos c1, if_pos ⟨by omega, c1.2⟩]
        · rw [if_neg c1, if_neg (fun z => c1 ⟨by omega, z.2⟩)]

theorem p1_eq {K : Nat} (hK : 1 ≤ K) {W H Wt : Int} {m : List Int} (ok : Ok W H Wt m) (t : Int) {n : Nat} (hn : n = (W * H).toNat) : ∀ (l : List S27) (f : Nat → Int), (∀ x ∈ l, EyeOk W H x) → sight_View.p1 K W H Wt m t l ((List.range n).map f) = some ((List.range n).map (fun c => if f c < 1 ∧ vE W Wt m t c l = true then 1 else f c))
  | [], f, _ => by simp [sight_View.p1, vE]
  | x :: l, f, hl => by
    have ih := fun g => p1_eq hK ok t hn l g (fun y hy => hl y (List.mem_cons_of_mem _ hy))
    simp only [sight_View.p1, List.length_map, List.length_range]
    by_cases h : x.f0 = t
    · rw [if_pos h, show (0 : Int) = ((0 : Nat) : Int) from rfl, rse_eq (g := fun c => eB W Wt m x c) (fun c hc => ech_eq hK ok (hl x (List.mem_cons_self ..)) (by omega) (by omega)) n 0 f (by omega)]
      simp only [Option.bind_some]
      rw [ih, map_rng]
      intro c hc
      simp only [vE, List.any_cons, h, decide_true, Bool.true_and, Nat.zero_le, true_and]
      by_cases g1 : f c < 1
      · cases g2 : eB W Wt m x c
        · simp [g1]
        · simp [g1]
      · simp [g1]
    · rw [if_neg h, ih, map_rng]
      intro c hc
      simp [vE, h]

theorem jam_eq {W H Wt : Int} {m : List Int} (ok : Ok W H Wt m) (t : Int) {n : Nat} (hn : n = (W * H).toNat) {i : Nat} (hi : i < n) : ∀ (l : List S27) (f : Nat → Int), (∀ x ∈ l, EyeOk W H x) → sight_View.jam W H Wt m t (i : Int) l ((List.range n).map f) = some ((List.range n).map (fun c => if c = i ∧ vJ W t i l = true then 0 else f c))
  | [], f, _ => by simp [sight_View.jam, vJ]
  | x :: l, f, hl => by
    have ih := fun g => jam_eq ok t hn hi l g (fun y hy => hl y (List.mem_cons_of_mem _ hy))
    have e := hl x (List.mem_cons_self ..)
    have r7 := e.2.2.2.2.2.2.2
    simp only [sight_View.jam]
    by_cases h : x.f0 ≠ t ∧ 0 < x.f7
    · rw [if_pos h, near_eq ok e (by omega) (by omega) r7.1 r7.2]
      simp only [Option.bind_some, Int.toNat_natCast]
      cases g : nr W x i x.f7
      · rw [if_neg (by decide), ih, map_rng]
        intro c hc
        simp [vJ, jB, g]
      · rw [if_pos rfl, set_rng, ih, map_rng]
        intro c hc
        by_cases ci : c = i
        · simp [vJ, jB, g, h.1, h.2, ci]
        · simp [ci]
    · rw [if_neg h, ih, map_rng]
      intro c hc
      have z : (decide (x.f0 ≠ t) && jB W x i) = false := by
        unfold jB
        by_cases h1 : x.f0 = t
        · simp [h1]
        · have h2 : ¬ 0 < x.f7 := fun c => h ⟨h1, c⟩
          simp [h2]
      have e : vJ W t i (x :: l) = vJ W t i l := by unfold vJ; rw [List.any_cons, z, Bool.false_or]
      rw [e]

theorem p2_eq {W H Wt : Int} {m : List Int} (ok : Ok W H Wt m) (t : Int) {n : Nat} (hn : n = (W * H).toNat) (l : List S27) (hl : ∀ x ∈ l, EyeOk W H x) : ∀ (d i : Nat) (f : Nat → Int), i + d = n → sight_View.p2 W H Wt m t l d (i : Int) ((List.range n).map f) = some ((List.range n).map (fun c => if i ≤ c ∧ vJ W t c l = true then 0 else f c))
  | 0, i, f, hi => by
    simp only [sight_View.p2]
    rw [map_rng]
    intro c hc
    rw [if_neg (by omega)]
  | d + 1, i, f, hi => by
    simp only [sight_View.p2]
    rw [jam_eq ok t hn (by omega) l f hl, show ((i : Int) + 1) = ((i + 1 : Nat) : Int) by omega]
    simp only [Option.bind_some]
    rw [p2_eq ok t hn l hl d (i + 1) _ (by omega), map_rng]
    intro c hc
    by_cases e : c = i
    · subst e
      by_cases g : vJ W t c l = true
      · simp [g]
      · simp [g]
    · by_cases g : i ≤ c
      · have g' : i + 1 ≤ c := by omega
        simp [e, g, g']
      · have g' : ¬ i + 1 ≤ c := by omega
        simp [e, g, g']

theorem p3_eq {K : Nat} (hK : 6000 ≤ K) {W H Wt : Int} {m : List Int} (ok : Ok W H Wt m) (t : Int) {n : Nat} (hn : n = (W * H).toNat) : ∀ (l : List S27) (f : Nat → Int), (∀ x ∈ l, EyeOk W H x) → sight_View.p3 K W H Wt m t l ((List.range n).map f) = some ((List.range n).map (fun c => if f c < 2 ∧ vS W m t c l = true then 2 else f c))
  | [], f, _ => by simp [sight_View.p3, vS]
  | x :: l, f, hl => by
    have ih := fun g => p3_eq hK ok t hn l g (fun y hy => hl y (List.mem_cons_of_mem _ hy))
    simp only [sight_View.p3, List.length_map, List.length_range]
    by_cases h : x.f0 = t
    · obtain ⟨-, ⟨i0, i1⟩, ⟨j0, j1⟩, hu, hs, -⟩ := hl x (List.mem_cons_self ..)
      rw [if_pos h, rseen_eq hK ok.b, if_pos ⟨(chk_zero ok.b).2 ok, hu, by omega⟩, if_pos ⟨i0, by omega, j0, by omega⟩]
      simp only [Option.bind_some, List.length_map, List.length_range]
      rw [if_pos hn.symm, show (0 : Int) = ((0 : Nat) : Int) from rfl, rse_eq (g := fun c => sB W m x c) (fun c hc => by rw [← hn]; simp [rdOf, hc, sB]) n 0 f (by omega)]
      simp only [Option.bind_some]
      rw [ih, map_rng]
      intro c hc
      simp only [vS, List.any_cons, h, decide_true, Bool.true_and, Nat.zero_le, true_and]
      by_cases g1 : f c < 2
      · cases g2 : sB W m x c
        · simp [g1]
        · simp [g1]
      · simp [g1]
    · rw [if_neg h, ih, map_rng]
      intro c hc
      simp [vS, h]

theorem view_eq {K : Nat} (hK : 6000 ≤ K) {W H Wt : Int} {m : List Int} (hb : ∀ x ∈ m, 0 ≤ x ∧ x ≤ 255) (l : List S27) (hl : l.length ≤ 80) (t : Int) : sight_View.f K W H Wt m l t = some (if MayP W H Wt m l ∧ (0 ≤ t ∧ t ≤ 7) then ((List.range (W * H).toNat).map (fun (c : Nat) => viewB W Wt m l t c), 0) else ([], 1)) := by
  unfold sight_View.f
  rw [may_eq (by omega) hb l hl]
  simp only [Option.bind_some, decide_eq_true_eq]
  by_cases h : MayP W H Wt m l ∧ (0 ≤ t ∧ t ≤ 7)
  · have ok := (chk_zero hb).1 h.1.1
    have lz : l.length ≤ 64 := h.1.2.1
    rw [if_pos h, if_pos h, if_pos ⟨ok.w0, ok.w1, ok.h0, ok.h1, lz⟩]
    have r0 : List.replicate (W * H).toNat (0 : Int) = (List.range (W * H).toNat).map (fun _ => (0 : Int)) := by apply List.ext_getElem <;> simp
    rw [r0, p1_eq (by omega) ok t rfl l _ h.1.2.2]
    simp only [Option.bind_some, List.length_map, List.length_range]
    have e2 := p2_eq ok t rfl l h.1.2.2 (W * H).toNat 0 (fun c => if (0 : Int) < 1 ∧ vE W Wt m t c l = true then 1 else 0) (by omega)
    rw [show ((0 : Nat) : Int) = 0 from rfl] at e2
    rw [e2]
    simp only [Option.bind_some]
    rw [p3_eq hK ok t rfl l _ h.1.2.2]
    simp only [Option.bind_some]
    rw [map_rng (g := fun (c : Nat) => viewB W Wt m l t c)]
    intro c hc
    unfold viewB
    cases vS W m t c l <;> cases vJ W t c l <;> cases vE W Wt m t c l <;> simp
  · rw [if_neg h, if_neg h]

end Go.Proofs.Yteihieihoeijdaa.L
