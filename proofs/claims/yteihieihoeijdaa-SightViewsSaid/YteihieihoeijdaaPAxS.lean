/- Printed functions, merged. -/
import Derived.Test.YteihieihoeijdaaPAx0
namespace Go.Proofs.Yteihieihoeijdaa.PA
open Go.RowKit Go.Proofs.YteihieihoeijdaaW.PrintWords Go.Proofs.YteihieihoeijdaaW.PrintLast Go.Proofs.YteihieihoeijdaaW.PrintMore
attribute [local go_sem] max2_int min2_int max_two min_two max_three min_three max_four min_four   -- for this text's walks alone
set_option linter.unusedVariables false
set_option linter.unusedSimpArgs false
theorem eqA57 (d : Nat) (w : World) (x0 y0 : Int) (x1 y1 : Int) :
  (Op.equalIn (d + 2) 57 (.agg #[.int .i64 x0, .int .i64 x1]) (.agg #[.int .i64 y0, .int .i64 y1])).run Try.prog w = .ok (x0 == y0 && (x1 == y1)) w := by
 obtain ⟨i, hi⟩ : ∃ i, Try.prog.info? 3 = some i := ⟨_, rfl⟩
 rw [run_equalIn_array (i := i) _ _ _ _ Try.underlying57 hi]
 have hc : Try.prog.cellsOf 3 = 1 := by kernel_rfl
 rw [hc]
 have hu := Try.underlying3
 simp only [List.range_succ, List.range_zero, List.nil_append, List.cons_append, Op.eqItems]
 cases hb0 : x0 == y0 <;> cases hb1 : x1 == y1 <;> go_simp
/-! ### ray_high: function 38 -/
def ray_high.f (a0 : Int) : Option (Bool) := if a0 ≥ 0 then (some (decide (a0 ≤ 255))) else (some false)
set_option maxHeartbeats 8000000 in
set_option maxRecDepth 100000 in
theorem ray_high.calls (a0 : Int) (r : Bool) (w : World) (h : ray_high.f a0 = some r) :
  Calls Try.prog 38 #[.int .i64 a0] w fun e w' => e = .returned (.bool r) ∧ Drawn0 w w' := by
 have H : (if a0 ≥ 0 then (some (decide (a0 ≤ 255))) else (some false)) = some r := h
 clear h
 by_cases c2 : a0 ≥ 0
 ·
  rw [if_pos c2] at H
  have c2b0 : decide (0 ≤ a0) = true := decide_eq_true c2
  clear c2
  obtain rfl := Option.some.inj H
  go_enter Try.func38, Try.ntmps38
  go_wp2
  go_ret
  exact ⟨by first | rfl | (simp; done) | (simp [*]; done), by repeat (first | exact Drawn0.refl _ | apply Drawn0.step)⟩
 ·
  rw [if_neg c2] at H
  have c2b0 : decide (0 ≤ a0) = false := decide_eq_false c2
  clear c2
  obtain rfl := Option.some.inj H
  go_enter Try.func38, Try.ntmps38
  go_wp2
  go_ret
  exact ⟨by first | rfl | (simp; done) | (simp [*]; done), by repeat (first | exact Drawn0.refl _ | apply Drawn0.step)⟩
/-! ### ray_size: function 60 -/
def ray_size.f (a0 : Int) : Option (Int) := some (mx a0 (wrap64 (-a0)))
set_option maxHeartbeats 8000000 in
set_option maxRecDepth 100000 in
theorem ray_size.calls (a0 : Int) (r : Int) (w : World) (h : ray_size.f a0 = some r) :
  Calls Try.prog 60 #[.int .i64 a0] w fun e w' => e = .returned (.int .i64 r) ∧ Below w.heap.size w w' := by
 have HB := zA (Below.refl w.heap.size w)
 have H : (some (mx a0 (wrap64 (-a0)))) = some r := h
 clear h
 obtain ⟨ji2, hji2⟩ : ∃ j_ : Int, (mx a0 (wrap64 (-a0))) = j_ := ⟨_, rfl⟩
 replace H : (some ji2) = some r := by first | (rw [hji2] at H; exact H) | (simp only [hji2] at H ⊢; exact H)
 have hji2_ : (if a0 < (wrap64 (-a0)) then (wrap64 (-a0)) else a0) = ji2 := hji2
 obtain rfl := Option.some.inj H
 go_enter Try.func60, Try.ntmps60
 go_wp2
 go_ret
 exact ⟨by first | rfl | (simp [zU, zT] <;> rfl) | (simp only [← hji2]; first | rfl | (simp [zU, zT] <;> rfl)) | (simp [*, zU, zT] <;> rfl) | (rw [zW (by assumption)]; rfl), by repeat (first | (with_reducible first | exact HB.out | apply zF | apply zB | apply zE) | exact HB.out)⟩
/-! ### ray_inside: function 59 -/
def ray_inside.l0 : Nat → List Int → Int → Int → Option (Bool)
 | 0, _, _, _ => none
 | k + 1, x5, x6, x7 => if x7 < x6 then (if 0 ≤ x7 then (if x7 < (x5.length : Int) then (if (rd x5 x7) < 0 then (some false) else (if (rd x5 x7) ≥ 64 then (some false) else (ray_inside.l0 k x5 x6 (wrap64 (x7 + 1))))) else (none)) else (none)) else (some true)
def ray_inside.f (k : Nat) (l0 : List Int) : Option (Bool) := ray_inside.l0 k l0 (l0.length : Int) 0
theorem ray_inside.mono_l : ∀ k, (∀ y0 y1 y2, LeO (ray_inside.l0 k y0 y1 y2) (ray_inside.l0 (k + 1) y0 y1 y2))
 | 0 => fun _ _ _ r h => by simp [ray_inside.l0] at h
 | k + 1 => by
  have ih0 := ray_inside.mono_l k
  ·
   intro y0 y1 y2
   unfold ray_inside.l0
   repeat' first
   | (with_reducible exact ih0 _ _ _)
   | (with_reducible exact LeO.refl _)
   | (with_reducible exact LeO.none _)
   | (with_reducible refine LeO.ite ?_ ?_)
   | (with_reducible refine LeO.bind ?_ (fun _ => ?_))
   | exact ih0 _ _ _
   | exact LeO.none _
   | refine LeO.ite ?_ ?_
   | refine LeO.bind ?_ (fun _ => ?_)
theorem ray_inside.mono : ∀ a0 k, LeO (ray_inside.f k a0) (ray_inside.f (k + 1) a0) := by
 intro a0 k
 have ih0 := ray_inside.mono_l k
 unfold ray_inside.f
 repeat' first
   | (with_reducible exact ih0 _ _ _)
   | (with_reducible exact LeO.refl _)
   | (with_reducible exact LeO.none _)
   | (with_reducible refine LeO.ite ?_ ?_)
   | (with_reducible refine LeO.bind ?_ (fun _ => ?_))
   | exact ih0 _ _ _
   | exact LeO.none _
   | refine LeO.ite ?_ ?_
   | refine LeO.bind ?_ (fun _ => ?_)
set_option maxHeartbeats 8000000 in
set_option maxRecDepth 100000 in
theorem ray_inside.calls (k : Nat) (A0 : Option Addr) (c0 : Nat) (l0 : List Int) (r : Bool) (w : World) (hr0 : Kd.C (Kd.int .i64) w A0 l0.length l0) (hc0 : l0.length ≤ c0) (h : ray_inside.f k l0 = some r) :
  Calls Try.prog 59 #[.slice A0 l0.length c0] w fun e w' => e = .returned (.bool r) ∧ Drawn0 w w' := by
 have HR0 := zA hr0
 have HC0 := zA hc0
 clear hr0 hc0
 have H : (ray_inside.l0 k l0 (l0.length : Int) 0) = some r := h
 clear h
 have H' := zA H
 clear H
 go_enter Try.func59, Try.ntmps59
 go_wp2
 go_loopg [7] k (fun kq v7 w' => ∃ (x7_1 : Int), v7 = .int .i64 x7_1 ∧ Aside0 (ray_inside.l0 kq l0 (l0.length : Int) x7_1 = some r) ∧ Aside0 (kq ≤ k) ∧ Drawn0 w w')
 case atStart => exact ⟨(0), (by first | rfl | (simp; done) | (simp [*]; done)), H', ⟨Nat.le_refl _⟩, by repeat (first | exact Drawn0.refl _ | apply Drawn0.step)⟩
 case round =>
  clear H'
  obtain ⟨x7_1, rfl, HA, HK1, ⟨m1, rfl⟩⟩ := hrel
  cases gk with
  | zero => exact absurd HA.out (by simp [ray_inside.l0])
  | succ k1 =>
   have H := HA.out
   clear HA
   simp only [ray_inside.l0] at H
   by_cases c2 : x7_1 < (l0.length : Int)
   ·
    rw [if_pos c2] at H
    have c2b0 : decide (x7_1 < (l0.length : Int)) = true := decide_eq_true c2
    clear c2
    by_cases c3 : 0 ≤ x7_1
    ·
     rw [if_pos c3] at H
     have c3b0 : decide (0 ≤ x7_1) = true := decide_eq_true c3
     clear c3
     by_cases c4 : x7_1 < (l0.length : Int)
     ·
      rw [if_pos c4] at H
      have c4b0 : decide (x7_1 < (l0.length : Int)) = true := decide_eq_true c4
      clear c4
      by_cases c5 : (rd l0 x7_1) < 0
      ·
       rw [if_pos c5] at H
       have c5b0 : decide ((rd l0 x7_1) < 0) = true := decide_eq_true c5
       clear c5
       obtain rfl := Option.some.inj H
       have p147 : 0 ≤ (x7_1 : Int) := of_decide_eq_true (by first | (with_reducible assumption) | assumption)
       have q147 : x7_1 < (l0.length : Int) := of_decide_eq_true (by first | (with_reducible assumption) | assumption)
       obtain ⟨ad147, e147, hx147_0⟩ := Kd.at_int HR0.out x7_1 p147 q147
       cases e147
       replace p147 := eq_true p147
       replace q147 := eq_true q147
       go_wp2
       go_ret
       exact ⟨by first | rfl | (simp; done) | (simp [*]; done), by repeat (first | exact Drawn0.refl _ | apply Drawn0.step)⟩
      ·
       rw [if_neg c5] at H
       have c5b0 : decide ((rd l0 x7_1) < 0) = false := decide_eq_false c5
       clear c5
       by_cases c6 : (rd l0 x7_1) ≥ 64
       ·
        rw [if_pos c6] at H
        have c6b0 : decide (64 ≤ (rd l0 x7_1)) = true := decide_eq_true c6
        clear c6
        obtain rfl := Option.some.inj H
        have p147 : 0 ≤ (x7_1 : Int) := of_decide_eq_true (by first | (with_reducible assumption) | assumption)
        have q147 : x7_1 < (l0.length : Int) := of_decide_eq_true (by first | (with_reducible assumption) | assumption)
        obtain ⟨ad147, e147, hx147_0⟩ := Kd.at_int HR0.out x7_1 p147 q147
        cases e147
        replace p147 := eq_true p147
        replace q147 := eq_true q147
        go_wp2
        go_ret
        exact ⟨by first | rfl | (simp; done) | (simp [*]; done), by repeat (first | exact Drawn0.refl _ | apply Drawn0.step)⟩
       ·
        rw [if_neg c6] at H
        have c6b0 : decide (64 ≤ (rd l0 x7_1)) = false := decide_eq_false c6
        clear c6
        have H' := zA H
        clear H
        have p147 : 0 ≤ (x7_1 : Int) := of_decide_eq_true (by first | (with_reducible assumption) | assumption)
        have q147 : x7_1 < (l0.length : Int) := of_decide_eq_true (by first | (with_reducible assumption) | assumption)
        obtain ⟨ad147, e147, hx147_0⟩ := Kd.at_int HR0.out x7_1 p147 q147
        cases e147
        replace p147 := eq_true p147
        replace q147 := eq_true q147
        go_wp2
        go_roundg k1
        case measure => have := HK1.out; omega
        case rel => exact ⟨(wrap64 (x7_1 + 1)), (by first | rfl | (simp; done) | (simp [*]; done)), H', ⟨by have := HK1.out; omega⟩, by repeat (first | exact Drawn0.refl _ | apply Drawn0.step)⟩
     ·
      rw [if_neg c4] at H
      exact absurd H (by simp)
    ·
     rw [if_neg c3] at H
     exact absurd H (by simp)
   ·
    rw [if_neg c2] at H
    have c2b0 : decide (x7_1 < (l0.length : Int)) = false := decide_eq_false c2
    clear c2
    obtain rfl := Option.some.inj H
    go_wp2
    go_ret
    exact ⟨by first | rfl | (simp; done) | (simp [*]; done), by repeat (first | exact Drawn0.refl _ | apply Drawn0.step)⟩
/-! ### sight_within: function 20 -/
def sight_within.f (a0 : Int) (a1 : Int) : Option (Bool) := if a0 ≥ 0 then (some (decide (a0 ≤ a1))) else (some false)
set_option maxHeartbeats 8000000 in
set_option maxRecDepth 100000 in
theorem sight_within.calls (a0 : Int) (a1 : Int) (r : Bool) (w : World) (h : sight_within.f a0 a1 = some r) :
  Calls Try.prog 20 #[.int .i64 a0, .int .i64 a1] w fun e w' => e = .returned (.bool r) ∧ Drawn0 w w' := by
 have H : (if a0 ≥ 0 then (some (decide (a0 ≤ a1))) else (some false)) = some r := h
 clear h
 by_cases c3 : a0 ≥ 0
 ·
  rw [if_pos c3] at H
  have c3b0 : decide (0 ≤ a0) = true := decide_eq_true c3
  clear c3
  obtain rfl := Option.some.inj H
  go_enter Try.func20, Try.ntmps20
  go_wp2
  go_ret
  exact ⟨by first | rfl | (simp; done) | (simp [*]; done), by repeat (first | exact Drawn0.refl _ | apply Drawn0.step)⟩
 ·
  rw [if_neg c3] at H
  have c3b0 : decide (0 ≤ a0) = false := decide_eq_false c3
  clear c3
  obtain rfl := Option.some.inj H
  go_enter Try.func20, Try.ntmps20
  go_wp2
  go_ret
  exact ⟨by first | rfl | (simp; done) | (simp [*]; done), by repeat (first | exact Drawn0.refl _ | apply Drawn0.step)⟩
/-! ### sight_reach: function 41 -/
def sight_reach.l0 : Nat → List Int → Int → Int → Option (Bool)
 | 0, _, _, _ => none
 | k + 1, x5, x6, x7 => if x7 < x6 then (if 0 ≤ x7 then (if x7 < (x5.length : Int) then ((sight_within.f (rd x5 x7) 32).bind fun t181 => (if t181 = true then (sight_reach.l0 k x5 x6 (wrap64 (x7 + 1))) else (some false))) else (none)) else (none)) else (some true)
def sight_reach.f (k : Nat) (l0 : List Int) : Option (Bool) := sight_reach.l0 k l0 (l0.length : Int) 0
theorem sight_reach.mono_l : ∀ k, (∀ y0 y1 y2, LeO (sight_reach.l0 k y0 y1 y2) (sight_reach.l0 (k + 1) y0 y1 y2))
 | 0 => fun _ _ _ r h => by simp [sight_reach.l0] at h
 | k + 1 => by
  have ih0 := sight_reach.mono_l k
  ·
   intro y0 y1 y2
   unfold sight_reach.l0
   repeat' first
   | (with_reducible exact ih0 _ _ _)
   | (with_reducible exact LeO.refl _)
   | (with_reducible exact LeO.none _)
   | (with_reducible refine LeO.ite ?_ ?_)
   | (with_reducible refine LeO.bind ?_ (fun _ => ?_))
   | exact ih0 _ _ _
   | exact LeO.none _
   | refine LeO.ite ?_ ?_
   | refine LeO.bind ?_ (fun _ => ?_)
theorem sight_reach.mono : ∀ a0 k, LeO (sight_reach.f k a0) (sight_reach.f (k + 1) a0) := by
 intro a0 k
 have ih0 := sight_reach.mono_l k
 unfold sight_reach.f
 repeat' first
   | (with_reducible exact ih0 _ _ _)
   | (with_reducible exact LeO.refl _)
   | (with_reducible exact LeO.none _)
   | (with_reducible refine LeO.ite ?_ ?_)
   | (with_reducible refine LeO.bind ?_ (fun _ => ?_))
   | exact ih0 _ _ _
   | exact LeO.none _
   | refine LeO.ite ?_ ?_
   | refine LeO.bind ?_ (fun _ => ?_)
set_option maxHeartbeats 8000000 in
set_option maxRecDepth 100000 in
theorem sight_reach.calls (k : Nat) (A0 : Option Addr) (c0 : Nat) (l0 : List Int) (r : Bool) (w : World) (hr0 : Kd.C (Kd.int .i64) w A0 l0.length l0) (hc0 : l0.length ≤ c0) (h : sight_reach.f k l0 = some r) :
  Calls Try.prog 41 #[.slice A0 l0.length c0] w fun e w' => e = .returned (.bool r) ∧ Drawn0 w w' := by
 have HR0 := zA hr0
 have HC0 := zA hc0
 clear hr0 hc0
 have H : (sight_reach.l0 k l0 (l0.length : Int) 0) = some r := h
 clear h
 have H' := zA H
 clear H
 go_enter Try.func41, Try.ntmps41
 go_wp2
 go_loopg [7] k (fun kq v7 w' => ∃ (x7_1 : Int), v7 = .int .i64 x7_1 ∧ Aside0 (sight_reach.l0 kq l0 (l0.length : Int) x7_1 = some r) ∧ Aside0 (kq ≤ k) ∧ Drawn0 w w')
 case atStart => exact ⟨(0), (by first | rfl | (simp; done) | (simp [*]; done)), H', ⟨Nat.le_refl _⟩, by repeat (first | exact Drawn0.refl _ | apply Drawn0.step)⟩
 case round =>
  clear H'
  obtain ⟨x7_1, rfl, HA, HK1, ⟨m1, rfl⟩⟩ := hrel
  cases gk with
  | zero => exact absurd HA.out (by simp [sight_reach.l0])
  | succ k1 =>
   have H := HA.out
   clear HA
   simp only [sight_reach.l0] at H
   by_cases c2 : x7_1 < (l0.length : Int)
   ·
    rw [if_pos c2] at H
    have c2b0 : decide (x7_1 < (l0.length : Int)) = true := decide_eq_true c2
    clear c2
    by_cases c3 : 0 ≤ x7_1
    ·
     rw [if_pos c3] at H
     have c3b0 : decide (0 ≤ x7_1) = true := decide_eq_true c3
     clear c3
     by_cases c4 : x7_1 < (l0.length : Int)
     ·
      rw [if_pos c4] at H
      have c4b0 : decide (x7_1 < (l0.length : Int)) = true := decide_eq_true c4
      clear c4
      replace H := Option.bind_eq_some_iff.mp H
      obtain ⟨t181, A50, H⟩ := H
      replace H : (if t181 = true then (sight_reach.l0 k1 l0 (l0.length : Int) (wrap64 (x7_1 + 1))) else (some false)) = some r := H
      have A5 := zA A50
      clear A50
      by_cases c6 : t181 = true
      ·
       subst c6
       have H1 : (sight_reach.l0 k1 l0 (l0.length : Int) (wrap64 (x7_1 + 1))) = some r := by rw [if_pos rfl] at H; exact H
       clear H
       have H := H1
       clear H1
       have H' := zA H
       clear H
       have p180 : 0 ≤ (x7_1 : Int) := of_decide_eq_true (by first | (with_reducible assumption) | assumption)
       have q180 : x7_1 < (l0.length : Int) := of_decide_eq_true (by first | (with_reducible assumption) | assumption)
       obtain ⟨ad180, e180, hx180_0⟩ := Kd.at_int HR0.out x7_1 p180 q180
       cases e180
       replace p180 := eq_true p180
       replace q180 := eq_true q180
       go_wp2_with (first | ((with_reducible refine gate_callee (f := 20) rfl ?_); refine goesL_ (some 12) rfl rfl Try.func20 (by kernel_rfl) rfl #[.int .i64 (rd l0 x7_1), .int .i64 32] rfl (by (try simp only [List.map_toArray, List.map_cons, List.map_nil]); first | done | rfl | (simp only [List.length_drop, List.length_take]; rfl)) ?_; (with_reducible refine (sight_within.calls (rd l0 x7_1) 32 true _ A5.out).mono ?_); rintro e w' ⟨rfl, ⟨nd, rfl⟩⟩; refine ⟨_, rfl, ?_⟩))
       go_roundg k1
       case measure => have := HK1.out; omega
       case rel => exact ⟨(wrap64 (x7_1 + 1)), (by first | rfl | (simp; done) | (simp [*]; done)), H', ⟨by have := HK1.out; omega⟩, by repeat (first | exact Drawn0.refl _ | apply Drawn0.step)⟩
      ·
       replace c6 := Bool.eq_false_iff.mpr c6
       subst c6
       have H1 : (some false) = some r := by rw [if_neg (show ¬ (false = true) by decide)] at H; exact H
       clear H
       have H := H1
       clear H1
       obtain rfl := Option.some.inj H
       have p180 : 0 ≤ (x7_1 : Int) := of_decide_eq_true (by first | (with_reducible assumption) | assumption)
       have q180 : x7_1 < (l0.length : Int) := of_decide_eq_true (by first | (with_reducible assumption) | assumption)
       obtain ⟨ad180, e180, hx180_0⟩ := Kd.at_int HR0.out x7_1 p180 q180
       cases e180
       replace p180 := eq_true p180
       replace q180 := eq_true q180
       go_wp2_with (first | ((with_reducible refine gate_callee (f := 20) rfl ?_); refine goesL_ (some 12) rfl rfl Try.func20 (by kernel_rfl) rfl #[.int .i64 (rd l0 x7_1), .int .i64 32] rfl (by (try simp only [List.map_toArray, List.map_cons, List.map_nil]); first | done | rfl | (simp only [List.length_drop, List.length_take]; rfl)) ?_; (with_reducible refine (sight_within.calls (rd l0 x7_1) 32 false _ A5.out).mono ?_); rintro e w' ⟨rfl, ⟨nd, rfl⟩⟩; refine ⟨_, rfl, ?_⟩))
       go_ret
       exact ⟨by first | rfl | (simp; done) | (simp [*]; done), by repeat (first | exact Drawn0.refl _ | apply Drawn0.step)⟩
     ·
      rw [if_neg c4] at H
      exact absurd H (by simp)
    ·
     rw [if_neg c3] at H
     exact absurd H (by simp)
   ·
    rw [if_neg c2] at H
    have c2b0 : decide (x7_1 < (l0.length : Int)) = false := decide_eq_false c2
    clear c2
    obtain rfl := Option.some.inj H
    go_wp2
    go_ret
    exact ⟨by first | rfl | (simp; done) | (simp [*]; done), by repeat (first | exact Drawn0.refl _ | apply Drawn0.step)⟩
/-! ### bivouacref21_in: function 28 -/
def bivouacref21_in.f (a0 : Int) (a1 : Int) : Option (Bool) := if 0 ≤ a0 then (some (decide (a0 ≤ a1))) else (some false)
set_option maxHeartbeats 8000000 in
set_option maxRecDepth 100000 in
theorem bivouacref21_in.calls (a0 : Int) (a1 : Int) (r : Bool) (w : World) (h : bivouacref21_in.f a0 a1 = some r) :
  Calls Try.prog 28 #[.int .i64 a0, .int .i64 a1] w fun e w' => e = .returned (.bool r) ∧ Drawn0 w w' := by
 have H : (if 0 ≤ a0 then (some (decide (a0 ≤ a1))) else (some false)) = some r := h
 clear h
 by_cases c3 : 0 ≤ a0
 ·
  rw [if_pos c3] at H
  have c3b0 : decide (0 ≤ a0) = true := decide_eq_true c3
  clear c3
  obtain rfl := Option.some.inj H
  go_enter Try.func28, Try.ntmps28
  go_wp2
  go_ret
  exact ⟨by first | rfl | (simp; done) | (simp [*]; done), by repeat (first | exact Drawn0.refl _ | apply Drawn0.step)⟩
 ·
  rw [if_neg c3] at H
  have c3b0 : decide (0 ≤ a0) = false := decide_eq_false c3
  clear c3
  obtain rfl := Option.some.inj H
  go_enter Try.func28, Try.ntmps28
  go_wp2
  go_ret
  exact ⟨by first | rfl | (simp; done) | (simp [*]; done), by repeat (first | exact Drawn0.refl _ | apply Drawn0.step)⟩
/-! ### bivouacref21_Near: function 31 -/
def bivouacref21_Near.f (a0_0 : Int) (a0_1 : Int) (a0_2 : Int) (a0_3 : Int) (a0_4 : Int) (a0_5 : Int) (a0_6 : Int) (a0_7 : Int) (a1 : Int) (a2 : Int) (a3 : Int) : Option (Bool) := some (decide ((wrap64 ((wrap64 ((wrap64 (a1 - a0_1)) * (wrap64 (a1 - a0_1)))) + (wrap64 ((wrap64 (a2 - a0_2)) * (wrap64 (a2 - a0_2)))))) ≤ (wrap64 (a3 * a3))))
set_option maxHeartbeats 8000000 in
set_option maxRecDepth 100000 in
theorem bivouacref21_Near.calls (a0_0 : Int) (a0_1 : Int) (a0_2 : Int) (a0_3 : Int) (a0_4 : Int) (a0_5 : Int) (a0_6 : Int) (a0_7 : Int) (a1 : Int) (a2 : Int) (a3 : Int) (r : Bool) (w : World) (h : bivouacref21_Near.f a0_0 a0_1 a0_2 a0_3 a0_4 a0_5 a0_6 a0_7 a1 a2 a3 = some r) :
  Calls Try.prog 31 #[.agg #[.int .i64 a0_0, .int .i64 a0_1, .int .i64 a0_2, .int .i64 a0_3, .int .i64 a0_4, .int .i64 a0_5, .int .i64 a0_6, .int .i64 a0_7], .int .i64 a1, .int .i64 a2, .int .i64 a3] w fun e w' => e = .returned (.bool r) ∧ Below w.heap.size w w' := by
 have hu27 := Try.underlying27
 have HB := zA (Below.refl w.heap.size w)
 have H : (some (decide ((wrap64 ((wrap64 ((wrap64 (a1 - a0_1)) * (wrap64 (a1 - a0_1)))) + (wrap64 ((wrap64 (a2 - a0_2)) * (wrap64 (a2 - a0_2)))))) ≤ (wrap64 (a3 * a3))))) = some r := h
 clear h
 obtain rfl := Option.some.inj H
 go_enter Try.func31, Try.ntmps31
 go_wp2_with (first | ((with_reducible refine gate_dst (N := 4) rfl ?_); refine box_event ?hg (N := 4) ?hd (cs := #[.int .i64 a0_0, .int .i64 a0_1, .int .i64 a0_2, .int .i64 a0_3, .int .i64 a0_4, .int .i64 a0_5, .int .i64 a0_6, .int .i64 a0_7]) (t := 27) ?hr ?_; (case hd => rfl); (case hg => rfl); (case hr => first | (go_simp; done) | (go_simp; rfl)); intro gb256 hg w5 hbox hb; have n0_ := zA (zJ (by repeat (first | (with_reducible first | exact HB.out | apply zF | apply zB | apply zE) | exact HB.out)) hb); have n1_ := zA (hbox); have n2_ := zA ((by rw [hg]; exact (zK (by repeat (first | (with_reducible first | exact HB.out | apply zF | apply zB | apply zE) | exact HB.out))) : w.heap.size ≤ gb256)); have n3_ := zA ((by rw [hg]; exact (zK (by repeat (first | (with_reducible first | exact HB.out | apply zF | apply zB | apply zE) | exact HB.out))) : w.heap.size ≤ gb256)); clear HB; have HB := n0_; have BK256 := n1_; have GW256 := n2_; have GE256 := n3_; clear n0_ n1_ n2_ n3_; clear hb hbox hg; have hcz6_0 : w5.cell? ⟨gb256, 0, none⟩ = some (.int .i64 a0_0) := (zD BK256.out 0).trans rfl; have hcz6_1 : w5.cell? ⟨gb256, 1, none⟩ = some (.int .i64 a0_1) := (zD BK256.out 1).trans rfl; have hcz6_2 : w5.cell? ⟨gb256, 2, none⟩ = some (.int .i64 a0_2) := (zD BK256.out 2).trans rfl; have hcz6_3 : w5.cell? ⟨gb256, 3, none⟩ = some (.int .i64 a0_3) := (zD BK256.out 3).trans rfl; have hcz6_4 : w5.cell? ⟨gb256, 4, none⟩ = some (.int .i64 a0_4) := (zD BK256.out 4).trans rfl; have hcz6_5 : w5.cell? ⟨gb256, 5, none⟩ = some (.int .i64 a0_5) := (zD BK256.out 5).trans rfl; have hcz6_6 : w5.cell? ⟨gb256, 6, none⟩ = some (.int .i64 a0_6) := (zD BK256.out 6).trans rfl; have hcz6_7 : w5.cell? ⟨gb256, 7, none⟩ = some (.int .i64 a0_7) := (zD BK256.out 7).trans rfl; have hfz6_0 := zG BK256.out 0; have hfz6_1 := zG BK256.out 1; have hfz6_2 := zG BK256.out 2; have hfz6_3 := zG BK256.out 3; have hfz6_4 := zG BK256.out 4; have hfz6_5 := zG BK256.out 5; have hfz6_6 := zG BK256.out 6; have hfz6_7 := zG BK256.out 7))
 go_ret
 exact ⟨by first | rfl | (simp [zU, zT] <;> rfl) | (simp [*, zU, zT] <;> rfl) | (rw [zW (by assumption)]; rfl), by repeat (first | (with_reducible first | exact HB.out | apply zF | apply zB | apply zE | refine zC ?_ GE256.out) | exact HB.out)⟩

/-! ### bivouacref06_Corner: function 55 -/
def bivouacref06_Corner.f (a0_0 : Int) (a0_1 : Int) (a0_2 : Int) (l0_3 : List Int) (a1 : Int) (a2 : Int) : Option (Int) := if 0 ≤ (wrap64 ((wrap64 ((wrap64 (a0_0 + 1)) * a2)) + a1)) then (if (wrap64 ((wrap64 ((wrap64 (a0_0 + 1)) * a2)) + a1)) < (l0_3.length : Int) then (some (wrap64 (rd l0_3 (wrap64 ((wrap64 ((wrap64 (a0_0 + 1)) * a2)) + a1))))) else (none)) else (none)
set_option maxHeartbeats 8000000 in
set_option maxRecDepth 100000 in
theorem bivouacref06_Corner.calls (a0_0 : Int) (a0_1 : Int) (a0_2 : Int) (A0_3 : Option Addr) (c0_3 : Nat) (l0_3 : List Int) (a1 : Int) (a2 : Int) (r : Int) (w : World) (hr0_3 : Kd.C (Kd.int .u8) w A0_3 l0_3.length l0_3) (hc0_3 : l0_3.length ≤ c0_3) (h : bivouacref06_Corner.f a0_0 a0_1 a0_2 l0_3 a1 a2 = some r) :
  Calls Try.prog 55 #[.agg #[.int .i64 a0_0, .int .i64 a0_1, .int .i64 a0_2, .slice A0_3 l0_3.length c0_3], .int .i64 a1, .int .i64 a2] w fun e w' => e = .returned (.int .i64 r) ∧ Below w.heap.size w w' := by
 have hu24 := Try.underlying24
 have HR0_3 := zA hr0_3
 have HC0_3 := zA hc0_3
 clear hr0_3 hc0_3
 have HB := zA (Below.refl w.heap.size w)
 have H : (if 0 ≤ (wrap64 ((wrap64 ((wrap64 (a0_0 + 1)) * a2)) + a1)) then (if (wrap64 ((wrap64 ((wrap64 (a0_0 + 1)) * a2)) + a1)) < (l0_3.length : Int) then (some (wrap64 (rd l0_3 (wrap64 ((wrap64 ((wrap64 (a0_0 + 1)) * a2)) + a1))))) else (none)) else (none)) = some r := h
 clear h
 obtain ⟨ji4, hji4⟩ : ∃ j_ : Int, (wrap64 ((wrap64 ((wrap64 (a0_0 + 1)) * a2)) + a1)) = j_ := ⟨_, rfl⟩
 replace H : (if 0 ≤ (ji4) then (if (ji4) < (l0_3.length : Int) then (some (wrap64 (rd l0_3 (ji4)))) else (none)) else (none)) = some r := by first | (rw [hji4] at H; exact H) | (simp only [hji4] at H ⊢; exact H)
 have hji4w : (IntKind.i64.wrap ((wrap64 ((wrap64 (a0_0 + 1)) * a2)) + a1)) = ji4 := (i64_w _).trans hji4
 by_cases c5 : 0 ≤ (ji4)
 ·
  rw [if_pos c5] at H
  have c5b0 : decide (0 ≤ (ji4)) = true := decide_eq_true c5
  clear c5
  by_cases c6 : (ji4) < (l0_3.length : Int)
  ·
   rw [if_pos c6] at H
   have c6b0 : decide ((ji4) < (l0_3.length : Int)) = true := decide_eq_true c6
   clear c6
   obtain rfl := Option.some.inj H
   go_enter Try.func55, Try.ntmps55
   go_wp2_with (first | ((with_reducible refine gate_dst (N := 3) rfl ?_); refine box_event ?hg (N := 3) ?hd (cs := #[.int .i64 a0_0, .int .i64 a0_1, .int .i64 a0_2, .slice A0_3 l0_3.length c0_3]) (t := 24) ?hr ?_; (case hd => rfl); (case hg => rfl); (case hr => first | (go_simp; done) | (go_simp; rfl)); intro gb257 hg w7 hbox hb; have n0_ := zA (zJ (by repeat (first | (with_reducible first | exact HB.out | apply zF | apply zB | apply zE) | exact HB.out)) hb); have n1_ := zA (hbox); have n2_ := zA ((by rw [hg]; exact (zK (by repeat (first | (with_reducible first | exact HB.out | apply zF | apply zB | apply zE) | exact HB.out))) : w.heap.size ≤ gb257)); have n3_ := zA ((by rw [hg]; exact (zK (by repeat (first | (with_reducible first | exact HB.out | apply zF | apply zB | apply zE) | exact HB.out))) : w.heap.size ≤ gb257)); clear HB; have HB := n0_; have BK257 := n1_; have GW257 := n2_; have GE257 := n3_; clear n0_ n1_ n2_ n3_; clear hb hbox hg; have hcz8_0 : w7.cell? ⟨gb257, 0, none⟩ = some (.int .i64 a0_0) := (zD BK257.out 0).trans rfl; have hcz8_1 : w7.cell? ⟨gb257, 1, none⟩ = some (.int .i64 a0_1) := (zD BK257.out 1).trans rfl; have hcz8_2 : w7.cell? ⟨gb257, 2, none⟩ = some (.int .i64 a0_2) := (zD BK257.out 2).trans rfl; have hcz8_3 : w7.cell? ⟨gb257, 3, none⟩ = some (.slice A0_3 l0_3.length c0_3) := (zD BK257.out 3).trans rfl; have hfz8_0 := zG BK257.out 0; have hfz8_1 := zG BK257.out 1; have hfz8_2 := zG BK257.out 2; have hfz8_3 := zG BK257.out 3; have p258 : 0 ≤ ((ji4) : Int) := of_decide_eq_true (by first | (with_reducible assumption) | assumption); have q258 : (ji4) < (l0_3.length : Int) := of_decide_eq_true (by first | (with_reducible assumption) | assumption); obtain ⟨ad258, e258, hx258_0⟩ := Kd.at_int HR0_3.out (ji4) p258 q258; cases e258; replace hx258_0 := (HB.out.cell (zH w _ hx258_0)).trans hx258_0; replace p258 := eq_true p258; replace q258 := eq_true q258))
   go_ret
   exact ⟨by first | rfl | (simp [zU, zT] <;> rfl) | (simp only [← hji4]; first | rfl | (simp [zU, zT] <;> rfl)) | (simp [*, zU, zT] <;> rfl) | (rw [zW (by assumption)]; rfl), by repeat (first | (with_reducible first | exact HB.out | apply zF | apply zB | apply zE | refine zC ?_ GE257.out) | exact HB.out)⟩
  ·
   rw [if_neg c6] at H
   exact absurd H (by simp)
 ·
  rw [if_neg c5] at H
  exact absurd H (by simp)
/-! ### bivouacref06_Ends: function 43 -/
def bivouacref06_Ends.l0 : Nat → Int → Int → Int → Int → Int → Int → Int → Int → List Int → Option (Int × Int)
 | 0, _, _, _, _, _, _, _, _, _ => none
 | k + 1, x1, x2, x8, x9, x10, x260000, x260001, x260002, x260003 => if x10 < 4 then ((bivouacref06_Corner.f x260000 x260001 x260002 x260003 (wrap64 (x1 + (Int.tmod x10 2))) (wrap64 (x2 + (wrap64 (Int.tdiv x10 2))))).bind fun t260 => (if t260 < x8 then (if t260 > x9 then (bivouacref06_Ends.l0 k x1 x2 t260 t260 (wrap64 (x10 + 1)) x260000 x260001 x260002 x260003) else (bivouacref06_Ends.l0 k x1 x2 t260 x9 (wrap64 (x10 + 1)) x260000 x260001 x260002 x260003)) else (if t260 > x9 then (bivouacref06_Ends.l0 k x1 x2 x8 t260 (wrap64 (x10 + 1)) x260000 x260001 x260002 x260003) else (bivouacref06_Ends.l0 k x1 x2 x8 x9 (wrap64 (x10 + 1)) x260000 x260001 x260002 x260003)))) else (some (x8, x9))
def bivouacref06_Ends.f (k : Nat) (a0_0 : Int) (a0_1 : Int) (a0_2 : Int) (l0_3 : List Int) (a1 : Int) (a2 : Int) : Option (Int × Int) := bivouacref06_Ends.l0 k a1 a2 255 0 0 a0_0 a0_1 a0_2 l0_3
theorem bivouacref06_Ends.mono_l : ∀ k, (∀ y0 y1 y2 y3 y4 y5 y6 y7 y8, LeO (bivouacref06_Ends.l0 k y0 y1 y2 y3 y4 y5 y6 y7 y8) (bivouacref06_Ends.l0 (k + 1) y0 y1 y2 y3 y4 y5 y6 y7 y8))
 | 0 => fun _ _ _ _ _ _ _ _ _ r h => by simp [bivouacref06_Ends.l0] at h
 | k + 1 => by
  have ih0 := bivouacref06_Ends.mono_l k
  ·
   intro y0 y1 y2 y3 y4 y5 y6 y7 y8
   unfold bivouacref06_Ends.l0
   repeat' first
   | (with_reducible exact ih0 _ _ _ _ _ _ _ _ _)
   | (with_reducible exact LeO.refl _)
   | (with_reducible exact LeO.none _)
   | (with_reducible refine LeO.ite ?_ ?_)
   | (with_reducible refine LeO.bind ?_ (fun _ => ?_))
   | exact ih0 _ _ _ _ _ _ _ _ _
   | exact LeO.none _
   | refine LeO.ite ?_ ?_
   | refine LeO.bind ?_ (fun _ => ?_)
theorem bivouacref06_Ends.mono : ∀ a0 a1 a2 a3 a4 a5 k, LeO (bivouacref06_Ends.f k a0 a1 a2 a3 a4 a5) (bivouacref06_Ends.f (k + 1) a0 a1 a2 a3 a4 a5) := by
 intro a0 a1 a2 a3 a4 a5 k
 have ih0 := bivouacref06_Ends.mono_l k
 unfold bivouacref06_Ends.f
 repeat' first
   | (with_reducible exact ih0 _ _ _ _ _ _ _ _ _)
   | (with_reducible exact LeO.refl _)
   | (with_reducible exact LeO.none _)
   | (with_reducible refine LeO.ite ?_ ?_)
   | (with_reducible refine LeO.bind ?_ (fun _ => ?_))
   | exact ih0 _ _ _ _ _ _ _ _ _
   | exact LeO.none _
   | refine LeO.ite ?_ ?_
   | refine LeO.bind ?_ (fun _ => ?_)
set_option maxHeartbeats 8000000 in
set_option maxRecDepth 100000 in
theorem bivouacref06_Ends.calls (k : Nat) (a0_0 : Int) (a0_1 : Int) (a0_2 : Int) (A0_3 : Option Addr) (c0_3 : Nat) (l0_3 : List Int) (a1 : Int) (a2 : Int) (r1 : Int) (r2 : Int) (w : World) (hr0_3 : Kd.C (Kd.int .u8) w A0_3 l0_3.length l0_3) (hc0_3 : l0_3.length ≤ c0_3) (h : bivouacref06_Ends.f k a0_0 a0_1 a0_2 l0_3 a1 a2 = some (r1, r2)) :
  Calls Try.prog 43 #[.agg #[.int .i64 a0_0, .int .i64 a0_1, .int .i64 a0_2, .slice A0_3 l0_3.length c0_3], .int .i64 a1, .int .i64 a2] w fun e w' => e = .returned (.tuple #[.int .i64 r1, .int .i64 r2]) ∧ Below w.heap.size w w' := by
 have hu24 := Try.underlying24
 have HR0_3 := zA hr0_3
 have HC0_3 := zA hc0_3
 clear hr0_3 hc0_3
 have HB := zA (Below.refl w.heap.size w)
 have H : (bivouacref06_Ends.l0 k a1 a2 255 0 0 a0_0 a0_1 a0_2 l0_3) = some (r1, r2) := h
 clear h
 have H' := zA H
 clear H
 go_enter Try.func43, Try.ntmps43
 go_wp2_with (first | ((with_reducible refine gate_dst (N := 3) rfl ?_); refine box_event ?hg (N := 3) ?hd (cs := #[.int .i64 a0_0, .int .i64 a0_1, .int .i64 a0_2, .slice A0_3 l0_3.length c0_3]) (t := 24) ?hr ?_; (case hd => rfl); (case hg => rfl); (case hr => first | (go_simp; done) | (go_simp; rfl)); intro gb259 hg w4 hbox hb; have n0_ := zA (zJ (by repeat (first | (with_reducible first | exact HB.out | apply zF | apply zB | apply zE) | exact HB.out)) hb); have n1_ := zA (hbox); have n2_ := zA ((by rw [hg]; exact (zK (by repeat (first | (with_reducible first | exact HB.out | apply zF | apply zB | apply zE) | exact HB.out))) : w.heap.size ≤ gb259)); have n3_ := zA ((by rw [hg]; exact (zK (by repeat (first | (with_reducible first | exact HB.out | apply zF | apply zB | apply zE) | exact HB.out))) : w.heap.size ≤ gb259)); clear HB; have HB := n0_; have BK259 := n1_; have GW259 := n2_; have GE259 := n3_; clear n0_ n1_ n2_ n3_; clear hb hbox hg))
 go_loopg [8, 9, 10] k (fun kq v8 v9 v10 w' => ∃ (x8_1 : Int) (x9_1 : Int) (x10_1 : Int), v8 = .int .i64 x8_1 ∧ v9 = .int .i64 x9_1 ∧ v10 = .int .i64 x10_1 ∧ Aside0 (bivouacref06_Ends.l0 kq a1 a2 x8_1 x9_1 x10_1 a0_0 a0_1 a0_2 l0_3 = some (r1, r2)) ∧ Aside0 (kq ≤ k) ∧ Aside0 (w'.heap[gb259]? = some (.cells #[.int .i64 a0_0, .int .i64 a0_1, .int .i64 a0_2, (.slice A0_3 l0_3.length c0_3)] 24 (0, 0))) ∧ Aside0 (Below w.heap.size w w'))
 case atStart => exact ⟨(255), (0), (0), (by first | rfl | (simp; done) | (simp [*]; done)), (by first | rfl | (simp; done) | (simp [*]; done)), (by first | rfl | (simp; done) | (simp [*]; done)), H', ⟨Nat.le_refl _⟩, ⟨by (with_reducible repeat (first | refine zN ?_ _ | refine zO ?_ | refine zM ?_ _)); exact BK259.out⟩, ⟨by repeat (first | (with_reducible first | exact HB.out | apply zF | apply zB | apply zE | refine zC ?_ GE259.out) | exact HB.out)⟩⟩
 case round =>
  clear H'
  try clear p2
  try clear c4
  obtain ⟨x8_1, x9_1, x10_1, rfl, rfl, rfl, HA, HK1, BK259, HB⟩ := hrel
  cases gk with
  | zero => exact absurd HA.out (by simp [bivouacref06_Ends.l0])
  | succ k1 =>
   have H := HA.out
   clear HA
   simp only [bivouacref06_Ends.l0] at H
   by_cases c5 : x10_1 < 4
   ·
    rw [if_pos c5] at H
    have c5b0 : decide (x10_1 < 4) = true := decide_eq_true c5
    clear c5
    replace H := Option.bind_eq_some_iff.mp H
    obtain ⟨t260, A60, H⟩ := H
    replace H : (if t260 < x8_1 then (if t260 > x9_1 then (bivouacref06_Ends.l0 k1 a1 a2 t260 t260 (wrap64 (x10_1 + 1)) a0_0 a0_1 a0_2 l0_3) else (bivouacref06_Ends.l0 k1 a1 a2 t260 x9_1 (wrap64 (x10_1 + 1)) a0_0 a0_1 a0_2 l0_3)) else (if t260 > x9_1 then (bivouacref06_Ends.l0 k1 a1 a2 x8_1 t260 (wrap64 (x10_1 + 1)) a0_0 a0_1 a0_2 l0_3) else (bivouacref06_Ends.l0 k1 a1 a2 x8_1 x9_1 (wrap64 (x10_1 + 1)) a0_0 a0_1 a0_2 l0_3))) = some (r1, r2) := H
    have A6 := zA A60
    clear A60
    by_cases c7 : t260 < x8_1
    ·
     rw [if_pos c7] at H
     have c7b0 : decide (t260 < x8_1) = true := decide_eq_true c7
     clear c7
     by_cases c8 : t260 > x9_1
     ·
      rw [if_pos c8] at H
      have c8b0 : decide (x9_1 < t260) = true := decide_eq_true c8
      clear c8
      have H' := zA H
      clear H
      have hcz9_0 : wr.cell? ⟨gb259, 0, none⟩ = some (.int .i64 a0_0) := (zD BK259.out 0).trans rfl
      have hcz9_1 : wr.cell? ⟨gb259, 1, none⟩ = some (.int .i64 a0_1) := (zD BK259.out 1).trans rfl
      have hcz9_2 : wr.cell? ⟨gb259, 2, none⟩ = some (.int .i64 a0_2) := (zD BK259.out 2).trans rfl
      have hcz9_3 : wr.cell? ⟨gb259, 3, none⟩ = some (.slice A0_3 l0_3.length c0_3) := (zD BK259.out 3).trans rfl
      have hfz9_0 := zG BK259.out 0
      have hfz9_1 := zG BK259.out 1
      have hfz9_2 := zG BK259.out 2
      have hfz9_3 := zG BK259.out 3
      go_wp2_with (first | ((with_reducible refine gate_callee (f := 55) rfl ?_); refine goesL_ (some 25) rfl rfl Try.func55 (by kernel_rfl) rfl #[.agg #[.int .i64 a0_0, .int .i64 a0_1, .int .i64 a0_2, .slice A0_3 l0_3.length c0_3], .int .i64 (wrap64 (a1 + (Int.tmod x10_1 2))), .int .i64 (wrap64 (a2 + (wrap64 (Int.tdiv x10_1 2))))] rfl (by (try simp only [List.map_toArray, List.map_cons, List.map_nil]); first | done | rfl | (simp only [List.length_drop, List.length_take]; rfl)) ?_; (with_reducible refine (bivouacref06_Corner.calls a0_0 a0_1 a0_2 _ _ l0_3 (wrap64 (a1 + (Int.tmod x10_1 2))) (wrap64 (a2 + (wrap64 (Int.tdiv x10_1 2)))) t260 _ ?side1 ?side2 A6.out).mono ?_); (case side1 => repeat (first | exact (Kd.C_below HR0_3.out HB.out) | (with_reducible refine Kd.C_alloc ?_ _) | (with_reducible refine Kd.C_drewN ?_ _) | (with_reducible refine Kd.C_drew ?_))); (case side2 => exact HC0_3.out); rintro e w10 ⟨rfl, hb⟩; refine ⟨_, rfl, ?_⟩; have n0_ := zA (zI (g := gb259) (o := .cells #[.int .i64 a0_0, .int .i64 a0_1, .int .i64 a0_2, .slice A0_3 l0_3.length c0_3] 24 (0, 0)) (by (with_reducible repeat (first | refine zN ?_ _ | refine zO ?_ | refine zM ?_ _)); exact BK259.out) hb); have n1_ := zA (zJ (by repeat (first | (with_reducible first | exact HB.out | apply zF | apply zB | apply zE | refine zC ?_ GE259.out) | exact HB.out)) hb); clear BK259; clear HB; have BK259 := n0_; have HB := n1_; clear n0_ n1_; (try clear hb); (try clear hb2); (try clear hk); (try clear hi)))
      go_roundg k1
      case measure => have := HK1.out; omega
      case rel => exact ⟨(t260), (t260), (wrap64 (x10_1 + 1)), (by first | rfl | (simp; done) | (simp [*]; done)), (by first | rfl | (simp; done) | (simp [*]; done)), (by first | rfl | (simp; done) | (simp [*]; done)), H', ⟨by have := HK1.out; omega⟩, ⟨by (with_reducible repeat (first | refine zN ?_ _ | refine zO ?_ | refine zM ?_ _)); exact BK259.out⟩, ⟨by repeat (first | (with_reducible first | exact HB.out | apply zF | apply zB | apply zE | refine zC ?_ GE259.out) | exact HB.out)⟩⟩
     ·
      rw [if_neg c8] at H
      have c8b0 : decide (x9_1 < t260) = false := decide_eq_false c8
      clear c8
      have H' := zA H
      clear H
      have hcz11_0 : wr.cell? ⟨gb259, 0, none⟩ = some (.int .i64 a0_0) := (zD BK259.out 0).trans rfl
      have hcz11_1 : wr.cell? ⟨gb259, 1, none⟩ = some (.int .i64 a0_1) := (zD BK259.out 1).trans rfl
      have hcz11_2 : wr.cell? ⟨gb259, 2, none⟩ = some (.int .i64 a0_2) := (zD BK259.out 2).trans rfl
      have hcz11_3 : wr.cell? ⟨gb259, 3, none⟩ = some (.slice A0_3 l0_3.length c0_3) := (zD BK259.out 3).trans rfl
      have hfz11_0 := zG BK259.out 0
      have hfz11_1 := zG BK259.out 1
      have hfz11_2 := zG BK259.out 2
      have hfz11_3 := zG BK259.out 3
      go_wp2_with (first | ((with_reducible refine gate_callee (f := 55) rfl ?_); refine goesL_ (some 25) rfl rfl Try.func55 (by kernel_rfl) rfl #[.agg #[.int .i64 a0_0, .int .i64 a0_1, .int .i64 a0_2, .slice A0_3 l0_3.length c0_3], .int .i64 (wrap64 (a1 + (Int.tmod x10_1 2))), .int .i64 (wrap64 (a2 + (wrap64 (Int.tdiv x10_1 2))))] rfl (by (try simp only [List.map_toArray, List.map_cons, List.map_nil]); first | done | rfl | (simp only [List.length_drop, List.length_take]; rfl)) ?_; (with_reducible refine (bivouacref06_Corner.calls a0_0 a0_1 a0_2 _ _ l0_3 (wrap64 (a1 + (Int.tmod x10_1 2))) (wrap64 (a2 + (wrap64 (Int.tdiv x10_1 2)))) t260 _ ?side1 ?side2 A6.out).mono ?_); (case side1 => repeat (first | exact (Kd.C_below HR0_3.out HB.out) | (with_reducible refine Kd.C_alloc ?_ _) | (with_reducible refine Kd.C_drewN ?_ _) | (with_reducible refine Kd.C_drew ?_))); (case side2 => exact HC0_3.out); rintro e w12 ⟨rfl, hb⟩; refine ⟨_, rfl, ?_⟩; have n0_ := zA (zI (g := gb259) (o := .cells #[.int .i64 a0_0, .int .i64 a0_1, .int .i64 a0_2, .slice A0_3 l0_3.length c0_3] 24 (0, 0)) (by (with_reducible repeat (first | refine zN ?_ _ | refine zO ?_ | refine zM ?_ _)); exact BK259.out) hb); have n1_ := zA (zJ (by repeat (first | (with_reducible first | exact HB.out | apply zF | apply zB | apply zE | refine zC ?_ GE259.out) | exact HB.out)) hb); clear BK259; clear HB; have BK259 := n0_; have HB := n1_; clear n0_ n1_; (try clear hb); (try clear hb2); (try clear hk); (try clear hi)))
      go_roundg k1
      case measure => have := HK1.out; omega
      case rel => exact ⟨(t260), (x9_1), (wrap64 (x10_1 + 1)), (by first | rfl | (simp; done) | (simp [*]; done)), (by first | rfl | (simp; done) | (simp [*]; done)), (by first | rfl | (simp; done) | (simp [*]; done)), H', ⟨by have := HK1.out; omega⟩, ⟨by (with_reducible repeat (first | refine zN ?_ _ | refine zO ?_ | refine zM ?_ _)); exact BK259.out⟩, ⟨by repeat (first | (with_reducible first | exact HB.out | apply zF | apply zB | apply zE | refine zC ?_ GE259.out) | exact HB.out)⟩⟩
    ·
     rw [if_neg c7] at H
     have c7b0 : decide (t260 < x8_1) = false := decide_eq_false c7
     clear c7
     by_cases c13 : t260 > x9_1
     ·
      rw [if_pos c13] at H
      have c13b0 : decide (x9_1 < t260) = true := decide_eq_true c13
      clear c13
      have H' := zA H
      clear H
      have hcz14_0 : wr.cell? ⟨gb259, 0, none⟩ = some (.int .i64 a0_0) := (zD BK259.out 0).trans rfl
      have hcz14_1 : wr.cell? ⟨gb259, 1, none⟩ = some (.int .i64 a0_1) := (zD BK259.out 1).trans rfl
      have hcz14_2 : wr.cell? ⟨gb259, 2, none⟩ = some (.int .i64 a0_2) := (zD BK259.out 2).trans rfl
      have hcz14_3 : wr.cell? ⟨gb259, 3, none⟩ = some (.slice A0_3 l0_3.length c0_3) := (zD BK259.out 3).trans rfl
      have hfz14_0 := zG BK259.out 0
      have hfz14_1 := zG BK259.out 1
      have hfz14_2 := zG BK259.out 2
      have hfz14_3 := zG BK259.out 3
      go_wp2_with (first | ((with_reducible refine gate_callee (f := 55) rfl ?_); refine goesL_ (some 25) rfl rfl Try.func55 (by kernel_rfl) rfl #[.agg #[.int .i64 a0_0, .int .i64 a0_1, .int .i64 a0_2, .slice A0_3 l0_3.length c0_3], .int .i64 (wrap64 (a1 + (Int.tmod x10_1 2))), .int .i64 (wrap64 (a2 + (wrap64 (Int.tdiv x10_1 2))))] rfl (by (try simp only [List.map_toArray, List.map_cons, List.map_nil]); first | done | rfl | (simp only [List.length_drop, List.length_take]; rfl)) ?_; (with_reducible refine (bivouacref06_Corner.calls a0_0 a0_1 a0_2 _ _ l0_3 (wrap64 (a1 + (Int.tmod x10_1 2))) (wrap64 (a2 + (wrap64 (Int.tdiv x10_1 2)))) t260 _ ?side1 ?side2 A6.out).mono ?_); (case side1 => repeat (first | exact (Kd.C_below HR0_3.out HB.out) | (with_reducible refine Kd.C_alloc ?_ _) | (with_reducible refine Kd.C_drewN ?_ _) | (with_reducible refine Kd.C_drew ?_))); (case side2 => exact HC0_3.out); rintro e w15 ⟨rfl, hb⟩; refine ⟨_, rfl, ?_⟩; have n0_ := zA (zI (g := gb259) (o := .cells #[.int .i64 a0_0, .int .i64 a0_1, .int .i64 a0_2, .slice A0_3 l0_3.length c0_3] 24 (0, 0)) (by (with_reducible repeat (first | refine zN ?_ _ | refine zO ?_ | refine zM ?_ _)); exact BK259.out) hb); have n1_ := zA (zJ (by repeat (first | (with_reducible first | exact HB.out | apply zF | apply zB | apply zE | refine zC ?_ GE259.out) | exact HB.out)) hb); clear BK259; clear HB; have BK259 := n0_; have HB := n1_; clear n0_ n1_; (try clear hb); (try clear hb2); (try clear hk); (try clear hi)))
      go_roundg k1
      case measure => have := HK1.out; omega
      case rel => exact ⟨(x8_1), (t260), (wrap64 (x10_1 + 1)), (by first | rfl | (simp; done) | (simp [*]; done)), (by first | rfl | (simp; done) | (simp [*]; done)), (by first | rfl | (simp; done) | (simp [*]; done)), H', ⟨by have := HK1.out; omega⟩, ⟨by (with_reducible repeat (first | refine zN ?_ _ | refine zO ?_ | refine zM ?_ _)); exact BK259.out⟩, ⟨by repeat (first | (with_reducible first | exact HB.out | apply zF | apply zB | apply zE | refine zC ?_ GE259.out) | exact HB.out)⟩⟩
     ·
      rw [if_neg c13] at H
      have c13b0 : decide (x9_1 < t260) = false := decide_eq_false c13
      clear c13
      have H' := zA H
      clear H
      have hcz16_0 : wr.cell? ⟨gb259, 0, none⟩ = some (.int .i64 a0_0) := (zD BK259.out 0).trans rfl
      have hcz16_1 : wr.cell? ⟨gb259, 1, none⟩ = some (.int .i64 a0_1) := (zD BK259.out 1).trans rfl
      have hcz16_2 : wr.cell? ⟨gb259, 2, none⟩ = some (.int .i64 a0_2) := (zD BK259.out 2).trans rfl
      have hcz16_3 : wr.cell? ⟨gb259, 3, none⟩ = some (.slice A0_3 l0_3.length c0_3) := (zD BK259.out 3).trans rfl
      have hfz16_0 := zG BK259.out 0
      have hfz16_1 := zG BK259.out 1
      have hfz16_2 := zG BK259.out 2
      have hfz16_3 := zG BK259.out 3
      go_wp2_with (first | ((with_reducible refine gate_callee (f := 55) rfl ?_); refine goesL_ (some 25) rfl rfl Try.func55 (by kernel_rfl) rfl #[.agg #[.int .i64 a0_0, .int .i64 a0_1, .int .i64 a0_2, .slice A0_3 l0_3.length c0_3], .int .i64 (wrap64 (a1 + (Int.tmod x10_1 2))), .int .i64 (wrap64 (a2 + (wrap64 (Int.tdiv x10_1 2))))] rfl (by (try simp only [List.map_toArray, List.map_cons, List.map_nil]); first | done | rfl | (simp only [List.length_drop, List.length_take]; rfl)) ?_; (with_reducible refine (bivouacref06_Corner.calls a0_0 a0_1 a0_2 _ _ l0_3 (wrap64 (a1 + (Int.tmod x10_1 2))) (wrap64 (a2 + (wrap64 (Int.tdiv x10_1 2)))) t260 _ ?side1 ?side2 A6.out).mono ?_); (case side1 => repeat (first | exact (Kd.C_below HR0_3.out HB.out) | (with_reducible refine Kd.C_alloc ?_ _) | (with_reducible refine Kd.C_drewN ?_ _) | (with_reducible refine Kd.C_drew ?_))); (case side2 => exact HC0_3.out); rintro e w17 ⟨rfl, hb⟩; refine ⟨_, rfl, ?_⟩; have n0_ := zA (zI (g := gb259) (o := .cells #[.int .i64 a0_0, .int .i64 a0_1, .int .i64 a0_2, .slice A0_3 l0_3.length c0_3] 24 (0, 0)) (by (with_reducible repeat (first | refine zN ?_ _ | refine zO ?_ | refine zM ?_ _)); exact BK259.out) hb); have n1_ := zA (zJ (by repeat (first | (with_reducible first | exact HB.out | apply zF | apply zB | apply zE | refine zC ?_ GE259.out) | exact HB.out)) hb); clear BK259; clear HB; have BK259 := n0_; have HB := n1_; clear n0_ n1_; (try clear hb); (try clear hb2); (try clear hk); (try clear hi)))
      go_roundg k1
      case measure => have := HK1.out; omega
      case rel => exact ⟨(x8_1), (x9_1), (wrap64 (x10_1 + 1)), (by first | rfl | (simp; done) | (simp [*]; done)), (by first | rfl | (simp; done) | (simp [*]; done)), (by first | rfl | (simp; done) | (simp [*]; done)), H', ⟨by have := HK1.out; omega⟩, ⟨by (with_reducible repeat (first | refine zN ?_ _ | refine zO ?_ | refine zM ?_ _)); exact BK259.out⟩, ⟨by repeat (first | (with_reducible first | exact HB.out | apply zF | apply zB | apply zE | refine zC ?_ GE259.out) | exact HB.out)⟩⟩
   ·
    rw [if_neg c5] at H
    have c5b0 : decide (x10_1 < 4) = false := decide_eq_false c5
    clear c5
    simp only [Option.some.injEq, Prod.mk.injEq] at H
    obtain ⟨rfl, rfl⟩ := H
    go_wp2
    go_ret2
    exact ⟨by first | rfl | (simp [zU, zT] <;> rfl) | (simp [*, zU, zT] <;> rfl) | (rw [zW (by assumption)]; rfl), by repeat (first | (with_reducible first | exact HB.out | apply zF | apply zB | apply zE | refine zC ?_ GE259.out) | exact HB.out)⟩
/-! ### bivouacref08_abs: function 61 -/
def bivouacref08_abs.f (a0 : Int) : Option (Int) := if a0 < 0 then (some (wrap64 (-a0))) else (some a0)
set_option maxHeartbeats 8000000 in
set_option maxRecDepth 100000 in
theorem bivouacref08_abs.calls (a0 : Int) (r : Int) (w : World) (h : bivouacref08_abs.f a0 = some r) :
  Calls Try.prog 61 #[.int .i64 a0] w fun e w' => e = .returned (.int .i64 r) ∧ Drawn0 w w' := by
 have H : (if a0 < 0 then (some (wrap64 (-a0))) else (some a0)) = some r := h
 clear h
 by_cases c2 : a0 < 0
 ·
  rw [if_pos c2] at H
  have c2b0 : decide (a0 < 0) = true := decide_eq_true c2
  clear c2
  obtain rfl := Option.some.inj H
  go_enter Try.func61, Try.ntmps61
  go_wp2
  go_ret
  exact ⟨by first | rfl | (simp; done) | (simp [*]; done), by repeat (first | exact Drawn0.refl _ | apply Drawn0.step)⟩
 ·
  rw [if_neg c2] at H
  have c2b0 : decide (a0 < 0) = false := decide_eq_false c2
  clear c2
  obtain rfl := Option.some.inj H
  go_enter Try.func61, Try.ntmps61
  go_wp2
  go_ret
  exact ⟨by first | rfl | (simp; done) | (simp [*]; done), by repeat (first | exact Drawn0.refl _ | apply Drawn0.step)⟩

/-! ### bivouacref08_Long: function 53 -/
def bivouacref08_Long.f (a0 : Int) (a1 : Int) (a2 : Int) (a3 : Int) : Option (Int) := (bivouacref08_abs.f (wrap64 (a2 - a0))).bind fun t261 => ((bivouacref08_abs.f (wrap64 (a3 - a1))).bind fun t262 => (if t261 > t262 then ((bivouacref08_abs.f (wrap64 (a2 - a0))).bind fun t263 => (some t263)) else ((bivouacref08_abs.f (wrap64 (a3 - a1))).bind fun t264 => (some t264))))
set_option maxHeartbeats 8000000 in
set_option maxRecDepth 100000 in
theorem bivouacref08_Long.calls (a0 : Int) (a1 : Int) (a2 : Int) (a3 : Int) (r : Int) (w : World) (h : bivouacref08_Long.f a0 a1 a2 a3 = some r) :
  Calls Try.prog 53 #[.int .i64 a0, .int .i64 a1, .int .i64 a2, .int .i64 a3] w fun e w' => e = .returned (.int .i64 r) ∧ Drawn0 w w' := by
 have H : ((bivouacref08_abs.f (wrap64 (a2 - a0))).bind fun t261 => ((bivouacref08_abs.f (wrap64 (a3 - a1))).bind fun t262 => (if t261 > t262 then ((bivouacref08_abs.f (wrap64 (a2 - a0))).bind fun t263 => (some t263)) else ((bivouacref08_abs.f (wrap64 (a3 - a1))).bind fun t264 => (some t264))))) = some r := h
 clear h
 replace H := Option.bind_eq_some_iff.mp H
 obtain ⟨t261, A50, H⟩ := H
 replace H : ((bivouacref08_abs.f (wrap64 (a3 - a1))).bind fun t262 => (if t261 > t262 then ((bivouacref08_abs.f (wrap64 (a2 - a0))).bind fun t263 => (some t263)) else ((bivouacref08_abs.f (wrap64 (a3 - a1))).bind fun t264 => (some t264)))) = some r := H
 have A5 := zA A50
 clear A50
 replace H := Option.bind_eq_some_iff.mp H
 obtain ⟨t262, A60, H⟩ := H
 replace H : (if t261 > t262 then ((bivouacref08_abs.f (wrap64 (a2 - a0))).bind fun t263 => (some t263)) else ((bivouacref08_abs.f (wrap64 (a3 - a1))).bind fun t264 => (some t264))) = some r := H
 have A6 := zA A60
 clear A60
 by_cases c7 : t261 > t262
 ·
  rw [if_pos c7] at H
  have c7b0 : decide (t262 < t261) = true := decide_eq_true c7
  clear c7
  replace H := Option.bind_eq_some_iff.mp H
  obtain ⟨t263, A80, H⟩ := H
  replace H : (some t263) = some r := H
  have A8 := zA A80
  clear A80
  obtain rfl := Option.some.inj H
  go_enter Try.func53, Try.ntmps53
  go_wp2_with (first | ((with_reducible refine gate_callee (f := 61) rfl ?_); refine goesL_ (some 12) rfl rfl Try.func61 (by kernel_rfl) rfl #[.int .i64 (wrap64 (a2 - a0))] rfl (by (try simp only [List.map_toArray, List.map_cons, List.map_nil]); first | done | rfl | (simp only [List.length_drop, List.length_take]; rfl)) ?_; (with_reducible refine (bivouacref08_abs.calls (wrap64 (a2 - a0)) t261 _ A5.out).mono ?_); rintro e w' ⟨rfl, ⟨nd, rfl⟩⟩; refine ⟨_, rfl, ?_⟩) | ((with_reducible refine gate_callee (f := 61) rfl ?_); refine goesL_ (some 16) rfl rfl Try.func61 (by kernel_rfl) rfl #[.int .i64 (wrap64 (a3 - a1))] rfl (by (try simp only [List.map_toArray, List.map_cons, List.map_nil]); first | done | rfl | (simp only [List.length_drop, List.length_take]; rfl)) ?_; (with_reducible refine (bivouacref08_abs.calls (wrap64 (a3 - a1)) t262 _ A6.out).mono ?_); rintro e w' ⟨rfl, ⟨nd, rfl⟩⟩; refine ⟨_, rfl, ?_⟩) | ((with_reducible refine gate_callee (f := 61) rfl ?_); refine goesL_ (some 21) rfl rfl Try.func61 (by kernel_rfl) rfl #[.int .i64 (wrap64 (a2 - a0))] rfl (by (try simp only [List.map_toArray, List.map_cons, List.map_nil]); first | done | rfl | (simp only [List.length_drop, List.length_take]; rfl)) ?_; (with_reducible refine (bivouacref08_abs.calls (wrap64 (a2 - a0)) t263 _ A8.out).mono ?_); rintro e w' ⟨rfl, ⟨nd, rfl⟩⟩; refine ⟨_, rfl, ?_⟩))
  go_ret
  exact ⟨by first | rfl | (simp; done) | (simp [*]; done), by repeat (first | exact Drawn0.refl _ | apply Drawn0.step)⟩
 ·
  rw [if_neg c7] at H
  have c7b0 : decide (t262 < t261) = false := decide_eq_false c7
  clear c7
  replace H := Option.bind_eq_some_iff.mp H
  obtain ⟨t264, A90, H⟩ := H
  replace H : (some t264) = some r := H
  have A9 := zA A90
  clear A90
  obtain rfl := Option.some.inj H
  go_enter Try.func53, Try.ntmps53
  go_wp2_with (first | ((with_reducible refine gate_callee (f := 61) rfl ?_); refine goesL_ (some 12) rfl rfl Try.func61 (by kernel_rfl) rfl #[.int .i64 (wrap64 (a2 - a0))] rfl (by (try simp only [List.map_toArray, List.map_cons, List.map_nil]); first | done | rfl | (simp only [List.length_drop, List.length_take]; rfl)) ?_; (with_reducible refine (bivouacref08_abs.calls (wrap64 (a2 - a0)) t261 _ A5.out).mono ?_); rintro e w' ⟨rfl, ⟨nd, rfl⟩⟩; refine ⟨_, rfl, ?_⟩) | ((with_reducible refine gate_callee (f := 61) rfl ?_); refine goesL_ (some 16) rfl rfl Try.func61 (by kernel_rfl) rfl #[.int .i64 (wrap64 (a3 - a1))] rfl (by (try simp only [List.map_toArray, List.map_cons, List.map_nil]); first | done | rfl | (simp only [List.length_drop, List.length_take]; rfl)) ?_; (with_reducible refine (bivouacref08_abs.calls (wrap64 (a3 - a1)) t262 _ A6.out).mono ?_); rintro e w' ⟨rfl, ⟨nd, rfl⟩⟩; refine ⟨_, rfl, ?_⟩) | ((with_reducible refine gate_callee (f := 61) rfl ?_); refine goesL_ (some 25) rfl rfl Try.func61 (by kernel_rfl) rfl #[.int .i64 (wrap64 (a3 - a1))] rfl (by (try simp only [List.map_toArray, List.map_cons, List.map_nil]); first | done | rfl | (simp only [List.length_drop, List.length_take]; rfl)) ?_; (with_reducible refine (bivouacref08_abs.calls (wrap64 (a3 - a1)) t264 _ A9.out).mono ?_); rintro e w' ⟨rfl, ⟨nd, rfl⟩⟩; refine ⟨_, rfl, ?_⟩))
  go_ret
  exact ⟨by first | rfl | (simp; done) | (simp [*]; done), by repeat (first | exact Drawn0.refl _ | apply Drawn0.step)⟩
/-! ### bivouacref08_floor: function 62 -/
def bivouacref08_floor.f (a0 : Int) (a1 : Int) : Option (Int) := if a1 = 0 then (none) else (if (wrap64 ((wrap64 (Int.tdiv a0 a1)) * a1)) > a0 then (some (wrap64 ((wrap64 (Int.tdiv a0 a1)) - 1))) else (some (wrap64 (Int.tdiv a0 a1))))
set_option maxHeartbeats 8000000 in
set_option maxRecDepth 100000 in
theorem bivouacref08_floor.calls (a0 : Int) (a1 : Int) (r : Int) (w : World) (h : bivouacref08_floor.f a0 a1 = some r) :
  Calls Try.prog 62 #[.int .i64 a0, .int .i64 a1] w fun e w' => e = .returned (.int .i64 r) ∧ Drawn0 w w' := by
 have H : (if a1 = 0 then (none) else (if (wrap64 ((wrap64 (Int.tdiv a0 a1)) * a1)) > a0 then (some (wrap64 ((wrap64 (Int.tdiv a0 a1)) - 1))) else (some (wrap64 (Int.tdiv a0 a1))))) = some r := h
 clear h
 by_cases c3 : a1 = 0
 ·
  rw [if_pos c3] at H
  exact absurd H (by simp)
 ·
  rw [if_neg c3] at H
  have c3b0 : (a1 == 0) = false := beq_eq_false_iff_ne.mpr c3
  have c3b1 : (a1 != 0) = true := bne_iff_ne.mpr c3
  by_cases c4 : (wrap64 ((wrap64 (Int.tdiv a0 a1)) * a1)) > a0
  ·
   rw [if_pos c4] at H
   have c4b0 : decide (a0 < (wrap64 ((wrap64 (Int.tdiv a0 a1)) * a1))) = true := decide_eq_true c4
   clear c4
   obtain rfl := Option.some.inj H
   go_enter Try.func62, Try.ntmps62
   go_wp2
   go_ret
   exact ⟨by first | rfl | (simp; done) | (simp [*]; done), by repeat (first | exact Drawn0.refl _ | apply Drawn0.step)⟩
  ·
   rw [if_neg c4] at H
   have c4b0 : decide (a0 < (wrap64 ((wrap64 (Int.tdiv a0 a1)) * a1))) = false := decide_eq_false c4
   clear c4
   obtain rfl := Option.some.inj H
   go_enter Try.func62, Try.ntmps62
   go_wp2
   go_ret
   exact ⟨by first | rfl | (simp; done) | (simp [*]; done), by repeat (first | exact Drawn0.refl _ | apply Drawn0.step)⟩

/-! ### bivouacref08_Cell: function 54 -/
def bivouacref08_Cell.f (a0 : Int) (a1 : Int) (a2 : Int) (a3 : Int) (a4 : Int) : Option (Int × Int) := (bivouacref08_Long.f a0 a1 a2 a3).bind fun t265 => (if t265 = 0 then (some (a0, a1)) else ((bivouacref08_floor.f (wrap64 ((wrap64 ((wrap64 (2 * a4)) * (wrap64 (a2 - a0)))) + t265)) (wrap64 (2 * t265))).bind fun t266 => ((bivouacref08_floor.f (wrap64 ((wrap64 ((wrap64 (2 * a4)) * (wrap64 (a3 - a1)))) + t265)) (wrap64 (2 * t265))).bind fun t267 => (some (wrap64 (a0 + t266), wrap64 (a1 + t267))))))
set_option maxHeartbeats 8000000 in
set_option maxRecDepth 100000 in
theorem bivouacref08_Cell.calls (a0 : Int) (a1 : Int) (a2 : Int) (a3 : Int) (a4 : Int) (r1 : Int) (r2 : Int) (w : World) (h : bivouacref08_Cell.f a0 a1 a2 a3 a4 = some (r1, r2)) :
  Calls Try.prog 54 #[.int .i64 a0, .int .i64 a1, .int .i64 a2, .int .i64 a3, .int .i64 a4] w fun e w' => e = .returned (.tuple #[.int .i64 r1, .int .i64 r2]) ∧ Drawn0 w w' := by
 have H : ((bivouacref08_Long.f a0 a1 a2 a3).bind fun t265 => (if t265 = 0 then (some (a0, a1)) else ((bivouacref08_floor.f (wrap64 ((wrap64 ((wrap64 (2 * a4)) * (wrap64 (a2 - a0)))) + t265)) (wrap64 (2 * t265))).bind fun t266 => ((bivouacref08_floor.f (wrap64 ((wrap64 ((wrap64 (2 * a4)) * (wrap64 (a3 - a1)))) + t265)) (wrap64 (2 * t265))).bind fun t267 => (some (wrap64 (a0 + t266), wrap64 (a1 + t267))))))) = some (r1, r2) := h
 clear h
 replace H := Option.bind_eq_some_iff.mp H
 obtain ⟨t265, A60, H⟩ := H
 replace H : (if t265 = 0 then (some (a0, a1)) else ((bivouacref08_floor.f (wrap64 ((wrap64 ((wrap64 (2 * a4)) * (wrap64 (a2 - a0)))) + t265)) (wrap64 (2 * t265))).bind fun t266 => ((bivouacref08_floor.f (wrap64 ((wrap64 ((wrap64 (2 * a4)) * (wrap64 (a3 - a1)))) + t265)) (wrap64 (2 * t265))).bind fun t267 => (some (wrap64 (a0 + t266), wrap64 (a1 + t267)))))) = some (r1, r2) := H
 have A6 := zA A60
 clear A60
 by_cases c7 : t265 = 0
 ·
  rw [if_pos c7] at H
  have c7b0 : (t265 == 0) = true := beq_iff_eq.mpr c7
  have c7b1 : (t265 != 0) = false := bne_eq_false_iff_eq.mpr c7
  clear c7
  simp only [Option.some.injEq, Prod.mk.injEq] at H
  obtain ⟨rfl, rfl⟩ := H
  go_enter Try.func54, Try.ntmps54
  go_wp2_with (first | ((with_reducible refine gate_callee (f := 53) rfl ?_); refine goesL_ (some 17) rfl rfl Try.func53 (by kernel_rfl) rfl #[.int .i64 a0, .int .i64 a1, .int .i64 a2, .int .i64 a3] rfl (by (try simp only [List.map_toArray, List.map_cons, List.map_nil]); first | done | rfl | (simp only [List.length_drop, List.length_take]; rfl)) ?_; (with_reducible refine (bivouacref08_Long.calls a0 a1 a2 a3 t265 _ A6.out).mono ?_); rintro e w' ⟨rfl, ⟨nd, rfl⟩⟩; refine ⟨_, rfl, ?_⟩))
  go_ret2
  exact ⟨by first | rfl | (simp; done) | (simp [*]; done), by repeat (first | exact Drawn0.refl _ | apply Drawn0.step)⟩
 ·
  rw [if_neg c7] at H
  have c7b0 : (t265 == 0) = false := beq_eq_false_iff_ne.mpr c7
  have c7b1 : (t265 != 0) = true := bne_iff_ne.mpr c7
  replace H := Option.bind_eq_some_iff.mp H
  obtain ⟨t266, A80, H⟩ := H
  replace H : ((bivouacref08_floor.f (wrap64 ((wrap64 ((wrap64 (2 * a4)) * (wrap64 (a3 - a1)))) + t265)) (wrap64 (2 * t265))).bind fun t267 => (some (wrap64 (a0 + t266), wrap64 (a1 + t267)))) = some (r1, r2) := H
  have A8 := zA A80
  clear A80
  replace H := Option.bind_eq_some_iff.mp H
  obtain ⟨t267, A90, H⟩ := H
  replace H : (some (wrap64 (a0 + t266), wrap64 (a1 + t267))) = some (r1, r2) := H
  have A9 := zA A90
  clear A90
  simp only [Option.some.injEq, Prod.mk.injEq] at H
  obtain ⟨rfl, rfl⟩ := H
  go_enter Try.func54, Try.ntmps54
  go_wp2_with (first | ((with_reducible refine gate_callee (f := 53) rfl ?_); refine goesL_ (some 17) rfl rfl Try.func53 (by kernel_rfl) rfl #[.int .i64 a0, .int .i64 a1, .int .i64 a2, .int .i64 a3] rfl (by (try simp only [List.map_toArray, List.map_cons, List.map_nil]); first | done | rfl | (simp only [List.length_drop, List.length_take]; rfl)) ?_; (with_reducible refine (bivouacref08_Long.calls a0 a1 a2 a3 t265 _ A6.out).mono ?_); rintro e w' ⟨rfl, ⟨nd, rfl⟩⟩; refine ⟨_, rfl, ?_⟩) | ((with_reducible refine gate_callee (f := 62) rfl ?_); refine goesL_ (some 33) rfl rfl Try.func62 (by kernel_rfl) rfl #[.int .i64 (wrap64 ((wrap64 ((wrap64 (2 * a4)) * (wrap64 (a2 - a0)))) + t265)), .int .i64 (wrap64 (2 * t265))] rfl (by (try simp only [List.map_toArray, List.map_cons, List.map_nil]); first | done | rfl | (simp only [List.length_drop, List.length_take]; rfl)) ?_; (with_reducible refine (bivouacref08_floor.calls (wrap64 ((wrap64 ((wrap64 (2 * a4)) * (wrap64 (a2 - a0)))) + t265)) (wrap64 (2 * t265)) t266 _ A8.out).mono ?_); rintro e w' ⟨rfl, ⟨nd, rfl⟩⟩; refine ⟨_, rfl, ?_⟩) | ((with_reducible refine gate_callee (f := 62) rfl ?_); refine goesL_ (some 46) rfl rfl Try.func62 (by kernel_rfl) rfl #[.int .i64 (wrap64 ((wrap64 ((wrap64 (2 * a4)) * (wrap64 (a3 - a1)))) + t265)), .int .i64 (wrap64 (2 * t265))] rfl (by (try simp only [List.map_toArray, List.map_cons, List.map_nil]); first | done | rfl | (simp only [List.length_drop, List.length_take]; rfl)) ?_; (with_reducible refine (bivouacref08_floor.calls (wrap64 ((wrap64 ((wrap64 (2 * a4)) * (wrap64 (a3 - a1)))) + t265)) (wrap64 (2 * t265)) t267 _ A9.out).mono ?_); rintro e w' ⟨rfl, ⟨nd, rfl⟩⟩; refine ⟨_, rfl, ?_⟩))
  go_ret2
  exact ⟨by first | rfl | (simp; done) | (simp [*]; done), by repeat (first | exact Drawn0.refl _ | apply Drawn0.step)⟩
/-! ### bivouacref08_Sees: function 42 -/
def bivouacref08_Sees.l0 : Nat → Int → Int → Int → Int → Int → Int → Int → Int → Int → Int → Int → Int → Int → List Int → Option (Bool)
 | 0, _, _, _, _, _, _, _, _, _, _, _, _, _, _ => none
 | k + 1, x1, x2, x3, x4, x5, x6, x15, x16, x18, x20, x269000, x269001, x269002, x269003 => if x20 < x15 then ((bivouacref08_Cell.f x1 x2 x3 x4 x20).bind fun bt274 => ((bivouacref06_Ends.f k x269000 x269001 x269002 x269003 bt274.1 bt274.2).bind fun bt276 => (if (wrap64 (bt276.2 * x15)) > (wrap64 ((wrap64 ((wrap64 (x16 + x5)) * (wrap64 (x15 - x20)))) + (wrap64 ((wrap64 (x18 + x6)) * x20)))) then (some false) else (bivouacref08_Sees.l0 k x1 x2 x3 x4 x5 x6 x15 x16 x18 (wrap64 (x20 + 1)) x269000 x269001 x269002 x269003)))) else (some true)
def bivouacref08_Sees.f (k : Nat) (a0_0 : Int) (a0_1 : Int) (a0_2 : Int) (l0_3 : List Int) (a1 : Int) (a2 : Int) (a3 : Int) (a4 : Int) (a5 : Int) (a6 : Int) : Option (Bool) := (bivouacref08_Long.f a1 a2 a3 a4).bind fun t269 => ((bivouacref06_Ends.f k a0_0 a0_1 a0_2 l0_3 a1 a2).bind fun bt270 => ((bivouacref06_Ends.f k a0_0 a0_1 a0_2 l0_3 a3 a4).bind fun bt272 => (bivouacref08_Sees.l0 k a1 a2 a3 a4 a5 a6 t269 bt270.1 bt272.1 1 a0_0 a0_1 a0_2 l0_3)))
theorem bivouacref08_Sees.mono_l : ∀ k, (∀ y0 y1 y2 y3 y4 y5 y6 y7 y8 y9 y10 y11 y12 y13, LeO (bivouacref08_Sees.l0 k y0 y1 y2 y3 y4 y5 y6 y7 y8 y9 y10 y11 y12 y13) (bivouacref08_Sees.l0 (k + 1) y0 y1 y2 y3 y4 y5 y6 y7 y8 y9 y10 y11 y12 y13))
 | 0 => fun _ _ _ _ _ _ _ _ _ _ _ _ _ _ r h => by simp [bivouacref08_Sees.l0] at h
 | k + 1 => by
  have ih0 := bivouacref08_Sees.mono_l k
  ·
   intro y0 y1 y2 y3 y4 y5 y6 y7 y8 y9 y10 y11 y12 y13
   unfold bivouacref08_Sees.l0
   repeat' first
   | (with_reducible exact ih0 _ _ _ _ _ _ _ _ _ _ _ _ _ _)
   | (with_reducible exact bivouacref06_Ends.mono _ _ _ _ _ _ _)
   | (with_reducible exact LeO.refl _)
   | (with_reducible exact LeO.none _)
   | (with_reducible refine LeO.ite ?_ ?_)
   | (with_reducible refine LeO.bind ?_ (fun _ => ?_))
   | exact ih0 _ _ _ _ _ _ _ _ _ _ _ _ _ _
   | exact bivouacref06_Ends.mono _ _ _ _ _ _ _
   | exact LeO.none _
   | refine LeO.ite ?_ ?_
   | refine LeO.bind ?_ (fun _ => ?_)
theorem bivouacref08_Sees.mono : ∀ a0 a1 a2 a3 a4 a5 a6 a7 a8 a9 k, LeO (bivouacref08_Sees.f k a0 a1 a2 a3 a4 a5 a6 a7 a8 a9) (bivouacref08_Sees.f (k + 1) a0 a1 a2 a3 a4 a5 a6 a7 a8 a9) := by
 intro a0 a1 a2 a3 a4 a5 a6 a7 a8 a9 k
 have ih0 := bivouacref08_Sees.mono_l k
 unfold bivouacref08_Sees.f
 repeat' first
   | (with_reducible exact ih0 _ _ _ _ _ _ _ _ _ _ _ _ _ _)
   | (with_reducible exact bivouacref06_Ends.mono _ _ _ _ _ _ _)
   | (with_reducible exact LeO.refl _)
   | (with_reducible exact LeO.none _)
   | (with_reducible refine LeO.ite ?_ ?_)
   | (with_reducible refine LeO.bind ?_ (fun _ => ?_))
   | exact ih0 _ _ _ _ _ _ _ _ _ _ _ _ _ _
   | exact bivouacref06_Ends.mono _ _ _ _ _ _ _
   | exact LeO.none _
   | refine LeO.ite ?_ ?_
   | refine LeO.bind ?_ (fun _ => ?_)
set_option maxHeartbeats 8000000 in
set_option maxRecDepth 100000 in
theorem bivouacref08_Sees.calls (k : Nat) (a0_0 : Int) (a0_1 : Int) (a0_2 : Int) (A0_3 : Option Addr) (c0_3 : Nat) (l0_3 : List Int) (a1 : Int) (a2 : Int) (a3 : Int) (a4 : Int) (a5 : Int) (a6 : Int) (r : Bool) (w : World) (hr0_3 : Kd.C (Kd.int .u8) w A0_3 l0_3.length l0_3) (hc0_3 : l0_3.length ≤ c0_3) (h : bivouacref08_Sees.f k a0_0 a0_1 a0_2 l0_3 a1 a2 a3 a4 a5 a6 = some r) :
  Calls Try.prog 42 #[.agg #[.int .i64 a0_0, .int .i64 a0_1, .int .i64 a0_2, .slice A0_3 l0_3.length c0_3], .int .i64 a1, .int .i64 a2, .int .i64 a3, .int .i64 a4, .int .i64 a5, .int .i64 a6] w fun e w' => e = .returned (.bool r) ∧ Below w.heap.size w w' := by
 have hu24 := Try.underlying24
 have HR0_3 := zA hr0_3
 have HC0_3 := zA hc0_3
 clear hr0_3 hc0_3
 have HB := zA (Below.refl w.heap.size w)
 have H : ((bivouacref08_Long.f a1 a2 a3 a4).bind fun t269 => ((bivouacref06_Ends.f k a0_0 a0_1 a0_2 l0_3 a1 a2).bind fun bt270 => ((bivouacref06_Ends.f k a0_0 a0_1 a0_2 l0_3 a3 a4).bind fun bt272 => (bivouacref08_Sees.l0 k a1 a2 a3 a4 a5 a6 t269 bt270.1 bt272.1 1 a0_0 a0_1 a0_2 l0_3)))) = some r := h
 clear h
 replace H := Option.bind_eq_some_iff.mp H
 obtain ⟨t269, A80, H⟩ := H
 replace H : ((bivouacref06_Ends.f k a0_0 a0_1 a0_2 l0_3 a1 a2).bind fun bt270 => ((bivouacref06_Ends.f k a0_0 a0_1 a0_2 l0_3 a3 a4).bind fun bt272 => (bivouacref08_Sees.l0 k a1 a2 a3 a4 a5 a6 t269 bt270.1 bt272.1 1 a0_0 a0_1 a0_2 l0_3))) = some r := H
 have A8 := zA A80
 clear A80
 replace H := Option.bind_eq_some_iff.mp H
 obtain ⟨⟨t270, t271⟩, A90, H⟩ := H
 replace H : ((bivouacref06_Ends.f k a0_0 a0_1 a0_2 l0_3 a3 a4).bind fun bt272 => (bivouacref08_Sees.l0 k a1 a2 a3 a4 a5 a6 t269 t270 bt272.1 1 a0_0 a0_1 a0_2 l0_3)) = some r := H
 have A9 := zA A90
 clear A90
 replace H := Option.bind_eq_some_iff.mp H
 obtain ⟨⟨t272, t273⟩, A100, H⟩ := H
 replace H : (bivouacref08_Sees.l0 k a1 a2 a3 a4 a5 a6 t269 t270 t272 1 a0_0 a0_1 a0_2 l0_3) = some r := H
 have A10 := zA A100
 clear A100
 have H' := zA H
 clear H
 go_enter Try.func42, Try.ntmps42
 go_wp2_with (first | ((with_reducible refine gate_dst (N := 7) rfl ?_); refine box_event ?hg (N := 7) ?hd (cs := #[.int .i64 a0_0, .int .i64 a0_1, .int .i64 a0_2, .slice A0_3 l0_3.length c0_3]) (t := 24) ?hr ?_; (case hd => rfl); (case hg => rfl); (case hr => first | (go_simp; done) | (go_simp; rfl)); intro gb268 hg w11 hbox hb; have n0_ := zA (zJ (by repeat (first | (with_reducible first | exact HB.out | apply zF | apply zB | apply zE) | exact HB.out)) hb); have n1_ := zA (hbox); have n2_ := zA ((by rw [hg]; exact (zK (by repeat (first | (with_reducible first | exact HB.out | apply zF | apply zB | apply zE) | exact HB.out))) : w.heap.size ≤ gb268)); have n3_ := zA ((by rw [hg]; exact (zK (by repeat (first | (with_reducible first | exact HB.out | apply zF | apply zB | apply zE) | exact HB.out))) : w.heap.size ≤ gb268)); clear HB; have HB := n0_; have BK268 := n1_; have GW268 := n2_; have GE268 := n3_; clear n0_ n1_ n2_ n3_; clear hb hbox hg) | ((with_reducible refine gate_callee (f := 53) rfl ?_); refine goesL_ (some 29) rfl rfl Try.func53 (by kernel_rfl) rfl #[.int .i64 a1, .int .i64 a2, .int .i64 a3, .int .i64 a4] rfl (by (try simp only [List.map_toArray, List.map_cons, List.map_nil]); first | done | rfl | (simp only [List.length_drop, List.length_take]; rfl)) ?_; (with_reducible refine (bivouacref08_Long.calls a1 a2 a3 a4 t269 _ A8.out).mono ?_); rintro e w' ⟨rfl, ⟨nd, rfl⟩⟩; refine ⟨_, rfl, ?_⟩; have hcz12_0 : w11.cell? ⟨gb268, 0, none⟩ = some (.int .i64 a0_0) := (zD BK268.out 0).trans rfl; have hcz12_1 : w11.cell? ⟨gb268, 1, none⟩ = some (.int .i64 a0_1) := (zD BK268.out 1).trans rfl; have hcz12_2 : w11.cell? ⟨gb268, 2, none⟩ = some (.int .i64 a0_2) := (zD BK268.out 2).trans rfl; have hcz12_3 : w11.cell? ⟨gb268, 3, none⟩ = some (.slice A0_3 l0_3.length c0_3) := (zD BK268.out 3).trans rfl; have hfz12_0 := zG BK268.out 0; have hfz12_1 := zG BK268.out 1; have hfz12_2 := zG BK268.out 2; have hfz12_3 := zG BK268.out 3) | ((with_reducible refine gate_callee (f := 43) rfl ?_); refine goesL_ (some 34) rfl rfl Try.func43 (by kernel_rfl) rfl #[.agg #[.int .i64 a0_0, .int .i64 a0_1, .int .i64 a0_2, .slice A0_3 l0_3.length c0_3], .int .i64 a1, .int .i64 a2] rfl (by (try simp only [List.map_toArray, List.map_cons, List.map_nil]); first | done | rfl | (simp only [List.length_drop, List.length_take]; rfl)) ?_; (with_reducible refine (bivouacref06_Ends.calls k a0_0 a0_1 a0_2 _ _ l0_3 a1 a2 t270 t271 _ ?side1 ?side2 A9.out).mono ?_); (case side1 => repeat (first | exact (Kd.C_below HR0_3.out (by repeat (first | (with_reducible first | exact HB.out | apply zF | apply zB | apply zE | refine zC ?_ GE268.out) | exact HB.out))) | (with_reducible refine Kd.C_alloc ?_ _) | (with_reducible refine Kd.C_drewN ?_ _) | (with_reducible refine Kd.C_drew ?_))); (case side2 => exact HC0_3.out); rintro e w13 ⟨rfl, hb⟩; refine ⟨_, rfl, ?_⟩; have n0_ := zA (zI (g := gb268) (o := .cells #[.int .i64 a0_0, .int .i64 a0_1, .int .i64 a0_2, .slice A0_3 l0_3.length c0_3] 24 (0, 0)) (by (with_reducible repeat (first | refine zN ?_ _ | refine zO ?_ | refine zM ?_ _)); exact BK268.out) hb); have n1_ := zA (zJ (by repeat (first | (with_reducible first | exact HB.out | apply zF | apply zB | apply zE | refine zC ?_ GE268.out) | exact HB.out)) hb); clear BK268; clear HB; have BK268 := n0_; have HB := n1_; clear n0_ n1_; (try clear hb); (try clear hb2); (try clear hk); (try clear hi); have hcz14_0 : w13.cell? ⟨gb268, 0, none⟩ = some (.int .i64 a0_0) := (zD BK268.out 0).trans rfl; have hcz14_1 : w13.cell? ⟨gb268, 1, none⟩ = some (.int .i64 a0_1) := (zD BK268.out 1).trans rfl; have hcz14_2 : w13.cell? ⟨gb268, 2, none⟩ = some (.int .i64 a0_2) := (zD BK268.out 2).trans rfl; have hcz14_3 : w13.cell? ⟨gb268, 3, none⟩ = some (.slice A0_3 l0_3.length c0_3) := (zD BK268.out 3).trans rfl; have hfz14_0 := zG BK268.out 0; have hfz14_1 := zG BK268.out 1; have hfz14_2 := zG BK268.out 2; have hfz14_3 := zG BK268.out 3) | ((with_reducible refine gate_callee (f := 43) rfl ?_); refine goesL_ (some 41) rfl rfl Try.func43 (by kernel_rfl) rfl #[.agg #[.int .i64 a0_0, .int .i64 a0_1, .int .i64 a0_2, .slice A0_3 l0_3.length c0_3], .int .i64 a3, .int .i64 a4] rfl (by (try simp only [List.map_toArray, List.map_cons, List.map_nil]); first | done | rfl | (simp only [List.length_drop, List.length_take]; rfl)) ?_; (with_reducible refine (bivouacref06_Ends.calls k a0_0 a0_1 a0_2 _ _ l0_3 a3 a4 t272 t273 _ ?side1 ?side2 A10.out).mono ?_); (case side1 => repeat (first | exact (Kd.C_below HR0_3.out HB.out) | (with_reducible refine Kd.C_alloc ?_ _) | (with_reducible refine Kd.C_drewN ?_ _) | (with_reducible refine Kd.C_drew ?_))); (case side2 => exact HC0_3.out); rintro e w15 ⟨rfl, hb⟩; refine ⟨_, rfl, ?_⟩; have n0_ := zA (zI (g := gb268) (o := .cells #[.int .i64 a0_0, .int .i64 a0_1, .int .i64 a0_2, .slice A0_3 l0_3.length c0_3] 24 (0, 0)) (by (with_reducible repeat (first | refine zN ?_ _ | refine zO ?_ | refine zM ?_ _)); exact BK268.out) hb); have n1_ := zA (zJ (by repeat (first | (with_reducible first | exact HB.out | apply zF | apply zB | apply zE | refine zC ?_ GE268.out) | exact HB.out)) hb); clear BK268; clear HB; have BK268 := n0_; have HB := n1_; clear n0_ n1_; (try clear hb); (try clear hb2); (try clear hk); (try clear hi)))
 go_loopg [20] k (fun kq v20 w' => ∃ (x20_1 : Int), v20 = .int .i64 x20_1 ∧ Aside0 (bivouacref08_Sees.l0 kq a1 a2 a3 a4 a5 a6 t269 t270 t272 x20_1 a0_0 a0_1 a0_2 l0_3 = some r) ∧ Aside0 (kq ≤ k) ∧ Aside0 (w'.heap[gb268]? = some (.cells #[.int .i64 a0_0, .int .i64 a0_1, .int .i64 a0_2, (.slice A0_3 l0_3.length c0_3)] 24 (0, 0))) ∧ Aside0 (Below w.heap.size w w'))
 case atStart => exact ⟨(1), (by first | rfl | (simp; done) | (simp [*]; done)), H', ⟨Nat.le_refl _⟩, ⟨by (with_reducible repeat (first | refine zN ?_ _ | refine zO ?_ | refine zM ?_ _)); exact BK268.out⟩, ⟨by repeat (first | (with_reducible first | exact HB.out | apply zF | apply zB | apply zE | refine zC ?_ GE268.out) | exact HB.out)⟩⟩
 case round =>
  clear H'
  try clear p2
  try clear c4
  try clear c5
  try clear hcz12_0
  try clear hcz12_1
  try clear hcz12_2
  try clear hcz12_3
  try clear hcz14_0
  try clear hcz14_1
  try clear hcz14_2
  try clear hcz14_3
  try clear hfz12_0
  try clear hfz12_1
  try clear hfz12_2
  try clear hfz12_3
  try clear hfz14_0
  try clear hfz14_1
  try clear hfz14_2
  try clear hfz14_3
  obtain ⟨x20_1, rfl, HA, HK1, BK268, HB⟩ := hrel
  cases gk with
  | zero => exact absurd HA.out (by simp [bivouacref08_Sees.l0])
  | succ k1 =>
   have H := HA.out
   clear HA
   simp only [bivouacref08_Sees.l0] at H
   by_cases c16 : x20_1 < t269
   ·
    rw [if_pos c16] at H
    have c16b0 : decide (x20_1 < t269) = true := decide_eq_true c16
    clear c16
    replace H := Option.bind_eq_some_iff.mp H
    obtain ⟨⟨t274, t275⟩, A170, H⟩ := H
    replace H : ((bivouacref06_Ends.f k1 a0_0 a0_1 a0_2 l0_3 t274 t275).bind fun bt276 => (if (wrap64 (bt276.2 * t269)) > (wrap64 ((wrap64 ((wrap64 (t270 + a5)) * (wrap64 (t269 - x20_1)))) + (wrap64 ((wrap64 (t272 + a6)) * x20_1)))) then (some false) else (bivouacref08_Sees.l0 k1 a1 a2 a3 a4 a5 a6 t269 t270 t272 (wrap64 (x20_1 + 1)) a0_0 a0_1 a0_2 l0_3))) = some r := H
    have A17 := zA A170
    clear A170
    replace H := Option.bind_eq_some_iff.mp H
    obtain ⟨⟨t276, t277⟩, A180, H⟩ := H
    replace H : (if (wrap64 (t277 * t269)) > (wrap64 ((wrap64 ((wrap64 (t270 + a5)) * (wrap64 (t269 - x20_1)))) + (wrap64 ((wrap64 (t272 + a6)) * x20_1)))) then (some false) else (bivouacref08_Sees.l0 k1 a1 a2 a3 a4 a5 a6 t269 t270 t272 (wrap64 (x20_1 + 1)) a0_0 a0_1 a0_2 l0_3)) = some r := H
    have A18 := zA A180
    clear A180
    by_cases c19 : (wrap64 (t277 * t269)) > (wrap64 ((wrap64 ((wrap64 (t270 + a5)) * (wrap64 (t269 - x20_1)))) + (wrap64 ((wrap64 (t272 + a6)) * x20_1))))
    ·
     rw [if_pos c19] at H
     have c19b0 : decide ((wrap64 ((wrap64 ((wrap64 (t270 + a5)) * (wrap64 (t269 - x20_1)))) + (wrap64 ((wrap64 (t272 + a6)) * x20_1)))) < (wrap64 (t277 * t269))) = true := decide_eq_true c19
     clear c19
     obtain rfl := Option.some.inj H
     go_wp2_with (first | ((with_reducible refine gate_callee (f := 54) rfl ?_); refine goesL_ (some 55) rfl rfl Try.func54 (by kernel_rfl) rfl #[.int .i64 a1, .int .i64 a2, .int .i64 a3, .int .i64 a4, .int .i64 x20_1] rfl (by (try simp only [List.map_toArray, List.map_cons, List.map_nil]); first | done | rfl | (simp only [List.length_drop, List.length_take]; rfl)) ?_; (with_reducible refine (bivouacref08_Cell.calls a1 a2 a3 a4 x20_1 t274 t275 _ A17.out).mono ?_); rintro e w' ⟨rfl, ⟨nd, rfl⟩⟩; refine ⟨_, rfl, ?_⟩; have hcz20_0 : wr.cell? ⟨gb268, 0, none⟩ = some (.int .i64 a0_0) := (zD BK268.out 0).trans rfl; have hcz20_1 : wr.cell? ⟨gb268, 1, none⟩ = some (.int .i64 a0_1) := (zD BK268.out 1).trans rfl; have hcz20_2 : wr.cell? ⟨gb268, 2, none⟩ = some (.int .i64 a0_2) := (zD BK268.out 2).trans rfl; have hcz20_3 : wr.cell? ⟨gb268, 3, none⟩ = some (.slice A0_3 l0_3.length c0_3) := (zD BK268.out 3).trans rfl; have hfz20_0 := zG BK268.out 0; have hfz20_1 := zG BK268.out 1; have hfz20_2 := zG BK268.out 2; have hfz20_3 := zG BK268.out 3) | ((with_reducible refine gate_callee (f := 43) rfl ?_); refine goesL_ (some 62) rfl rfl Try.func43 (by kernel_rfl) rfl #[.agg #[.int .i64 a0_0, .int .i64 a0_1, .int .i64 a0_2, .slice A0_3 l0_3.length c0_3], .int .i64 t274, .int .i64 t275] rfl (by (try simp only [List.map_toArray, List.map_cons, List.map_nil]); first | done | rfl | (simp only [List.length_drop, List.length_take]; rfl)) ?_; (with_reducible refine (bivouacref06_Ends.calls k1 a0_0 a0_1 a0_2 _ _ l0_3 t274 t275 t276 t277 _ ?side1 ?side2 A18.out).mono ?_); (case side1 => repeat (first | exact (Kd.C_below HR0_3.out (by repeat (first | (with_reducible first | exact HB.out | apply zF | apply zB | apply zE | refine zC ?_ GE268.out) | exact HB.out))) | (with_reducible refine Kd.C_alloc ?_ _) | (with_reducible refine Kd.C_drewN ?_ _) | (with_reducible refine Kd.C_drew ?_))); (case side2 => exact HC0_3.out); rintro e w21 ⟨rfl, hb⟩; refine ⟨_, rfl, ?_⟩; have n0_ := zA (zI (g := gb268) (o := .cells #[.int .i64 a0_0, .int .i64 a0_1, .int .i64 a0_2, .slice A0_3 l0_3.length c0_3] 24 (0, 0)) (by (with_reducible repeat (first | refine zN ?_ _ | refine zO ?_ | refine zM ?_ _)); exact BK268.out) hb); have n1_ := zA (zJ (by repeat (first | (with_reducible first | exact HB.out | apply zF | apply zB | apply zE | refine zC ?_ GE268.out) | exact HB.out)) hb); clear BK268; clear HB; have BK268 := n0_; have HB := n1_; clear n0_ n1_; (try clear hb); (try clear hb2); (try clear hk); (try clear hi)))
     go_ret
     exact ⟨by first | rfl | (simp [zU, zT] <;> rfl) | (simp [*, zU, zT] <;> rfl) | (rw [zW (by assumption)]; rfl), by repeat (first | (with_reducible first | exact HB.out | apply zF | apply zB | apply zE | refine zC ?_ GE268.out) | exact HB.out)⟩
    ·
     rw [if_neg c19] at H
     have c19b0 : decide ((wrap64 ((wrap64 ((wrap64 (t270 + a5)) * (wrap64 (t269 - x20_1)))) + (wrap64 ((wrap64 (t272 + a6)) * x20_1)))) < (wrap64 (t277 * t269))) = false := decide_eq_false c19
     clear c19
     have H' := zA H
     clear H
     go_wp2_with (first | ((with_reducible refine gate_callee (f := 54) rfl ?_); refine goesL_ (some 55) rfl rfl Try.func54 (by kernel_rfl) rfl #[.int .i64 a1, .int .i64 a2, .int .i64 a3, .int .i64 a4, .int .i64 x20_1] rfl (by (try simp only [List.map_toArray, List.map_cons, List.map_nil]); first | done | rfl | (simp only [List.length_drop, List.length_take]; rfl)) ?_; (with_reducible refine (bivouacref08_Cell.calls a1 a2 a3 a4 x20_1 t274 t275 _ A17.out).mono ?_); rintro e w' ⟨rfl, ⟨nd, rfl⟩⟩; refine ⟨_, rfl, ?_⟩; have hcz22_0 : wr.cell? ⟨gb268, 0, none⟩ = some (.int .i64 a0_0) := (zD BK268.out 0).trans rfl; have hcz22_1 : wr.cell? ⟨gb268, 1, none⟩ = some (.int .i64 a0_1) := (zD BK268.out 1).trans rfl; have hcz22_2 : wr.cell? ⟨gb268, 2, none⟩ = some (.int .i64 a0_2) := (zD BK268.out 2).trans rfl; have hcz22_3 : wr.cell? ⟨gb268, 3, none⟩ = some (.slice A0_3 l0_3.length c0_3) := (zD BK268.out 3).trans rfl; have hfz22_0 := zG BK268.out 0; have hfz22_1 := zG BK268.out 1; have hfz22_2 := zG BK268.out 2; have hfz22_3 := zG BK268.out 3) | ((with_reducible refine gate_callee (f := 43) rfl ?_); refine goesL_ (some 62) rfl rfl Try.func43 (by kernel_rfl) rfl #[.agg #[.int .i64 a0_0, .int .i64 a0_1, .int .i64 a0_2, .slice A0_3 l0_3.length c0_3], .int .i64 t274, .int .i64 t275] rfl (by (try simp only [List.map_toArray, List.map_cons, List.map_nil]); first | done | rfl | (simp only [List.length_drop, List.length_take]; rfl)) ?_; (with_reducible refine (bivouacref06_Ends.calls k1 a0_0 a0_1 a0_2 _ _ l0_3 t274 t275 t276 t277 _ ?side1 ?side2 A18.out).mono ?_); (case side1 => repeat (first | exact (Kd.C_below HR0_3.out (by repeat (first | (with_reducible first | exact HB.out | apply zF | apply zB | apply zE | refine zC ?_ GE268.out) | exact HB.out))) | (with_reducible refine Kd.C_alloc ?_ _) | (with_reducible refine Kd.C_drewN ?_ _) | (with_reducible refine Kd.C_drew ?_))); (case side2 => exact HC0_3.out); rintro e w23 ⟨rfl, hb⟩; refine ⟨_, rfl, ?_⟩; have n0_ := zA (zI (g := gb268) (o := .cells #[.int .i64 a0_0, .int .i64 a0_1, .int .i64 a0_2, .slice A0_3 l0_3.length c0_3] 24 (0, 0)) (by (with_reducible repeat (first | refine zN ?_ _ | refine zO ?_ | refine zM ?_ _)); exact BK268.out) hb); have n1_ := zA (zJ (by repeat (first | (with_reducible first | exact HB.out | apply zF | apply zB | apply zE | refine zC ?_ GE268.out) | exact HB.out)) hb); clear BK268; clear HB; have BK268 := n0_; have HB := n1_; clear n0_ n1_; (try clear hb); (try clear hb2); (try clear hk); (try clear hi)))
     go_roundg k1
     case measure => have := HK1.out; omega
     case rel => exact ⟨(wrap64 (x20_1 + 1)), (by first | rfl | (simp; done) | (simp [*]; done)), H', ⟨by have := HK1.out; omega⟩, ⟨by (with_reducible repeat (first | refine zN ?_ _ | refine zO ?_ | refine zM ?_ _)); exact BK268.out⟩, ⟨by repeat (first | (with_reducible first | exact HB.out | apply zF | apply zB | apply zE | refine zC ?_ GE268.out) | exact HB.out)⟩⟩
   ·
    rw [if_neg c16] at H
    have c16b0 : decide (x20_1 < t269) = false := decide_eq_false c16
    clear c16
    obtain rfl := Option.some.inj H
    go_wp2
    go_ret
    exact ⟨by first | rfl | (simp [zU, zT] <;> rfl) | (simp [*, zU, zT] <;> rfl) | (rw [zW (by assumption)]; rfl), by repeat (first | (with_reducible first | exact HB.out | apply zF | apply zB | apply zE | refine zC ?_ GE268.out) | exact HB.out)⟩
/-! ### bivouaclaw21_same: function 15 -/
def bivouaclaw21_same.l0 : Nat → List Int → List Int → Int → Option (Bool)
 | 0, _, _, _ => none
 | k + 1, x0, x1, x5 => if x5 < (x0.length : Int) then (if 0 ≤ x5 then (if x5 < (x1.length : Int) then (if (rd x0 x5) = (rd x1 x5) then (bivouaclaw21_same.l0 k x0 x1 (wrap64 (x5 + 1))) else (some false)) else (none)) else (none)) else (some true)
def bivouaclaw21_same.f (k : Nat) (l0 : List Int) (l1 : List Int) : Option (Bool) := if (l0.length : Int) = (l1.length : Int) then (bivouaclaw21_same.l0 k l0 l1 0) else (some false)
theorem bivouaclaw21_same.mono_l : ∀ k, (∀ y0 y1 y2, LeO (bivouaclaw21_same.l0 k y0 y1 y2) (bivouaclaw21_same.l0 (k + 1) y0 y1 y2))
 | 0 => fun _ _ _ r h => by simp [bivouaclaw21_same.l0] at h
 | k + 1 => by
  have ih0 := bivouaclaw21_same.mono_l k
  ·
   intro y0 y1 y2
   unfold bivouaclaw21_same.l0
   repeat' first
   | (with_reducible exact ih0 _ _ _)
   | (with_reducible exact LeO.refl _)
   | (with_reducible exact LeO.none _)
   | (with_reducible refine LeO.ite ?_ ?_)
   | (with_reducible refine LeO.bind ?_ (fun _ => ?_))
   | exact ih0 _ _ _
   | exact LeO.none _
   | refine LeO.ite ?_ ?_
   | refine LeO.bind ?_ (fun _ => ?_)
theorem bivouaclaw21_same.mono : ∀ a0 a1 k, LeO (bivouaclaw21_same.f k a0 a1) (bivouaclaw21_same.f (k + 1) a0 a1) := by
 intro a0 a1 k
 have ih0 := bivouaclaw21_same.mono_l k
 unfold bivouaclaw21_same.f
 repeat' first
   | (with_reducible exact ih0 _ _ _)
   | (with_reducible exact LeO.refl _)
   | (with_reducible exact LeO.none _)
   | (with_reducible refine LeO.ite ?_ ?_)
   | (with_reducible refine LeO.bind ?_ (fun _ => ?_))
   | exact ih0 _ _ _
   | exact LeO.none _
   | refine LeO.ite ?_ ?_
   | refine LeO.bind ?_ (fun _ => ?_)
set_option maxHeartbeats 8000000 in
set_option maxRecDepth 100000 in
theorem bivouaclaw21_same.calls (k : Nat) (A0 : Option Addr) (c0 : Nat) (l0 : List Int) (A1 : Option Addr) (c1 : Nat) (l1 : List Int) (r : Bool) (w : World) (hr0 : Kd.C (Kd.int .i64) w A0 l0.length l0) (hc0 : l0.length ≤ c0) (hr1 : Kd.C (Kd.int .i64) w A1 l1.length l1) (hc1 : l1.length ≤ c1) (h : bivouaclaw21_same.f k l0 l1 = some r) :
  Calls Try.prog 15 #[.slice A0 l0.length c0, .slice A1 l1.length c1] w fun e w' => e = .returned (.bool r) ∧ Drawn0 w w' := by
 have HR0 := zA hr0
 have HC0 := zA hc0
 clear hr0 hc0
 have HR1 := zA hr1
 have HC1 := zA hc1
 clear hr1 hc1
 have H : (if (l0.length : Int) = (l1.length : Int) then (bivouaclaw21_same.l0 k l0 l1 0) else (some false)) = some r := h
 clear h
 by_cases c3 : (l0.length : Int) = (l1.length : Int)
 ·
  rw [if_pos c3] at H
  have c3b0 : ((l0.length : Int) == (l1.length : Int)) = true := beq_iff_eq.mpr c3
  have c3b1 : ((l0.length : Int) != (l1.length : Int)) = false := bne_eq_false_iff_eq.mpr c3
  have c3b2 : (l0.length == l1.length) = true := by first | simpa using c3 | (simp at c3 ⊢; omega)
  clear c3
  have H' := zA H
  clear H
  go_enter Try.func15, Try.ntmps15
  go_wp2
  repeat (go_quiet (fail); try go_wp2)
  go_loopg [5] k (fun kq v5 w' => ∃ (x5_1 : Int), v5 = .int .i64 x5_1 ∧ Aside0 (bivouaclaw21_same.l0 kq l0 l1 x5_1 = some r) ∧ Aside0 (kq ≤ k) ∧ Drawn0 w w')
  case atStart => exact ⟨(0), (by first | rfl | (simp; done) | (simp [*]; done)), H', ⟨Nat.le_refl _⟩, by repeat (first | exact Drawn0.refl _ | apply Drawn0.step)⟩
  case round =>
   clear H'
   try clear c1
   try clear p2
   try clear c3
   try clear c3b0
   try clear c3b1
   try clear c3b2
   obtain ⟨x5_1, rfl, HA, HK1, ⟨m1, rfl⟩⟩ := hrel
   cases gk with
   | zero => exact absurd HA.out (by simp [bivouaclaw21_same.l0])
   | succ k1 =>
    have H := HA.out
    clear HA
    simp only [bivouaclaw21_same.l0] at H
    by_cases c4 : x5_1 < (l0.length : Int)
    ·
     rw [if_pos c4] at H
     have c4b0 : decide (x5_1 < (l0.length : Int)) = true := decide_eq_true c4
     clear c4
     by_cases c5 : 0 ≤ x5_1
     ·
      rw [if_pos c5] at H
      have c5b0 : decide (0 ≤ x5_1) = true := decide_eq_true c5
      clear c5
      by_cases c6 : x5_1 < (l1.length : Int)
      ·
       rw [if_pos c6] at H
       have c6b0 : decide (x5_1 < (l1.length : Int)) = true := decide_eq_true c6
       clear c6
       by_cases c7 : (rd l0 x5_1) = (rd l1 x5_1)
       ·
        rw [if_pos c7] at H
        have c7b0 : ((rd l0 x5_1) == (rd l1 x5_1)) = true := beq_iff_eq.mpr c7
        have c7b1 : ((rd l0 x5_1) != (rd l1 x5_1)) = false := bne_eq_false_iff_eq.mpr c7
        clear c7
        have H' := zA H
        clear H
        have p218 : 0 ≤ (x5_1 : Int) := of_decide_eq_true (by first | (with_reducible assumption) | assumption)
        have q218 : x5_1 < (l0.length : Int) := of_decide_eq_true (by first | (with_reducible assumption) | assumption)
        obtain ⟨ad218, e218, hx218_0⟩ := Kd.at_int HR0.out x5_1 p218 q218
        cases e218
        replace p218 := eq_true p218
        replace q218 := eq_true q218
        have p219 : 0 ≤ (x5_1 : Int) := of_decide_eq_true (by first | (with_reducible assumption) | assumption)
        have q219 : x5_1 < (l1.length : Int) := of_decide_eq_true (by first | (with_reducible assumption) | assumption)
        obtain ⟨ad219, e219, hx219_0⟩ := Kd.at_int HR1.out x5_1 p219 q219
        cases e219
        replace p219 := eq_true p219
        replace q219 := eq_true q219
        go_wp2
        repeat (go_quiet (fail); try go_wp2)
        go_roundg k1
        case measure => have := HK1.out; omega
        case rel => exact ⟨(wrap64 (x5_1 + 1)), (by first | rfl | (simp; done) | (simp [*]; done)), H', ⟨by have := HK1.out; omega⟩, by repeat (first | exact Drawn0.refl _ | apply Drawn0.step)⟩
       ·
        rw [if_neg c7] at H
        have c7b0 : ((rd l0 x5_1) == (rd l1 x5_1)) = false := beq_eq_false_iff_ne.mpr c7
        have c7b1 : ((rd l0 x5_1) != (rd l1 x5_1)) = true := bne_iff_ne.mpr c7
        obtain rfl := Option.some.inj H
        have p218 : 0 ≤ (x5_1 : Int) := of_decide_eq_true (by first | (with_reducible assumption) | assumption)
        have q218 : x5_1 < (l0.length : Int) := of_decide_eq_true (by first | (with_reducible assumption) | assumption)
        obtain ⟨ad218, e218, hx218_0⟩ := Kd.at_int HR0.out x5_1 p218 q218
        cases e218
        replace p218 := eq_true p218
        replace q218 := eq_true q218
        have p219 : 0 ≤ (x5_1 : Int) := of_decide_eq_true (by first | (with_reducible assumption) | assumption)
        have q219 : x5_1 < (l1.length : Int) := of_decide_eq_true (by first | (with_reducible assumption) | assumption)
        obtain ⟨ad219, e219, hx219_0⟩ := Kd.at_int HR1.out x5_1 p219 q219
        cases e219
        replace p219 := eq_true p219
        replace q219 := eq_true q219
        go_wp2
        repeat (go_quiet (fail); try go_wp2)
        go_ret
        exact ⟨by first | rfl | (simp; done) | (simp [*]; done), by repeat (first | exact Drawn0.refl _ | apply Drawn0.step)⟩
      ·
       rw [if_neg c6] at H
       exact absurd H (by simp)
     ·
      rw [if_neg c5] at H
      exact absurd H (by simp)
    ·
     rw [if_neg c4] at H
     have c4b0 : decide (x5_1 < (l0.length : Int)) = false := decide_eq_false c4
     clear c4
     obtain rfl := Option.some.inj H
     go_wp2
     repeat (go_quiet (fail); try go_wp2)
     go_ret
     exact ⟨by first | rfl | (simp; done) | (simp [*]; done), by repeat (first | exact Drawn0.refl _ | apply Drawn0.step)⟩
 ·
  rw [if_neg c3] at H
  have c3b0 : ((l0.length : Int) == (l1.length : Int)) = false := beq_eq_false_iff_ne.mpr c3
  have c3b1 : ((l0.length : Int) != (l1.length : Int)) = true := bne_iff_ne.mpr c3
  have c3b2 : (l0.length == l1.length) = false := by first | simpa using c3 | (simp at c3 ⊢; omega)
  obtain rfl := Option.some.inj H
  go_enter Try.func15, Try.ntmps15
  go_wp2
  repeat (go_quiet (fail); try go_wp2)
  go_ret
  exact ⟨by first | rfl | (simp; done) | (simp [*]; done), by repeat (first | exact Drawn0.refl _ | apply Drawn0.step)⟩
/-! ### bivouacref06_Check: function 27 -/
def bivouacref06_Check.j0 : Nat → Bool → Int → Int → Int → List Int → Option (Int)
 | 0, _, _, _, _, _ => none
 | k + 1, x31, x206000, x206001, x206002, x206003 => if x31 = true then (some 1) else (if (x206003.length : Int) < (wrap64 ((wrap64 (x206000 + 1)) * (wrap64 (x206001 + 1)))) then (some 2) else (if (x206003.length : Int) > (wrap64 ((wrap64 (x206000 + 1)) * (wrap64 (x206001 + 1)))) then (some 7) else (some 0)))
def bivouacref06_Check.f (k : Nat) (a0_0 : Int) (a0_1 : Int) (a0_2 : Int) (l0_3 : List Int) : Option (Int) := if 1 ≤ a0_0 then (if a0_0 ≤ 64 then (if 1 ≤ a0_1 then (if a0_1 ≤ 64 then (if 0 ≤ a0_2 then (bivouacref06_Check.j0 k (!(decide (a0_2 ≤ 255))) a0_0 a0_1 a0_2 l0_3) else (bivouacref06_Check.j0 k (!false) a0_0 a0_1 a0_2 l0_3)) else (bivouacref06_Check.j0 k (!false) a0_0 a0_1 a0_2 l0_3)) else (bivouacref06_Check.j0 k (!false) a0_0 a0_1 a0_2 l0_3)) else (bivouacref06_Check.j0 k (!false) a0_0 a0_1 a0_2 l0_3)) else (bivouacref06_Check.j0 k (!false) a0_0 a0_1 a0_2 l0_3)
theorem bivouacref06_Check.mono_l : ∀ k, (∀ y0 y1 y2 y3 y4, LeO (bivouacref06_Check.j0 k y0 y1 y2 y3 y4) (bivouacref06_Check.j0 (k + 1) y0 y1 y2 y3 y4))
 | 0 => fun _ _ _ _ _ r h => by simp [bivouacref06_Check.j0] at h
 | k + 1 => by
  have ih0 := bivouacref06_Check.mono_l k
  ·
   intro y0 y1 y2 y3 y4
   unfold bivouacref06_Check.j0
   repeat' first
   | (with_reducible exact ih0 _ _ _ _ _)
   | (with_reducible exact LeO.refl _)
   | (with_reducible exact LeO.none _)
   | (with_reducible refine LeO.ite ?_ ?_)
   | (with_reducible refine LeO.bind ?_ (fun _ => ?_))
   | exact ih0 _ _ _ _ _
   | exact LeO.none _
   | refine LeO.ite ?_ ?_
   | refine LeO.bind ?_ (fun _ => ?_)
theorem bivouacref06_Check.mono : ∀ a0 a1 a2 a3 k, LeO (bivouacref06_Check.f k a0 a1 a2 a3) (bivouacref06_Check.f (k + 1) a0 a1 a2 a3) := by
 intro a0 a1 a2 a3 k
 have ih0 := bivouacref06_Check.mono_l k
 unfold bivouacref06_Check.f
 repeat' first
   | (with_reducible exact ih0 _ _ _ _ _)
   | (with_reducible exact LeO.refl _)
   | (with_reducible exact LeO.none _)
   | (with_reducible refine LeO.ite ?_ ?_)
   | (with_reducible refine LeO.bind ?_ (fun _ => ?_))
   | exact ih0 _ _ _ _ _
   | exact LeO.none _
   | refine LeO.ite ?_ ?_
   | refine LeO.bind ?_ (fun _ => ?_)
set_option maxHeartbeats 8000000 in
set_option maxRecDepth 100000 in
theorem bivouacref06_Check.calls (k : Nat) (a0_0 : Int) (a0_1 : Int) (a0_2 : Int) (A0_3 : Option Addr) (c0_3 : Nat) (l0_3 : List Int) (r : Int) (w : World) (hr0_3 : Kd.C (Kd.int .u8) w A0_3 l0_3.length l0_3) (hc0_3 : l0_3.length ≤ c0_3) (h : bivouacref06_Check.f k a0_0 a0_1 a0_2 l0_3 = some r) :
  Calls Try.prog 27 #[.agg #[.int .i64 a0_0, .int .i64 a0_1, .int .i64 a0_2, .slice A0_3 l0_3.length c0_3]] w fun e w' => e = .returned (.int .i64 r) ∧ Below w.heap.size w w' := by
 have hu24 := Try.underlying24
 have HR0_3 := zA hr0_3
 have HC0_3 := zA hc0_3
 clear hr0_3 hc0_3
 have HB := zA (Below.refl w.heap.size w)
 have H : (if 1 ≤ a0_0 then (if a0_0 ≤ 64 then (if 1 ≤ a0_1 then (if a0_1 ≤ 64 then (if 0 ≤ a0_2 then (bivouacref06_Check.j0 k (!(decide (a0_2 ≤ 255))) a0_0 a0_1 a0_2 l0_3) else (bivouacref06_Check.j0 k (!false) a0_0 a0_1 a0_2 l0_3)) else (bivouacref06_Check.j0 k (!false) a0_0 a0_1 a0_2 l0_3)) else (bivouacref06_Check.j0 k (!false) a0_0 a0_1 a0_2 l0_3)) else (bivouacref06_Check.j0 k (!false) a0_0 a0_1 a0_2 l0_3)) else (bivouacref06_Check.j0 k (!false) a0_0 a0_1 a0_2 l0_3)) = some r := h
 clear h
 have HC2 := zA H
 clear H
 go_enter Try.func27, Try.ntmps27
 go_upto_region 1 with (first | ((with_reducible refine gate_dst (N := 1) rfl ?_); refine box_event ?hg (N := 1) ?hd (cs := #[.int .i64 a0_0, .int .i64 a0_1, .int .i64 a0_2, .slice A0_3 l0_3.length c0_3]) (t := 24) ?hr ?_; (case hd => rfl); (case hg => rfl); (case hr => first | (go_simp; done) | (go_simp; rfl)); intro gb205 hg w3 hbox hb; have n0_ := zA (zJ (by repeat (first | (with_reducible first | exact HB.out | apply zF | apply zB | apply zE) | exact HB.out)) hb); have n1_ := zA (hbox); have n2_ := zA ((by rw [hg]; exact (zK (by repeat (first | (with_reducible first | exact HB.out | apply zF | apply zB | apply zE) | exact HB.out))) : w.heap.size ≤ gb205)); have n3_ := zA ((by rw [hg]; exact (zK (by repeat (first | (with_reducible first | exact HB.out | apply zF | apply zB | apply zE) | exact HB.out))) : w.heap.size ≤ gb205)); clear HB; have HB := n0_; have BK205 := n1_; have GW205 := n2_; have GE205 := n3_; clear n0_ n1_ n2_ n3_; clear hb hbox hg))
 (try simp only [Act.put, List.setIfInBounds_toArray, List.set_cons_zero, List.set_cons_succ])
 go_cut [31] (fun v31 wc => ∃ (kq : Nat) (x31_1 : Bool), v31 = .bool x31_1 ∧ Aside0 (bivouacref06_Check.j0 kq x31_1 a0_0 a0_1 a0_2 l0_3 = some r) ∧ Aside0 (kq ≤ k) ∧ Aside0 (wc.heap[gb205]? = some (.cells #[.int .i64 a0_0, .int .i64 a0_1, .int .i64 a0_2, (.slice A0_3 l0_3.length c0_3)] 24 (0, 0))) ∧ Aside0 (Below w.heap.size w wc))
 case first =>
  have H := HC2.out
  clear HC2
  by_cases c4 : 1 ≤ a0_0
  ·
   rw [if_pos c4] at H
   have c4b0 : decide (1 ≤ a0_0) = true := decide_eq_true c4
   clear c4
   (first | rw [c4b0] | (simp only [i64_w, i32_w]; rw [c4b0]) | skip)
   by_cases c5 : a0_0 ≤ 64
   ·
    rw [if_pos c5] at H
    have c5b0 : decide (a0_0 ≤ 64) = true := decide_eq_true c5
    clear c5
    by_cases c6 : 1 ≤ a0_1
    ·
     rw [if_pos c6] at H
     have c6b0 : decide (1 ≤ a0_1) = true := decide_eq_true c6
     clear c6
     by_cases c7 : a0_1 ≤ 64
     ·
      rw [if_pos c7] at H
      have c7b0 : decide (a0_1 ≤ 64) = true := decide_eq_true c7
      clear c7
      by_cases c8 : 0 ≤ a0_2
      ·
       rw [if_pos c8] at H
       have c8b0 : decide (0 ≤ a0_2) = true := decide_eq_true c8
       clear c8
       have H' := zA H
       clear H
       have hcz9_0 : w3.cell? ⟨gb205, 0, none⟩ = some (.int .i64 a0_0) := (zD BK205.out 0).trans rfl
       have hcz9_1 : w3.cell? ⟨gb205, 1, none⟩ = some (.int .i64 a0_1) := (zD BK205.out 1).trans rfl
       have hcz9_2 : w3.cell? ⟨gb205, 2, none⟩ = some (.int .i64 a0_2) := (zD BK205.out 2).trans rfl
       have hcz9_3 : w3.cell? ⟨gb205, 3, none⟩ = some (.slice A0_3 l0_3.length c0_3) := (zD BK205.out 3).trans rfl
       have hfz9_0 := zG BK205.out 0
       have hfz9_1 := zG BK205.out 1
       have hfz9_2 := zG BK205.out 2
       have hfz9_3 := zG BK205.out 3
       go_wp2
       go_meet
       case rel => exact ⟨_, (!(decide (a0_2 ≤ 255))), (by first | rfl | (simp; done) | (simp [*]; done)), H', ⟨by first | omega | exact Nat.le_refl _⟩, ⟨by (with_reducible repeat (first | refine zN ?_ _ | refine zO ?_ | refine zM ?_ _)); exact BK205.out⟩, ⟨by repeat (first | (with_reducible first | exact HB.out | apply zF | apply zB | apply zE | refine zC ?_ GE205.out) | exact HB.out)⟩⟩
      ·
       rw [if_neg c8] at H
       have c8b0 : decide (0 ≤ a0_2) = false := decide_eq_false c8
       clear c8
       have H' := zA H
       clear H
       have hcz10_0 : w3.cell? ⟨gb205, 0, none⟩ = some (.int .i64 a0_0) := (zD BK205.out 0).trans rfl
       have hcz10_1 : w3.cell? ⟨gb205, 1, none⟩ = some (.int .i64 a0_1) := (zD BK205.out 1).trans rfl
       have hcz10_2 : w3.cell? ⟨gb205, 2, none⟩ = some (.int .i64 a0_2) := (zD BK205.out 2).trans rfl
       have hcz10_3 : w3.cell? ⟨gb205, 3, none⟩ = some (.slice A0_3 l0_3.length c0_3) := (zD BK205.out 3).trans rfl
       have hfz10_0 := zG BK205.out 0
       have hfz10_1 := zG BK205.out 1
       have hfz10_2 := zG BK205.out 2
       have hfz10_3 := zG BK205.out 3
       go_wp2
       go_meet
       case rel => exact ⟨_, (!false), (by first | rfl | (simp; done) | (simp [*]; done)), H', ⟨by first | omega | exact Nat.le_refl _⟩, ⟨by (with_reducible repeat (first | refine zN ?_ _ | refine zO ?_ | refine zM ?_ _)); exact BK205.out⟩, ⟨by repeat (first | (with_reducible first | exact HB.out | apply zF | apply zB | apply zE | refine zC ?_ GE205.out) | exact HB.out)⟩⟩
     ·
      rw [if_neg c7] at H
      have c7b0 : decide (a0_1 ≤ 64) = false := decide_eq_false c7
      clear c7
      have H' := zA H
      clear H
      have hcz11_0 : w3.cell? ⟨gb205, 0, none⟩ = some (.int .i64 a0_0) := (zD BK205.out 0).trans rfl
      have hcz11_1 : w3.cell? ⟨gb205, 1, none⟩ = some (.int .i64 a0_1) := (zD BK205.out 1).trans rfl
      have hcz11_2 : w3.cell? ⟨gb205, 2, none⟩ = some (.int .i64 a0_2) := (zD BK205.out 2).trans rfl
      have hcz11_3 : w3.cell? ⟨gb205, 3, none⟩ = some (.slice A0_3 l0_3.length c0_3) := (zD BK205.out 3).trans rfl
      have hfz11_0 := zG BK205.out 0
      have hfz11_1 := zG BK205.out 1
      have hfz11_2 := zG BK205.out 2
      have hfz11_3 := zG BK205.out 3
      go_wp2
      go_meet
      case rel => exact ⟨_, (!false), (by first | rfl | (simp; done) | (simp [*]; done)), H', ⟨by first | omega | exact Nat.le_refl _⟩, ⟨by (with_reducible repeat (first | refine zN ?_ _ | refine zO ?_ | refine zM ?_ _)); exact BK205.out⟩, ⟨by repeat (first | (with_reducible first | exact HB.out | apply zF | apply zB | apply zE | refine zC ?_ GE205.out) | exact HB.out)⟩⟩
    ·
     rw [if_neg c6] at H
     have c6b0 : decide (1 ≤ a0_1) = false := decide_eq_false c6
     clear c6
     have H' := zA H
     clear H
     have hcz12_0 : w3.cell? ⟨gb205, 0, none⟩ = some (.int .i64 a0_0) := (zD BK205.out 0).trans rfl
     have hcz12_1 : w3.cell? ⟨gb205, 1, none⟩ = some (.int .i64 a0_1) := (zD BK205.out 1).trans rfl
     have hcz12_2 : w3.cell? ⟨gb205, 2, none⟩ = some (.int .i64 a0_2) := (zD BK205.out 2).trans rfl
     have hcz12_3 : w3.cell? ⟨gb205, 3, none⟩ = some (.slice A0_3 l0_3.length c0_3) := (zD BK205.out 3).trans rfl
     have hfz12_0 := zG BK205.out 0
     have hfz12_1 := zG BK205.out 1
     have hfz12_2 := zG BK205.out 2
     have hfz12_3 := zG BK205.out 3
     go_wp2
     go_meet
     case rel => exact ⟨_, (!false), (by first | rfl | (simp; done) | (simp [*]; done)), H', ⟨by first | omega | exact Nat.le_refl _⟩, ⟨by (with_reducible repeat (first | refine zN ?_ _ | refine zO ?_ | refine zM ?_ _)); exact BK205.out⟩, ⟨by repeat (first | (with_reducible first | exact HB.out | apply zF | apply zB | apply zE | refine zC ?_ GE205.out) | exact HB.out)⟩⟩
   ·
    rw [if_neg c5] at H
    have c5b0 : decide (a0_0 ≤ 64) = false := decide_eq_false c5
    clear c5
    have H' := zA H
    clear H
    have hcz13_0 : w3.cell? ⟨gb205, 0, none⟩ = some (.int .i64 a0_0) := (zD BK205.out 0).trans rfl
    have hcz13_1 : w3.cell? ⟨gb205, 1, none⟩ = some (.int .i64 a0_1) := (zD BK205.out 1).trans rfl
    have hcz13_2 : w3.cell? ⟨gb205, 2, none⟩ = some (.int .i64 a0_2) := (zD BK205.out 2).trans rfl
    have hcz13_3 : w3.cell? ⟨gb205, 3, none⟩ = some (.slice A0_3 l0_3.length c0_3) := (zD BK205.out 3).trans rfl
    have hfz13_0 := zG BK205.out 0
    have hfz13_1 := zG BK205.out 1
    have hfz13_2 := zG BK205.out 2
    have hfz13_3 := zG BK205.out 3
    go_wp2
    go_meet
    case rel => exact ⟨_, (!false), (by first | rfl | (simp; done) | (simp [*]; done)), H', ⟨by first | omega | exact Nat.le_refl _⟩, ⟨by (with_reducible repeat (first | refine zN ?_ _ | refine zO ?_ | refine zM ?_ _)); exact BK205.out⟩, ⟨by repeat (first | (with_reducible first | exact HB.out | apply zF | apply zB | apply zE | refine zC ?_ GE205.out) | exact HB.out)⟩⟩
  ·
   rw [if_neg c4] at H
   have c4b0 : decide (1 ≤ a0_0) = false := decide_eq_false c4
   clear c4
   (first | rw [c4b0] | (simp only [i64_w, i32_w]; rw [c4b0]) | skip)
   have H' := zA H
   clear H
   have hcz14_0 : w3.cell? ⟨gb205, 0, none⟩ = some (.int .i64 a0_0) := (zD BK205.out 0).trans rfl
   have hcz14_1 : w3.cell? ⟨gb205, 1, none⟩ = some (.int .i64 a0_1) := (zD BK205.out 1).trans rfl
   have hcz14_2 : w3.cell? ⟨gb205, 2, none⟩ = some (.int .i64 a0_2) := (zD BK205.out 2).trans rfl
   have hcz14_3 : w3.cell? ⟨gb205, 3, none⟩ = some (.slice A0_3 l0_3.length c0_3) := (zD BK205.out 3).trans rfl
   have hfz14_0 := zG BK205.out 0
   have hfz14_1 := zG BK205.out 1
   have hfz14_2 := zG BK205.out 2
   have hfz14_3 := zG BK205.out 3
   go_wp2
   go_meet
   case rel => exact ⟨_, (!false), (by first | rfl | (simp; done) | (simp [*]; done)), H', ⟨by first | omega | exact Nat.le_refl _⟩, ⟨by (with_reducible repeat (first | refine zN ?_ _ | refine zO ?_ | refine zM ?_ _)); exact BK205.out⟩, ⟨by repeat (first | (with_reducible first | exact HB.out | apply zF | apply zB | apply zE | refine zC ?_ GE205.out) | exact HB.out)⟩⟩
 case rest =>
  clear HC2
  try clear c2
  try clear p2
  try clear c4
  try clear c4b0
  try clear c5
  try clear c5b0
  try clear c6
  try clear c6b0
  try clear c7
  try clear c7b0
  try clear c8
  try clear c8b0
  try clear hcz10_0
  try clear hcz10_1
  try clear hcz10_2
  try clear hcz10_3
  try clear hcz11_0
  try clear hcz11_1
  try clear hcz11_2
  try clear hcz11_3
  try clear hcz12_0
  try clear hcz12_1
  try clear hcz12_2
  try clear hcz12_3
  try clear hcz13_0
  try clear hcz13_1
  try clear hcz13_2
  try clear hcz13_3
  try clear hcz14_0
  try clear hcz14_1
  try clear hcz14_2
  try clear hcz14_3
  try clear hcz9_0
  try clear hcz9_1
  try clear hcz9_2
  try clear hcz9_3
  try clear hfz10_0
  try clear hfz10_1
  try clear hfz10_2
  try clear hfz10_3
  try clear hfz11_0
  try clear hfz11_1
  try clear hfz11_2
  try clear hfz11_3
  try clear hfz12_0
  try clear hfz12_1
  try clear hfz12_2
  try clear hfz12_3
  try clear hfz13_0
  try clear hfz13_1
  try clear hfz13_2
  try clear hfz13_3
  try clear hfz14_0
  try clear hfz14_1
  try clear hfz14_2
  try clear hfz14_3
  try clear hfz9_0
  try clear hfz9_1
  try clear hfz9_2
  try clear hfz9_3
  obtain ⟨kq, x31_1, rfl, HA, HJ1, BK205, HB⟩ := hcut
  cases kq with
  | zero => exact absurd HA.out (by simp [bivouacref06_Check.j0])
  | succ kj1 =>
   have H := HA.out
   clear HA
   simp only [bivouacref06_Check.j0] at H
   by_cases c15 : x31_1 = true
   ·
    subst c15
    have H1 : (some 1) = some r := by rw [if_pos rfl] at H; exact H
    clear H
    have H := H1
    clear H1
    obtain rfl := Option.some.inj H
    go_wp2
    go_ret
    exact ⟨by first | rfl | (simp [zU, zT] <;> rfl) | (simp [*, zU, zT] <;> rfl) | (rw [zW (by assumption)]; rfl), by repeat (first | (with_reducible first | exact HB.out | apply zF | apply zB | apply zE | refine zC ?_ GE205.out) | exact HB.out)⟩
   ·
    replace c15 := Bool.eq_false_iff.mpr c15
    subst c15
    have H1 : (if (l0_3.length : Int) < (wrap64 ((wrap64 (a0_0 + 1)) * (wrap64 (a0_1 + 1)))) then (some 2) else (if (l0_3.length : Int) > (wrap64 ((wrap64 (a0_0 + 1)) * (wrap64 (a0_1 + 1)))) then (some 7) else (some 0))) = some r := by rw [if_neg (show ¬ (false = true) by decide)] at H; exact H
    clear H
    have H := H1
    clear H1
    by_cases c16 : (l0_3.length : Int) < (wrap64 ((wrap64 (a0_0 + 1)) * (wrap64 (a0_1 + 1))))
    ·
     rw [if_pos c16] at H
     have c16b0 : decide ((l0_3.length : Int) < (wrap64 ((wrap64 (a0_0 + 1)) * (wrap64 (a0_1 + 1))))) = true := decide_eq_true c16
     clear c16
     obtain rfl := Option.some.inj H
     have hcz17_0 : wc.cell? ⟨gb205, 0, none⟩ = some (.int .i64 a0_0) := (zD BK205.out 0).trans rfl
     have hcz17_1 : wc.cell? ⟨gb205, 1, none⟩ = some (.int .i64 a0_1) := (zD BK205.out 1).trans rfl
     have hcz17_2 : wc.cell? ⟨gb205, 2, none⟩ = some (.int .i64 a0_2) := (zD BK205.out 2).trans rfl
     have hcz17_3 : wc.cell? ⟨gb205, 3, none⟩ = some (.slice A0_3 l0_3.length c0_3) := (zD BK205.out 3).trans rfl
     have hfz17_0 := zG BK205.out 0
     have hfz17_1 := zG BK205.out 1
     have hfz17_2 := zG BK205.out 2
     have hfz17_3 := zG BK205.out 3
     go_wp2
     go_ret
     exact ⟨by first | rfl | (simp [zU, zT] <;> rfl) | (simp [*, zU, zT] <;> rfl) | (rw [zW (by assumption)]; rfl), by repeat (first | (with_reducible first | exact HB.out | apply zF | apply zB | apply zE | refine zC ?_ GE205.out) | exact HB.out)⟩
    ·
     rw [if_neg c16] at H
     have c16b0 : decide ((l0_3.length : Int) < (wrap64 ((wrap64 (a0_0 + 1)) * (wrap64 (a0_1 + 1))))) = false := decide_eq_false c16
     clear c16
     by_cases c18 : (l0_3.length : Int) > (wrap64 ((wrap64 (a0_0 + 1)) * (wrap64 (a0_1 + 1))))
     ·
      rw [if_pos c18] at H
      have c18b0 : decide ((wrap64 ((wrap64 (a0_0 + 1)) * (wrap64 (a0_1 + 1)))) < (l0_3.length : Int)) = true := decide_eq_true c18
      clear c18
      obtain rfl := Option.some.inj H
      have hcz19_0 : wc.cell? ⟨gb205, 0, none⟩ = some (.int .i64 a0_0) := (zD BK205.out 0).trans rfl
      have hcz19_1 : wc.cell? ⟨gb205, 1, none⟩ = some (.int .i64 a0_1) := (zD BK205.out 1).trans rfl
      have hcz19_2 : wc.cell? ⟨gb205, 2, none⟩ = some (.int .i64 a0_2) := (zD BK205.out 2).trans rfl
      have hcz19_3 : wc.cell? ⟨gb205, 3, none⟩ = some (.slice A0_3 l0_3.length c0_3) := (zD BK205.out 3).trans rfl
      have hfz19_0 := zG BK205.out 0
      have hfz19_1 := zG BK205.out 1
      have hfz19_2 := zG BK205.out 2
      have hfz19_3 := zG BK205.out 3
      go_wp2
      go_ret
      exact ⟨by first | rfl | (simp [zU, zT] <;> rfl) | (simp [*, zU, zT] <;> rfl) | (rw [zW (by assumption)]; rfl), by repeat (first | (with_reducible first | exact HB.out | apply zF | apply zB | apply zE | refine zC ?_ GE205.out) | exact HB.out)⟩
     ·
      rw [if_neg c18] at H
      have c18b0 : decide ((wrap64 ((wrap64 (a0_0 + 1)) * (wrap64 (a0_1 + 1)))) < (l0_3.length : Int)) = false := decide_eq_false c18
      clear c18
      obtain rfl := Option.some.inj H
      have hcz20_0 : wc.cell? ⟨gb205, 0, none⟩ = some (.int .i64 a0_0) := (zD BK205.out 0).trans rfl
      have hcz20_1 : wc.cell? ⟨gb205, 1, none⟩ = some (.int .i64 a0_1) := (zD BK205.out 1).trans rfl
      have hcz20_2 : wc.cell? ⟨gb205, 2, none⟩ = some (.int .i64 a0_2) := (zD BK205.out 2).trans rfl
      have hcz20_3 : wc.cell? ⟨gb205, 3, none⟩ = some (.slice A0_3 l0_3.length c0_3) := (zD BK205.out 3).trans rfl
      have hfz20_0 := zG BK205.out 0
      have hfz20_1 := zG BK205.out 1
      have hfz20_2 := zG BK205.out 2
      have hfz20_3 := zG BK205.out 3
      go_wp2
      go_ret
      exact ⟨by first | rfl | (simp [zU, zT] <;> rfl) | (simp [*, zU, zT] <;> rfl) | (rw [zW (by assumption)]; rfl), by repeat (first | (with_reducible first | exact HB.out | apply zF | apply zB | apply zE | refine zC ?_ GE205.out) | exact HB.out)⟩
/-! ### relief_Check: function 29 -/
def relief_Check.j0 : Nat → Bool → Int → Int → Int → List Int → Option (Int)
 | 0, _, _, _, _, _ => none
 | k + 1, x31, x119000, x119001, x119002, x119003 => if x31 = true then (some 1) else (if (x119003.length : Int) < (wrap64 ((wrap64 (x119000 + 1)) * (wrap64 (x119001 + 1)))) then (some 2) else (if (x119003.length : Int) > (wrap64 ((wrap64 (x119000 + 1)) * (wrap64 (x119001 + 1)))) then (some 7) else (some 0)))
def relief_Check.f (k : Nat) (a0_0 : Int) (a0_1 : Int) (a0_2 : Int) (l0_3 : List Int) : Option (Int) := if a0_0 < 1 then (relief_Check.j0 k true a0_0 a0_1 a0_2 l0_3) else (if a0_0 > 64 then (relief_Check.j0 k true a0_0 a0_1 a0_2 l0_3) else (if a0_1 < 1 then (relief_Check.j0 k true a0_0 a0_1 a0_2 l0_3) else (if a0_1 > 64 then (relief_Check.j0 k true a0_0 a0_1 a0_2 l0_3) else (if a0_2 < 0 then (relief_Check.j0 k true a0_0 a0_1 a0_2 l0_3) else (relief_Check.j0 k (decide (a0_2 > 255)) a0_0 a0_1 a0_2 l0_3)))))
theorem relief_Check.mono_l : ∀ k, (∀ y0 y1 y2 y3 y4, LeO (relief_Check.j0 k y0 y1 y2 y3 y4) (relief_Check.j0 (k + 1) y0 y1 y2 y3 y4))
 | 0 => fun _ _ _ _ _ r h => by simp [relief_Check.j0] at h
 | k + 1 => by
  have ih0 := relief_Check.mono_l k
  ·
   intro y0 y1 y2 y3 y4
   unfold relief_Check.j0
   repeat' first
   | (with_reducible exact ih0 _ _ _ _ _)
   | (with_reducible exact LeO.refl _)
   | (with_reducible exact LeO.none _)
   | (with_reducible refine LeO.ite ?_ ?_)
   | (with_reducible refine LeO.bind ?_ (fun _ => ?_))
   | exact ih0 _ _ _ _ _
   | exact LeO.none _
   | refine LeO.ite ?_ ?_
   | refine LeO.bind ?_ (fun _ => ?_)
theorem relief_Check.mono : ∀ a0 a1 a2 a3 k, LeO (relief_Check.f k a0 a1 a2 a3) (relief_Check.f (k + 1) a0 a1 a2 a3) := by
 intro a0 a1 a2 a3 k
 have ih0 := relief_Check.mono_l k
 unfold relief_Check.f
 repeat' first
   | (with_reducible exact ih0 _ _ _ _ _)
   | (with_reducible exact LeO.refl _)
   | (with_reducible exact LeO.none _)
   | (with_reducible refine LeO.ite ?_ ?_)
   | (with_reducible refine LeO.bind ?_ (fun _ => ?_))
   | exact ih0 _ _ _ _ _
   | exact LeO.none _
   | refine LeO.ite ?_ ?_
   | refine LeO.bind ?_ (fun _ => ?_)
set_option maxHeartbeats 8000000 in
set_option maxRecDepth 100000 in
theorem relief_Check.calls (k : Nat) (a0_0 : Int) (a0_1 : Int) (a0_2 : Int) (A0_3 : Option Addr) (c0_3 : Nat) (l0_3 : List Int) (r : Int) (w : World) (hr0_3 : Kd.C (Kd.int .u8) w A0_3 l0_3.length l0_3) (hc0_3 : l0_3.length ≤ c0_3) (h : relief_Check.f k a0_0 a0_1 a0_2 l0_3 = some r) :
  Calls Try.prog 29 #[.agg #[.int .i64 a0_0, .int .i64 a0_1, .int .i64 a0_2, .slice A0_3 l0_3.length c0_3]] w fun e w' => e = .returned (.int .i64 r) ∧ Below w.heap.size w w' := by
 have hu24 := Try.underlying24
 have HR0_3 := zA hr0_3
 have HC0_3 := zA hc0_3
 clear hr0_3 hc0_3
 have HB := zA (Below.refl w.heap.size w)
 have H : (if a0_0 < 1 then (relief_Check.j0 k true a0_0 a0_1 a0_2 l0_3) else (if a0_0 > 64 then (relief_Check.j0 k true a0_0 a0_1 a0_2 l0_3) else (if a0_1 < 1 then (relief_Check.j0 k true a0_0 a0_1 a0_2 l0_3) else (if a0_1 > 64 then (relief_Check.j0 k true a0_0 a0_1 a0_2 l0_3) else (if a0_2 < 0 then (relief_Check.j0 k true a0_0 a0_1 a0_2 l0_3) else (relief_Check.j0 k (decide (a0_2 > 255)) a0_0 a0_1 a0_2 l0_3)))))) = some r := h
 clear h
 have HC2 := zA H
 clear H
 go_enter Try.func29, Try.ntmps29
 go_upto_region 1 with (first | ((with_reducible refine gate_dst (N := 1) rfl ?_); refine box_event ?hg (N := 1) ?hd (cs := #[.int .i64 a0_0, .int .i64 a0_1, .int .i64 a0_2, .slice A0_3 l0_3.length c0_3]) (t := 24) ?hr ?_; (case hd => rfl); (case hg => rfl); (case hr => first | (go_simp; done) | (go_simp; rfl)); intro gb118 hg w3 hbox hb; have n0_ := zA (zJ (by repeat (first | (with_reducible first | exact HB.out | apply zF | apply zB | apply zE) | exact HB.out)) hb); have n1_ := zA (hbox); have n2_ := zA ((by rw [hg]; exact (zK (by repeat (first | (with_reducible first | exact HB.out | apply zF | apply zB | apply zE) | exact HB.out))) : w.heap.size ≤ gb118)); have n3_ := zA ((by rw [hg]; exact (zK (by repeat (first | (with_reducible first | exact HB.out | apply zF | apply zB | apply zE) | exact HB.out))) : w.heap.size ≤ gb118)); clear HB; have HB := n0_; have BK118 := n1_; have GW118 := n2_; have GE118 := n3_; clear n0_ n1_ n2_ n3_; clear hb hbox hg))
 (try simp only [Act.put, List.setIfInBounds_toArray, List.set_cons_zero, List.set_cons_succ])
 go_cut [31] (fun v31 wc => ∃ (kq : Nat) (x31_1 : Bool), v31 = .bool x31_1 ∧ Aside0 (relief_Check.j0 kq x31_1 a0_0 a0_1 a0_2 l0_3 = some r) ∧ Aside0 (kq ≤ k) ∧ Aside0 (wc.heap[gb118]? = some (.cells #[.int .i64 a0_0, .int .i64 a0_1, .int .i64 a0_2, (.slice A0_3 l0_3.length c0_3)] 24 (0, 0))) ∧ Aside0 (Below w.heap.size w wc))
 case first =>
  have H := HC2.out
  clear HC2
  by_cases c4 : a0_0 < 1
  ·
   rw [if_pos c4] at H
   have c4b0 : decide (a0_0 < 1) = true := decide_eq_true c4
   clear c4
   (first | rw [c4b0] | (simp only [i64_w, i32_w]; rw [c4b0]) | skip)
   have H' := zA H
   clear H
   have hcz5_0 : w3.cell? ⟨gb118, 0, none⟩ = some (.int .i64 a0_0) := (zD BK118.out 0).trans rfl
   have hcz5_1 : w3.cell? ⟨gb118, 1, none⟩ = some (.int .i64 a0_1) := (zD BK118.out 1).trans rfl
   have hcz5_2 : w3.cell? ⟨gb118, 2, none⟩ = some (.int .i64 a0_2) := (zD BK118.out 2).trans rfl
   have hcz5_3 : w3.cell? ⟨gb118, 3, none⟩ = some (.slice A0_3 l0_3.length c0_3) := (zD BK118.out 3).trans rfl
   have hfz5_0 := zG BK118.out 0
   have hfz5_1 := zG BK118.out 1
   have hfz5_2 := zG BK118.out 2
   have hfz5_3 := zG BK118.out 3
   go_wp2
   go_meet
   case rel => exact ⟨_, (true), (by first | rfl | (simp; done) | (simp [*]; done)), H', ⟨by first | omega | exact Nat.le_refl _⟩, ⟨by (with_reducible repeat (first | refine zN ?_ _ | refine zO ?_ | refine zM ?_ _)); exact BK118.out⟩, ⟨by repeat (first | (with_reducible first | exact HB.out | apply zF | apply zB | apply zE | refine zC ?_ GE118.out) | exact HB.out)⟩⟩
  ·
   rw [if_neg c4] at H
   have c4b0 : decide (a0_0 < 1) = false := decide_eq_false c4
   clear c4
   (first | rw [c4b0] | (simp only [i64_w, i32_w]; rw [c4b0]) | skip)
   by_cases c6 : a0_0 > 64
   ·
    rw [if_pos c6] at H
    have c6b0 : decide (64 < a0_0) = true := decide_eq_true c6
    clear c6
    have H' := zA H
    clear H
    have hcz7_0 : w3.cell? ⟨gb118, 0, none⟩ = some (.int .i64 a0_0) := (zD BK118.out 0).trans rfl
    have hcz7_1 : w3.cell? ⟨gb118, 1, none⟩ = some (.int .i64 a0_1) := (zD BK118.out 1).trans rfl
    have hcz7_2 : w3.cell? ⟨gb118, 2, none⟩ = some (.int .i64 a0_2) := (zD BK118.out 2).trans rfl
    have hcz7_3 : w3.cell? ⟨gb118, 3, none⟩ = some (.slice A0_3 l0_3.length c0_3) := (zD BK118.out 3).trans rfl
    have hfz7_0 := zG BK118.out 0
    have hfz7_1 := zG BK118.out 1
    have hfz7_2 := zG BK118.out 2
    have hfz7_3 := zG BK118.out 3
    go_wp2
    go_meet
    case rel => exact ⟨_, (true), (by first | rfl | (simp; done) | (simp [*]; done)), H', ⟨by first | omega | exact Nat.le_refl _⟩, ⟨by (with_reducible repeat (first | refine zN ?_ _ | refine zO ?_ | refine zM ?_ _)); exact BK118.out⟩, ⟨by repeat (first | (with_reducible first | exact HB.out | apply zF | apply zB | apply zE | refine zC ?_ GE118.out) | exact HB.out)⟩⟩
   ·
    rw [if_neg c6] at H
    have c6b0 : decide (64 < a0_0) = false := decide_eq_false c6
    clear c6
    by_cases c8 : a0_1 < 1
    ·
     rw [if_pos c8] at H
     have c8b0 : decide (a0_1 < 1) = true := decide_eq_true c8
     clear c8
     have H' := zA H
     clear H
     have hcz9_0 : w3.cell? ⟨gb118, 0, none⟩ = some (.int .i64 a0_0) := (zD BK118.out 0).trans rfl
     have hcz9_1 : w3.cell? ⟨gb118, 1, none⟩ = some (.int .i64 a0_1) := (zD BK118.out 1).trans rfl
     have hcz9_2 : w3.cell? ⟨gb118, 2, none⟩ = some (.int .i64 a0_2) := (zD BK118.out 2).trans rfl
     have hcz9_3 : w3.cell? ⟨gb118, 3, none⟩ = some (.slice A0_3 l0_3.length c0_3) := (zD BK118.out 3).trans rfl
     have hfz9_0 := zG BK118.out 0
     have hfz9_1 := zG BK118.out 1
     have hfz9_2 := zG BK118.out 2
     have hfz9_3 := zG BK118.out 3
     go_wp2
     go_meet
     case rel => exact ⟨_, (true), (by first | rfl | (simp; done) | (simp [*]; done)), H', ⟨by first | omega | exact Nat.le_refl _⟩, ⟨by (with_reducible repeat (first | refine zN ?_ _ | refine zO ?_ | refine zM ?_ _)); exact BK118.out⟩, ⟨by repeat (first | (with_reducible first | exact HB.out | apply zF | apply zB | apply zE | refine zC ?_ GE118.out) | exact HB.out)⟩⟩
    ·
     rw [if_neg c8] at H
     have c8b0 : decide (a0_1 < 1) = false := decide_eq_false c8
     clear c8
     by_cases c10 : a0_1 > 64
     ·
      rw [if_pos c10] at H
      have c10b0 : decide (64 < a0_1) = true := decide_eq_true c10
      clear c10
      have H' := zA H
      clear H
      have hcz11_0 : w3.cell? ⟨gb118, 0, none⟩ = some (.int .i64 a0_0) := (zD BK118.out 0).trans rfl
      have hcz11_1 : w3.cell? ⟨gb118, 1, none⟩ = some (.int .i64 a0_1) := (zD BK118.out 1).trans rfl
      have hcz11_2 : w3.cell? ⟨gb118, 2, none⟩ = some (.int .i64 a0_2) := (zD BK118.out 2).trans rfl
      have hcz11_3 : w3.cell? ⟨gb118, 3, none⟩ = some (.slice A0_3 l0_3.length c0_3) := (zD BK118.out 3).trans rfl
      have hfz11_0 := zG BK118.out 0
      have hfz11_1 := zG BK118.out 1
      have hfz11_2 := zG BK118.out 2
      have hfz11_3 := zG BK118.out 3
      go_wp2
      go_meet
      case rel => exact ⟨_, (true), (by first | rfl | (simp; done) | (simp [*]; done)), H', ⟨by first | omega | exact Nat.le_refl _⟩, ⟨by (with_reducible repeat (first | refine zN ?_ _ | refine zO ?_ | refine zM ?_ _)); exact BK118.out⟩, ⟨by repeat (first | (with_reducible first | exact HB.out | apply zF | apply zB | apply zE | refine zC ?_ GE118.out) | exact HB.out)⟩⟩
     ·
      rw [if_neg c10] at H
      have c10b0 : decide (64 < a0_1) = false := decide_eq_false c10
      clear c10
      by_cases c12 : a0_2 < 0
      ·
       rw [if_pos c12] at H
       have c12b0 : decide (a0_2 < 0) = true := decide_eq_true c12
       clear c12
       have H' := zA H
       clear H
       have hcz13_0 : w3.cell? ⟨gb118, 0, none⟩ = some (.int .i64 a0_0) := (zD BK118.out 0).trans rfl
       have hcz13_1 : w3.cell? ⟨gb118, 1, none⟩ = some (.int .i64 a0_1) := (zD BK118.out 1).trans rfl
       have hcz13_2 : w3.cell? ⟨gb118, 2, none⟩ = some (.int .i64 a0_2) := (zD BK118.out 2).trans rfl
       have hcz13_3 : w3.cell? ⟨gb118, 3, none⟩ = some (.slice A0_3 l0_3.length c0_3) := (zD BK118.out 3).trans rfl
       have hfz13_0 := zG BK118.out 0
       have hfz13_1 := zG BK118.out 1
       have hfz13_2 := zG BK118.out 2
       have hfz13_3 := zG BK118.out 3
       go_wp2
       go_meet
       case rel => exact ⟨_, (true), (by first | rfl | (simp; done) | (simp [*]; done)), H', ⟨by first | omega | exact Nat.le_refl _⟩, ⟨by (with_reducible repeat (first | refine zN ?_ _ | refine zO ?_ | refine zM ?_ _)); exact BK118.out⟩, ⟨by repeat (first | (with_reducible first | exact HB.out | apply zF | apply zB | apply zE | refine zC ?_ GE118.out) | exact HB.out)⟩⟩
      ·
       rw [if_neg c12] at H
       have c12b0 : decide (a0_2 < 0) = false := decide_eq_false c12
       clear c12
       have H' := zA H
       clear H
       have hcz14_0 : w3.cell? ⟨gb118, 0, none⟩ = some (.int .i64 a0_0) := (zD BK118.out 0).trans rfl
       have hcz14_1 : w3.cell? ⟨gb118, 1, none⟩ = some (.int .i64 a0_1) := (zD BK118.out 1).trans rfl
       have hcz14_2 : w3.cell? ⟨gb118, 2, none⟩ = some (.int .i64 a0_2) := (zD BK118.out 2).trans rfl
       have hcz14_3 : w3.cell? ⟨gb118, 3, none⟩ = some (.slice A0_3 l0_3.length c0_3) := (zD BK118.out 3).trans rfl
       have hfz14_0 := zG BK118.out 0
       have hfz14_1 := zG BK118.out 1
       have hfz14_2 := zG BK118.out 2
       have hfz14_3 := zG BK118.out 3
       go_wp2
       go_meet
       case rel => exact ⟨_, (decide (a0_2 > 255)), (by first | rfl | (simp; done) | (simp [*]; done)), H', ⟨by first | omega | exact Nat.le_refl _⟩, ⟨by (with_reducible repeat (first | refine zN ?_ _ | refine zO ?_ | refine zM ?_ _)); exact BK118.out⟩, ⟨by repeat (first | (with_reducible first | exact HB.out | apply zF | apply zB | apply zE | refine zC ?_ GE118.out) | exact HB.out)⟩⟩
 case rest =>
  clear HC2
  try clear c1
  try clear c2
  try clear p2
  try clear c4
  try clear c4b0
  try clear c6
  try clear c6b0
  try clear c8
  try clear c8b0
  try clear c10
  try clear c10b0
  try clear c12
  try clear c12b0
  try clear hcz11_0
  try clear hcz11_1
  try clear hcz11_2
  try clear hcz11_3
  try clear hcz13_0
  try clear hcz13_1
  try clear hcz13_2
  try clear hcz13_3
  try clear hcz14_0
  try clear hcz14_1
  try clear hcz14_2
  try clear hcz14_3
  try clear hcz5_0
  try clear hcz5_1
  try clear hcz5_2
  try clear hcz5_3
  try clear hcz7_0
  try clear hcz7_1
  try clear hcz7_2
  try clear hcz7_3
  try clear hcz9_0
  try clear hcz9_1
  try clear hcz9_2
  try clear hcz9_3
  try clear hfz11_0
  try clear hfz11_1
  try clear hfz11_2
  try clear hfz11_3
  try clear hfz13_0
  try clear hfz13_1
  try clear hfz13_2
  try clear hfz13_3
  try clear hfz14_0
  try clear hfz14_1
  try clear hfz14_2
  try clear hfz14_3
  try clear hfz5_0
  try clear hfz5_1
  try clear hfz5_2
  try clear hfz5_3
  try clear hfz7_0
  try clear hfz7_1
  try clear hfz7_2
  try clear hfz7_3
  try clear hfz9_0
  try clear hfz9_1
  try clear hfz9_2
  try clear hfz9_3
  obtain ⟨kq, x31_1, rfl, HA, HJ1, BK118, HB⟩ := hcut
  cases kq with
  | zero => exact absurd HA.out (by simp [relief_Check.j0])
  | succ kj1 =>
   have H := HA.out
   clear HA
   simp only [relief_Check.j0] at H
   by_cases c15 : x31_1 = true
   ·
    subst c15
    have H1 : (some 1) = some r := by rw [if_pos rfl] at H; exact H
    clear H
    have H := H1
    clear H1
    obtain rfl := Option.some.inj H
    go_wp2
    go_ret
    exact ⟨by first | rfl | (simp [zU, zT] <;> rfl) | (simp [*, zU, zT] <;> rfl) | (rw [zW (by assumption)]; rfl), by repeat (first | (with_reducible first | exact HB.out | apply zF | apply zB | apply zE | refine zC ?_ GE118.out) | exact HB.out)⟩
   ·
    replace c15 := Bool.eq_false_iff.mpr c15
    subst c15
    have H1 : (if (l0_3.length : Int) < (wrap64 ((wrap64 (a0_0 + 1)) * (wrap64 (a0_1 + 1)))) then (some 2) else (if (l0_3.length : Int) > (wrap64 ((wrap64 (a0_0 + 1)) * (wrap64 (a0_1 + 1)))) then (some 7) else (some 0))) = some r := by rw [if_neg (show ¬ (false = true) by decide)] at H; exact H
    clear H
    have H := H1
    clear H1
    by_cases c16 : (l0_3.length : Int) < (wrap64 ((wrap64 (a0_0 + 1)) * (wrap64 (a0_1 + 1))))
    ·
     rw [if_pos c16] at H
     have c16b0 : decide ((l0_3.length : Int) < (wrap64 ((wrap64 (a0_0 + 1)) * (wrap64 (a0_1 + 1))))) = true := decide_eq_true c16
     clear c16
     obtain rfl := Option.some.inj H
     have hcz17_0 : wc.cell? ⟨gb118, 0, none⟩ = some (.int .i64 a0_0) := (zD BK118.out 0).trans rfl
     have hcz17_1 : wc.cell? ⟨gb118, 1, none⟩ = some (.int .i64 a0_1) := (zD BK118.out 1).trans rfl
     have hcz17_2 : wc.cell? ⟨gb118, 2, none⟩ = some (.int .i64 a0_2) := (zD BK118.out 2).trans rfl
     have hcz17_3 : wc.cell? ⟨gb118, 3, none⟩ = some (.slice A0_3 l0_3.length c0_3) := (zD BK118.out 3).trans rfl
     have hfz17_0 := zG BK118.out 0
     have hfz17_1 := zG BK118.out 1
     have hfz17_2 := zG BK118.out 2
     have hfz17_3 := zG BK118.out 3
     go_wp2
     go_ret
     exact ⟨by first | rfl | (simp [zU, zT] <;> rfl) | (simp [*, zU, zT] <;> rfl) | (rw [zW (by assumption)]; rfl), by repeat (first | (with_reducible first | exact HB.out | apply zF | apply zB | apply zE | refine zC ?_ GE118.out) | exact HB.out)⟩
    ·
     rw [if_neg c16] at H
     have c16b0 : decide ((l0_3.length : Int) < (wrap64 ((wrap64 (a0_0 + 1)) * (wrap64 (a0_1 + 1))))) = false := decide_eq_false c16
     clear c16
     by_cases c18 : (l0_3.length : Int) > (wrap64 ((wrap64 (a0_0 + 1)) * (wrap64 (a0_1 + 1))))
     ·
      rw [if_pos c18] at H
      have c18b0 : decide ((wrap64 ((wrap64 (a0_0 + 1)) * (wrap64 (a0_1 + 1)))) < (l0_3.length : Int)) = true := decide_eq_true c18
      clear c18
      obtain rfl := Option.some.inj H
      have hcz19_0 : wc.cell? ⟨gb118, 0, none⟩ = some (.int .i64 a0_0) := (zD BK118.out 0).trans rfl
      have hcz19_1 : wc.cell? ⟨gb118, 1, none⟩ = some (.int .i64 a0_1) := (zD BK118.out 1).trans rfl
      have hcz19_2 : wc.cell? ⟨gb118, 2, none⟩ = some (.int .i64 a0_2) := (zD BK118.out 2).trans rfl
      have hcz19_3 : wc.cell? ⟨gb118, 3, none⟩ = some (.slice A0_3 l0_3.length c0_3) := (zD BK118.out 3).trans rfl
      have hfz19_0 := zG BK118.out 0
      have hfz19_1 := zG BK118.out 1
      have hfz19_2 := zG BK118.out 2
      have hfz19_3 := zG BK118.out 3
      go_wp2
      go_ret
      exact ⟨by first | rfl | (simp [zU, zT] <;> rfl) | (simp [*, zU, zT] <;> rfl) | (rw [zW (by assumption)]; rfl), by repeat (first | (with_reducible first | exact HB.out | apply zF | apply zB | apply zE | refine zC ?_ GE118.out) | exact HB.out)⟩
     ·
      rw [if_neg c18] at H
      have c18b0 : decide ((wrap64 ((wrap64 (a0_0 + 1)) * (wrap64 (a0_1 + 1)))) < (l0_3.length : Int)) = false := decide_eq_false c18
      clear c18
      obtain rfl := Option.some.inj H
      have hcz20_0 : wc.cell? ⟨gb118, 0, none⟩ = some (.int .i64 a0_0) := (zD BK118.out 0).trans rfl
      have hcz20_1 : wc.cell? ⟨gb118, 1, none⟩ = some (.int .i64 a0_1) := (zD BK118.out 1).trans rfl
      have hcz20_2 : wc.cell? ⟨gb118, 2, none⟩ = some (.int .i64 a0_2) := (zD BK118.out 2).trans rfl
      have hcz20_3 : wc.cell? ⟨gb118, 3, none⟩ = some (.slice A0_3 l0_3.length c0_3) := (zD BK118.out 3).trans rfl
      have hfz20_0 := zG BK118.out 0
      have hfz20_1 := zG BK118.out 1
      have hfz20_2 := zG BK118.out 2
      have hfz20_3 := zG BK118.out 3
      go_wp2
      go_ret
      exact ⟨by first | rfl | (simp [zU, zT] <;> rfl) | (simp [*, zU, zT] <;> rfl) | (rw [zW (by assumption)]; rfl), by repeat (first | (with_reducible first | exact HB.out | apply zF | apply zB | apply zE | refine zC ?_ GE118.out) | exact HB.out)⟩
/-! ### sight_near: function 23 -/
def sight_near.f (a0_0 : Int) (a0_1 : Int) (a0_2 : Int) (l0_3 : List Int) (a1_0 : Int) (a1_1 : Int) (a1_2 : Int) (a1_3 : Int) (a1_4 : Int) (a1_5 : Int) (a1_6 : Int) (a1_7 : Int) (a2 : Int) (a3 : Int) : Option (Bool) := if a0_0 = 0 then (none) else (some (decide ((wrap64 ((wrap64 ((wrap64 ((Int.tmod a2 a0_0) - a1_1)) * (wrap64 ((Int.tmod a2 a0_0) - a1_1)))) + (wrap64 ((wrap64 ((wrap64 (Int.tdiv a2 a0_0)) - a1_2)) * (wrap64 ((wrap64 (Int.tdiv a2 a0_0)) - a1_2)))))) ≤ (wrap64 (a3 * a3)))))
set_option maxHeartbeats 8000000 in
set_option maxRecDepth 100000 in
theorem sight_near.calls (a0_0 : Int) (a0_1 : Int) (a0_2 : Int) (A0_3 : Option Addr) (c0_3 : Nat) (l0_3 : List Int) (a1_0 : Int) (a1_1 : Int) (a1_2 : Int) (a1_3 : Int) (a1_4 : Int) (a1_5 : Int) (a1_6 : Int) (a1_7 : Int) (a2 : Int) (a3 : Int) (r : Bool) (w : World) (hr0_3 : Kd.C (Kd.int .u8) w A0_3 l0_3.length l0_3) (hc0_3 : l0_3.length ≤ c0_3) (h : sight_near.f a0_0 a0_1 a0_2 l0_3 a1_0 a1_1 a1_2 a1_3 a1_4 a1_5 a1_6 a1_7 a2 a3 = some r) :
  Calls Try.prog 23 #[.agg #[.int .i64 a0_0, .int .i64 a0_1, .int .i64 a0_2, .slice A0_3 l0_3.length c0_3], .agg #[.int .i64 a1_0, .int .i64 a1_1, .int .i64 a1_2, .int .i64 a1_3, .int .i64 a1_4, .int .i64 a1_5, .int .i64 a1_6, .int .i64 a1_7], .int .i64 a2, .int .i64 a3] w fun e w' => e = .returned (.bool r) ∧ Below w.heap.size w w' := by
 have hu24 := Try.underlying24
 have hu27 := Try.underlying27
 have HR0_3 := zA hr0_3
 have HC0_3 := zA hc0_3
 clear hr0_3 hc0_3
 have HB := zA (Below.refl w.heap.size w)
 have H : (if a0_0 = 0 then (none) else (some (decide ((wrap64 ((wrap64 ((wrap64 ((Int.tmod a2 a0_0) - a1_1)) * (wrap64 ((Int.tmod a2 a0_0) - a1_1)))) + (wrap64 ((wrap64 ((wrap64 (Int.tdiv a2 a0_0)) - a1_2)) * (wrap64 ((wrap64 (Int.tdiv a2 a0_0)) - a1_2)))))) ≤ (wrap64 (a3 * a3)))))) = some r := h
 clear h
 by_cases c5 : a0_0 = 0
 ·
  rw [if_pos c5] at H
  exact absurd H (by simp)
 ·
  rw [if_neg c5] at H
  have c5b0 : (a0_0 == 0) = false := beq_eq_false_iff_ne.mpr c5
  have c5b1 : (a0_0 != 0) = true := bne_iff_ne.mpr c5
  obtain rfl := Option.some.inj H
  go_enter Try.func23, Try.ntmps23
  go_wp2_with (first | ((with_reducible refine gate_dst (N := 4) rfl ?_); refine box_event ?hg (N := 4) ?hd (cs := #[.int .i64 a0_0, .int .i64 a0_1, .int .i64 a0_2, .slice A0_3 l0_3.length c0_3]) (t := 24) ?hr ?_; (case hd => rfl); (case hg => rfl); (case hr => first | (go_simp; done) | (go_simp; rfl)); intro gb197 hg w6 hbox hb; have n0_ := zA (zJ (by repeat (first | (with_reducible first | exact HB.out | apply zF | apply zB | apply zE) | exact HB.out)) hb); have n1_ := zA (hbox); have n2_ := zA ((by rw [hg]; exact (zK (by repeat (first | (with_reducible first | exact HB.out | apply zF | apply zB | apply zE) | exact HB.out))) : w.heap.size ≤ gb197)); have n3_ := zA ((by rw [hg]; exact (zK (by repeat (first | (with_reducible first | exact HB.out | apply zF | apply zB | apply zE) | exact HB.out))) : w.heap.size ≤ gb197)); clear HB; have HB := n0_; have BK197 := n1_; have GW197 := n2_; have GE197 := n3_; clear n0_ n1_ n2_ n3_; clear hb hbox hg) | ((with_reducible refine gate_dst (N := 5) rfl ?_); refine box_event ?hg (N := 5) ?hd (cs := #[.int .i64 a1_0, .int .i64 a1_1, .int .i64 a1_2, .int .i64 a1_3, .int .i64 a1_4, .int .i64 a1_5, .int .i64 a1_6, .int .i64 a1_7]) (t := 27) ?hr ?_; (case hd => rfl); (case hg => rfl); (case hr => first | (go_simp; done) | (go_simp; rfl)); intro gb198 hg w7 hbox hb; have n0_ := zA (zI (g := gb197) (o := .cells #[.int .i64 a0_0, .int .i64 a0_1, .int .i64 a0_2, .slice A0_3 l0_3.length c0_3] 24 (0, 0)) (by (with_reducible repeat (first | refine zN ?_ _ | refine zO ?_ | refine zM ?_ _)); exact BK197.out) hb); have n1_ := zA (zJ (by repeat (first | (with_reducible first | exact HB.out | apply zF | apply zB | apply zE | refine zC ?_ GE197.out) | exact HB.out)) hb); have n2_ := zA (hbox); have n3_ := zA ((by rw [hg]; exact (zK (by repeat (first | (with_reducible first | exact HB.out | apply zF | apply zB | apply zE | refine zC ?_ GE197.out) | exact HB.out))) : w.heap.size ≤ gb198)); have n4_ := zA ((by rw [hg]; exact (zK (by repeat (first | (with_reducible first | exact HB.out | apply zF | apply zB | apply zE | refine zC ?_ GE197.out) | exact HB.out))) : w.heap.size ≤ gb198)); have n5_ := zA ((by rw [hg]; exact Nat.ne_of_lt (blk_lt (g := gb197) (o := .cells #[.int .i64 a0_0, .int .i64 a0_1, .int .i64 a0_2, .slice A0_3 l0_3.length c0_3] 24 (0, 0)) (by (with_reducible repeat (first | refine zN ?_ _ | refine zO ?_ | refine zM ?_ _)); exact BK197.out)) : gb197 ≠ gb198)); have n6_ := zA ((by rw [hg]; exact Nat.ne_of_gt (blk_lt (g := gb197) (o := .cells #[.int .i64 a0_0, .int .i64 a0_1, .int .i64 a0_2, .slice A0_3 l0_3.length c0_3] 24 (0, 0)) (by (with_reducible repeat (first | refine zN ?_ _ | refine zO ?_ | refine zM ?_ _)); exact BK197.out)) : gb198 ≠ gb197)); clear BK197; clear HB; have BK197 := n0_; have HB := n1_; have BK198 := n2_; have GW198 := n3_; have GE198 := n4_; have NB197_198 := n5_; have NB198_197 := n6_; clear n0_ n1_ n2_ n3_ n4_ n5_ n6_; clear hb hbox hg; have hnb8 := NB197_198.out; have hnc8 := NB198_197.out; have hcz9_0 : w7.cell? ⟨gb197, 0, none⟩ = some (.int .i64 a0_0) := (zD BK197.out 0).trans rfl; have hcz9_1 : w7.cell? ⟨gb197, 1, none⟩ = some (.int .i64 a0_1) := (zD BK197.out 1).trans rfl; have hcz9_2 : w7.cell? ⟨gb197, 2, none⟩ = some (.int .i64 a0_2) := (zD BK197.out 2).trans rfl; have hcz9_3 : w7.cell? ⟨gb197, 3, none⟩ = some (.slice A0_3 l0_3.length c0_3) := (zD BK197.out 3).trans rfl; have hfz9_0 := zG BK197.out 0; have hfz9_1 := zG BK197.out 1; have hfz9_2 := zG BK197.out 2; have hfz9_3 := zG BK197.out 3; have hcz10_0 : w7.cell? ⟨gb198, 0, none⟩ = some (.int .i64 a1_0) := (zD BK198.out 0).trans rfl; have hcz10_1 : w7.cell? ⟨gb198, 1, none⟩ = some (.int .i64 a1_1) := (zD BK198.out 1).trans rfl; have hcz10_2 : w7.cell? ⟨gb198, 2, none⟩ = some (.int .i64 a1_2) := (zD BK198.out 2).trans rfl; have hcz10_3 : w7.cell? ⟨gb198, 3, none⟩ = some (.int .i64 a1_3) := (zD BK198.out 3).trans rfl; have hcz10_4 : w7.cell? ⟨gb198, 4, none⟩ = some (.int .i64 a1_4) := (zD BK198.out 4).trans rfl; have hcz10_5 : w7.cell? ⟨gb198, 5, none⟩ = some (.int .i64 a1_5) := (zD BK198.out 5).trans rfl; have hcz10_6 : w7.cell? ⟨gb198, 6, none⟩ = some (.int .i64 a1_6) := (zD BK198.out 6).trans rfl; have hcz10_7 : w7.cell? ⟨gb198, 7, none⟩ = some (.int .i64 a1_7) := (zD BK198.out 7).trans rfl; have hfz10_0 := zG BK198.out 0; have hfz10_1 := zG BK198.out 1; have hfz10_2 := zG BK198.out 2; have hfz10_3 := zG BK198.out 3; have hfz10_4 := zG BK198.out 4; have hfz10_5 := zG BK198.out 5; have hfz10_6 := zG BK198.out 6; have hfz10_7 := zG BK198.out 7))
  repeat (go_quiet (first | ((with_reducible refine gate_dst (N := 4) rfl ?_); refine box_event ?hg (N := 4) ?hd (cs := #[.int .i64 a0_0, .int .i64 a0_1, .int .i64 a0_2, .slice A0_3 l0_3.length c0_3]) (t := 24) ?hr ?_; (case hd => rfl); (case hg => rfl); (case hr => first | (go_simp; done) | (go_simp; rfl)); intro gb197 hg w6 hbox hb; have n0_ := zA (zJ (by repeat (first | (with_reducible first | exact HB.out | apply zF | apply zB | apply zE) | exact HB.out)) hb); have n1_ := zA (hbox); have n2_ := zA ((by rw [hg]; exact (zK (by repeat (first | (with_reducible first | exact HB.out | apply zF | apply zB | apply zE) | exact HB.out))) : w.heap.size ≤ gb197)); have n3_ := zA ((by rw [hg]; exact (zK (by repeat (first | (with_reducible first | exact HB.out | apply zF | apply zB | apply zE) | exact HB.out))) : w.heap.size ≤ gb197)); clear HB; have HB := n0_; have BK197 := n1_; have GW197 := n2_; have GE197 := n3_; clear n0_ n1_ n2_ n3_; clear hb hbox hg) | ((with_reducible refine gate_dst (N := 5) rfl ?_); refine box_event ?hg (N := 5) ?hd (cs := #[.int .i64 a1_0, .int .i64 a1_1, .int .i64 a1_2, .int .i64 a1_3, .int .i64 a1_4, .int .i64 a1_5, .int .i64 a1_6, .int .i64 a1_7]) (t := 27) ?hr ?_; (case hd => rfl); (case hg => rfl); (case hr => first | (go_simp; done) | (go_simp; rfl)); intro gb198 hg w7 hbox hb; have n0_ := zA (zI (g := gb197) (o := .cells #[.int .i64 a0_0, .int .i64 a0_1, .int .i64 a0_2, .slice A0_3 l0_3.length c0_3] 24 (0, 0)) (by (with_reducible repeat (first | refine zN ?_ _ | refine zO ?_ | refine zM ?_ _)); exact BK197.out) hb); have n1_ := zA (zJ (by repeat (first | (with_reducible first | exact HB.out | apply zF | apply zB | apply zE | refine zC ?_ GE197.out) | exact HB.out)) hb); have n2_ := zA (hbox); have n3_ := zA ((by rw [hg]; exact (zK (by repeat (first | (with_reducible first | exact HB.out | apply zF | apply zB | apply zE | refine zC ?_ GE197.out) | exact HB.out))) : w.heap.size ≤ gb198)); have n4_ := zA ((by rw [hg]; exact (zK (by repeat (first | (with_reducible first | exact HB.out | apply zF | apply zB | apply zE | refine zC ?_ GE197.out) | exact HB.out))) : w.heap.size ≤ gb198)); have n5_ := zA ((by rw [hg]; exact Nat.ne_of_lt (blk_lt (g := gb197) (o := .cells #[.int .i64 a0_0, .int .i64 a0_1, .int .i64 a0_2, .slice A0_3 l0_3.length c0_3] 24 (0, 0)) (by (with_reducible repeat (first | refine zN ?_ _ | refine zO ?_ | refine zM ?_ _)); exact BK197.out)) : gb197 ≠ gb198)); have n6_ := zA ((by rw [hg]; exact Nat.ne_of_gt (blk_lt (g := gb197) (o := .cells #[.int .i64 a0_0, .int .i64 a0_1, .int .i64 a0_2, .slice A0_3 l0_3.length c0_3] 24 (0, 0)) (by (with_reducible repeat (first | refine zN ?_ _ | refine zO ?_ | refine zM ?_ _)); exact BK197.out)) : gb198 ≠ gb197)); clear BK197; clear HB; have BK197 := n0_; have HB := n1_; have BK198 := n2_; have GW198 := n3_; have GE198 := n4_; have NB197_198 := n5_; have NB198_197 := n6_; clear n0_ n1_ n2_ n3_ n4_ n5_ n6_; clear hb hbox hg; have hnb8 := NB197_198.out; have hnc8 := NB198_197.out; have hcz9_0 : w7.cell? ⟨gb197, 0, none⟩ = some (.int .i64 a0_0) := (zD BK197.out 0).trans rfl; have hcz9_1 : w7.cell? ⟨gb197, 1, none⟩ = some (.int .i64 a0_1) := (zD BK197.out 1).trans rfl; have hcz9_2 : w7.cell? ⟨gb197, 2, none⟩ = some (.int .i64 a0_2) := (zD BK197.out 2).trans rfl; have hcz9_3 : w7.cell? ⟨gb197, 3, none⟩ = some (.slice A0_3 l0_3.length c0_3) := (zD BK197.out 3).trans rfl; have hfz9_0 := zG BK197.out 0; have hfz9_1 := zG BK197.out 1; have hfz9_2 := zG BK197.out 2; have hfz9_3 := zG BK197.out 3; have hcz10_0 : w7.cell? ⟨gb198, 0, none⟩ = some (.int .i64 a1_0) := (zD BK198.out 0).trans rfl; have hcz10_1 : w7.cell? ⟨gb198, 1, none⟩ = some (.int .i64 a1_1) := (zD BK198.out 1).trans rfl; have hcz10_2 : w7.cell? ⟨gb198, 2, none⟩ = some (.int .i64 a1_2) := (zD BK198.out 2).trans rfl; have hcz10_3 : w7.cell? ⟨gb198, 3, none⟩ = some (.int .i64 a1_3) := (zD BK198.out 3).trans rfl; have hcz10_4 : w7.cell? ⟨gb198, 4, none⟩ = some (.int .i64 a1_4) := (zD BK198.out 4).trans rfl; have hcz10_5 : w7.cell? ⟨gb198, 5, none⟩ = some (.int .i64 a1_5) := (zD BK198.out 5).trans rfl; have hcz10_6 : w7.cell? ⟨gb198, 6, none⟩ = some (.int .i64 a1_6) := (zD BK198.out 6).trans rfl; have hcz10_7 : w7.cell? ⟨gb198, 7, none⟩ = some (.int .i64 a1_7) := (zD BK198.out 7).trans rfl; have hfz10_0 := zG BK198.out 0; have hfz10_1 := zG BK198.out 1; have hfz10_2 := zG BK198.out 2; have hfz10_3 := zG BK198.out 3; have hfz10_4 := zG BK198.out 4; have hfz10_5 := zG BK198.out 5; have hfz10_6 := zG BK198.out 6; have hfz10_7 := zG BK198.out 7)); try go_wp2_with (first | ((with_reducible refine gate_dst (N := 4) rfl ?_); refine box_event ?hg (N := 4) ?hd (cs := #[.int .i64 a0_0, .int .i64 a0_1, .int .i64 a0_2, .slice A0_3 l0_3.length c0_3]) (t := 24) ?hr ?_; (case hd => rfl); (case hg => rfl); (case hr => first | (go_simp; done) | (go_simp; rfl)); intro gb197 hg w6 hbox hb; have n0_ := zA (zJ (by repeat (first | (with_reducible first | exact HB.out | apply zF | apply zB | apply zE) | exact HB.out)) hb); have n1_ := zA (hbox); have n2_ := zA ((by rw [hg]; exact (zK (by repeat (first | (with_reducible first | exact HB.out | apply zF | apply zB | apply zE) | exact HB.out))) : w.heap.size ≤ gb197)); have n3_ := zA ((by rw [hg]; exact (zK (by repeat (first | (with_reducible first | exact HB.out | apply zF | apply zB | apply zE) | exact HB.out))) : w.heap.size ≤ gb197)); clear HB; have HB := n0_; have BK197 := n1_; have GW197 := n2_; have GE197 := n3_; clear n0_ n1_ n2_ n3_; clear hb hbox hg) | ((with_reducible refine gate_dst (N := 5) rfl ?_); refine box_event ?hg (N := 5) ?hd (cs := #[.int .i64 a1_0, .int .i64 a1_1, .int .i64 a1_2, .int .i64 a1_3, .int .i64 a1_4, .int .i64 a1_5, .int .i64 a1_6, .int .i64 a1_7]) (t := 27) ?hr ?_; (case hd => rfl); (case hg => rfl); (case hr => first | (go_simp; done) | (go_simp; rfl)); intro gb198 hg w7 hbox hb; have n0_ := zA (zI (g := gb197) (o := .cells #[.int .i64 a0_0, .int .i64 a0_1, .int .i64 a0_2, .slice A0_3 l0_3.length c0_3] 24 (0, 0)) (by (with_reducible repeat (first | refine zN ?_ _ | refine zO ?_ | refine zM ?_ _)); exact BK197.out) hb); have n1_ := zA (zJ (by repeat (first | (with_reducible first | exact HB.out | apply zF | apply zB | apply zE | refine zC ?_ GE197.out) | exact HB.out)) hb); have n2_ := zA (hbox); have n3_ := zA ((by rw [hg]; exact (zK (by repeat (first | (with_reducible first | exact HB.out | apply zF | apply zB | apply zE | refine zC ?_ GE197.out) | exact HB.out))) : w.heap.size ≤ gb198)); have n4_ := zA ((by rw [hg]; exact (zK (by repeat (first | (with_reducible first | exact HB.out | apply zF | apply zB | apply zE | refine zC ?_ GE197.out) | exact HB.out))) : w.heap.size ≤ gb198)); have n5_ := zA ((by rw [hg]; exact Nat.ne_of_lt (blk_lt (g := gb197) (o := .cells #[.int .i64 a0_0, .int .i64 a0_1, .int .i64 a0_2, .slice A0_3 l0_3.length c0_3] 24 (0, 0)) (by (with_reducible repeat (first | refine zN ?_ _ | refine zO ?_ | refine zM ?_ _)); exact BK197.out)) : gb197 ≠ gb198)); have n6_ := zA ((by rw [hg]; exact Nat.ne_of_gt (blk_lt (g := gb197) (o := .cells #[.int .i64 a0_0, .int .i64 a0_1, .int .i64 a0_2, .slice A0_3 l0_3.length c0_3] 24 (0, 0)) (by (with_reducible repeat (first | refine zN ?_ _ | refine zO ?_ | refine zM ?_ _)); exact BK197.out)) : gb198 ≠ gb197)); clear BK197; clear HB; have BK197 := n0_; have HB := n1_; have BK198 := n2_; have GW198 := n3_; have GE198 := n4_; have NB197_198 := n5_; have NB198_197 := n6_; clear n0_ n1_ n2_ n3_ n4_ n5_ n6_; clear hb hbox hg; have hnb8 := NB197_198.out; have hnc8 := NB198_197.out; have hcz9_0 : w7.cell? ⟨gb197, 0, none⟩ = some (.int .i64 a0_0) := (zD BK197.out 0).trans rfl; have hcz9_1 : w7.cell? ⟨gb197, 1, none⟩ = some (.int .i64 a0_1) := (zD BK197.out 1).trans rfl; have hcz9_2 : w7.cell? ⟨gb197, 2, none⟩ = some (.int .i64 a0_2) := (zD BK197.out 2).trans rfl; have hcz9_3 : w7.cell? ⟨gb197, 3, none⟩ = some (.slice A0_3 l0_3.length c0_3) := (zD BK197.out 3).trans rfl; have hfz9_0 := zG BK197.out 0; have hfz9_1 := zG BK197.out 1; have hfz9_2 := zG BK197.out 2; have hfz9_3 := zG BK197.out 3; have hcz10_0 : w7.cell? ⟨gb198, 0, none⟩ = some (.int .i64 a1_0) := (zD BK198.out 0).trans rfl; have hcz10_1 : w7.cell? ⟨gb198, 1, none⟩ = some (.int .i64 a1_1) := (zD BK198.out 1).trans rfl; have hcz10_2 : w7.cell? ⟨gb198, 2, none⟩ = some (.int .i64 a1_2) := (zD BK198.out 2).trans rfl; have hcz10_3 : w7.cell? ⟨gb198, 3, none⟩ = some (.int .i64 a1_3) := (zD BK198.out 3).trans rfl; have hcz10_4 : w7.cell? ⟨gb198, 4, none⟩ = some (.int .i64 a1_4) := (zD BK198.out 4).trans rfl; have hcz10_5 : w7.cell? ⟨gb198, 5, none⟩ = some (.int .i64 a1_5) := (zD BK198.out 5).trans rfl; have hcz10_6 : w7.cell? ⟨gb198, 6, none⟩ = some (.int .i64 a1_6) := (zD BK198.out 6).trans rfl; have hcz10_7 : w7.cell? ⟨gb198, 7, none⟩ = some (.int .i64 a1_7) := (zD BK198.out 7).trans rfl; have hfz10_0 := zG BK198.out 0; have hfz10_1 := zG BK198.out 1; have hfz10_2 := zG BK198.out 2; have hfz10_3 := zG BK198.out 3; have hfz10_4 := zG BK198.out 4; have hfz10_5 := zG BK198.out 5; have hfz10_6 := zG BK198.out 6; have hfz10_7 := zG BK198.out 7)))
  go_ret
  exact ⟨by first | rfl | (simp [zU, zT] <;> rfl) | (simp [*, zU, zT] <;> rfl) | (rw [zW (by assumption)]; rfl), by repeat (first | (with_reducible first | exact HB.out | apply zF | apply zB | apply zE | refine zC ?_ GE197.out | refine zC ?_ GE198.out) | exact HB.out)⟩
/-! ### bivouacref08_Seen: function 32 -/
def bivouacref08_Seen.f (k : Nat) (a0_0 : Int) (a0_1 : Int) (a0_2 : Int) (l0_3 : List Int) (a1 : Int) (a2 : Int) (a3 : Int) (a4 : Int) (a5 : Int) (a6 : Int) : Option (Bool) := if (wrap64 ((wrap64 ((wrap64 (a5 - a1)) * (wrap64 (a5 - a1)))) + (wrap64 ((wrap64 (a6 - a2)) * (wrap64 (a6 - a2)))))) ≤ (wrap64 (a4 * a4)) then ((bivouacref08_Sees.f k a0_0 a0_1 a0_2 l0_3 a1 a2 a5 a6 a3 0).bind fun t279 => (some t279)) else (some false)
theorem bivouacref08_Seen.mono : ∀ a0 a1 a2 a3 a4 a5 a6 a7 a8 a9 k, LeO (bivouacref08_Seen.f k a0 a1 a2 a3 a4 a5 a6 a7 a8 a9) (bivouacref08_Seen.f (k + 1) a0 a1 a2 a3 a4 a5 a6 a7 a8 a9) := by
 intro a0 a1 a2 a3 a4 a5 a6 a7 a8 a9 k
 unfold bivouacref08_Seen.f
 repeat' first
   | (with_reducible exact bivouacref08_Sees.mono _ _ _ _ _ _ _ _ _ _ _)
   | (with_reducible exact LeO.refl _)
   | (with_reducible exact LeO.none _)
   | (with_reducible refine LeO.ite ?_ ?_)
   | (with_reducible refine LeO.bind ?_ (fun _ => ?_))
   | exact bivouacref08_Sees.mono _ _ _ _ _ _ _ _ _ _ _
   | exact LeO.none _
   | refine LeO.ite ?_ ?_
   | refine LeO.bind ?_ (fun _ => ?_)
set_option maxHeartbeats 8000000 in
set_option maxRecDepth 100000 in
theorem bivouacref08_Seen.calls (k : Nat) (a0_0 : Int) (a0_1 : Int) (a0_2 : Int) (A0_3 : Option Addr) (c0_3 : Nat) (l0_3 : List Int) (a1 : Int) (a2 : Int) (a3 : Int) (a4 : Int) (a5 : Int) (a6 : Int) (r : Bool) (w : World) (hr0_3 : Kd.C (Kd.int .u8) w A0_3 l0_3.length l0_3) (hc0_3 : l0_3.length ≤ c0_3) (h : bivouacref08_Seen.f k a0_0 a0_1 a0_2 l0_3 a1 a2 a3 a4 a5 a6 = some r) :
  Calls Try.prog 32 #[.agg #[.int .i64 a0_0, .int .i64 a0_1, .int .i64 a0_2, .slice A0_3 l0_3.length c0_3], .int .i64 a1, .int .i64 a2, .int .i64 a3, .int .i64 a4, .int .i64 a5, .int .i64 a6] w fun e w' => e = .returned (.bool r) ∧ Below w.heap.size w w' := by
 have hu24 := Try.underlying24
 have HR0_3 := zA hr0_3
 have HC0_3 := zA hc0_3
 clear hr0_3 hc0_3
 have HB := zA (Below.refl w.heap.size w)
 have H : (if (wrap64 ((wrap64 ((wrap64 (a5 - a1)) * (wrap64 (a5 - a1)))) + (wrap64 ((wrap64 (a6 - a2)) * (wrap64 (a6 - a2)))))) ≤ (wrap64 (a4 * a4)) then ((bivouacref08_Sees.f k a0_0 a0_1 a0_2 l0_3 a1 a2 a5 a6 a3 0).bind fun t279 => (some t279)) else (some false)) = some r := h
 clear h
 by_cases c8 : (wrap64 ((wrap64 ((wrap64 (a5 - a1)) * (wrap64 (a5 - a1)))) + (wrap64 ((wrap64 (a6 - a2)) * (wrap64 (a6 - a2)))))) ≤ (wrap64 (a4 * a4))
 ·
  rw [if_pos c8] at H
  have c8b0 : decide ((wrap64 ((wrap64 ((wrap64 (a5 - a1)) * (wrap64 (a5 - a1)))) + (wrap64 ((wrap64 (a6 - a2)) * (wrap64 (a6 - a2)))))) ≤ (wrap64 (a4 * a4))) = true := decide_eq_true c8
  clear c8
  replace H := Option.bind_eq_some_iff.mp H
  obtain ⟨t279, A90, H⟩ := H
  replace H : (some t279) = some r := H
  have A9 := zA A90
  clear A90
  obtain rfl := Option.some.inj H
  go_enter Try.func32, Try.ntmps32
  go_wp2_with (first | ((with_reducible refine gate_dst (N := 7) rfl ?_); refine box_event ?hg (N := 7) ?hd (cs := #[.int .i64 a0_0, .int .i64 a0_1, .int .i64 a0_2, .slice A0_3 l0_3.length c0_3]) (t := 24) ?hr ?_; (case hd => rfl); (case hg => rfl); (case hr => first | (go_simp; done) | (go_simp; rfl)); intro gb278 hg w10 hbox hb; have n0_ := zA (zJ (by repeat (first | (with_reducible first | exact HB.out | apply zF | apply zB | apply zE) | exact HB.out)) hb); have n1_ := zA (hbox); have n2_ := zA ((by rw [hg]; exact (zK (by repeat (first | (with_reducible first | exact HB.out | apply zF | apply zB | apply zE) | exact HB.out))) : w.heap.size ≤ gb278)); have n3_ := zA ((by rw [hg]; exact (zK (by repeat (first | (with_reducible first | exact HB.out | apply zF | apply zB | apply zE) | exact HB.out))) : w.heap.size ≤ gb278)); clear HB; have HB := n0_; have BK278 := n1_; have GW278 := n2_; have GE278 := n3_; clear n0_ n1_ n2_ n3_; clear hb hbox hg; have hcz11_0 : w10.cell? ⟨gb278, 0, none⟩ = some (.int .i64 a0_0) := (zD BK278.out 0).trans rfl; have hcz11_1 : w10.cell? ⟨gb278, 1, none⟩ = some (.int .i64 a0_1) := (zD BK278.out 1).trans rfl; have hcz11_2 : w10.cell? ⟨gb278, 2, none⟩ = some (.int .i64 a0_2) := (zD BK278.out 2).trans rfl; have hcz11_3 : w10.cell? ⟨gb278, 3, none⟩ = some (.slice A0_3 l0_3.length c0_3) := (zD BK278.out 3).trans rfl; have hfz11_0 := zG BK278.out 0; have hfz11_1 := zG BK278.out 1; have hfz11_2 := zG BK278.out 2; have hfz11_3 := zG BK278.out 3) | (go_at_call 42; (with_reducible refine (bivouacref08_Sees.calls k a0_0 a0_1 a0_2 _ _ l0_3 a1 a2 a5 a6 a3 0 t279 _ ?side1 ?side2 A9.out).mono ?_); (case side1 => repeat (first | exact (Kd.C_below HR0_3.out HB.out) | (with_reducible refine Kd.C_alloc ?_ _) | (with_reducible refine Kd.C_drewN ?_ _) | (with_reducible refine Kd.C_drew ?_))); (case side2 => exact HC0_3.out); rintro e w12 ⟨rfl, hb⟩; have n0_ := zA (zI (g := gb278) (o := .cells #[.int .i64 a0_0, .int .i64 a0_1, .int .i64 a0_2, .slice A0_3 l0_3.length c0_3] 24 (0, 0)) (by (with_reducible repeat (first | refine zN ?_ _ | refine zO ?_ | refine zM ?_ _)); exact BK278.out) hb); have n1_ := zA (zJ (by repeat (first | (with_reducible first | exact HB.out | apply zF | apply zB | apply zE | refine zC ?_ GE278.out) | exact HB.out)) hb); clear BK278; clear HB; have BK278 := n0_; have HB := n1_; clear n0_ n1_; (try clear hb); (try clear hb2); (try clear hk); (try clear hi)))
  go_ret
  exact ⟨by first | rfl | (simp [zU, zT] <;> rfl) | (simp [*, zU, zT] <;> rfl) | (rw [zW (by assumption)]; rfl), by repeat (first | (with_reducible first | exact HB.out | apply zF | apply zB | apply zE | refine zC ?_ GE278.out) | exact HB.out)⟩
 ·
  rw [if_neg c8] at H
  have c8b0 : decide ((wrap64 ((wrap64 ((wrap64 (a5 - a1)) * (wrap64 (a5 - a1)))) + (wrap64 ((wrap64 (a6 - a2)) * (wrap64 (a6 - a2)))))) ≤ (wrap64 (a4 * a4))) = false := decide_eq_false c8
  clear c8
  obtain rfl := Option.some.inj H
  go_enter Try.func32, Try.ntmps32
  go_wp2_with (first | ((with_reducible refine gate_dst (N := 7) rfl ?_); refine box_event ?hg (N := 7) ?hd (cs := #[.int .i64 a0_0, .int .i64 a0_1, .int .i64 a0_2, .slice A0_3 l0_3.length c0_3]) (t := 24) ?hr ?_; (case hd => rfl); (case hg => rfl); (case hr => first | (go_simp; done) | (go_simp; rfl)); intro gb278 hg w13 hbox hb; have n0_ := zA (zJ (by repeat (first | (with_reducible first | exact HB.out | apply zF | apply zB | apply zE) | exact HB.out)) hb); have n1_ := zA (hbox); have n2_ := zA ((by rw [hg]; exact (zK (by repeat (first | (with_reducible first | exact HB.out | apply zF | apply zB | apply zE) | exact HB.out))) : w.heap.size ≤ gb278)); have n3_ := zA ((by rw [hg]; exact (zK (by repeat (first | (with_reducible first | exact HB.out | apply zF | apply zB | apply zE) | exact HB.out))) : w.heap.size ≤ gb278)); clear HB; have HB := n0_; have BK278 := n1_; have GW278 := n2_; have GE278 := n3_; clear n0_ n1_ n2_ n3_; clear hb hbox hg))
  go_ret
  exact ⟨by first | rfl | (simp [zU, zT] <;> rfl) | (simp [*, zU, zT] <;> rfl) | (rw [zW (by assumption)]; rfl), by repeat (first | (with_reducible first | exact HB.out | apply zF | apply zB | apply zE | refine zC ?_ GE278.out) | exact HB.out)⟩

/-! ### bivouacref06_Depth: function 33 -/
def bivouacref06_Depth.f (k : Nat) (a0_0 : Int) (a0_1 : Int) (a0_2 : Int) (l0_3 : List Int) (a1 : Int) (a2 : Int) : Option (Int) := (bivouacref06_Ends.f k a0_0 a0_1 a0_2 l0_3 a1 a2).bind fun bt281 => (if bt281.1 ≥ a0_2 then (some 0) else (some (wrap64 (a0_2 - bt281.1))))
theorem bivouacref06_Depth.mono : ∀ a0 a1 a2 a3 a4 a5 k, LeO (bivouacref06_Depth.f k a0 a1 a2 a3 a4 a5) (bivouacref06_Depth.f (k + 1) a0 a1 a2 a3 a4 a5) := by
 intro a0 a1 a2 a3 a4 a5 k
 unfold bivouacref06_Depth.f
 repeat' first
   | (with_reducible exact bivouacref06_Ends.mono _ _ _ _ _ _ _)
   | (with_reducible exact LeO.refl _)
   | (with_reducible exact LeO.none _)
   | (with_reducible refine LeO.ite ?_ ?_)
   | (with_reducible refine LeO.bind ?_ (fun _ => ?_))
   | exact bivouacref06_Ends.mono _ _ _ _ _ _ _
   | exact LeO.none _
   | refine LeO.ite ?_ ?_
   | refine LeO.bind ?_ (fun _ => ?_)
set_option maxHeartbeats 8000000 in
set_option maxRecDepth 100000 in
theorem bivouacref06_Depth.calls (k : Nat) (a0_0 : Int) (a0_1 : Int) (a0_2 : Int) (A0_3 : Option Addr) (c0_3 : Nat) (l0_3 : List Int) (a1 : Int) (a2 : Int) (r : Int) (w : World) (hr0_3 : Kd.C (Kd.int .u8) w A0_3 l0_3.length l0_3) (hc0_3 : l0_3.length ≤ c0_3) (h : bivouacref06_Depth.f k a0_0 a0_1 a0_2 l0_3 a1 a2 = some r) :
  Calls Try.prog 33 #[.agg #[.int .i64 a0_0, .int .i64 a0_1, .int .i64 a0_2, .slice A0_3 l0_3.length c0_3], .int .i64 a1, .int .i64 a2] w fun e w' => e = .returned (.int .i64 r) ∧ Below w.heap.size w w' := by
 have hu24 := Try.underlying24
 have HR0_3 := zA hr0_3
 have HC0_3 := zA hc0_3
 clear hr0_3 hc0_3
 have HB := zA (Below.refl w.heap.size w)
 have H : ((bivouacref06_Ends.f k a0_0 a0_1 a0_2 l0_3 a1 a2).bind fun bt281 => (if bt281.1 ≥ a0_2 then (some 0) else (some (wrap64 (a0_2 - bt281.1))))) = some r := h
 clear h
 replace H := Option.bind_eq_some_iff.mp H
 obtain ⟨⟨t281, t282⟩, A40, H⟩ := H
 replace H : (if t281 ≥ a0_2 then (some 0) else (some (wrap64 (a0_2 - t281)))) = some r := H
 have A4 := zA A40
 clear A40
 by_cases c5 : t281 ≥ a0_2
 ·
  rw [if_pos c5] at H
  have c5b0 : decide (a0_2 ≤ t281) = true := decide_eq_true c5
  clear c5
  obtain rfl := Option.some.inj H
  go_enter Try.func33, Try.ntmps33
  go_wp2_with (first | ((with_reducible refine gate_dst (N := 3) rfl ?_); refine box_event ?hg (N := 3) ?hd (cs := #[.int .i64 a0_0, .int .i64 a0_1, .int .i64 a0_2, .slice A0_3 l0_3.length c0_3]) (t := 24) ?hr ?_; (case hd => rfl); (case hg => rfl); (case hr => first | (go_simp; done) | (go_simp; rfl)); intro gb280 hg w6 hbox hb; have n0_ := zA (zJ (by repeat (first | (with_reducible first | exact HB.out | apply zF | apply zB | apply zE) | exact HB.out)) hb); have n1_ := zA (hbox); have n2_ := zA ((by rw [hg]; exact (zK (by repeat (first | (with_reducible first | exact HB.out | apply zF | apply zB | apply zE) | exact HB.out))) : w.heap.size ≤ gb280)); have n3_ := zA ((by rw [hg]; exact (zK (by repeat (first | (with_reducible first | exact HB.out | apply zF | apply zB | apply zE) | exact HB.out))) : w.heap.size ≤ gb280)); clear HB; have HB := n0_; have BK280 := n1_; have GW280 := n2_; have GE280 := n3_; clear n0_ n1_ n2_ n3_; clear hb hbox hg; have hcz7_0 : w6.cell? ⟨gb280, 0, none⟩ = some (.int .i64 a0_0) := (zD BK280.out 0).trans rfl; have hcz7_1 : w6.cell? ⟨gb280, 1, none⟩ = some (.int .i64 a0_1) := (zD BK280.out 1).trans rfl; have hcz7_2 : w6.cell? ⟨gb280, 2, none⟩ = some (.int .i64 a0_2) := (zD BK280.out 2).trans rfl; have hcz7_3 : w6.cell? ⟨gb280, 3, none⟩ = some (.slice A0_3 l0_3.length c0_3) := (zD BK280.out 3).trans rfl; have hfz7_0 := zG BK280.out 0; have hfz7_1 := zG BK280.out 1; have hfz7_2 := zG BK280.out 2; have hfz7_3 := zG BK280.out 3) | ((with_reducible refine gate_callee (f := 43) rfl ?_); refine goesL_ (some 13) rfl rfl Try.func43 (by kernel_rfl) rfl #[.agg #[.int .i64 a0_0, .int .i64 a0_1, .int .i64 a0_2, .slice A0_3 l0_3.length c0_3], .int .i64 a1, .int .i64 a2] rfl (by (try simp only [List.map_toArray, List.map_cons, List.map_nil]); first | done | rfl | (simp only [List.length_drop, List.length_take]; rfl)) ?_; (with_reducible refine (bivouacref06_Ends.calls k a0_0 a0_1 a0_2 _ _ l0_3 a1 a2 t281 t282 _ ?side1 ?side2 A4.out).mono ?_); (case side1 => repeat (first | exact (Kd.C_below HR0_3.out HB.out) | (with_reducible refine Kd.C_alloc ?_ _) | (with_reducible refine Kd.C_drewN ?_ _) | (with_reducible refine Kd.C_drew ?_))); (case side2 => exact HC0_3.out); rintro e w8 ⟨rfl, hb⟩; refine ⟨_, rfl, ?_⟩; have n0_ := zA (zI (g := gb280) (o := .cells #[.int .i64 a0_0, .int .i64 a0_1, .int .i64 a0_2, .slice A0_3 l0_3.length c0_3] 24 (0, 0)) (by (with_reducible repeat (first | refine zN ?_ _ | refine zO ?_ | refine zM ?_ _)); exact BK280.out) hb); have n1_ := zA (zJ (by repeat (first | (with_reducible first | exact HB.out | apply zF | apply zB | apply zE | refine zC ?_ GE280.out) | exact HB.out)) hb); clear BK280; clear HB; have BK280 := n0_; have HB := n1_; clear n0_ n1_; (try clear hb); (try clear hb2); (try clear hk); (try clear hi); have hcz9_0 : w8.cell? ⟨gb280, 0, none⟩ = some (.int .i64 a0_0) := (zD BK280.out 0).trans rfl; have hcz9_1 : w8.cell? ⟨gb280, 1, none⟩ = some (.int .i64 a0_1) := (zD BK280.out 1).trans rfl; have hcz9_2 : w8.cell? ⟨gb280, 2, none⟩ = some (.int .i64 a0_2) := (zD BK280.out 2).trans rfl; have hcz9_3 : w8.cell? ⟨gb280, 3, none⟩ = some (.slice A0_3 l0_3.length c0_3) := (zD BK280.out 3).trans rfl; have hfz9_0 := zG BK280.out 0; have hfz9_1 := zG BK280.out 1; have hfz9_2 := zG BK280.out 2; have hfz9_3 := zG BK280.out 3))
  go_ret
  exact ⟨by first | rfl | (simp [zU, zT] <;> rfl) | (simp [*, zU, zT] <;> rfl) | (rw [zW (by assumption)]; rfl), by repeat (first | (with_reducible first | exact HB.out | apply zF | apply zB | apply zE | refine zC ?_ GE280.out) | exact HB.out)⟩
 ·
  rw [if_neg c5] at H
  have c5b0 : decide (a0_2 ≤ t281) = false := decide_eq_false c5
  clear c5
  obtain rfl := Option.some.inj H
  go_enter Try.func33, Try.ntmps33
  go_wp2_with (first | ((with_reducible refine gate_dst (N := 3) rfl ?_); refine box_event ?hg (N := 3) ?hd (cs := #[.int .i64 a0_0, .int .i64 a0_1, .int .i64 a0_2, .slice A0_3 l0_3.length c0_3]) (t := 24) ?hr ?_; (case hd => rfl); (case hg => rfl); (case hr => first | (go_simp; done) | (go_simp; rfl)); intro gb280 hg w10 hbox hb; have n0_ := zA (zJ (by repeat (first | (with_reducible first | exact HB.out | apply zF | apply zB | apply zE) | exact HB.out)) hb); have n1_ := zA (hbox); have n2_ := zA ((by rw [hg]; exact (zK (by repeat (first | (with_reducible first | exact HB.out | apply zF | apply zB | apply zE) | exact HB.out))) : w.heap.size ≤ gb280)); have n3_ := zA ((by rw [hg]; exact (zK (by repeat (first | (with_reducible first | exact HB.out | apply zF | apply zB | apply zE) | exact HB.out))) : w.heap.size ≤ gb280)); clear HB; have HB := n0_; have BK280 := n1_; have GW280 := n2_; have GE280 := n3_; clear n0_ n1_ n2_ n3_; clear hb hbox hg; have hcz11_0 : w10.cell? ⟨gb280, 0, none⟩ = some (.int .i64 a0_0) := (zD BK280.out 0).trans rfl; have hcz11_1 : w10.cell? ⟨gb280, 1, none⟩ = some (.int .i64 a0_1) := (zD BK280.out 1).trans rfl; have hcz11_2 : w10.cell? ⟨gb280, 2, none⟩ = some (.int .i64 a0_2) := (zD BK280.out 2).trans rfl; have hcz11_3 : w10.cell? ⟨gb280, 3, none⟩ = some (.slice A0_3 l0_3.length c0_3) := (zD BK280.out 3).trans rfl; have hfz11_0 := zG BK280.out 0; have hfz11_1 := zG BK280.out 1; have hfz11_2 := zG BK280.out 2; have hfz11_3 := zG BK280.out 3) | ((with_reducible refine gate_callee (f := 43) rfl ?_); refine goesL_ (some 13) rfl rfl Try.func43 (by kernel_rfl) rfl #[.agg #[.int .i64 a0_0, .int .i64 a0_1, .int .i64 a0_2, .slice A0_3 l0_3.length c0_3], .int .i64 a1, .int .i64 a2] rfl (by (try simp only [List.map_toArray, List.map_cons, List.map_nil]); first | done | rfl | (simp only [List.length_drop, List.length_take]; rfl)) ?_; (with_reducible refine (bivouacref06_Ends.calls k a0_0 a0_1 a0_2 _ _ l0_3 a1 a2 t281 t282 _ ?side1 ?side2 A4.out).mono ?_); (case side1 => repeat (first | exact (Kd.C_below HR0_3.out HB.out) | (with_reducible refine Kd.C_alloc ?_ _) | (with_reducible refine Kd.C_drewN ?_ _) | (with_reducible refine Kd.C_drew ?_))); (case side2 => exact HC0_3.out); rintro e w12 ⟨rfl, hb⟩; refine ⟨_, rfl, ?_⟩; have n0_ := zA (zI (g := gb280) (o := .cells #[.int .i64 a0_0, .int .i64 a0_1, .int .i64 a0_2, .slice A0_3 l0_3.length c0_3] 24 (0, 0)) (by (with_reducible repeat (first | refine zN ?_ _ | refine zO ?_ | refine zM ?_ _)); exact BK280.out) hb); have n1_ := zA (zJ (by repeat (first | (with_reducible first | exact HB.out | apply zF | apply zB | apply zE | refine zC ?_ GE280.out) | exact HB.out)) hb); clear BK280; clear HB; have BK280 := n0_; have HB := n1_; clear n0_ n1_; (try clear hb); (try clear hb2); (try clear hk); (try clear hi); have hcz13_0 : w12.cell? ⟨gb280, 0, none⟩ = some (.int .i64 a0_0) := (zD BK280.out 0).trans rfl; have hcz13_1 : w12.cell? ⟨gb280, 1, none⟩ = some (.int .i64 a0_1) := (zD BK280.out 1).trans rfl; have hcz13_2 : w12.cell? ⟨gb280, 2, none⟩ = some (.int .i64 a0_2) := (zD BK280.out 2).trans rfl; have hcz13_3 : w12.cell? ⟨gb280, 3, none⟩ = some (.slice A0_3 l0_3.length c0_3) := (zD BK280.out 3).trans rfl; have hfz13_0 := zG BK280.out 0; have hfz13_1 := zG BK280.out 1; have hfz13_2 := zG BK280.out 2; have hfz13_3 := zG BK280.out 3))
  go_ret
  exact ⟨by first | rfl | (simp [zU, zT] <;> rfl) | (simp [*, zU, zT] <;> rfl) | (rw [zW (by assumption)]; rfl), by repeat (first | (with_reducible first | exact HB.out | apply zF | apply zB | apply zE | refine zC ?_ GE280.out) | exact HB.out)⟩
/-! ### sight_eye: function 30 -/
def sight_eye.f (k : Nat) (a0_0 : Int) (a0_1 : Int) (a0_2 : Int) (l0_3 : List Int) (a1_0 : Int) (a1_1 : Int) (a1_2 : Int) (a1_3 : Int) (a1_4 : Int) (a1_5 : Int) (a1_6 : Int) (a1_7 : Int) : Option (Bool) := (sight_within.f a1_0 7).bind fun t184 => (if t184 = true then ((sight_within.f a1_1 (wrap64 (a0_0 - 1))).bind fun t185 => (if t185 = true then ((sight_within.f a1_2 (wrap64 (a0_1 - 1))).bind fun t186 => (if t186 = true then ((sight_within.f a1_3 255).bind fun t187 => (if t187 = true then ((sight_reach.f k (([a1_4, a1_5, a1_6, a1_7] : List Int))).bind fun t191 => (some t191)) else (some false))) else (some false))) else (some false))) else (some false))
theorem sight_eye.mono : ∀ a0 a1 a2 a3 a4 a5 a6 a7 a8 a9 a10 a11 k, LeO (sight_eye.f k a0 a1 a2 a3 a4 a5 a6 a7 a8 a9 a10 a11) (sight_eye.f (k + 1) a0 a1 a2 a3 a4 a5 a6 a7 a8 a9 a10 a11) := by
 intro a0 a1 a2 a3 a4 a5 a6 a7 a8 a9 a10 a11 k
 unfold sight_eye.f
 repeat' first
   | (with_reducible exact sight_reach.mono _ _)
   | (with_reducible exact LeO.refl _)
   | (with_reducible exact LeO.none _)
   | (with_reducible refine LeO.ite ?_ ?_)
   | (with_reducible refine LeO.bind ?_ (fun _ => ?_))
   | exact sight_reach.mono _ _
   | exact LeO.none _
   | refine LeO.ite ?_ ?_
   | refine LeO.bind ?_ (fun _ => ?_)
set_option maxHeartbeats 8000000 in
set_option maxRecDepth 100000 in
theorem sight_eye.calls (k : Nat) (a0_0 : Int) (a0_1 : Int) (a0_2 : Int) (A0_3 : Option Addr) (c0_3 : Nat) (l0_3 : List Int) (a1_0 : Int) (a1_1 : Int) (a1_2 : Int) (a1_3 : Int) (a1_4 : Int) (a1_5 : Int) (a1_6 : Int) (a1_7 : Int) (r : Bool) (w : World) (hr0_3 : Kd.C (Kd.int .u8) w A0_3 l0_3.length l0_3) (hc0_3 : l0_3.length ≤ c0_3) (h : sight_eye.f k a0_0 a0_1 a0_2 l0_3 a1_0 a1_1 a1_2 a1_3 a1_4 a1_5 a1_6 a1_7 = some r) :
  Calls Try.prog 30 #[.agg #[.int .i64 a0_0, .int .i64 a0_1, .int .i64 a0_2, .slice A0_3 l0_3.length c0_3], .agg #[.int .i64 a1_0, .int .i64 a1_1, .int .i64 a1_2, .int .i64 a1_3, .int .i64 a1_4, .int .i64 a1_5, .int .i64 a1_6, .int .i64 a1_7]] w fun e w' => e = .returned (.bool r) ∧ Below w.heap.size w w' := by
 have hu24 := Try.underlying24
 have hu27 := Try.underlying27
 have HR0_3 := zA hr0_3
 have HC0_3 := zA hc0_3
 clear hr0_3 hc0_3
 have HB := zA (Below.refl w.heap.size w)
 have H : ((sight_within.f a1_0 7).bind fun t184 => (if t184 = true then ((sight_within.f a1_1 (wrap64 (a0_0 - 1))).bind fun t185 => (if t185 = true then ((sight_within.f a1_2 (wrap64 (a0_1 - 1))).bind fun t186 => (if t186 = true then ((sight_within.f a1_3 255).bind fun t187 => (if t187 = true then ((sight_reach.f k (([a1_4, a1_5, a1_6, a1_7] : List Int))).bind fun t191 => (some t191)) else (some false))) else (some false))) else (some false))) else (some false))) = some r := h
 clear h
 replace H := Option.bind_eq_some_iff.mp H
 obtain ⟨t184, A30, H⟩ := H
 replace H : (if t184 = true then ((sight_within.f a1_1 (wrap64 (a0_0 - 1))).bind fun t185 => (if t185 = true then ((sight_within.f a1_2 (wrap64 (a0_1 - 1))).bind fun t186 => (if t186 = true then ((sight_within.f a1_3 255).bind fun t187 => (if t187 = true then ((sight_reach.f k (([a1_4, a1_5, a1_6, a1_7] : List Int))).bind fun t191 => (some t191)) else (some false))) else (some false))) else (some false))) else (some false)) = some r := H
 have A3 := zA A30
 clear A30
 by_cases c4 : t184 = true
 ·
  subst c4
  have H1 : ((sight_within.f a1_1 (wrap64 (a0_0 - 1))).bind fun t185 => (if t185 = true then ((sight_within.f a1_2 (wrap64 (a0_1 - 1))).bind fun t186 => (if t186 = true then ((sight_within.f a1_3 255).bind fun t187 => (if t187 = true then ((sight_reach.f k (([a1_4, a1_5, a1_6, a1_7] : List Int))).bind fun t191 => (some t191)) else (some false))) else (some false))) else (some false))) = some r := by rw [if_pos rfl] at H; exact H
  clear H
  have H := H1
  clear H1
  replace H := Option.bind_eq_some_iff.mp H
  obtain ⟨t185, A50, H⟩ := H
  replace H : (if t185 = true then ((sight_within.f a1_2 (wrap64 (a0_1 - 1))).bind fun t186 => (if t186 = true then ((sight_within.f a1_3 255).bind fun t187 => (if t187 = true then ((sight_reach.f k (([a1_4, a1_5, a1_6, a1_7] : List Int))).bind fun t191 => (some t191)) else (some false))) else (some false))) else (some false)) = some r := H
  have A5 := zA A50
  clear A50
  by_cases c6 : t185 = true
  ·
   subst c6
   have H1 : ((sight_within.f a1_2 (wrap64 (a0_1 - 1))).bind fun t186 => (if t186 = true then ((sight_within.f a1_3 255).bind fun t187 => (if t187 = true then ((sight_reach.f k (([a1_4, a1_5, a1_6, a1_7] : List Int))).bind fun t191 => (some t191)) else (some false))) else (some false))) = some r := by rw [if_pos rfl] at H; exact H
   clear H
   have H := H1
   clear H1
   replace H := Option.bind_eq_some_iff.mp H
   obtain ⟨t186, A70, H⟩ := H
   replace H : (if t186 = true then ((sight_within.f a1_3 255).bind fun t187 => (if t187 = true then ((sight_reach.f k (([a1_4, a1_5, a1_6, a1_7] : List Int))).bind fun t191 => (some t191)) else (some false))) else (some false)) = some r := H
   have A7 := zA A70
   clear A70
   by_cases c8 : t186 = true
   ·
    subst c8
    have H1 : ((sight_within.f a1_3 255).bind fun t187 => (if t187 = true then ((sight_reach.f k (([a1_4, a1_5, a1_6, a1_7] : List Int))).bind fun t191 => (some t191)) else (some false))) = some r := by rw [if_pos rfl] at H; exact H
    clear H
    have H := H1
    clear H1
    replace H := Option.bind_eq_some_iff.mp H
    obtain ⟨t187, A90, H⟩ := H
    replace H : (if t187 = true then ((sight_reach.f k (([a1_4, a1_5, a1_6, a1_7] : List Int))).bind fun t191 => (some t191)) else (some false)) = some r := H
    have A9 := zA A90
    clear A90
    by_cases c10 : t187 = true
    ·
     subst c10
     have H1 : ((sight_reach.f k (([a1_4, a1_5, a1_6, a1_7] : List Int))).bind fun t191 => (some t191)) = some r := by rw [if_pos rfl] at H; exact H
     clear H
     have H := H1
     clear H1
     obtain ⟨y188, hy188⟩ : ∃ y_ : List Int, y_ = (([a1_4, a1_5, a1_6, a1_7] : List Int)) := ⟨_, rfl⟩
     replace H : ((sight_reach.f k y188).bind fun t191 => (some t191)) = some r := by first | (rw [hy188]; with_reducible exact H) | (have H2_ := (Option.bind_some _ _).symm.trans H; rw [hy188]; with_reducible exact H2_) | (have H2_ := (Option.bind_some _ _).symm.trans H; with_reducible exact H2_) | with_reducible exact H | (rw [hy188]; exact H) | exact H
     have Ny188 := zA hy188
     clear hy188
     replace H := Option.bind_eq_some_iff.mp H
     obtain ⟨t191, A110, H⟩ := H
     replace H : (some t191) = some r := H
     have A11 := zA A110
     clear A110
     obtain rfl := Option.some.inj H
     go_enter Try.func30, Try.ntmps30
     go_wp2_with (first | ((with_reducible refine gate_dst (N := 2) rfl ?_); (try (refine gate_guard (by rfl) ?_; dsimp only)); refine box_event ?hg (N := 2) ?hd (cs := #[.int .i64 a0_0, .int .i64 a0_1, .int .i64 a0_2, .slice A0_3 l0_3.length c0_3]) (t := 24) ?hr ?_; (case hd => rfl); (case hg => rfl); (case hr => first | (go_simp; done) | (go_simp; rfl)); intro gb182 hg w12 hbox hb; have n0_ := zA (zJ (by repeat (first | (with_reducible first | exact HB.out | apply zF | apply zB | apply zE) | exact HB.out)) hb); have n1_ := zA (hbox); have n2_ := zA ((by rw [hg]; exact (zK (by repeat (first | (with_reducible first | exact HB.out | apply zF | apply zB | apply zE) | exact HB.out))) : w.heap.size ≤ gb182)); have n3_ := zA ((by rw [hg]; exact (zK (by repeat (first | (with_reducible first | exact HB.out | apply zF | apply zB | apply zE) | exact HB.out))) : w.heap.size ≤ gb182)); clear HB; have HB := n0_; have BK182 := n1_; have GW182 := n2_; have GE182 := n3_; clear n0_ n1_ n2_ n3_; clear hb hbox hg) | ((with_reducible refine gate_dst (N := 3) rfl ?_); (try (refine gate_guard (by rfl) ?_; dsimp only)); refine box_event ?hg (N := 3) ?hd (cs := #[.int .i64 a1_0, .int .i64 a1_1, .int .i64 a1_2, .int .i64 a1_3, .int .i64 a1_4, .int .i64 a1_5, .int .i64 a1_6, .int .i64 a1_7]) (t := 27) ?hr ?_; (case hd => rfl); (case hg => rfl); (case hr => first | (go_simp; done) | (go_simp; rfl)); intro gb183 hg w13 hbox hb; have n0_ := zA (zI (g := gb182) (o := .cells #[.int .i64 a0_0, .int .i64 a0_1, .int .i64 a0_2, .slice A0_3 l0_3.length c0_3] 24 (0, 0)) (by (with_reducible repeat (first | refine zN ?_ _ | refine zO ?_ | refine zM ?_ _)); exact BK182.out) hb); have n1_ := zA (zJ (by repeat (first | (with_reducible first | exact HB.out | apply zF | apply zB | apply zE | refine zC ?_ GE182.out) | exact HB.out)) hb); have n2_ := zA (hbox); have n3_ := zA ((by rw [hg]; exact (zK (by repeat (first | (with_reducible first | exact HB.out | apply zF | apply zB | apply zE | refine zC ?_ GE182.out) | exact HB.out))) : w.heap.size ≤ gb183)); have n4_ := zA ((by rw [hg]; exact (zK (by repeat (first | (with_reducible first | exact HB.out | apply zF | apply zB | apply zE | refine zC ?_ GE182.out) | exact HB.out))) : w.heap.size ≤ gb183)); have n5_ := zA ((by rw [hg]; exact Nat.ne_of_lt (blk_lt (g := gb182) (o := .cells #[.int .i64 a0_0, .int .i64 a0_1, .int .i64 a0_2, .slice A0_3 l0_3.length c0_3] 24 (0, 0)) (by (with_reducible repeat (first | refine zN ?_ _ | refine zO ?_ | refine zM ?_ _)); exact BK182.out)) : gb182 ≠ gb183)); have n6_ := zA ((by rw [hg]; exact Nat.ne_of_gt (blk_lt (g := gb182) (o := .cells #[.int .i64 a0_0, .int .i64 a0_1, .int .i64 a0_2, .slice A0_3 l0_3.length c0_3] 24 (0, 0)) (by (with_reducible repeat (first | refine zN ?_ _ | refine zO ?_ | refine zM ?_ _)); exact BK182.out)) : gb183 ≠ gb182)); clear BK182; clear HB; have BK182 := n0_; have HB := n1_; have BK183 := n2_; have GW183 := n3_; have GE183 := n4_; have NB182_183 := n5_; have NB183_182 := n6_; clear n0_ n1_ n2_ n3_ n4_ n5_ n6_; clear hb hbox hg; have hnb14 := NB183_182.out; have hnc14 := NB182_183.out; have hcz15_0 : w13.cell? ⟨gb183, 0, none⟩ = some (.int .i64 a1_0) := (zD BK183.out 0).trans rfl; have hcz15_1 : w13.cell? ⟨gb183, 1, none⟩ = some (.int .i64 a1_1) := (zD BK183.out 1).trans rfl; have hcz15_2 : w13.cell? ⟨gb183, 2, none⟩ = some (.int .i64 a1_2) := (zD BK183.out 2).trans rfl; have hcz15_3 : w13.cell? ⟨gb183, 3, none⟩ = some (.int .i64 a1_3) := (zD BK183.out 3).trans rfl; have hcz15_4 : w13.cell? ⟨gb183, 4, none⟩ = some (.int .i64 a1_4) := (zD BK183.out 4).trans rfl; have hcz15_5 : w13.cell? ⟨gb183, 5, none⟩ = some (.int .i64 a1_5) := (zD BK183.out 5).trans rfl; have hcz15_6 : w13.cell? ⟨gb183, 6, none⟩ = some (.int .i64 a1_6) := (zD BK183.out 6).trans rfl; have hcz15_7 : w13.cell? ⟨gb183, 7, none⟩ = some (.int .i64 a1_7) := (zD BK183.out 7).trans rfl; have hfz15_0 := zG BK183.out 0; have hfz15_1 := zG BK183.out 1; have hfz15_2 := zG BK183.out 2; have hfz15_3 := zG BK183.out 3; have hfz15_4 := zG BK183.out 4; have hfz15_5 := zG BK183.out 5; have hfz15_6 := zG BK183.out 6; have hfz15_7 := zG BK183.out 7) | ((with_reducible refine gate_callee (f := 20) rfl ?_); refine goesL_ (some 7) rfl rfl Try.func20 (by kernel_rfl) rfl #[.int .i64 a1_0, .int .i64 7] rfl (by (try simp only [List.map_toArray, List.map_cons, List.map_nil]); first | done | rfl | (simp only [List.length_drop, List.length_take]; rfl)) ?_; (with_reducible refine (sight_within.calls a1_0 7 true _ A3.out).mono ?_); rintro e w' ⟨rfl, ⟨nd, rfl⟩⟩; refine ⟨_, rfl, ?_⟩; have hcz16_0 : w13.cell? ⟨gb182, 0, none⟩ = some (.int .i64 a0_0) := (zD BK182.out 0).trans rfl; have hcz16_1 : w13.cell? ⟨gb182, 1, none⟩ = some (.int .i64 a0_1) := (zD BK182.out 1).trans rfl; have hcz16_2 : w13.cell? ⟨gb182, 2, none⟩ = some (.int .i64 a0_2) := (zD BK182.out 2).trans rfl; have hcz16_3 : w13.cell? ⟨gb182, 3, none⟩ = some (.slice A0_3 l0_3.length c0_3) := (zD BK182.out 3).trans rfl; have hfz16_0 := zG BK182.out 0; have hfz16_1 := zG BK182.out 1; have hfz16_2 := zG BK182.out 2; have hfz16_3 := zG BK182.out 3) | (go_at_call 20; (with_reducible refine (sight_within.calls a1_1 (wrap64 (a0_0 - 1)) true _ A5.out).mono ?_); rintro e w' ⟨rfl, ⟨nd, rfl⟩⟩) | (go_at_call 20; (with_reducible refine (sight_within.calls a1_2 (wrap64 (a0_1 - 1)) true _ A7.out).mono ?_); rintro e w' ⟨rfl, ⟨nd, rfl⟩⟩) | (go_at_call 20; (with_reducible refine (sight_within.calls a1_3 255 true _ A9.out).mono ?_); rintro e w' ⟨rfl, ⟨nd, rfl⟩⟩) | ((with_reducible refine gate_dst (N := 38) rfl ?_); (try (refine gate_guard (by rfl) ?_; dsimp only)); refine Kd.R_lit (Kd.int .i64) _ 3 ?hg (N := 38) ?hd (xs := ([a1_4, a1_5, a1_6, a1_7] : List Int)) (inner := [.int .i64 a1_4, .int .i64 a1_5, .int .i64 a1_6, .int .i64 a1_7]) (ok := fun _ => True) (okp := fun _ => True) ?hr ?hp (fun _ hk => hk) trivial (Below.refl _ _) (Nat.le_refl _) (by simp) ?_; (case hd => rfl); (case hg => rfl); (case hr => first | (go_simp; done) | (go_simp; rfl)); (case hp => exact (Reps.one (show Kd.M (Kd.int .i64) _ _ _ a1_4 [.int .i64 a1_4] from rfl) (Reps.one (show Kd.M (Kd.int .i64) _ _ _ a1_5 [.int .i64 a1_5] from rfl) (Reps.one (show Kd.M (Kd.int .i64) _ _ _ a1_6 [.int .i64 a1_6] from rfl) (Reps.one (show Kd.M (Kd.int .i64) _ _ _ a1_7 [.int .i64 a1_7] from rfl) (Reps.none _ _)))))); intro v189 w17 ho18 hb hg_ hnew_; clear hg_ hnew_; (first | rw [← Ny188.out] at ho18 | (simp only [Int.reduceToNat] at ho18; rw [← Ny188.out] at ho18)); have n0_ := zA (Kd.R_lower ho18 (zK (by repeat (first | (with_reducible first | exact HB.out | apply zF | apply zB | apply zE | refine zC ?_ GE182.out | refine zC ?_ GE183.out) | exact HB.out)))); have n1_ := zA (zI (g := gb182) (o := .cells #[.int .i64 a0_0, .int .i64 a0_1, .int .i64 a0_2, .slice A0_3 l0_3.length c0_3] 24 (0, 0)) (by (with_reducible repeat (first | refine zN ?_ _ | refine zO ?_ | refine zM ?_ _)); exact BK182.out) hb); have n2_ := zA (zI (g := gb183) (o := .cells #[.int .i64 a1_0, .int .i64 a1_1, .int .i64 a1_2, .int .i64 a1_3, .int .i64 a1_4, .int .i64 a1_5, .int .i64 a1_6, .int .i64 a1_7] 27 (0, 0)) (by (with_reducible repeat (first | refine zN ?_ _ | refine zO ?_ | refine zM ?_ _)); exact BK183.out) hb); have n3_ := zA (zJ (by repeat (first | (with_reducible first | exact HB.out | apply zF | apply zB | apply zE | refine zC ?_ GE182.out | refine zC ?_ GE183.out) | exact HB.out)) hb); clear BK182; clear BK183; clear HB; have HO190 := n0_; have BK182 := n1_; have BK183 := n2_; have HB := n3_; clear n0_ n1_ n2_ n3_; clear hb ho18; obtain ⟨Ao19, co19, eo19⟩ := Kd.R_slice HO190.out; subst eo19) | (go_at_call 41; (with_reducible refine (sight_reach.calls k _ _ y188 t191 _ ?side1 ?side2 A11.out).mono ?_); (case side1 => repeat (first | exact (Kd.R_reads' HO190.out).2.2 | (with_reducible refine Kd.C_alloc ?_ _) | (with_reducible refine Kd.C_drewN ?_ _) | (with_reducible refine Kd.C_drew ?_))); (case side2 => exact (Kd.R_reads' HO190.out).2.1); rintro e w' ⟨rfl, ⟨nd, rfl⟩⟩))
     go_ret
     exact ⟨by first | rfl | (simp [zU, zT] <;> rfl) | (simp [*, zU, zT] <;> rfl) | (rw [zW (by assumption)]; rfl), by repeat (first | (with_reducible first | exact HB.out | apply zF | apply zB | apply zE | refine zC ?_ GE182.out | refine zC ?_ GE183.out) | exact HB.out)⟩
    ·
     replace c10 := Bool.eq_false_iff.mpr c10
     subst c10
     have H1 : (some false) = some r := by rw [if_neg (show ¬ (false = true) by decide)] at H; exact H
     clear H
     have H := H1
     clear H1
     obtain rfl := Option.some.inj H
     go_enter Try.func30, Try.ntmps30
     go_wp2_with (first | ((with_reducible refine gate_dst (N := 2) rfl ?_); (try (refine gate_guard (by rfl) ?_; dsimp only)); refine box_event ?hg (N := 2) ?hd (cs := #[.int .i64 a0_0, .int .i64 a0_1, .int .i64 a0_2, .slice A0_3 l0_3.length c0_3]) (t := 24) ?hr ?_; (case hd => rfl); (case hg => rfl); (case hr => first | (go_simp; done) | (go_simp; rfl)); intro gb182 hg w20 hbox hb; have n0_ := zA (zJ (by repeat (first | (with_reducible first | exact HB.out | apply zF | apply zB | apply zE) | exact HB.out)) hb); have n1_ := zA (hbox); have n2_ := zA ((by rw [hg]; exact (zK (by repeat (first | (with_reducible first | exact HB.out | apply zF | apply zB | apply zE) | exact HB.out))) : w.heap.size ≤ gb182)); have n3_ := zA ((by rw [hg]; exact (zK (by repeat (first | (with_reducible first | exact HB.out | apply zF | apply zB | apply zE) | exact HB.out))) : w.heap.size ≤ gb182)); clear HB; have HB := n0_; have BK182 := n1_; have GW182 := n2_; have GE182 := n3_; clear n0_ n1_ n2_ n3_; clear hb hbox hg) | ((with_reducible refine gate_dst (N := 3) rfl ?_); (try (refine gate_guard (by rfl) ?_; dsimp only)); refine box_event ?hg (N := 3) ?hd (cs := #[.int .i64 a1_0, .int .i64 a1_1, .int .i64 a1_2, .int .i64 a1_3, .int .i64 a1_4, .int .i64 a1_5, .int .i64 a1_6, .int .i64 a1_7]) (t := 27) ?hr ?_; (case hd => rfl); (case hg => rfl); (case hr => first | (go_simp; done) | (go_simp; rfl)); intro gb183 hg w21 hbox hb; have n0_ := zA (zI (g := gb182) (o := .cells #[.int .i64 a0_0, .int .i64 a0_1, .int .i64 a0_2, .slice A0_3 l0_3.length c0_3] 24 (0, 0)) (by (with_reducible repeat (first | refine zN ?_ _ | refine zO ?_ | refine zM ?_ _)); exact BK182.out) hb); have n1_ := zA (zJ (by repeat (first | (with_reducible first | exact HB.out | apply zF | apply zB | apply zE | refine zC ?_ GE182.out) | exact HB.out)) hb); have n2_ := zA (hbox); have n3_ := zA ((by rw [hg]; exact (zK (by repeat (first | (with_reducible first | exact HB.out | apply zF | apply zB | apply zE | refine zC ?_ GE182.out) | exact HB.out))) : w.heap.size ≤ gb183)); have n4_ := zA ((by rw [hg]; exact (zK (by repeat (first | (with_reducible first | exact HB.out | apply zF | apply zB | apply zE | refine zC ?_ GE182.out) | exact HB.out))) : w.heap.size ≤ gb183)); have n5_ := zA ((by rw [hg]; exact Nat.ne_of_lt (blk_lt (g := gb182) (o := .cells #[.int .i64 a0_0, .int .i64 a0_1, .int .i64 a0_2, .slice A0_3 l0_3.length c0_3] 24 (0, 0)) (by (with_reducible repeat (first | refine zN ?_ _ | refine zO ?_ | refine zM ?_ _)); exact BK182.out)) : gb182 ≠ gb183)); have n6_ := zA ((by rw [hg]; exact Nat.ne_of_gt (blk_lt (g := gb182) (o := .cells #[.int .i64 a0_0, .int .i64 a0_1, .int .i64 a0_2, .slice A0_3 l0_3.length c0_3] 24 (0, 0)) (by (with_reducible repeat (first | refine zN ?_ _ | refine zO ?_ | refine zM ?_ _)); exact BK182.out)) : gb183 ≠ gb182)); clear BK182; clear HB; have BK182 := n0_; have HB := n1_; have BK183 := n2_; have GW183 := n3_; have GE183 := n4_; have NB182_183 := n5_; have NB183_182 := n6_; clear n0_ n1_ n2_ n3_ n4_ n5_ n6_; clear hb hbox hg; have hnb22 := NB183_182.out; have hnc22 := NB182_183.out; have hcz23_0 : w21.cell? ⟨gb183, 0, none⟩ = some (.int .i64 a1_0) := (zD BK183.out 0).trans rfl; have hcz23_1 : w21.cell? ⟨gb183, 1, none⟩ = some (.int .i64 a1_1) := (zD BK183.out 1).trans rfl; have hcz23_2 : w21.cell? ⟨gb183, 2, none⟩ = some (.int .i64 a1_2) := (zD BK183.out 2).trans rfl; have hcz23_3 : w21.cell? ⟨gb183, 3, none⟩ = some (.int .i64 a1_3) := (zD BK183.out 3).trans rfl; have hcz23_4 : w21.cell? ⟨gb183, 4, none⟩ = some (.int .i64 a1_4) := (zD BK183.out 4).trans rfl; have hcz23_5 : w21.cell? ⟨gb183, 5, none⟩ = some (.int .i64 a1_5) := (zD BK183.out 5).trans rfl; have hcz23_6 : w21.cell? ⟨gb183, 6, none⟩ = some (.int .i64 a1_6) := (zD BK183.out 6).trans rfl; have hcz23_7 : w21.cell? ⟨gb183, 7, none⟩ = some (.int .i64 a1_7) := (zD BK183.out 7).trans rfl; have hfz23_0 := zG BK183.out 0; have hfz23_1 := zG BK183.out 1; have hfz23_2 := zG BK183.out 2; have hfz23_3 := zG BK183.out 3; have hfz23_4 := zG BK183.out 4; have hfz23_5 := zG BK183.out 5; have hfz23_6 := zG BK183.out 6; have hfz23_7 := zG BK183.out 7) | ((with_reducible refine gate_callee (f := 20) rfl ?_); refine goesL_ (some 7) rfl rfl Try.func20 (by kernel_rfl) rfl #[.int .i64 a1_0, .int .i64 7] rfl (by (try simp only [List.map_toArray, List.map_cons, List.map_nil]); first | done | rfl | (simp only [List.length_drop, List.length_take]; rfl)) ?_; (with_reducible refine (sight_within.calls a1_0 7 true _ A3.out).mono ?_); rintro e w' ⟨rfl, ⟨nd, rfl⟩⟩; refine ⟨_, rfl, ?_⟩; have hcz24_0 : w21.cell? ⟨gb182, 0, none⟩ = some (.int .i64 a0_0) := (zD BK182.out 0).trans rfl; have hcz24_1 : w21.cell? ⟨gb182, 1, none⟩ = some (.int .i64 a0_1) := (zD BK182.out 1).trans rfl; have hcz24_2 : w21.cell? ⟨gb182, 2, none⟩ = some (.int .i64 a0_2) := (zD BK182.out 2).trans rfl; have hcz24_3 : w21.cell? ⟨gb182, 3, none⟩ = some (.slice A0_3 l0_3.length c0_3) := (zD BK182.out 3).trans rfl; have hfz24_0 := zG BK182.out 0; have hfz24_1 := zG BK182.out 1; have hfz24_2 := zG BK182.out 2; have hfz24_3 := zG BK182.out 3) | (go_at_call 20; (with_reducible refine (sight_within.calls a1_1 (wrap64 (a0_0 - 1)) true _ A5.out).mono ?_); rintro e w' ⟨rfl, ⟨nd, rfl⟩⟩) | (go_at_call 20; (with_reducible refine (sight_within.calls a1_2 (wrap64 (a0_1 - 1)) true _ A7.out).mono ?_); rintro e w' ⟨rfl, ⟨nd, rfl⟩⟩) | (go_at_call 20; (with_reducible refine (sight_within.calls a1_3 255 false _ A9.out).mono ?_); rintro e w' ⟨rfl, ⟨nd, rfl⟩⟩))
     go_ret
     exact ⟨by first | rfl | (simp [zU, zT] <;> rfl) | (simp [*, zU, zT] <;> rfl) | (rw [zW (by assumption)]; rfl), by repeat (first | (with_reducible first | exact HB.out | apply zF | apply zB | apply zE | refine zC ?_ GE182.out | refine zC ?_ GE183.out) | exact HB.out)⟩
   ·
    replace c8 := Bool.eq_false_iff.mpr c8
    subst c8
    have H1 : (some false) = some r := by rw [if_neg (show ¬ (false = true) by decide)] at H; exact H
    clear H
    have H := H1
    clear H1
    obtain rfl := Option.some.inj H
    go_enter Try.func30, Try.ntmps30
    go_wp2_with (first | ((with_reducible refine gate_dst (N := 2) rfl ?_); (try (refine gate_guard (by rfl) ?_; dsimp only)); refine box_event ?hg (N := 2) ?hd (cs := #[.int .i64 a0_0, .int .i64 a0_1, .int .i64 a0_2, .slice A0_3 l0_3.length c0_3]) (t := 24) ?hr ?_; (case hd => rfl); (case hg => rfl); (case hr => first | (go_simp; done) | (go_simp; rfl)); intro gb182 hg w25 hbox hb; have n0_ := zA (zJ (by repeat (first | (with_reducible first | exact HB.out | apply zF | apply zB | apply zE) | exact HB.out)) hb); have n1_ := zA (hbox); have n2_ := zA ((by rw [hg]; exact (zK (by repeat (first | (with_reducible first | exact HB.out | apply zF | apply zB | apply zE) | exact HB.out))) : w.heap.size ≤ gb182)); have n3_ := zA ((by rw [hg]; exact (zK (by repeat (first | (with_reducible first | exact HB.out | apply zF | apply zB | apply zE) | exact HB.out))) : w.heap.size ≤ gb182)); clear HB; have HB := n0_; have BK182 := n1_; have GW182 := n2_; have GE182 := n3_; clear n0_ n1_ n2_ n3_; clear hb hbox hg) | ((with_reducible refine gate_dst (N := 3) rfl ?_); (try (refine gate_guard (by rfl) ?_; dsimp only)); refine box_event ?hg (N := 3) ?hd (cs := #[.int .i64 a1_0, .int .i64 a1_1, .int .i64 a1_2, .int .i64 a1_3, .int .i64 a1_4, .int .i64 a1_5, .int .i64 a1_6, .int .i64 a1_7]) (t := 27) ?hr ?_; (case hd => rfl); (case hg => rfl); (case hr => first | (go_simp; done) | (go_simp; rfl)); intro gb183 hg w26 hbox hb; have n0_ := zA (zI (g := gb182) (o := .cells #[.int .i64 a0_0, .int .i64 a0_1, .int .i64 a0_2, .slice A0_3 l0_3.length c0_3] 24 (0, 0)) (by (with_reducible repeat (first | refine zN ?_ _ | refine zO ?_ | refine zM ?_ _)); exact BK182.out) hb); have n1_ := zA (zJ (by repeat (first | (with_reducible first | exact HB.out | apply zF | apply zB | apply zE | refine zC ?_ GE182.out) | exact HB.out)) hb); have n2_ := zA (hbox); have n3_ := zA ((by rw [hg]; exact (zK (by repeat (first | (with_reducible first | exact HB.out | apply zF | apply zB | apply zE | refine zC ?_ GE182.out) | exact HB.out))) : w.heap.size ≤ gb183)); have n4_ := zA ((by rw [hg]; exact (zK (by repeat (first | (with_reducible first | exact HB.out | apply zF | apply zB | apply zE | refine zC ?_ GE182.out) | exact HB.out))) : w.heap.size ≤ gb183)); have n5_ := zA ((by rw [hg]; exact Nat.ne_of_lt (blk_lt (g := gb182) (o := .cells #[.int .i64 a0_0, .int .i64 a0_1, .int .i64 a0_2, .slice A0_3 l0_3.length c0_3] 24 (0, 0)) (by (with_reducible repeat (first | refine zN ?_ _ | refine zO ?_ | refine zM ?_ _)); exact BK182.out)) : gb182 ≠ gb183)); have n6_ := zA ((by rw [hg]; exact Nat.ne_of_gt (blk_lt (g := gb182) (o := .cells #[.int .i64 a0_0, .int .i64 a0_1, .int .i64 a0_2, .slice A0_3 l0_3.length c0_3] 24 (0, 0)) (by (with_reducible repeat (first | refine zN ?_ _ | refine zO ?_ | refine zM ?_ _)); exact BK182.out)) : gb183 ≠ gb182)); clear BK182; clear HB; have BK182 := n0_; have HB := n1_; have BK183 := n2_; have GW183 := n3_; have GE183 := n4_; have NB182_183 := n5_; have NB183_182 := n6_; clear n0_ n1_ n2_ n3_ n4_ n5_ n6_; clear hb hbox hg; have hnb27 := NB183_182.out; have hnc27 := NB182_183.out; have hcz28_0 : w26.cell? ⟨gb183, 0, none⟩ = some (.int .i64 a1_0) := (zD BK183.out 0).trans rfl; have hcz28_1 : w26.cell? ⟨gb183, 1, none⟩ = some (.int .i64 a1_1) := (zD BK183.out 1).trans rfl; have hcz28_2 : w26.cell? ⟨gb183, 2, none⟩ = some (.int .i64 a1_2) := (zD BK183.out 2).trans rfl; have hcz28_3 : w26.cell? ⟨gb183, 3, none⟩ = some (.int .i64 a1_3) := (zD BK183.out 3).trans rfl; have hcz28_4 : w26.cell? ⟨gb183, 4, none⟩ = some (.int .i64 a1_4) := (zD BK183.out 4).trans rfl; have hcz28_5 : w26.cell? ⟨gb183, 5, none⟩ = some (.int .i64 a1_5) := (zD BK183.out 5).trans rfl; have hcz28_6 : w26.cell? ⟨gb183, 6, none⟩ = some (.int .i64 a1_6) := (zD BK183.out 6).trans rfl; have hcz28_7 : w26.cell? ⟨gb183, 7, none⟩ = some (.int .i64 a1_7) := (zD BK183.out 7).trans rfl; have hfz28_0 := zG BK183.out 0; have hfz28_1 := zG BK183.out 1; have hfz28_2 := zG BK183.out 2; have hfz28_3 := zG BK183.out 3; have hfz28_4 := zG BK183.out 4; have hfz28_5 := zG BK183.out 5; have hfz28_6 := zG BK183.out 6; have hfz28_7 := zG BK183.out 7) | ((with_reducible refine gate_callee (f := 20) rfl ?_); refine goesL_ (some 7) rfl rfl Try.func20 (by kernel_rfl) rfl #[.int .i64 a1_0, .int .i64 7] rfl (by (try simp only [List.map_toArray, List.map_cons, List.map_nil]); first | done | rfl | (simp only [List.length_drop, List.length_take]; rfl)) ?_; (with_reducible refine (sight_within.calls a1_0 7 true _ A3.out).mono ?_); rintro e w' ⟨rfl, ⟨nd, rfl⟩⟩; refine ⟨_, rfl, ?_⟩; have hcz29_0 : w26.cell? ⟨gb182, 0, none⟩ = some (.int .i64 a0_0) := (zD BK182.out 0).trans rfl; have hcz29_1 : w26.cell? ⟨gb182, 1, none⟩ = some (.int .i64 a0_1) := (zD BK182.out 1).trans rfl; have hcz29_2 : w26.cell? ⟨gb182, 2, none⟩ = some (.int .i64 a0_2) := (zD BK182.out 2).trans rfl; have hcz29_3 : w26.cell? ⟨gb182, 3, none⟩ = some (.slice A0_3 l0_3.length c0_3) := (zD BK182.out 3).trans rfl; have hfz29_0 := zG BK182.out 0; have hfz29_1 := zG BK182.out 1; have hfz29_2 := zG BK182.out 2; have hfz29_3 := zG BK182.out 3) | (go_at_call 20; (with_reducible refine (sight_within.calls a1_1 (wrap64 (a0_0 - 1)) true _ A5.out).mono ?_); rintro e w' ⟨rfl, ⟨nd, rfl⟩⟩) | (go_at_call 20; (with_reducible refine (sight_within.calls a1_2 (wrap64 (a0_1 - 1)) false _ A7.out).mono ?_); rintro e w' ⟨rfl, ⟨nd, rfl⟩⟩))
    go_ret
    exact ⟨by first | rfl | (simp [zU, zT] <;> rfl) | (simp [*, zU, zT] <;> rfl) | (rw [zW (by assumption)]; rfl), by repeat (first | (with_reducible first | exact HB.out | apply zF | apply zB | apply zE | refine zC ?_ GE182.out | refine zC ?_ GE183.out) | exact HB.out)⟩
  ·
   replace c6 := Bool.eq_false_iff.mpr c6
   subst c6
   have H1 : (some false) = some r := by rw [if_neg (show ¬ (false = true) by decide)] at H; exact H
   clear H
   have H := H1
   clear H1
   obtain rfl := Option.some.inj H
   go_enter Try.func30, Try.ntmps30
   go_wp2_with (first | ((with_reducible refine gate_dst (N := 2) rfl ?_); (try (refine gate_guard (by rfl) ?_; dsimp only)); refine box_event ?hg (N := 2) ?hd (cs := #[.int .i64 a0_0, .int .i64 a0_1, .int .i64 a0_2, .slice A0_3 l0_3.length c0_3]) (t := 24) ?hr ?_; (case hd => rfl); (case hg => rfl); (case hr => first | (go_simp; done) | (go_simp; rfl)); intro gb182 hg w30 hbox hb; have n0_ := zA (zJ (by repeat (first | (with_reducible first | exact HB.out | apply zF | apply zB | apply zE) | exact HB.out)) hb); have n1_ := zA (hbox); have n2_ := zA ((by rw [hg]; exact (zK (by repeat (first | (with_reducible first | exact HB.out | apply zF | apply zB | apply zE) | exact HB.out))) : w.heap.size ≤ gb182)); have n3_ := zA ((by rw [hg]; exact (zK (by repeat (first | (with_reducible first | exact HB.out | apply zF | apply zB | apply zE) | exact HB.out))) : w.heap.size ≤ gb182)); clear HB; have HB := n0_; have BK182 := n1_; have GW182 := n2_; have GE182 := n3_; clear n0_ n1_ n2_ n3_; clear hb hbox hg) | ((with_reducible refine gate_dst (N := 3) rfl ?_); (try (refine gate_guard (by rfl) ?_; dsimp only)); refine box_event ?hg (N := 3) ?hd (cs := #[.int .i64 a1_0, .int .i64 a1_1, .int .i64 a1_2, .int .i64 a1_3, .int .i64 a1_4, .int .i64 a1_5, .int .i64 a1_6, .int .i64 a1_7]) (t := 27) ?hr ?_; (case hd => rfl); (case hg => rfl); (case hr => first | (go_simp; done) | (go_simp; rfl)); intro gb183 hg w31 hbox hb; have n0_ := zA (zI (g := gb182) (o := .cells #[.int .i64 a0_0, .int .i64 a0_1, .int .i64 a0_2, .slice A0_3 l0_3.length c0_3] 24 (0, 0)) (by (with_reducible repeat (first | refine zN ?_ _ | refine zO ?_ | refine zM ?_ _)); exact BK182.out) hb); have n1_ := zA (zJ (by repeat (first | (with_reducible first | exact HB.out | apply zF | apply zB | apply zE | refine zC ?_ GE182.out) | exact HB.out)) hb); have n2_ := zA (hbox); have n3_ := zA ((by rw [hg]; exact (zK (by repeat (first | (with_reducible first | exact HB.out | apply zF | apply zB | apply zE | refine zC ?_ GE182.out) | exact HB.out))) : w.heap.size ≤ gb183)); have n4_ := zA ((by rw [hg]; exact (zK (by repeat (first | (with_reducible first | exact HB.out | apply zF | apply zB | apply zE | refine zC ?_ GE182.out) | exact HB.out))) : w.heap.size ≤ gb183)); have n5_ := zA ((by rw [hg]; exact Nat.ne_of_lt (blk_lt (g := gb182) (o := .cells #[.int .i64 a0_0, .int .i64 a0_1, .int .i64 a0_2, .slice A0_3 l0_3.length c0_3] 24 (0, 0)) (by (with_reducible repeat (first | refine zN ?_ _ | refine zO ?_ | refine zM ?_ _)); exact BK182.out)) : gb182 ≠ gb183)); have n6_ := zA ((by rw [hg]; exact Nat.ne_of_gt (blk_lt (g := gb182) (o := .cells #[.int .i64 a0_0, .int .i64 a0_1, .int .i64 a0_2, .slice A0_3 l0_3.length c0_3] 24 (0, 0)) (by (with_reducible repeat (first | refine zN ?_ _ | refine zO ?_ | refine zM ?_ _)); exact BK182.out)) : gb183 ≠ gb182)); clear BK182; clear HB; have BK182 := n0_; have HB := n1_; have BK183 := n2_; have GW183 := n3_; have GE183 := n4_; have NB182_183 := n5_; have NB183_182 := n6_; clear n0_ n1_ n2_ n3_ n4_ n5_ n6_; clear hb hbox hg; have hnb32 := NB183_182.out; have hnc32 := NB182_183.out; have hcz33_0 : w31.cell? ⟨gb183, 0, none⟩ = some (.int .i64 a1_0) := (zD BK183.out 0).trans rfl; have hcz33_1 : w31.cell? ⟨gb183, 1, none⟩ = some (.int .i64 a1_1) := (zD BK183.out 1).trans rfl; have hcz33_2 : w31.cell? ⟨gb183, 2, none⟩ = some (.int .i64 a1_2) := (zD BK183.out 2).trans rfl; have hcz33_3 : w31.cell? ⟨gb183, 3, none⟩ = some (.int .i64 a1_3) := (zD BK183.out 3).trans rfl; have hcz33_4 : w31.cell? ⟨gb183, 4, none⟩ = some (.int .i64 a1_4) := (zD BK183.out 4).trans rfl; have hcz33_5 : w31.cell? ⟨gb183, 5, none⟩ = some (.int .i64 a1_5) := (zD BK183.out 5).trans rfl; have hcz33_6 : w31.cell? ⟨gb183, 6, none⟩ = some (.int .i64 a1_6) := (zD BK183.out 6).trans rfl; have hcz33_7 : w31.cell? ⟨gb183, 7, none⟩ = some (.int .i64 a1_7) := (zD BK183.out 7).trans rfl; have hfz33_0 := zG BK183.out 0; have hfz33_1 := zG BK183.out 1; have hfz33_2 := zG BK183.out 2; have hfz33_3 := zG BK183.out 3; have hfz33_4 := zG BK183.out 4; have hfz33_5 := zG BK183.out 5; have hfz33_6 := zG BK183.out 6; have hfz33_7 := zG BK183.out 7) | ((with_reducible refine gate_callee (f := 20) rfl ?_); refine goesL_ (some 7) rfl rfl Try.func20 (by kernel_rfl) rfl #[.int .i64 a1_0, .int .i64 7] rfl (by (try simp only [List.map_toArray, List.map_cons, List.map_nil]); first | done | rfl | (simp only [List.length_drop, List.length_take]; rfl)) ?_; (with_reducible refine (sight_within.calls a1_0 7 true _ A3.out).mono ?_); rintro e w' ⟨rfl, ⟨nd, rfl⟩⟩; refine ⟨_, rfl, ?_⟩; have hcz34_0 : w31.cell? ⟨gb182, 0, none⟩ = some (.int .i64 a0_0) := (zD BK182.out 0).trans rfl; have hcz34_1 : w31.cell? ⟨gb182, 1, none⟩ = some (.int .i64 a0_1) := (zD BK182.out 1).trans rfl; have hcz34_2 : w31.cell? ⟨gb182, 2, none⟩ = some (.int .i64 a0_2) := (zD BK182.out 2).trans rfl; have hcz34_3 : w31.cell? ⟨gb182, 3, none⟩ = some (.slice A0_3 l0_3.length c0_3) := (zD BK182.out 3).trans rfl; have hfz34_0 := zG BK182.out 0; have hfz34_1 := zG BK182.out 1; have hfz34_2 := zG BK182.out 2; have hfz34_3 := zG BK182.out 3) | (go_at_call 20; (with_reducible refine (sight_within.calls a1_1 (wrap64 (a0_0 - 1)) false _ A5.out).mono ?_); rintro e w' ⟨rfl, ⟨nd, rfl⟩⟩))
   go_ret
   exact ⟨by first | rfl | (simp [zU, zT] <;> rfl) | (simp [*, zU, zT] <;> rfl) | (rw [zW (by assumption)]; rfl), by repeat (first | (with_reducible first | exact HB.out | apply zF | apply zB | apply zE | refine zC ?_ GE182.out | refine zC ?_ GE183.out) | exact HB.out)⟩
 ·
  replace c4 := Bool.eq_false_iff.mpr c4
  subst c4
  have H1 : (some false) = some r := by rw [if_neg (show ¬ (false = true) by decide)] at H; exact H
  clear H
  have H := H1
  clear H1
  obtain rfl := Option.some.inj H
  go_enter Try.func30, Try.ntmps30
  go_wp2_with (first | ((with_reducible refine gate_dst (N := 2) rfl ?_); (try (refine gate_guard (by rfl) ?_; dsimp only)); refine box_event ?hg (N := 2) ?hd (cs := #[.int .i64 a0_0, .int .i64 a0_1, .int .i64 a0_2, .slice A0_3 l0_3.length c0_3]) (t := 24) ?hr ?_; (case hd => rfl); (case hg => rfl); (case hr => first | (go_simp; done) | (go_simp; rfl)); intro gb182 hg w35 hbox hb; have n0_ := zA (zJ (by repeat (first | (with_reducible first | exact HB.out | apply zF | apply zB | apply zE) | exact HB.out)) hb); have n1_ := zA (hbox); have n2_ := zA ((by rw [hg]; exact (zK (by repeat (first | (with_reducible first | exact HB.out | apply zF | apply zB | apply zE) | exact HB.out))) : w.heap.size ≤ gb182)); have n3_ := zA ((by rw [hg]; exact (zK (by repeat (first | (with_reducible first | exact HB.out | apply zF | apply zB | apply zE) | exact HB.out))) : w.heap.size ≤ gb182)); clear HB; have HB := n0_; have BK182 := n1_; have GW182 := n2_; have GE182 := n3_; clear n0_ n1_ n2_ n3_; clear hb hbox hg) | ((with_reducible refine gate_dst (N := 3) rfl ?_); (try (refine gate_guard (by rfl) ?_; dsimp only)); refine box_event ?hg (N := 3) ?hd (cs := #[.int .i64 a1_0, .int .i64 a1_1, .int .i64 a1_2, .int .i64 a1_3, .int .i64 a1_4, .int .i64 a1_5, .int .i64 a1_6, .int .i64 a1_7]) (t := 27) ?hr ?_; (case hd => rfl); (case hg => rfl); (case hr => first | (go_simp; done) | (go_simp; rfl)); intro gb183 hg w36 hbox hb; have n0_ := zA (zI (g := gb182) (o := .cells #[.int .i64 a0_0, .int .i64 a0_1, .int .i64 a0_2, .slice A0_3 l0_3.length c0_3] 24 (0, 0)) (by (with_reducible repeat (first | refine zN ?_ _ | refine zO ?_ | refine zM ?_ _)); exact BK182.out) hb); have n1_ := zA (zJ (by repeat (first | (with_reducible first | exact HB.out | apply zF | apply zB | apply zE | refine zC ?_ GE182.out) | exact HB.out)) hb); have n2_ := zA (hbox); have n3_ := zA ((by rw [hg]; exact (zK (by repeat (first | (with_reducible first | exact HB.out | apply zF | apply zB | apply zE | refine zC ?_ GE182.out) | exact HB.out))) : w.heap.size ≤ gb183)); have n4_ := zA ((by rw [hg]; exact (zK (by repeat (first | (with_reducible first | exact HB.out | apply zF | apply zB | apply zE | refine zC ?_ GE182.out) | exact HB.out))) : w.heap.size ≤ gb183)); have n5_ := zA ((by rw [hg]; exact Nat.ne_of_lt (blk_lt (g := gb182) (o := .cells #[.int .i64 a0_0, .int .i64 a0_1, .int .i64 a0_2, .slice A0_3 l0_3.length c0_3] 24 (0, 0)) (by (with_reducible repeat (first | refine zN ?_ _ | refine zO ?_ | refine zM ?_ _)); exact BK182.out)) : gb182 ≠ gb183)); have n6_ := zA ((by rw [hg]; exact Nat.ne_of_gt (blk_lt (g := gb182) (o := .cells #[.int .i64 a0_0, .int .i64 a0_1, .int .i64 a0_2, .slice A0_3 l0_3.length c0_3] 24 (0, 0)) (by (with_reducible repeat (first | refine zN ?_ _ | refine zO ?_ | refine zM ?_ _)); exact BK182.out)) : gb183 ≠ gb182)); clear BK182; clear HB; have BK182 := n0_; have HB := n1_; have BK183 := n2_; have GW183 := n3_; have GE183 := n4_; have NB182_183 := n5_; have NB183_182 := n6_; clear n0_ n1_ n2_ n3_ n4_ n5_ n6_; clear hb hbox hg; have hnb37 := NB183_182.out; have hnc37 := NB182_183.out; have hcz38_0 : w36.cell? ⟨gb183, 0, none⟩ = some (.int .i64 a1_0) := (zD BK183.out 0).trans rfl; have hcz38_1 : w36.cell? ⟨gb183, 1, none⟩ = some (.int .i64 a1_1) := (zD BK183.out 1).trans rfl; have hcz38_2 : w36.cell? ⟨gb183, 2, none⟩ = some (.int .i64 a1_2) := (zD BK183.out 2).trans rfl; have hcz38_3 : w36.cell? ⟨gb183, 3, none⟩ = some (.int .i64 a1_3) := (zD BK183.out 3).trans rfl; have hcz38_4 : w36.cell? ⟨gb183, 4, none⟩ = some (.int .i64 a1_4) := (zD BK183.out 4).trans rfl; have hcz38_5 : w36.cell? ⟨gb183, 5, none⟩ = some (.int .i64 a1_5) := (zD BK183.out 5).trans rfl; have hcz38_6 : w36.cell? ⟨gb183, 6, none⟩ = some (.int .i64 a1_6) := (zD BK183.out 6).trans rfl; have hcz38_7 : w36.cell? ⟨gb183, 7, none⟩ = some (.int .i64 a1_7) := (zD BK183.out 7).trans rfl; have hfz38_0 := zG BK183.out 0; have hfz38_1 := zG BK183.out 1; have hfz38_2 := zG BK183.out 2; have hfz38_3 := zG BK183.out 3; have hfz38_4 := zG BK183.out 4; have hfz38_5 := zG BK183.out 5; have hfz38_6 := zG BK183.out 6; have hfz38_7 := zG BK183.out 7) | ((with_reducible refine gate_callee (f := 20) rfl ?_); refine goesL_ (some 7) rfl rfl Try.func20 (by kernel_rfl) rfl #[.int .i64 a1_0, .int .i64 7] rfl (by (try simp only [List.map_toArray, List.map_cons, List.map_nil]); first | done | rfl | (simp only [List.length_drop, List.length_take]; rfl)) ?_; (with_reducible refine (sight_within.calls a1_0 7 false _ A3.out).mono ?_); rintro e w' ⟨rfl, ⟨nd, rfl⟩⟩; refine ⟨_, rfl, ?_⟩))
  go_ret
  exact ⟨by first | rfl | (simp [zU, zT] <;> rfl) | (simp [*, zU, zT] <;> rfl) | (rw [zW (by assumption)]; rfl), by repeat (first | (with_reducible first | exact HB.out | apply zF | apply zB | apply zE | refine zC ?_ GE182.out | refine zC ?_ GE183.out) | exact HB.out)⟩
end Go.Proofs.Yteihieihoeijdaa.PA
