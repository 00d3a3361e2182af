/- The contract of trig_Sin: what its call comes to, for every argument, in any memory. -/
import Derived.Test.YtdmmlidgipedaaaDoorPAx0
import Derived.Test.YtdmmlidgipedaaaDoorPAx7
namespace Go.Proofs.YtdmmlidgipedaaaDoor.PA
open Go.RowKit Go.Proofs.YtdmmlidgipedaaaDoorW.PrintWords Go.Proofs.YtdmmlidgipedaaaDoorW.PrintLast Go.Proofs.YtdmmlidgipedaaaDoorW.PrintMore
set_option linter.unusedVariables false
set_option linter.unusedSimpArgs false

theorem sw64 {i : Int} (h0 : -9223372036854775808 ≤ i) (h1 : i < 9223372036854775808) : wrap64 i = i := by unfold wrap64; omega
/-- The table trig.sines. -/
def sines : List Int := [0, 1608, 3216, 4821, 6424, 8022, 9616, 11204, 12785, 14359, 15924, 17479, 19024, 20557, 22078, 23586, 25080, 26558, 28020, 29466, 30893, 32303, 33692, 35062, 36410, 37736, 39040, 40320, 41576, 42806, 44011, 45190, 46341, 47464, 48559, 49624, 50660, 51665, 52639, 53581, 54491, 55368, 56212, 57022, 57798, 58538, 59244, 59914, 60547, 61145, 61705, 62228, 62714, 63162, 63572, 63944, 64277, 64571, 64827, 65043, 65220, 65358, 65457, 65516, 65536]
/-- The table stands where the program laid it. -/
structure TB (w : World) : Prop where mk ::
  out : ∀ (i : Nat) (x : Int), sines[i]? = some x → w.cell? ⟨0, i, none⟩ = some (.int .i32 x)
theorem TB.below {w W : World} (h : TB w) (hb : Below w.heap.size w W) : TB W :=
  ⟨fun i x hx => pw_cell_below hb (h.out i x hx)⟩
theorem TB.size {w : World} (h : TB w) : 0 < w.heap.size := World.block_lt_of_cell? w _ (h.out 0 0 rfl)
theorem TB.cell {w : World} (h : TB w) {i : Int} (h0 : 0 ≤ i) (h1 : i < 65) : w.cell? ⟨0, i.toNat, none⟩ = some (.int .i32 (rd sines i)) := by
  have hl : i.toNat < sines.length := by show i.toNat < 65; omega
  refine h.out _ _ ?_
  rw [List.getElem?_eq_getElem hl]
  simp [rd, List.getD_eq_getElem?_getD, hl]
theorem sin_and {x : Int} (n : Nat) (hn : n < 64) (h0 : 0 ≤ x) (h1 : x < 9223372036854775808) : Go.bits .and .i64 x (2 ^ n - 1 : Nat) = x % (2 ^ n : Nat) := by
  obtain ⟨m, rfl⟩ := Int.eq_ofNat_of_zero_le h0
  have hm : m < 9223372036854775808 := by omega
  have hp : 2 ^ n < 18446744073709551616 := Nat.pow_lt_pow_right (by omega) hn
  have hq : 0 < 2 ^ n := Nat.two_pow_pos n
  have h1 : (BitVec.ofInt 64 (m : Int)).toNat = m := by
    rw [BitVec.ofInt_natCast, BitVec.toNat_ofNat]; exact Nat.mod_eq_of_lt (by omega)
  have h2 : (BitVec.ofInt 64 ((2 ^ n - 1 : Nat) : Int)).toNat = 2 ^ n - 1 := by
    rw [BitVec.ofInt_natCast, BitVec.toNat_ofNat]; exact Nat.mod_eq_of_lt (by omega)
  show IntKind.i64.wrap ((BitVec.ofInt 64 (m : Int) &&& BitVec.ofInt 64 ((2 ^ n - 1 : Nat) : Int)).toNat : Int) = _
  rw [BitVec.toNat_and, h1, h2, Nat.and_two_pow_sub_one_eq_mod m n]
  have h3 : m % 2 ^ n ≤ m := Nat.mod_le _ _
  rw [i64_w, sw64 (by omega) (by omega)]
  exact Int.natCast_emod m (2 ^ n)
/-- A number's last bits, whatever it is. -/
theorem sin_mask (x : Int) : 0 ≤ Go.bits .and .i64 x 65535 ∧ Go.bits .and .i64 x 65535 < 65536 := by
  have h2 : (BitVec.ofInt 64 (65535 : Int)).toNat = 2 ^ 16 - 1 := by decide +kernel
  have h : Go.bits .and .i64 x 65535 = (((BitVec.ofInt 64 x).toNat % 65536 : Nat) : Int) := by
    show IntKind.i64.wrap ((BitVec.ofInt 64 x &&& BitVec.ofInt 64 (65535 : Int)).toNat : Int) = _
    rw [BitVec.toNat_and, h2, Nat.and_two_pow_sub_one_eq_mod _ 16]
    have h3 : (BitVec.ofInt 64 x).toNat % 2 ^ 16 < 2 ^ 16 := Nat.mod_lt _ (by decide)
    rw [i64_w, sw64 (by omega) (by omega)]
  rw [h]
  omega
/-- A sine's place in its quarter, and the value there. -/
def sinR (p : Int) : Int := if p / 16384 % 2 = 1 then 16384 - p % 16384 else p % 16384
def sinV (r : Int) : Int := if r % 256 > 0 then wrap64 (rd sines (r / 256) + wrap64 ((rd sines (r / 256 + 1) - rd sines (r / 256)) * (r % 256)) / 256) else rd sines (r / 256)
def sinP (p : Int) : Int := if p / 16384 ≥ 2 then wrap64 (-(sinV (sinR p))) else sinV (sinR p)
theorem sines_b {i : Int} (h0 : 0 ≤ i) (h1 : i < 65) : 0 ≤ rd sines i ∧ rd sines i ≤ 65536 := by
  obtain ⟨n, rfl⟩ := Int.eq_ofNat_of_zero_le h0
  have hn : n < 65 := by omega
  have hall : ∀ m : Nat, m < 65 → 0 ≤ rd sines (m : Int) ∧ rd sines (m : Int) ≤ 65536 := by decide +kernel
  exact hall n hn
def trig_Sin.f (a0 : Int) : Option (Int) := some (sinP (Go.bits .and .i64 a0 65535))
set_option maxHeartbeats 8000000 in
set_option maxRecDepth 100000 in
theorem trig_Sin.calls (a0 : Int) (r : Int) (w : World) (hT : TB w) (h : trig_Sin.f a0 = some r) :
    Calls Tryd.prog 28 #[.int .i64 a0] w fun e w' => e = .returned (.int .i64 r) ∧ Drawn0 w w' := by
  obtain rfl : sinP (Go.bits .and .i64 a0 65535) = r := Option.some.inj h
  clear h
  obtain ⟨p0, p1⟩ := sin_mask a0
  have HN : trig_Norm.f a0 = some (Go.bits .and .i64 a0 65535) := rfl
  generalize Go.bits .and .i64 a0 65535 = p at p0 p1 HN
  have e1 : Go.bits .and .i64 p 16383 = p % 16384 := sin_and 14 (by decide) p0 (by omega)
  have e2 : Go.bits .and .i64 (p / 16384) 1 = p / 16384 % 2 := sin_and 1 (by decide) (by omega) (by omega)
  have HN' := Aside0.mk HN
  clear HN
  by_cases c : p / 16384 % 2 = 1
  · have c1 : (p / 16384 % 2 == 1) = true := beq_iff_eq.mpr c
    have eR : sinR p = (16384 - p % 16384) := by unfold sinR; rw [if_pos c]
    have e4 : Go.bits .and .i64 (16384 - p % 16384) 255 = ((16384 - p % 16384) % 256) := (sin_and 8 (by decide) (by omega) (by omega)).trans (by omega)
    by_cases cf : (16384 - p % 16384) % 256 > 0
    · by_cases cq : p / 16384 ≥ 2
      · have e5 : Aside0 (sinP p = wrap64 (-(wrap64 (rd sines ((16384 - p % 16384) / 256) + wrap64 ((rd sines ((16384 - p % 16384) / 256 + 1) - rd sines ((16384 - p % 16384) / 256)) * ((16384 - p % 16384) % 256)) / 256)))) := ⟨by unfold sinP; rw [if_pos cq, eR]; unfold sinV; rw [if_pos cf]⟩
        have cq1 : decide (2 ≤ p / 16384) = true := by simpa using cq
        have cf1 : decide (0 < ((16384 - p % 16384) % 256)) = true := by simpa using (show (((16384 - p % 16384) % 256) > 0) by omega)
        have hc1 := hT.cell (i := (16384 - p % 16384) / 256) (by omega) (by omega)
        obtain ⟨v0, v1⟩ := sines_b (i := (16384 - p % 16384) / 256) (by omega) (by omega)
        have cb : (16384 - p % 16384) / 256 + 1 < 65 := by omega
        have hc2 := hT.cell (i := (16384 - p % 16384) / 256 + 1) (by omega) (by omega)
        obtain ⟨u0, u1⟩ := sines_b (i := (16384 - p % 16384) / 256 + 1) (by omega) (by omega)
        generalize rd sines ((16384 - p % 16384) / 256 + 1) = u at e5 hc2 u0 u1
        generalize rd sines ((16384 - p % 16384) / 256) = v at e5 hc1 v0 v1
        clear eR cf cq
        go_enter Tryd.func28, Tryd.ntmps28
        go_wp2_with (first | (go_at_call 32; refine (trig_Norm.calls a0 p _ HN'.out).mono ?_; rintro e w1 ⟨rfl, ⟨nd, rfl⟩⟩))
        go_ret
        exact ⟨by rw [e5.out]; first | rfl | (simp; done) | (simp [sw64 (i := -v) (by omega) (by omega)]; done), ⟨_, rfl⟩⟩
      · have e5 : Aside0 (sinP p = (wrap64 (rd sines ((16384 - p % 16384) / 256) + wrap64 ((rd sines ((16384 - p % 16384) / 256 + 1) - rd sines ((16384 - p % 16384) / 256)) * ((16384 - p % 16384) % 256)) / 256))) := ⟨by unfold sinP; rw [if_neg cq, eR]; unfold sinV; rw [if_pos cf]⟩
        have cq1 : decide (2 ≤ p / 16384) = false := by simpa using cq
        have cf1 : decide (0 < ((16384 - p % 16384) % 256)) = true := by simpa using (show (((16384 - p % 16384) % 256) > 0) by omega)
        have hc1 := hT.cell (i := (16384 - p % 16384) / 256) (by omega) (by omega)
        obtain ⟨v0, v1⟩ := sines_b (i := (16384 - p % 16384) / 256) (by omega) (by omega)
        have cb : (16384 - p % 16384) / 256 + 1 < 65 := by omega
        have hc2 := hT.cell (i := (16384 - p % 16384) / 256 + 1) (by omega) (by omega)
        obtain ⟨u0, u1⟩ := sines_b (i := (16384 - p % 16384) / 256 + 1) (by omega) (by omega)
        generalize rd sines ((16384 - p % 16384) / 256 + 1) = u at e5 hc2 u0 u1
        generalize rd sines ((16384 - p % 16384) / 256) = v at e5 hc1 v0 v1
        clear eR cf cq
        go_enter Tryd.func28, Tryd.ntmps28
        go_wp2_with (first | (go_at_call 32; refine (trig_Norm.calls a0 p _ HN'.out).mono ?_; rintro e w1 ⟨rfl, ⟨nd, rfl⟩⟩))
        go_ret
        exact ⟨by rw [e5.out]; first | rfl | (simp; done) | (simp [sw64 (i := -v) (by omega) (by omega)]; done), ⟨_, rfl⟩⟩
    · by_cases cq : p / 16384 ≥ 2
      · have e5 : Aside0 (sinP p = wrap64 (-(rd sines ((16384 - p % 16384) / 256)))) := ⟨by unfold sinP; rw [if_pos cq, eR]; unfold sinV; rw [if_neg cf]⟩
        have cq1 : decide (2 ≤ p / 16384) = true := by simpa using cq
        have cf1 : decide (0 < ((16384 - p % 16384) % 256)) = false := by simpa using (show ¬ (((16384 - p % 16384) % 256) > 0) by omega)
        have hc1 := hT.cell (i := (16384 - p % 16384) / 256) (by omega) (by omega)
        obtain ⟨v0, v1⟩ := sines_b (i := (16384 - p % 16384) / 256) (by omega) (by omega)
        generalize rd sines ((16384 - p % 16384) / 256) = v at e5 hc1 v0 v1
        clear eR cf cq
        go_enter Tryd.func28, Tryd.ntmps28
        go_wp2_with (first | (go_at_call 32; refine (trig_Norm.calls a0 p _ HN'.out).mono ?_; rintro e w1 ⟨rfl, ⟨nd, rfl⟩⟩))
        go_ret
        exact ⟨by rw [e5.out]; first | rfl | (simp; done) | (simp [sw64 (i := -v) (by omega) (by omega)]; done), ⟨_, rfl⟩⟩
      · have e5 : Aside0 (sinP p = (rd sines ((16384 - p % 16384) / 256))) := ⟨by unfold sinP; rw [if_neg cq, eR]; unfold sinV; rw [if_neg cf]⟩
        have cq1 : decide (2 ≤ p / 16384) = false := by simpa using cq
        have cf1 : decide (0 < ((16384 - p % 16384) % 256)) = false := by simpa using (show ¬ (((16384 - p % 16384) % 256) > 0) by omega)
        have hc1 := hT.cell (i := (16384 - p % 16384) / 256) (by omega) (by omega)
        obtain ⟨v0, v1⟩ := sines_b (i := (16384 - p % 16384) / 256) (by omega) (by omega)
        generalize rd sines ((16384 - p % 16384) / 256) = v at e5 hc1 v0 v1
        clear eR cf cq
        go_enter Tryd.func28, Tryd.ntmps28
        go_wp2_with (first | (go_at_call 32; refine (trig_Norm.calls a0 p _ HN'.out).mono ?_; rintro e w1 ⟨rfl, ⟨nd, rfl⟩⟩))
        go_ret
        exact ⟨by rw [e5.out]; first | rfl | (simp; done) | (simp [sw64 (i := -v) (by omega) (by omega)]; done), ⟨_, rfl⟩⟩
  · have c1 : (p / 16384 % 2 == 1) = false := beq_eq_false_iff_ne.mpr c
    have eR : sinR p = (p % 16384) := by unfold sinR; rw [if_neg c]
    have e4 : Go.bits .and .i64 (p % 16384) 255 = (p % 256) := (sin_and 8 (by decide) (by omega) (by omega)).trans (by omega)
    by_cases cf : (p % 16384) % 256 > 0
    · by_cases cq : p / 16384 ≥ 2
      · have e5 : Aside0 (sinP p = wrap64 (-(wrap64 (rd sines ((p % 16384) / 256) + wrap64 ((rd sines ((p % 16384) / 256 + 1) - rd sines ((p % 16384) / 256)) * (p % 256)) / 256)))) := ⟨by unfold sinP; rw [if_pos cq, eR]; unfold sinV; rw [if_pos cf]; rw [show p % 16384 % 256 = p % 256 by omega]⟩
        have cq1 : decide (2 ≤ p / 16384) = true := by simpa using cq
        have cf1 : decide (0 < (p % 256)) = true := by simpa using (show ((p % 256) > 0) by omega)
        have hc1 := hT.cell (i := (p % 16384) / 256) (by omega) (by omega)
        obtain ⟨v0, v1⟩ := sines_b (i := (p % 16384) / 256) (by omega) (by omega)
        have cb : (p % 16384) / 256 + 1 < 65 := by omega
        have hc2 := hT.cell (i := (p % 16384) / 256 + 1) (by omega) (by omega)
        obtain ⟨u0, u1⟩ := sines_b (i := (p % 16384) / 256 + 1) (by omega) (by omega)
        generalize rd sines ((p % 16384) / 256 + 1) = u at e5 hc2 u0 u1
        generalize rd sines ((p % 16384) / 256) = v at e5 hc1 v0 v1
        clear eR cf cq
        go_enter Tryd.func28, Tryd.ntmps28
        go_wp2_with (first | (go_at_call 32; refine (trig_Norm.calls a0 p _ HN'.out).mono ?_; rintro e w1 ⟨rfl, ⟨nd, rfl⟩⟩))
        go_ret
        exact ⟨by rw [e5.out]; first | rfl | (simp; done) | (simp [sw64 (i := -v) (by omega) (by omega)]; done), ⟨_, rfl⟩⟩
      · have e5 : Aside0 (sinP p = (wrap64 (rd sines ((p % 16384) / 256) + wrap64 ((rd sines ((p % 16384) / 256 + 1) - rd sines ((p % 16384) / 256)) * (p % 256)) / 256))) := ⟨by unfold sinP; rw [if_neg cq, eR]; unfold sinV; rw [if_pos cf]; rw [show p % 16384 % 256 = p % 256 by omega]⟩
        have cq1 : decide (2 ≤ p / 16384) = false := by simpa using cq
        have cf1 : decide (0 < (p % 256)) = true := by simpa using (show ((p % 256) > 0) by omega)
        have hc1 := hT.cell (i := (p % 16384) / 256) (by omega) (by omega)
        obtain ⟨v0, v1⟩ := sines_b (i := (p % 16384) / 256) (by omega) (by omega)
        have cb : (p % 16384) / 256 + 1 < 65 := by omega
        have hc2 := hT.cell (i := (p % 16384) / 256 + 1) (by omega) (by omega)
        obtain ⟨u0, u1⟩ := sines_b (i := (p % 16384) / 256 + 1) (by omega) (by omega)
        generalize rd sines ((p % 16384) / 256 + 1) = u at e5 hc2 u0 u1
        generalize rd sines ((p % 16384) / 256) = v at e5 hc1 v0 v1
        clear eR cf cq
        go_enter Tryd.func28, Tryd.ntmps28
        go_wp2_with (first | (go_at_call 32; refine (trig_Norm.calls a0 p _ HN'.out).mono ?_; rintro e w1 ⟨rfl, ⟨nd, rfl⟩⟩))
        go_ret
        exact ⟨by rw [e5.out]; first | rfl | (simp; done) | (simp [sw64 (i := -v) (by omega) (by omega)]; done), ⟨_, rfl⟩⟩
    · by_cases cq : p / 16384 ≥ 2
      · have e5 : Aside0 (sinP p = wrap64 (-(rd sines ((p % 16384) / 256)))) := ⟨by unfold sinP; rw [if_pos cq, eR]; unfold sinV; rw [if_neg cf]⟩
        have cq1 : decide (2 ≤ p / 16384) = true := by simpa using cq
        have cf1 : decide (0 < (p % 256)) = false := by simpa using (show ¬ ((p % 256) > 0) by omega)
        have hc1 := hT.cell (i := (p % 16384) / 256) (by omega) (by omega)
        obtain ⟨v0, v1⟩ := sines_b (i := (p % 16384) / 256) (by omega) (by omega)
        generalize rd sines ((p % 16384) / 256) = v at e5 hc1 v0 v1
        clear eR cf cq
        go_enter Tryd.func28, Tryd.ntmps28
        go_wp2_with (first | (go_at_call 32; refine (trig_Norm.calls a0 p _ HN'.out).mono ?_; rintro e w1 ⟨rfl, ⟨nd, rfl⟩⟩))
        go_ret
        exact ⟨by rw [e5.out]; first | rfl | (simp; done) | (simp [sw64 (i := -v) (by omega) (by omega)]; done), ⟨_, rfl⟩⟩
      · have e5 : Aside0 (sinP p = (rd sines ((p % 16384) / 256))) := ⟨by unfold sinP; rw [if_neg cq, eR]; unfold sinV; rw [if_neg cf]⟩
        have cq1 : decide (2 ≤ p / 16384) = false := by simpa using cq
        have cf1 : decide (0 < (p % 256)) = false := by simpa using (show ¬ ((p % 256) > 0) by omega)
        have hc1 := hT.cell (i := (p % 16384) / 256) (by omega) (by omega)
        obtain ⟨v0, v1⟩ := sines_b (i := (p % 16384) / 256) (by omega) (by omega)
        generalize rd sines ((p % 16384) / 256) = v at e5 hc1 v0 v1
        clear eR cf cq
        go_enter Tryd.func28, Tryd.ntmps28
        go_wp2_with (first | (go_at_call 32; refine (trig_Norm.calls a0 p _ HN'.out).mono ?_; rintro e w1 ⟨rfl, ⟨nd, rfl⟩⟩))
        go_ret
        exact ⟨by rw [e5.out]; first | rfl | (simp; done) | (simp [sw64 (i := -v) (by omega) (by omega)]; done), ⟨_, rfl⟩⟩

end Go.Proofs.YtdmmlidgipedaaaDoor.PA
