import Derived.Test.YtfcocbkfodmmbaaPAx19w1
import Derived.Test.YtfcocbkfodmmbaaPAx19w2
import Derived.Test.YtfcocbkfodmmbaaPAx19w3
import Derived.Test.YtfcocbkfodmmbaaPAx19w4
namespace Go.Proofs.Ytfcocbkfodmmbaa.PA
open Go.RowKit Go.Proofs.YtfcocbkfodmmbaaW.PrintWords Go.Proofs.YtfcocbkfodmmbaaW.PrintLast Go.Proofs.YtfcocbkfodmmbaaW.PrintMore
attribute [local go_sem] max2_int min2_int max_two min_two max_three min_three max_four min_four   -- for this text's walks alone
set_option linter.unusedVariables false
set_option linter.unusedSimpArgs false
attribute [local go_sem high] eqA38
set_option maxHeartbeats 8000000 in
set_option maxRecDepth 100000 in
theorem bivouaclaw16_ShotAbove.calls (k : Nat) (a0_0 : Int) (a0_1 : Int) (a0_2 : Int) (A0_3 : Option Addr) (c0_3 : Nat) (l0_3 : List Int) (a0_4 : Int) (a0_5 : Int) (a0_6 : Int) (a0_7 : Int) (a0_8 : Int) (a0_9 : Int) (a0_10 : Int) (a0_11 : Int) (r : Bool) (w : World) (hr0_3 : Kd.C (Kd.int .u8) w A0_3 l0_3.length l0_3) (hc0_3 : l0_3.length ≤ c0_3) (h : bivouaclaw16_ShotAbove.f k a0_0 a0_1 a0_2 l0_3 a0_4 a0_5 a0_6 a0_7 a0_8 a0_9 a0_10 a0_11 = some r) :
  Calls Try.prog 9 #[.agg #[.int .i64 a0_0, .int .i64 a0_1, .int .i64 a0_2, .slice A0_3 l0_3.length c0_3, .int .i64 a0_4, .int .i64 a0_5, .int .i64 a0_6, .int .i64 a0_7, .int .i64 a0_8, .int .i64 a0_9, .int .i64 a0_10, .int .u8 a0_11]] w fun e w' => e = .returned (.bool r) ∧ Below w.heap.size w w' := by
 have H : ((bivouaclaw16_few.f a0_0 a0_1 a0_2 l0_3).bind fun bt189 => ((bivouacref06_Check.f k bt189.1 bt189.2.1 bt189.2.2.1 bt189.2.2.2).bind fun t197 => (if t197 = 0 then ((shot_Fly.f k bt189.1 bt189.2.1 bt189.2.2.1 bt189.2.2.2 a0_4 a0_5 a0_6 a0_7 a0_8 a0_9 ((a0_10) % 256)).bind fun bt199 => ((shot_Fly.f k bt189.1 bt189.2.1 bt189.2.2.1 bt189.2.2.2 a0_4 a0_5 a0_6 a0_7 a0_8 a0_9 (wrap64 (((a0_10) % 256) + (wrap64 (a0_11))))).bind fun bt209 => (if bt199.2.2.2.2.2.2.2.2 = 0 then (if bt199.2.1 = 0 then (if ((a0_10) % 256) > 0 then ((bivouacref06_On.f bt189.1 bt189.2.1 bt189.2.2.1 bt189.2.2.2 bt199.2.2.1 bt199.2.2.2.1).bind fun t222 => (if t222 = true then ((bivouacref06_Height.f bt189.1 bt189.2.1 bt189.2.2.1 bt189.2.2.2 bt199.2.2.1 bt199.2.2.2.1).bind fun t223 => (if bt199.2.2.2.2.1 ≤ t223 then (bivouaclaw16_ShotAbove.j0 k ((a0_10) % 256) a0_11 bt209.2.2.2.2.2.2.2.2 true bt199.1 bt199.2.1 bt199.2.2.1 bt199.2.2.2.1 bt199.2.2.2.2.1 bt199.2.2.2.2.2.1 bt199.2.2.2.2.2.2.1 bt199.2.2.2.2.2.2.2.1 bt209.1 bt209.2.1 bt209.2.2.1 bt209.2.2.2.1 bt209.2.2.2.2.1 bt209.2.2.2.2.2.1 bt209.2.2.2.2.2.2.1 bt209.2.2.2.2.2.2.2.1) else (bivouaclaw16_ShotAbove.j0 k ((a0_10) % 256) a0_11 bt209.2.2.2.2.2.2.2.2 (decide (bt199.2.2.2.2.1 ≤ (wrap64 (bt189.2.2.1 * 65536)))) bt199.1 bt199.2.1 bt199.2.2.1 bt199.2.2.2.1 bt199.2.2.2.2.1 bt199.2.2.2.2.2.1 bt199.2.2.2.2.2.2.1 bt199.2.2.2.2.2.2.2.1 bt209.1 bt209.2.1 bt209.2.2.1 bt209.2.2.2.1 bt209.2.2.2.2.1 bt209.2.2.2.2.2.1 bt209.2.2.2.2.2.2.1 bt209.2.2.2.2.2.2.2.1))) else (bivouaclaw16_ShotAbove.j0 k ((a0_10) % 256) a0_11 bt209.2.2.2.2.2.2.2.2 true bt199.1 bt199.2.1 bt199.2.2.1 bt199.2.2.2.1 bt199.2.2.2.2.1 bt199.2.2.2.2.2.1 bt199.2.2.2.2.2.2.1 bt199.2.2.2.2.2.2.2.1 bt209.1 bt209.2.1 bt209.2.2.1 bt209.2.2.2.1 bt209.2.2.2.2.1 bt209.2.2.2.2.2.1 bt209.2.2.2.2.2.2.1 bt209.2.2.2.2.2.2.2.1))) else (bivouaclaw16_ShotAbove.j0 k ((a0_10) % 256) a0_11 bt209.2.2.2.2.2.2.2.2 false bt199.1 bt199.2.1 bt199.2.2.1 bt199.2.2.2.1 bt199.2.2.2.2.1 bt199.2.2.2.2.2.1 bt199.2.2.2.2.2.2.1 bt199.2.2.2.2.2.2.2.1 bt209.1 bt209.2.1 bt209.2.2.1 bt209.2.2.2.1 bt209.2.2.2.2.1 bt209.2.2.2.2.2.1 bt209.2.2.2.2.2.2.1 bt209.2.2.2.2.2.2.2.1)) else (if bt209.2.2.2.2.2.2.2.2 = 0 then (if (bt209.1 == bt199.1 && (bt209.2.1 == bt199.2.1 && ((bt209.2.2.1 == bt199.2.2.1 && (bt209.2.2.2.1 == bt199.2.2.2.1 && (bt209.2.2.2.2.1 == bt199.2.2.2.2.1 && (bt209.2.2.2.2.2.1 == bt199.2.2.2.2.2.1 && (bt209.2.2.2.2.2.2.1 == bt199.2.2.2.2.2.2.1 && (bt209.2.2.2.2.2.2.2.1 == bt199.2.2.2.2.2.2.2.1))))))))) = true then (if bt199.1 ≥ 1 then (if bt199.1 ≤ ((a0_10) % 256) then ((bivouacref06_On.f bt189.1 bt189.2.1 bt189.2.2.1 bt189.2.2.2 bt199.2.2.1 bt199.2.2.2.1).bind fun t220 => (if ((bt199.2.1 == 3) == (!t220)) = true then ((bivouaclaw16_awake.f).bind fun t221 => (some t221)) else (none))) else (none)) else (none)) else (none)) else (none))) else (if bt209.2.2.2.2.2.2.2.2 = bt199.2.2.2.2.2.2.2.2 then ((bivouaclaw16_awake.f).bind fun t219 => (some t219)) else (none))))) else ((bivouaclaw16_awake.f).bind fun t198 => (some t198))))) = some r := h
 clear h
 replace H := Option.bind_eq_some_iff.mp H
 obtain ⟨⟨t189, t190, t191, t192⟩, A20, H⟩ := H
 replace H : ((bivouacref06_Check.f k t189 t190 t191 t192).bind fun t197 => (if t197 = 0 then ((shot_Fly.f k t189 t190 t191 t192 a0_4 a0_5 a0_6 a0_7 a0_8 a0_9 ((a0_10) % 256)).bind fun bt199 => ((shot_Fly.f k t189 t190 t191 t192 a0_4 a0_5 a0_6 a0_7 a0_8 a0_9 (wrap64 (((a0_10) % 256) + (wrap64 (a0_11))))).bind fun bt209 => (if bt199.2.2.2.2.2.2.2.2 = 0 then (if bt199.2.1 = 0 then (if ((a0_10) % 256) > 0 then ((bivouacref06_On.f t189 t190 t191 t192 bt199.2.2.1 bt199.2.2.2.1).bind fun t222 => (if t222 = true then ((bivouacref06_Height.f t189 t190 t191 t192 bt199.2.2.1 bt199.2.2.2.1).bind fun t223 => (if bt199.2.2.2.2.1 ≤ t223 then (bivouaclaw16_ShotAbove.j0 k ((a0_10) % 256) a0_11 bt209.2.2.2.2.2.2.2.2 true bt199.1 bt199.2.1 bt199.2.2.1 bt199.2.2.2.1 bt199.2.2.2.2.1 bt199.2.2.2.2.2.1 bt199.2.2.2.2.2.2.1 bt199.2.2.2.2.2.2.2.1 bt209.1 bt209.2.1 bt209.2.2.1 bt209.2.2.2.1 bt209.2.2.2.2.1 bt209.2.2.2.2.2.1 bt209.2.2.2.2.2.2.1 bt209.2.2.2.2.2.2.2.1) else (bivouaclaw16_ShotAbove.j0 k ((a0_10) % 256) a0_11 bt209.2.2.2.2.2.2.2.2 (decide (bt199.2.2.2.2.1 ≤ (wrap64 (t191 * 65536)))) bt199.1 bt199.2.1 bt199.2.2.1 bt199.2.2.2.1 bt199.2.2.2.2.1 bt199.2.2.2.2.2.1 bt199.2.2.2.2.2.2.1 bt199.2.2.2.2.2.2.2.1 bt209.1 bt209.2.1 bt209.2.2.1 bt209.2.2.2.1 bt209.2.2.2.2.1 bt209.2.2.2.2.2.1 bt209.2.2.2.2.2.2.1 bt209.2.2.2.2.2.2.2.1))) else (bivouaclaw16_ShotAbove.j0 k ((a0_10) % 256) a0_11 bt209.2.2.2.2.2.2.2.2 true bt199.1 bt199.2.1 bt199.2.2.1 bt199.2.2.2.1 bt199.2.2.2.2.1 bt199.2.2.2.2.2.1 bt199.2.2.2.2.2.2.1 bt199.2.2.2.2.2.2.2.1 bt209.1 bt209.2.1 bt209.2.2.1 bt209.2.2.2.1 bt209.2.2.2.2.1 bt209.2.2.2.2.2.1 bt209.2.2.2.2.2.2.1 bt209.2.2.2.2.2.2.2.1))) else (bivouaclaw16_ShotAbove.j0 k ((a0_10) % 256) a0_11 bt209.2.2.2.2.2.2.2.2 false bt199.1 bt199.2.1 bt199.2.2.1 bt199.2.2.2.1 bt199.2.2.2.2.1 bt199.2.2.2.2.2.1 bt199.2.2.2.2.2.2.1 bt199.2.2.2.2.2.2.2.1 bt209.1 bt209.2.1 bt209.2.2.1 bt209.2.2.2.1 bt209.2.2.2.2.1 bt209.2.2.2.2.2.1 bt209.2.2.2.2.2.2.1 bt209.2.2.2.2.2.2.2.1)) else (if bt209.2.2.2.2.2.2.2.2 = 0 then (if (bt209.1 == bt199.1 && (bt209.2.1 == bt199.2.1 && ((bt209.2.2.1 == bt199.2.2.1 && (bt209.2.2.2.1 == bt199.2.2.2.1 && (bt209.2.2.2.2.1 == bt199.2.2.2.2.1 && (bt209.2.2.2.2.2.1 == bt199.2.2.2.2.2.1 && (bt209.2.2.2.2.2.2.1 == bt199.2.2.2.2.2.2.1 && (bt209.2.2.2.2.2.2.2.1 == bt199.2.2.2.2.2.2.2.1))))))))) = true then (if bt199.1 ≥ 1 then (if bt199.1 ≤ ((a0_10) % 256) then ((bivouacref06_On.f t189 t190 t191 t192 bt199.2.2.1 bt199.2.2.2.1).bind fun t220 => (if ((bt199.2.1 == 3) == (!t220)) = true then ((bivouaclaw16_awake.f).bind fun t221 => (some t221)) else (none))) else (none)) else (none)) else (none)) else (none))) else (if bt209.2.2.2.2.2.2.2.2 = bt199.2.2.2.2.2.2.2.2 then ((bivouaclaw16_awake.f).bind fun t219 => (some t219)) else (none))))) else ((bivouaclaw16_awake.f).bind fun t198 => (some t198)))) = some r := H
 replace H := Option.bind_eq_some_iff.mp H
 obtain ⟨t197, A30, H⟩ := H
 replace H : (if t197 = 0 then ((shot_Fly.f k t189 t190 t191 t192 a0_4 a0_5 a0_6 a0_7 a0_8 a0_9 ((a0_10) % 256)).bind fun bt199 => ((shot_Fly.f k t189 t190 t191 t192 a0_4 a0_5 a0_6 a0_7 a0_8 a0_9 (wrap64 (((a0_10) % 256) + (wrap64 (a0_11))))).bind fun bt209 => (if bt199.2.2.2.2.2.2.2.2 = 0 then (if bt199.2.1 = 0 then (if ((a0_10) % 256) > 0 then ((bivouacref06_On.f t189 t190 t191 t192 bt199.2.2.1 bt199.2.2.2.1).bind fun t222 => (if t222 = true then ((bivouacref06_Height.f t189 t190 t191 t192 bt199.2.2.1 bt199.2.2.2.1).bind fun t223 => (if bt199.2.2.2.2.1 ≤ t223 then (bivouaclaw16_ShotAbove.j0 k ((a0_10) % 256) a0_11 bt209.2.2.2.2.2.2.2.2 true bt199.1 bt199.2.1 bt199.2.2.1 bt199.2.2.2.1 bt199.2.2.2.2.1 bt199.2.2.2.2.2.1 bt199.2.2.2.2.2.2.1 bt199.2.2.2.2.2.2.2.1 bt209.1 bt209.2.1 bt209.2.2.1 bt209.2.2.2.1 bt209.2.2.2.2.1 bt209.2.2.2.2.2.1 bt209.2.2.2.2.2.2.1 bt209.2.2.2.2.2.2.2.1) else (bivouaclaw16_ShotAbove.j0 k ((a0_10) % 256) a0_11 bt209.2.2.2.2.2.2.2.2 (decide (bt199.2.2.2.2.1 ≤ (wrap64 (t191 * 65536)))) bt199.1 bt199.2.1 bt199.2.2.1 bt199.2.2.2.1 bt199.2.2.2.2.1 bt199.2.2.2.2.2.1 bt199.2.2.2.2.2.2.1 bt199.2.2.2.2.2.2.2.1 bt209.1 bt209.2.1 bt209.2.2.1 bt209.2.2.2.1 bt209.2.2.2.2.1 bt209.2.2.2.2.2.1 bt209.2.2.2.2.2.2.1 bt209.2.2.2.2.2.2.2.1))) else (bivouaclaw16_ShotAbove.j0 k ((a0_10) % 256) a0_11 bt209.2.2.2.2.2.2.2.2 true bt199.1 bt199.2.1 bt199.2.2.1 bt199.2.2.2.1 bt199.2.2.2.2.1 bt199.2.2.2.2.2.1 bt199.2.2.2.2.2.2.1 bt199.2.2.2.2.2.2.2.1 bt209.1 bt209.2.1 bt209.2.2.1 bt209.2.2.2.1 bt209.2.2.2.2.1 bt209.2.2.2.2.2.1 bt209.2.2.2.2.2.2.1 bt209.2.2.2.2.2.2.2.1))) else (bivouaclaw16_ShotAbove.j0 k ((a0_10) % 256) a0_11 bt209.2.2.2.2.2.2.2.2 false bt199.1 bt199.2.1 bt199.2.2.1 bt199.2.2.2.1 bt199.2.2.2.2.1 bt199.2.2.2.2.2.1 bt199.2.2.2.2.2.2.1 bt199.2.2.2.2.2.2.2.1 bt209.1 bt209.2.1 bt209.2.2.1 bt209.2.2.2.1 bt209.2.2.2.2.1 bt209.2.2.2.2.2.1 bt209.2.2.2.2.2.2.1 bt209.2.2.2.2.2.2.2.1)) else (if bt209.2.2.2.2.2.2.2.2 = 0 then (if (bt209.1 == bt199.1 && (bt209.2.1 == bt199.2.1 && ((bt209.2.2.1 == bt199.2.2.1 && (bt209.2.2.2.1 == bt199.2.2.2.1 && (bt209.2.2.2.2.1 == bt199.2.2.2.2.1 && (bt209.2.2.2.2.2.1 == bt199.2.2.2.2.2.1 && (bt209.2.2.2.2.2.2.1 == bt199.2.2.2.2.2.2.1 && (bt209.2.2.2.2.2.2.2.1 == bt199.2.2.2.2.2.2.2.1))))))))) = true then (if bt199.1 ≥ 1 then (if bt199.1 ≤ ((a0_10) % 256) then ((bivouacref06_On.f t189 t190 t191 t192 bt199.2.2.1 bt199.2.2.2.1).bind fun t220 => (if ((bt199.2.1 == 3) == (!t220)) = true then ((bivouaclaw16_awake.f).bind fun t221 => (some t221)) else (none))) else (none)) else (none)) else (none)) else (none))) else (if bt209.2.2.2.2.2.2.2.2 = bt199.2.2.2.2.2.2.2.2 then ((bivouaclaw16_awake.f).bind fun t219 => (some t219)) else (none))))) else ((bivouaclaw16_awake.f).bind fun t198 => (some t198))) = some r := H
 by_cases c4 : t197 = 0
 ·
  rw [if_pos c4] at H
  replace H := Option.bind_eq_some_iff.mp H
  obtain ⟨⟨t199, t200, t201, t202, t203, t204, t205, t206, t207⟩, A50, H⟩ := H
  replace H : ((shot_Fly.f k t189 t190 t191 t192 a0_4 a0_5 a0_6 a0_7 a0_8 a0_9 (wrap64 (((a0_10) % 256) + (wrap64 (a0_11))))).bind fun bt209 => (if t207 = 0 then (if t200 = 0 then (if ((a0_10) % 256) > 0 then ((bivouacref06_On.f t189 t190 t191 t192 t201 t202).bind fun t222 => (if t222 = true then ((bivouacref06_Height.f t189 t190 t191 t192 t201 t202).bind fun t223 => (if t203 ≤ t223 then (bivouaclaw16_ShotAbove.j0 k ((a0_10) % 256) a0_11 bt209.2.2.2.2.2.2.2.2 true t199 t200 t201 t202 t203 t204 t205 t206 bt209.1 bt209.2.1 bt209.2.2.1 bt209.2.2.2.1 bt209.2.2.2.2.1 bt209.2.2.2.2.2.1 bt209.2.2.2.2.2.2.1 bt209.2.2.2.2.2.2.2.1) else (bivouaclaw16_ShotAbove.j0 k ((a0_10) % 256) a0_11 bt209.2.2.2.2.2.2.2.2 (decide (t203 ≤ (wrap64 (t191 * 65536)))) t199 t200 t201 t202 t203 t204 t205 t206 bt209.1 bt209.2.1 bt209.2.2.1 bt209.2.2.2.1 bt209.2.2.2.2.1 bt209.2.2.2.2.2.1 bt209.2.2.2.2.2.2.1 bt209.2.2.2.2.2.2.2.1))) else (bivouaclaw16_ShotAbove.j0 k ((a0_10) % 256) a0_11 bt209.2.2.2.2.2.2.2.2 true t199 t200 t201 t202 t203 t204 t205 t206 bt209.1 bt209.2.1 bt209.2.2.1 bt209.2.2.2.1 bt209.2.2.2.2.1 bt209.2.2.2.2.2.1 bt209.2.2.2.2.2.2.1 bt209.2.2.2.2.2.2.2.1))) else (bivouaclaw16_ShotAbove.j0 k ((a0_10) % 256) a0_11 bt209.2.2.2.2.2.2.2.2 false t199 t200 t201 t202 t203 t204 t205 t206 bt209.1 bt209.2.1 bt209.2.2.1 bt209.2.2.2.1 bt209.2.2.2.2.1 bt209.2.2.2.2.2.1 bt209.2.2.2.2.2.2.1 bt209.2.2.2.2.2.2.2.1)) else (if bt209.2.2.2.2.2.2.2.2 = 0 then (if (bt209.1 == t199 && (bt209.2.1 == t200 && ((bt209.2.2.1 == t201 && (bt209.2.2.2.1 == t202 && (bt209.2.2.2.2.1 == t203 && (bt209.2.2.2.2.2.1 == t204 && (bt209.2.2.2.2.2.2.1 == t205 && (bt209.2.2.2.2.2.2.2.1 == t206))))))))) = true then (if t199 ≥ 1 then (if t199 ≤ ((a0_10) % 256) then ((bivouacref06_On.f t189 t190 t191 t192 t201 t202).bind fun t220 => (if ((t200 == 3) == (!t220)) = true then ((bivouaclaw16_awake.f).bind fun t221 => (some t221)) else (none))) else (none)) else (none)) else (none)) else (none))) else (if bt209.2.2.2.2.2.2.2.2 = t207 then ((bivouaclaw16_awake.f).bind fun t219 => (some t219)) else (none)))) = some r := H
  replace H := Option.bind_eq_some_iff.mp H
  obtain ⟨⟨t209, t210, t211, t212, t213, t214, t215, t216, t217⟩, A60, H⟩ := H
  replace H : (if t207 = 0 then (if t200 = 0 then (if ((a0_10) % 256) > 0 then ((bivouacref06_On.f t189 t190 t191 t192 t201 t202).bind fun t222 => (if t222 = true then ((bivouacref06_Height.f t189 t190 t191 t192 t201 t202).bind fun t223 => (if t203 ≤ t223 then (bivouaclaw16_ShotAbove.j0 k ((a0_10) % 256) a0_11 t217 true t199 t200 t201 t202 t203 t204 t205 t206 t209 t210 t211 t212 t213 t214 t215 t216) else (bivouaclaw16_ShotAbove.j0 k ((a0_10) % 256) a0_11 t217 (decide (t203 ≤ (wrap64 (t191 * 65536)))) t199 t200 t201 t202 t203 t204 t205 t206 t209 t210 t211 t212 t213 t214 t215 t216))) else (bivouaclaw16_ShotAbove.j0 k ((a0_10) % 256) a0_11 t217 true t199 t200 t201 t202 t203 t204 t205 t206 t209 t210 t211 t212 t213 t214 t215 t216))) else (bivouaclaw16_ShotAbove.j0 k ((a0_10) % 256) a0_11 t217 false t199 t200 t201 t202 t203 t204 t205 t206 t209 t210 t211 t212 t213 t214 t215 t216)) else (if t217 = 0 then (if (t209 == t199 && (t210 == t200 && ((t211 == t201 && (t212 == t202 && (t213 == t203 && (t214 == t204 && (t215 == t205 && (t216 == t206))))))))) = true then (if t199 ≥ 1 then (if t199 ≤ ((a0_10) % 256) then ((bivouacref06_On.f t189 t190 t191 t192 t201 t202).bind fun t220 => (if ((t200 == 3) == (!t220)) = true then ((bivouaclaw16_awake.f).bind fun t221 => (some t221)) else (none))) else (none)) else (none)) else (none)) else (none))) else (if t217 = t207 then ((bivouaclaw16_awake.f).bind fun t219 => (some t219)) else (none))) = some r := H
  by_cases c7 : t207 = 0
  ·
   rw [if_pos c7] at H
   by_cases c8 : t200 = 0
   ·
    rw [if_pos c8] at H
    exact bivouaclaw16_ShotAbove.way1 k a0_0 a0_1 a0_2 A0_3 c0_3 l0_3 a0_4 a0_5 a0_6 a0_7 a0_8 a0_9 a0_10 a0_11 r w hr0_3 hc0_3 A20 A30 c4 A50 A60 c7 c8 H
   ·
    rw [if_neg c8] at H
    by_cases c96 : t217 = 0
    ·
     rw [if_pos c96] at H
     by_cases c97 : (t209 == t199 && (t210 == t200 && ((t211 == t201 && (t212 == t202 && (t213 == t203 && (t214 == t204 && (t215 == t205 && (t216 == t206))))))))) = true
     ·
      rw [if_pos c97] at H
      by_cases c98 : t199 ≥ 1
      ·
       rw [if_pos c98] at H
       by_cases c99 : t199 ≤ ((a0_10) % 256)
       ·
        rw [if_pos c99] at H
        replace H := Option.bind_eq_some_iff.mp H
        obtain ⟨t220, A1000, H⟩ := H
        replace H : (if ((t200 == 3) == (!t220)) = true then ((bivouaclaw16_awake.f).bind fun t221 => (some t221)) else (none)) = some r := H
        by_cases c101 : ((t200 == 3) == (!t220)) = true
        ·
         rw [if_pos c101] at H
         replace H := Option.bind_eq_some_iff.mp H
         obtain ⟨t221, A1020, H⟩ := H
         replace H : (some t221) = some r := H
         exact bivouaclaw16_ShotAbove.way2 k a0_0 a0_1 a0_2 A0_3 c0_3 l0_3 a0_4 a0_5 a0_6 a0_7 a0_8 a0_9 a0_10 a0_11 r w hr0_3 hc0_3 A20 A30 c4 A50 A60 c7 c8 c96 c97 c98 c99 A1000 c101 A1020 H
        ·
         rw [if_neg c101] at H
         have c101b0 : ((t200 == 3) == (!t220)) = false := by simpa using c101
         (try (have c101b1 : decide ((t200 == 3) = (!t220)) = false := by simpa using c101))
         (try (have c101b2 : ((t200 == 3) == (!t220)) = false := by simpa using c101))
         (try (have c101b3 : ¬ ((t200 == 3) = (!t220)) := by simpa using c101))
         clear c101
         exact absurd H (by simp)
       ·
        rw [if_neg c99] at H
        have c99b0 : decide (t199 ≤ ((a0_10) % 256)) = false := decide_eq_false c99
        clear c99
        exact absurd H (by simp)
      ·
       rw [if_neg c98] at H
       have c98b0 : decide (1 ≤ t199) = false := decide_eq_false c98
       clear c98
       exact absurd H (by simp)
     ·
      rw [if_neg c97] at H
      have c97b0 : (t209 == t199 && (t210 == t200 && ((t211 == t201 && (t212 == t202 && (t213 == t203 && (t214 == t204 && (t215 == t205 && (t216 == t206))))))))) = false := by simpa using c97
      (try (have c97b1 : decide (t209 = t199 && (t210 == t200 && ((t211 == t201 && (t212 == t202 && (t213 == t203 && (t214 == t204 && (t215 == t205 && (t216 == t206))))))))) = false := by simpa using c97))
      (try (have c97b2 : (t209 == t199 && (t210 == t200 && ((t211 == t201 && (t212 == t202 && (t213 == t203 && (t214 == t204 && (t215 == t205 && (t216 == t206))))))))) = false := by simpa using c97))
      (try (have c97b3 : ¬ (t209 = t199 && (t210 == t200 && ((t211 == t201 && (t212 == t202 && (t213 == t203 && (t214 == t204 && (t215 == t205 && (t216 == t206))))))))) := by simpa using c97))
      clear c97
      exact absurd H (by simp)
    ·
     rw [if_neg c96] at H
     have c96b0 : (t217 == 0) = false := beq_eq_false_iff_ne.mpr c96
     have c96b1 : (t217 != 0) = true := bne_iff_ne.mpr c96
     exact absurd H (by simp)
  ·
   rw [if_neg c7] at H
   by_cases c147 : t217 = t207
   ·
    rw [if_pos c147] at H
    replace H := Option.bind_eq_some_iff.mp H
    obtain ⟨t219, A1480, H⟩ := H
    replace H : (some t219) = some r := H
    exact bivouaclaw16_ShotAbove.way3 k a0_0 a0_1 a0_2 A0_3 c0_3 l0_3 a0_4 a0_5 a0_6 a0_7 a0_8 a0_9 a0_10 a0_11 r w hr0_3 hc0_3 A20 A30 c4 A50 A60 c7 c147 A1480 H
   ·
    rw [if_neg c147] at H
    exact absurd H (by simp)
 ·
  rw [if_neg c4] at H
  replace H := Option.bind_eq_some_iff.mp H
  obtain ⟨t198, A1890, H⟩ := H
  replace H : (some t198) = some r := H
  exact bivouaclaw16_ShotAbove.way4 k a0_0 a0_1 a0_2 A0_3 c0_3 l0_3 a0_4 a0_5 a0_6 a0_7 a0_8 a0_9 a0_10 a0_11 r w hr0_3 hc0_3 A20 A30 c4 A1890 H
theorem bivouaclaw16_ShotAbove.walked : True := trivial

end Go.Proofs.Ytfcocbkfodmmbaa.PA

