-- WRITTEN BY A PROGRAM OF THIS SESSION (a turned copy of the kit's printer), for this claim. Nothing here is trusted: Lean checks it.
import Derived.Test.YtjgemjhmkmahmaaPAx0
import Derived.Test.YtjgemjhmkmahmaaPAx1
import Derived.Test.YtjgemjhmkmahmaaPAx2
import Derived.Test.YtjgemjhmkmahmaaPAx13
import Derived.Test.YtjgemjhmkmahmaaPAx14
import Derived.Test.YtjgemjhmkmahmaaPAx15
import Derived.Test.YtjgemjhmkmahmaaPAx16
import Derived.Test.YtjgemjhmkmahmaaPAx17
namespace Go.Proofs.Ytjgemjhmkmahmaa.PA
open Go.RowKit Go.Proofs.YtjgemjhmkmahmaaW.PrintWords Go.Proofs.YtjgemjhmkmahmaaW.PrintLast Go.Proofs.YtjgemjhmkmahmaaW.PrintMore
attribute [local go_sem] max2_int min2_int max_two min_two max_three min_three max_four min_four   -- for this text's walks alone
set_option linter.unusedVariables false
set_option linter.unusedSimpArgs false

/-! ### bivouaclaw06_ReliefBytes: function 7 -/
mutual
def bivouaclaw06_ReliefBytes.j0 : Nat → List Int → ByteArray → Int → Int → Int → List Int → Option (Bool)
 | 0, _, _, _, _, _, _ => none
 | k + 1, x1, x5, x195000, x195001, x195002, x195003 => (relief_Decode.f k x1).bind fun bt206 => ((relief_Encode.f k x195000 x195001 x195002 x195003).bind fun t214 => (if (strOfNums t214).toList = x5.toList then (if (x1.length : Int) < 3 then ((bivouacref06_Same.f bt206.1 bt206.2.1 bt206.2.2.1 bt206.2.2.2.1 0 0 0 ([] : List Int)).bind fun t217 => (if t217 = true then (if bt206.2.2.2.2 = 2 then ((bivouaclaw06_awake.f k).bind fun t218 => (some t218)) else (none)) else (none))) else ((bivouacref06_Of.f x1).bind fun bt219 => ((bivouacref06_Check.f k bt219.1 bt219.2.1 bt219.2.2.1 bt219.2.2.2).bind fun t225 => (if t225 = 0 then ((bivouacref06_Of.f x1).bind fun bt228 => ((bivouacref06_Same.f bt206.1 bt206.2.1 bt206.2.2.1 bt206.2.2.2.1 bt228.1 bt228.2.1 bt228.2.2.1 bt228.2.2.2).bind fun t234 => (if t234 = true then (if bt206.2.2.2.2 = 0 then ((bivouaclaw06_awake.f k).bind fun t235 => (some t235)) else (none)) else (none)))) else ((bivouacref06_Same.f bt206.1 bt206.2.1 bt206.2.2.1 bt206.2.2.2.1 0 0 0 ([] : List Int)).bind fun t226 => (if t226 = true then (if bt206.2.2.2.2 = t225 then ((bivouaclaw06_awake.f k).bind fun t227 => (some t227)) else (none)) else (none))))))) else (none)))
def bivouaclaw06_ReliefBytes.j1 : Nat → List Int → ByteArray → Int → Int → Int → List Int → Option (Bool)
 | 0, _, _, _, _, _, _ => none
 | k + 1, x1, x5, x195000, x195001, x195002, x195003 => (relief_Decode.f k x1).bind fun bt240 => ((relief_Encode.f k x195000 x195001 x195002 x195003).bind fun t248 => (if (strOfNums t248).toList = x5.toList then (if (x1.length : Int) < 3 then ((bivouacref06_Same.f bt240.1 bt240.2.1 bt240.2.2.1 bt240.2.2.2.1 0 0 0 ([] : List Int)).bind fun t251 => (if t251 = true then (if bt240.2.2.2.2 = 2 then ((bivouaclaw06_awake.f k).bind fun t252 => (some t252)) else (none)) else (none))) else ((bivouacref06_Of.f x1).bind fun bt253 => ((bivouacref06_Check.f k bt253.1 bt253.2.1 bt253.2.2.1 bt253.2.2.2).bind fun t259 => (if t259 = 0 then ((bivouacref06_Of.f x1).bind fun bt262 => ((bivouacref06_Same.f bt240.1 bt240.2.1 bt240.2.2.1 bt240.2.2.2.1 bt262.1 bt262.2.1 bt262.2.2.1 bt262.2.2.2).bind fun t268 => (if t268 = true then (if bt240.2.2.2.2 = 0 then ((bivouaclaw06_awake.f k).bind fun t269 => (some t269)) else (none)) else (none)))) else ((bivouacref06_Same.f bt240.1 bt240.2.1 bt240.2.2.1 bt240.2.2.2.1 0 0 0 ([] : List Int)).bind fun t260 => (if t260 = true then (if bt240.2.2.2.2 = t259 then ((bivouaclaw06_awake.f k).bind fun t261 => (some t261)) else (none)) else (none))))))) else (none)))
end
def bivouaclaw06_ReliefBytes.f (k : Nat) (a0_0 : Int) (a0_1 : Int) (a0_2 : Int) (l0_3 : List Int) (l1 : List Int) : Option (Bool) := (bivouaclaw06_few.f a0_0 a0_1 a0_2 l0_3).bind fun bt195 => (if (l1.length : Int) > 4300 then (if 4300 ≤ (l1.length : Int) then ((bivouacref06_Check.f k bt195.1 bt195.2.1 bt195.2.2.1 bt195.2.2.2).bind fun t202 => (if t202 = 0 then ((some (([(bt195.1) % 256, (bt195.2.1) % 256, (bt195.2.2.1) % 256] : List Int) : List Int)).bind fun y203 => (if (strOfNums y203).size + (strOfNums bt195.2.2.2).size ≤ 9223372036854775807 then (bivouaclaw06_ReliefBytes.j0 k (l1.take 4300) ((strOfNums y203) ++ (strOfNums bt195.2.2.2)) bt195.1 bt195.2.1 bt195.2.2.1 bt195.2.2.2) else (none))) else (bivouaclaw06_ReliefBytes.j0 k (l1.take 4300) (⟨#[]⟩ : ByteArray) bt195.1 bt195.2.1 bt195.2.2.1 bt195.2.2.2))) else (none)) else ((bivouacref06_Check.f k bt195.1 bt195.2.1 bt195.2.2.1 bt195.2.2.2).bind fun t236 => (if t236 = 0 then ((some (([(bt195.1) % 256, (bt195.2.1) % 256, (bt195.2.2.1) % 256] : List Int) : List Int)).bind fun y237 => (if (strOfNums y237).size + (strOfNums bt195.2.2.2).size ≤ 9223372036854775807 then (bivouaclaw06_ReliefBytes.j1 k l1 ((strOfNums y237) ++ (strOfNums bt195.2.2.2)) bt195.1 bt195.2.1 bt195.2.2.1 bt195.2.2.2) else (none))) else (bivouaclaw06_ReliefBytes.j1 k l1 (⟨#[]⟩ : ByteArray) bt195.1 bt195.2.1 bt195.2.2.1 bt195.2.2.2))))
theorem bivouaclaw06_ReliefBytes.mono_l : ∀ k, (∀ y0 y1 y2 y3 y4 y5, LeO (bivouaclaw06_ReliefBytes.j0 k y0 y1 y2 y3 y4 y5) (bivouaclaw06_ReliefBytes.j0 (k + 1) y0 y1 y2 y3 y4 y5)) ∧ (∀ y0 y1 y2 y3 y4 y5, LeO (bivouaclaw06_ReliefBytes.j1 k y0 y1 y2 y3 y4 y5) (bivouaclaw06_ReliefBytes.j1 (k + 1) y0 y1 y2 y3 y4 y5))
 | 0 => ⟨fun _ _ _ _ _ _ r h => by simp [bivouaclaw06_ReliefBytes.j0] at h, fun _ _ _ _ _ _ r h => by simp [bivouaclaw06_ReliefBytes.j1] at h⟩
 | k + 1 => by
  obtain ⟨ih0, ih1⟩ := bivouaclaw06_ReliefBytes.mono_l k
  refine ⟨?_, ?_⟩
  ·
   intro y0 y1 y2 y3 y4 y5
   unfold bivouaclaw06_ReliefBytes.j0
   repeat' first
   | (with_reducible exact ih0 _ _ _ _ _ _)
   | (with_reducible exact ih1 _ _ _ _ _ _)
   | (with_reducible exact bivouaclaw06_awake.mono _)
   | (with_reducible exact bivouacref06_Check.mono _ _ _ _ _)
   | (with_reducible exact relief_Decode.mono _ _)
   | (with_reducible exact relief_Encode.mono _ _ _ _ _)
   | (with_reducible exact LeO.refl _)
   | (with_reducible exact LeO.none _)
   | (with_reducible refine LeO.ite ?_ ?_)
   | (with_reducible refine LeO.bind ?_ (fun _ => ?_))
   | exact ih0 _ _ _ _ _ _
   | exact ih1 _ _ _ _ _ _
   | exact bivouaclaw06_awake.mono _
   | exact bivouacref06_Check.mono _ _ _ _ _
   | exact relief_Decode.mono _ _
   | exact relief_Encode.mono _ _ _ _ _
   | exact LeO.none _
   | refine LeO.ite ?_ ?_
   | refine LeO.bind ?_ (fun _ => ?_)
  ·
   intro y0 y1 y2 y3 y4 y5
   unfold bivouaclaw06_ReliefBytes.j1
   repeat' first
   | (with_reducible exact ih0 _ _ _ _ _ _)
   | (with_reducible exact ih1 _ _ _ _ _ _)
   | (with_reducible exact bivouaclaw06_awake.mono _)
   | (with_reducible exact bivouacref06_Check.mono _ _ _ _ _)
   | (with_reducible exact relief_Decode.mono _ _)
   | (with_reducible exact relief_Encode.mono _ _ _ _ _)
   | (with_reducible exact LeO.refl _)
   | (with_reducible exact LeO.none _)
   | (with_reducible refine LeO.ite ?_ ?_)
   | (with_reducible refine LeO.bind ?_ (fun _ => ?_))
   | exact ih0 _ _ _ _ _ _
   | exact ih1 _ _ _ _ _ _
   | exact bivouaclaw06_awake.mono _
   | exact bivouacref06_Check.mono _ _ _ _ _
   | exact relief_Decode.mono _ _
   | exact relief_Encode.mono _ _ _ _ _
   | exact LeO.none _
   | refine LeO.ite ?_ ?_
   | refine LeO.bind ?_ (fun _ => ?_)
theorem bivouaclaw06_ReliefBytes.mono : ∀ a0 a1 a2 a3 a4 k, LeO (bivouaclaw06_ReliefBytes.f k a0 a1 a2 a3 a4) (bivouaclaw06_ReliefBytes.f (k + 1) a0 a1 a2 a3 a4) := by
 intro a0 a1 a2 a3 a4 k
 obtain ⟨ih0, ih1⟩ := bivouaclaw06_ReliefBytes.mono_l k
 unfold bivouaclaw06_ReliefBytes.f
 repeat' first
   | (with_reducible exact ih0 _ _ _ _ _ _)
   | (with_reducible exact ih1 _ _ _ _ _ _)
   | (with_reducible exact bivouaclaw06_awake.mono _)
   | (with_reducible exact bivouacref06_Check.mono _ _ _ _ _)
   | (with_reducible exact relief_Decode.mono _ _)
   | (with_reducible exact relief_Encode.mono _ _ _ _ _)
   | (with_reducible exact LeO.refl _)
   | (with_reducible exact LeO.none _)
   | (with_reducible refine LeO.ite ?_ ?_)
   | (with_reducible refine LeO.bind ?_ (fun _ => ?_))
   | exact ih0 _ _ _ _ _ _
   | exact ih1 _ _ _ _ _ _
   | exact bivouaclaw06_awake.mono _
   | exact bivouacref06_Check.mono _ _ _ _ _
   | exact relief_Decode.mono _ _
   | exact relief_Encode.mono _ _ _ _ _
   | exact LeO.none _
   | refine LeO.ite ?_ ?_
   | refine LeO.bind ?_ (fun _ => ?_)
def bivouaclaw06_ReliefBytes.T15 : Bool × List (List Nat × List Nat) := (true, [([], []), ([], []), ([1], [1]), ([0, 2, 2], [0, 2]), ([3, 3], [3]), ([4], [4]), ([5, 4], [4, 5]), ([4, 6], [4, 6]), ([7, 4], [7]), ([8, 8], [8]), ([8, 9], [8, 9]), ([10, 9, 0, 1, 2, 3, 4, 5, 6, 7, 8, 9, 10], [10])])
def bivouaclaw06_ReliefBytes.B15 : List Nat := [0, 0, 2, 7, 15, 31, 63, 127, 255, 511, 1023, 2047]
theorem bivouaclaw06_ReliefBytes.tab15 : rtab .any (opsOf Try.f7 15) = bivouaclaw06_ReliefBytes.T15 := by kernel_rfl
theorem bivouaclaw06_ReliefBytes.bits15 : waitsOk bivouaclaw06_ReliefBytes.T15.2 bivouaclaw06_ReliefBytes.B15 = true := by kernel_rfl
set_option maxHeartbeats 8000000 in
set_option maxRecDepth 100000 in
theorem bivouaclaw06_ReliefBytes.calls (k : Nat) (a0_0 : Int) (a0_1 : Int) (a0_2 : Int) (A0_3 : Option Addr) (c0_3 : Nat) (l0_3 : List Int) (A1 : Option Addr) (c1 : Nat) (l1 : List Int) (r : Bool) (w : World) (hr0_3 : Kd.C (Kd.int .u8) w A0_3 l0_3.length l0_3) (hc0_3 : l0_3.length ≤ c0_3) (hr1 : Kd.C (Kd.int .u8) w A1 l1.length l1) (hc1 : l1.length ≤ c1) (h : bivouaclaw06_ReliefBytes.f k a0_0 a0_1 a0_2 l0_3 l1 = some r) :
  Calls Try.prog 7 #[.agg #[.int .i64 a0_0, .int .i64 a0_1, .int .i64 a0_2, .slice A0_3 l0_3.length c0_3], .slice A1 l1.length c1] w fun e w' => e = .returned (.bool r) ∧ Below w.heap.size w w' := by
 have hu24 := Try.underlying24
 have HR0_3 := Aside0.mk hr0_3
 have HC0_3 := Aside0.mk hc0_3
 clear hr0_3 hc0_3
 have HR1 := Aside0.mk hr1
 have HC1 := Aside0.mk hc1
 clear hr1 hc1
 have HB := Aside0.mk (Below.refl w.heap.size w)
 have H : ((bivouaclaw06_few.f a0_0 a0_1 a0_2 l0_3).bind fun bt195 => (if (l1.length : Int) > 4300 then (if 4300 ≤ (l1.length : Int) then ((bivouacref06_Check.f k bt195.1 bt195.2.1 bt195.2.2.1 bt195.2.2.2).bind fun t202 => (if t202 = 0 then ((some (([(bt195.1) % 256, (bt195.2.1) % 256, (bt195.2.2.1) % 256] : List Int) : List Int)).bind fun y203 => (if (strOfNums y203).size + (strOfNums bt195.2.2.2).size ≤ 9223372036854775807 then (bivouaclaw06_ReliefBytes.j0 k (l1.take 4300) ((strOfNums y203) ++ (strOfNums bt195.2.2.2)) bt195.1 bt195.2.1 bt195.2.2.1 bt195.2.2.2) else (none))) else (bivouaclaw06_ReliefBytes.j0 k (l1.take 4300) (⟨#[]⟩ : ByteArray) bt195.1 bt195.2.1 bt195.2.2.1 bt195.2.2.2))) else (none)) else ((bivouacref06_Check.f k bt195.1 bt195.2.1 bt195.2.2.1 bt195.2.2.2).bind fun t236 => (if t236 = 0 then ((some (([(bt195.1) % 256, (bt195.2.1) % 256, (bt195.2.2.1) % 256] : List Int) : List Int)).bind fun y237 => (if (strOfNums y237).size + (strOfNums bt195.2.2.2).size ≤ 9223372036854775807 then (bivouaclaw06_ReliefBytes.j1 k l1 ((strOfNums y237) ++ (strOfNums bt195.2.2.2)) bt195.1 bt195.2.1 bt195.2.2.1 bt195.2.2.2) else (none))) else (bivouaclaw06_ReliefBytes.j1 k l1 (⟨#[]⟩ : ByteArray) bt195.1 bt195.2.1 bt195.2.2.1 bt195.2.2.2))))) = some r := h
 clear h
 replace H := Option.bind_eq_some_iff.mp H
 obtain ⟨⟨t195, t196, t197, t198⟩, A30, H⟩ := H
 replace H : (if (l1.length : Int) > 4300 then (if 4300 ≤ (l1.length : Int) then ((bivouacref06_Check.f k t195 t196 t197 t198).bind fun t202 => (if t202 = 0 then ((some (([(t195) % 256, (t196) % 256, (t197) % 256] : List Int) : List Int)).bind fun y203 => (if (strOfNums y203).size + (strOfNums t198).size ≤ 9223372036854775807 then (bivouaclaw06_ReliefBytes.j0 k (l1.take 4300) ((strOfNums y203) ++ (strOfNums t198)) t195 t196 t197 t198) else (none))) else (bivouaclaw06_ReliefBytes.j0 k (l1.take 4300) (⟨#[]⟩ : ByteArray) t195 t196 t197 t198))) else (none)) else ((bivouacref06_Check.f k t195 t196 t197 t198).bind fun t236 => (if t236 = 0 then ((some (([(t195) % 256, (t196) % 256, (t197) % 256] : List Int) : List Int)).bind fun y237 => (if (strOfNums y237).size + (strOfNums t198).size ≤ 9223372036854775807 then (bivouaclaw06_ReliefBytes.j1 k l1 ((strOfNums y237) ++ (strOfNums t198)) t195 t196 t197 t198) else (none))) else (bivouaclaw06_ReliefBytes.j1 k l1 (⟨#[]⟩ : ByteArray) t195 t196 t197 t198)))) = some r := H
 have A3 := Aside0.mk A30
 clear A30
 by_cases c4 : (l1.length : Int) > 4300
 ·
  rw [if_pos c4] at H
  have c4b0 : decide (4300 < (l1.length : Int)) = true := decide_eq_true c4
  have c4b1 : decide (4300 < l1.length) = true := decide_eq_true (by omega)
  clear c4
  by_cases c5 : 4300 ≤ (l1.length : Int)
  ·
   rw [if_pos c5] at H
   have c5b0 := eq_true c5
   have c5b1 : decide (4300 ≤ (l1.length : Int)) = true := decide_eq_true c5
   clear c5
   replace H := Option.bind_eq_some_iff.mp H
   obtain ⟨t202, A60, H⟩ := H
   replace H : (if t202 = 0 then ((some (([(t195) % 256, (t196) % 256, (t197) % 256] : List Int) : List Int)).bind fun y203 => (if (strOfNums y203).size + (strOfNums t198).size ≤ 9223372036854775807 then (bivouaclaw06_ReliefBytes.j0 k (l1.take 4300) ((strOfNums y203) ++ (strOfNums t198)) t195 t196 t197 t198) else (none))) else (bivouaclaw06_ReliefBytes.j0 k (l1.take 4300) (⟨#[]⟩ : ByteArray) t195 t196 t197 t198)) = some r := H
   have A6 := Aside0.mk A60
   clear A60
   have HC7 := Aside0.mk H
   clear H
   go_enter Try.func7, Try.ntmps7
   go_upto_if 18 with (first | ((with_reducible refine gate_dst (N := 2) rfl ?_); refine box_event ?hg (N := 2) ?hd (cs := #[.int .i64 a0_0, .int .i64 a0_1, .int .i64 a0_2, .slice A0_3 l0_3.length c0_3]) (t := 24) ?hr ?_; (case hd => rfl); (case hg => rfl); (case hr => first | (go_simp; done) | (go_simp; rfl)); intro gb194 hg w8 hbox hb; have n0_ := Aside0.mk (below_step (by repeat (first | (with_reducible first | exact HB.out | apply below_alloc | apply pw_below_drewN | apply below_drew1) | exact HB.out)) hb); have n1_ := Aside0.mk (hbox); have n2_ := Aside0.mk ((by rw [hg]; exact (below_size (by repeat (first | (with_reducible first | exact HB.out | apply below_alloc | apply pw_below_drewN | apply below_drew1) | exact HB.out))) : w.heap.size ≤ gb194)); have n3_ := Aside0.mk ((by rw [hg]; exact (below_size (by repeat (first | (with_reducible first | exact HB.out | apply below_alloc | apply pw_below_drewN | apply below_drew1) | exact HB.out))) : w.heap.size ≤ gb194)); clear HB; have HB := n0_; have BK194 := n1_; have GW194 := n2_; have GE194 := n3_; clear n0_ n1_ n2_ n3_; clear hb hbox hg; have hcz9_0 : w8.cell? ⟨gb194, 0, none⟩ = some (.int .i64 a0_0) := (blk_cell BK194.out 0).trans rfl; have hcz9_1 : w8.cell? ⟨gb194, 1, none⟩ = some (.int .i64 a0_1) := (blk_cell BK194.out 1).trans rfl; have hcz9_2 : w8.cell? ⟨gb194, 2, none⟩ = some (.int .i64 a0_2) := (blk_cell BK194.out 2).trans rfl; have hcz9_3 : w8.cell? ⟨gb194, 3, none⟩ = some (.slice A0_3 l0_3.length c0_3) := (blk_cell BK194.out 3).trans rfl; have hfz9_0 := blk_frozen BK194.out 0; have hfz9_1 := blk_frozen BK194.out 1; have hfz9_2 := blk_frozen BK194.out 2; have hfz9_3 := blk_frozen BK194.out 3) | ((with_reducible refine gate_callee (f := 9) rfl ?_); refine goesL_ (some 10) rfl rfl Try.func9 (by kernel_rfl) rfl #[.agg #[.int .i64 a0_0, .int .i64 a0_1, .int .i64 a0_2, .slice A0_3 l0_3.length c0_3]] rfl (by (try simp only [List.map_toArray, List.map_cons, List.map_nil]); first | done | rfl | (simp only [List.length_drop, List.length_take]; rfl)) ?_; (with_reducible refine (bivouaclaw06_few.calls a0_0 a0_1 a0_2 (fun k_ => k_ < w.heap.size) _ _ l0_3 t195 t196 t197 t198 _ ?side1 A3.out).mono ?_); (case side1 => exact Kd.V_mk HC0_3.out (Kd.F_below (Kd.C_F (Kd.heap_int .u8) HR0_3.out) (by repeat (first | (with_reducible first | exact HB.out | apply below_alloc | apply pw_below_drewN | apply below_drew1 | refine below_set ?_ GE194.out) | exact HB.out)))); rintro e w10 ⟨v199, rfl, ho0, hb⟩; refine ⟨_, rfl, ?_⟩; have n0_ := Aside0.mk (Kd.V_lower (Kd.V_mono (ok' := fun k_ => k_ ≠ gb194) ho0 (fun k_ hk_ => Or.elim hk_ (fun hs_ => fun e_ => Nat.not_le.2 hs_ (by rw [e_]; exact GW194.out)) (fun hn_ => (Kd.freshB (g := gb194) (o := .cells #[.int .i64 a0_0, .int .i64 a0_1, .int .i64 a0_2, .slice A0_3 l0_3.length c0_3] 24 (0, 0)) (by (with_reducible repeat (first | refine blk_drewN ?_ _ | refine blk_drew ?_ | refine blk_alloc ?_ _)); exact BK194.out) k_ hn_)))) (below_size (by repeat (first | (with_reducible first | exact HB.out | apply below_alloc | apply pw_below_drewN | apply below_drew1 | refine below_set ?_ GE194.out) | exact HB.out)))); have n1_ := Aside0.mk (blk_below (g := gb194) (o := .cells #[.int .i64 a0_0, .int .i64 a0_1, .int .i64 a0_2, .slice A0_3 l0_3.length c0_3] 24 (0, 0)) (by (with_reducible repeat (first | refine blk_drewN ?_ _ | refine blk_drew ?_ | refine blk_alloc ?_ _)); exact BK194.out) hb); have n2_ := Aside0.mk (below_step (by repeat (first | (with_reducible first | exact HB.out | apply below_alloc | apply pw_below_drewN | apply below_drew1 | refine below_set ?_ GE194.out) | exact HB.out)) hb); clear BK194; clear HB; have HO200 := n0_; have BK194 := n1_; have HB := n2_; clear n0_ n1_ n2_; (try clear hb); (try clear hb2); (try clear hk); (try clear hi); (try clear ho0); have hcz11_0 : w10.cell? ⟨gb194, 0, none⟩ = some (.int .i64 a0_0) := (blk_cell BK194.out 0).trans rfl; have hcz11_1 : w10.cell? ⟨gb194, 1, none⟩ = some (.int .i64 a0_1) := (blk_cell BK194.out 1).trans rfl; have hcz11_2 : w10.cell? ⟨gb194, 2, none⟩ = some (.int .i64 a0_2) := (blk_cell BK194.out 2).trans rfl; have hcz11_3 : w10.cell? ⟨gb194, 3, none⟩ = some (.slice A0_3 l0_3.length c0_3) := (blk_cell BK194.out 3).trans rfl; have hfz11_0 := blk_frozen BK194.out 0; have hfz11_1 := blk_frozen BK194.out 1; have hfz11_2 := blk_frozen BK194.out 2; have hfz11_3 := blk_frozen BK194.out 3; obtain ⟨Ao12, co12, eo12⟩ := Kd.V_slice HO200.out; subst eo12; obtain ⟨i013, hi013, _, hsz13, _⟩ := info_parts info5; obtain ⟨hcut13, hA13, hC13⟩ := print_take_of (P := Try.prog) (Value.int .u8) 0 22 5 .i64 Try.underlying22 hi013 hsz13 A1 c1 l1 4300 (by omega) (of_decide_eq_true (by first | (with_reducible assumption) | assumption)) HC1.out; have HR201 := Aside0.mk (Kd.C_of_reads (h1 := fun _ => rfl) (hA13 _ (Kd.reads_of_C HR1.out))); have HC201 := Aside0.mk hC13; clear hA13 hC13 hi013 hsz13) | ((with_reducible refine gate_callee (f := 10) rfl ?_); refine goesL_ (some 17) rfl rfl Try.func10 (by kernel_rfl) rfl #[.agg #[.int .i64 t195, .int .i64 t196, .int .i64 t197, .slice Ao12 t198.length co12]] rfl (by (try simp only [List.map_toArray, List.map_cons, List.map_nil]); first | done | rfl | (simp only [List.length_drop, List.length_take]; rfl)) ?_; (with_reducible refine (bivouacref06_Check.calls k t195 t196 t197 _ _ t198 t202 _ ?side1 ?side2 A6.out).mono ?_); (case side1 => refine (Kd.V_reads' (e := 5) (base := w.heap.size) (ok := fun k_ => k_ ≠ gb194) (n := t198.length) (c := co12) ?_).2.2; exact (by (with_reducible repeat (first | apply Kd.V_alloc | apply Kd.V_drewN | apply Kd.V_drew)); exact (Kd.V_mono (Kd.V_far (p := ⟨gb194, 3, none⟩) (Kd.V_far (p := ⟨gb194, 2, none⟩) (Kd.V_far (p := ⟨gb194, 1, none⟩) (Kd.V_far (p := ⟨gb194, 0, none⟩) (Kd.V_mono HO200.out (fun k_ hk => (⟨hk, hk⟩ : _ ∧ k_ ≠ gb194))) (fun _ hk => hk.2) (.int .i64 t195)) (fun _ hk => hk.2) (.int .i64 t196)) (fun _ hk => hk.2) (.int .i64 t197)) (fun _ hk => hk.2) (.slice Ao12 t198.length co12)) (fun _ h_ => h_.1)))); (case side2 => exact (Kd.V_reads' HO200.out).2.1); rintro e w14 ⟨rfl, hb⟩; refine ⟨_, rfl, ?_⟩; have n0_ := Aside0.mk (Kd.V_below (by (with_reducible repeat (first | apply Kd.V_alloc | apply Kd.V_drewN | apply Kd.V_drew)); exact (Kd.V_mono (Kd.V_far (p := ⟨gb194, 3, none⟩) (Kd.V_far (p := ⟨gb194, 2, none⟩) (Kd.V_far (p := ⟨gb194, 1, none⟩) (Kd.V_far (p := ⟨gb194, 0, none⟩) (Kd.V_mono HO200.out (fun k_ hk => (⟨hk, hk⟩ : _ ∧ k_ ≠ gb194))) (fun _ hk => hk.2) (.int .i64 t195)) (fun _ hk => hk.2) (.int .i64 t196)) (fun _ hk => hk.2) (.int .i64 t197)) (fun _ hk => hk.2) (.slice Ao12 t198.length co12)) (fun _ h_ => h_.1))) hb); have n1_ := Aside0.mk (blk_below (g := gb194) (o := .cells #[.int .i64 t195, .int .i64 t196, .int .i64 t197, .slice Ao12 t198.length co12] 24 (0, 0)) (by (with_reducible repeat (first | refine blk_drewN ?_ _ | refine blk_drew ?_ | refine blk_alloc ?_ _)); refine blk_put (cs := #[.int .i64 t195, .int .i64 t196, .int .i64 t197, .slice A0_3 l0_3.length c0_3]) ?_ 3 _ rfl; (with_reducible repeat (first | refine blk_drewN ?_ _ | refine blk_drew ?_ | refine blk_alloc ?_ _)); refine blk_put (cs := #[.int .i64 t195, .int .i64 t196, .int .i64 a0_2, .slice A0_3 l0_3.length c0_3]) ?_ 2 _ rfl; (with_reducible repeat (first | refine blk_drewN ?_ _ | refine blk_drew ?_ | refine blk_alloc ?_ _)); refine blk_put (cs := #[.int .i64 t195, .int .i64 a0_1, .int .i64 a0_2, .slice A0_3 l0_3.length c0_3]) ?_ 1 _ rfl; (with_reducible repeat (first | refine blk_drewN ?_ _ | refine blk_drew ?_ | refine blk_alloc ?_ _)); refine blk_put (cs := #[.int .i64 a0_0, .int .i64 a0_1, .int .i64 a0_2, .slice A0_3 l0_3.length c0_3]) ?_ 0 _ rfl; (with_reducible repeat (first | refine blk_drewN ?_ _ | refine blk_drew ?_ | refine blk_alloc ?_ _)); exact BK194.out) hb); have n2_ := Aside0.mk (below_step (by repeat (first | (with_reducible first | exact HB.out | apply below_alloc | apply pw_below_drewN | apply below_drew1 | refine below_set ?_ GE194.out) | exact HB.out)) hb); clear HO200; clear BK194; clear HB; have HO200 := n0_; have BK194 := n1_; have HB := n2_; clear n0_ n1_ n2_; (try clear hb); (try clear hb2); (try clear hk); (try clear hi)))
   (try simp only [Act.put, List.setIfInBounds_toArray, List.set_cons_zero, List.set_cons_succ])
   go_cut [5] (fun v5 wc => ∃ (kq : Nat) (x5_6 : ByteArray), v5 = .string x5_6 ∧ Aside0 (bivouaclaw06_ReliefBytes.j0 kq (l1.take 4300) x5_6 t195 t196 t197 t198 = some r) ∧ Aside0 (kq ≤ k) ∧ Aside0 (Kd.V (Kd.int .u8) 5 wc w.heap.size (fun k_ => k_ ≠ gb194) (.slice Ao12 t198.length co12) t198) ∧ Aside0 (wc.heap[gb194]? = some (.cells #[.int .i64 t195, .int .i64 t196, .int .i64 t197, (.slice Ao12 t198.length co12)] 24 (0, 0))) ∧ Aside0 (Below w.heap.size w wc))
   case first =>
    have H := HC7.out
    clear HC7
    by_cases c15 : t202 = 0
    ·
     rw [if_pos c15] at H
     have c15b0 : (t202 == 0) = true := beq_iff_eq.mpr c15
     have c15b1 : (t202 != 0) = false := bne_eq_false_iff_eq.mpr c15
     clear c15
     (first | rw [c15b0] | (simp only [i64_w, i32_w]; rw [c15b0]) | skip)
     obtain ⟨y203, hy203⟩ : ∃ y_ : List Int, y_ = (([(t195) % 256, (t196) % 256, (t197) % 256] : List Int)) := ⟨_, rfl⟩
     replace H : (if (strOfNums y203).size + (strOfNums t198).size ≤ 9223372036854775807 then (bivouaclaw06_ReliefBytes.j0 k (l1.take 4300) ((strOfNums y203) ++ (strOfNums t198)) t195 t196 t197 t198) else (none)) = some r := by first | (rw [hy203]; with_reducible exact H) | (have H2_ := (Option.bind_some _ _).symm.trans H; rw [hy203]; with_reducible exact H2_) | (have H2_ := (Option.bind_some _ _).symm.trans H; with_reducible exact H2_) | with_reducible exact H | (rw [hy203]; exact H) | exact H
     have Ny203 := Aside0.mk hy203
     clear hy203
     by_cases c16 : (strOfNums y203).size + (strOfNums t198).size ≤ 9223372036854775807
     ·
      rw [if_pos c16] at H
      have c16b0 := eq_true c16
      have c16b1 : decide ((strOfNums y203).size + (strOfNums t198).size ≤ 9223372036854775807) = true := decide_eq_true c16
      try have c16b2 : (9223372036854775807 < (strOfNums y203).size + (strOfNums t198).size) = False := eq_false (Nat.not_lt.2 c16)
      have H' := Aside0.mk H
      clear H
      have hcz17_0 : w14.cell? ⟨gb194, 0, none⟩ = some (.int .i64 t195) := (blk_cell BK194.out 0).trans rfl
      have hcz17_1 : w14.cell? ⟨gb194, 1, none⟩ = some (.int .i64 t196) := (blk_cell BK194.out 1).trans rfl
      have hcz17_2 : w14.cell? ⟨gb194, 2, none⟩ = some (.int .i64 t197) := (blk_cell BK194.out 2).trans rfl
      have hcz17_3 : w14.cell? ⟨gb194, 3, none⟩ = some (.slice Ao12 t198.length co12) := (blk_cell BK194.out 3).trans rfl
      have hfz17_0 := blk_frozen BK194.out 0
      have hfz17_1 := blk_frozen BK194.out 1
      have hfz17_2 := blk_frozen BK194.out 2
      have hfz17_3 := blk_frozen BK194.out 3
      go_wp2_with (first | ((with_reducible refine gate_dst (N := 28) rfl ?_); refine Kd.R_lit (Kd.int .u8) _ 5 ?hg (N := 28) ?hd (xs := ([(t195) % 256, (t196) % 256, (t197) % 256] : List Int)) (inner := [.int .u8 ((t195) % 256), .int .u8 ((t196) % 256), .int .u8 ((t197) % 256)]) (ok := fun _ => True) (okp := fun _ => True) ?hr ?hp (fun _ hk => hk) trivial (Below.refl _ _) (Nat.le_refl _) (by simp) ?_; (case hd => rfl); (case hg => rfl); (case hr => first | (go_simp; done) | (go_simp; rfl)); (case hp => exact (Reps.one (show Kd.M (Kd.int .u8) _ _ _ ((t195) % 256) [.int .u8 ((t195) % 256)] from rfl) (Reps.one (show Kd.M (Kd.int .u8) _ _ _ ((t196) % 256) [.int .u8 ((t196) % 256)] from rfl) (Reps.one (show Kd.M (Kd.int .u8) _ _ _ ((t197) % 256) [.int .u8 ((t197) % 256)] from rfl) (Reps.none _ _))))); intro v204 w18 ho19 hb hg_ hnew_; clear hg_ hnew_; (first | rw [← Ny203.out] at ho19 | (simp only [Int.reduceToNat] at ho19; rw [← Ny203.out] at ho19)); have n0_ := Aside0.mk (Kd.V_elder' (by (with_reducible repeat (first | apply Kd.V_alloc | apply Kd.V_drewN | apply Kd.V_drew)); exact HO200.out) (Kd.R_base ho19) hb); have n1_ := Aside0.mk (Kd.R_lower ho19 (below_size (by repeat (first | (with_reducible first | exact HB.out | apply below_alloc | apply pw_below_drewN | apply below_drew1 | refine below_set ?_ GE194.out) | exact HB.out)))); have n2_ := Aside0.mk (blk_below (g := gb194) (o := .cells #[.int .i64 t195, .int .i64 t196, .int .i64 t197, .slice Ao12 t198.length co12] 24 (0, 0)) (by (with_reducible repeat (first | refine blk_drewN ?_ _ | refine blk_drew ?_ | refine blk_alloc ?_ _)); exact BK194.out) hb); have n3_ := Aside0.mk (below_step (by repeat (first | (with_reducible first | exact HB.out | apply below_alloc | apply pw_below_drewN | apply below_drew1 | refine below_set ?_ GE194.out) | exact HB.out)) hb); clear HO200; clear BK194; clear HB; have HO200 := n0_; have HO205 := n1_; have BK194 := n2_; have HB := n3_; clear n0_ n1_ n2_ n3_; clear hb ho19; have hcv20 := own_string (P := Try.prog) Try.underlying22 Try.underlying5 Try.underlying9 (Kd.own_of_R HO205.out); have hcz21_0 : w18.cell? ⟨gb194, 0, none⟩ = some (.int .i64 t195) := (blk_cell BK194.out 0).trans rfl; have hcz21_1 : w18.cell? ⟨gb194, 1, none⟩ = some (.int .i64 t196) := (blk_cell BK194.out 1).trans rfl; have hcz21_2 : w18.cell? ⟨gb194, 2, none⟩ = some (.int .i64 t197) := (blk_cell BK194.out 2).trans rfl; have hcz21_3 : w18.cell? ⟨gb194, 3, none⟩ = some (.slice Ao12 t198.length co12) := (blk_cell BK194.out 3).trans rfl; have hfz21_0 := blk_frozen BK194.out 0; have hfz21_1 := blk_frozen BK194.out 1; have hfz21_2 := blk_frozen BK194.out 2; have hfz21_3 := blk_frozen BK194.out 3; have hcv22 := Kd.C_string (P := Try.prog) (c := co12) Try.underlying22 Try.underlying5 Try.underlying9 (Kd.V_reads' HO200.out).2.2))
      go_meet
      case rel => exact ⟨_, ((strOfNums y203) ++ (strOfNums t198)), (by first | rfl | (simp; done) | (simp [*]; done)), H', ⟨by first | omega | exact Nat.le_refl _⟩, ⟨by (with_reducible repeat (first | apply Kd.V_alloc | apply Kd.V_drewN | apply Kd.V_drew)); exact Kd.V_mono HO200.out (fun _ hk => hk.1)⟩, ⟨by (with_reducible repeat (first | refine blk_drewN ?_ _ | refine blk_drew ?_ | refine blk_alloc ?_ _)); exact BK194.out⟩, ⟨by repeat (first | (with_reducible first | exact HB.out | apply below_alloc | apply pw_below_drewN | apply below_drew1 | refine below_set ?_ GE194.out) | exact HB.out)⟩⟩
     ·
      rw [if_neg c16] at H
      exact absurd H (by simp)
    ·
     rw [if_neg c15] at H
     have c15b0 : (t202 == 0) = false := beq_eq_false_iff_ne.mpr c15
     have c15b1 : (t202 != 0) = true := bne_iff_ne.mpr c15
     (first | rw [c15b0] | (simp only [i64_w, i32_w]; rw [c15b0]) | skip)
     have H' := Aside0.mk H
     clear H
     go_wp2
     go_meet
     case rel => exact ⟨_, ((⟨#[]⟩ : ByteArray)), (by first | rfl | (simp; done) | (simp [*]; done)), H', ⟨by first | omega | exact Nat.le_refl _⟩, ⟨by (with_reducible repeat (first | apply Kd.V_alloc | apply Kd.V_drewN | apply Kd.V_drew)); exact HO200.out⟩, ⟨by (with_reducible repeat (first | refine blk_drewN ?_ _ | refine blk_drew ?_ | refine blk_alloc ?_ _)); exact BK194.out⟩, ⟨by repeat (first | (with_reducible first | exact HB.out | apply below_alloc | apply pw_below_drewN | apply below_drew1 | refine below_set ?_ GE194.out) | exact HB.out)⟩⟩
   case rest =>
    clear HC7
    try clear c1
    try clear p2
    try clear hcv2
    try clear c4
    try clear c4b0
    try clear c4b1
    try clear c5
    try clear c5b0
    try clear c5b1
    try clear c7
    try clear c9
    try clear c10
    try clear c15
    try clear c15b0
    try clear c15b1
    try clear c16
    try clear c16b0
    try clear c16b1
    try clear c16b2
    try clear hcv20
    try clear hcv22
    try clear hcz11_0
    try clear hcz11_1
    try clear hcz11_2
    try clear hcz11_3
    try clear hcz17_0
    try clear hcz17_1
    try clear hcz17_2
    try clear hcz17_3
    try clear hcz21_0
    try clear hcz21_1
    try clear hcz21_2
    try clear hcz21_3
    try clear hcz9_0
    try clear hcz9_1
    try clear hcz9_2
    try clear hcz9_3
    try clear hfz11_0
    try clear hfz11_1
    try clear hfz11_2
    try clear hfz11_3
    try clear hfz17_0
    try clear hfz17_1
    try clear hfz17_2
    try clear hfz17_3
    try clear hfz21_0
    try clear hfz21_1
    try clear hfz21_2
    try clear hfz21_3
    try clear hfz9_0
    try clear hfz9_1
    try clear hfz9_2
    try clear hfz9_3
    obtain ⟨lt, hlt⟩ : ∃ lt, lt = l1.take 4300 := ⟨_, rfl⟩
    have HRt : Aside0 ((Kd.int .u8).C w A1 lt.length lt) := by rw [hlt]; exact HR201
    have HCt : Aside0 (lt.length ≤ c1) := by rw [hlt]; exact HC201
    have hmin : min 4300 l1.length = lt.length := by rw [hlt, List.length_take]
    rw [← hlt] at hcut
    rw [hmin]
    clear HR201 HC201 hcut13 hmin hlt
    have HR201 := HRt
    have HC201 := HCt
    clear HRt HCt
    obtain ⟨kq, x5_6, rfl, HA, HJ6, HO_195003, BK194, HB⟩ := hcut
    cases kq with
    | zero => exact absurd HA.out (by simp [bivouaclaw06_ReliefBytes.j0])
    | succ kj6 =>
     have H := HA.out
     clear HA
     simp only [bivouaclaw06_ReliefBytes.j0] at H
     replace H := Option.bind_eq_some_iff.mp H
     obtain ⟨⟨t206, t207, t208, t209, t212⟩, A230, H⟩ := H
     replace H : ((relief_Encode.f kj6 t195 t196 t197 t198).bind fun t214 => (if (strOfNums t214).toList = x5_6.toList then (if (lt.length : Int) < 3 then ((bivouacref06_Same.f t206 t207 t208 t209 0 0 0 ([] : List Int)).bind fun t217 => (if t217 = true then (if t212 = 2 then ((bivouaclaw06_awake.f kj6).bind fun t218 => (some t218)) else (none)) else (none))) else ((bivouacref06_Of.f lt).bind fun bt219 => ((bivouacref06_Check.f kj6 bt219.1 bt219.2.1 bt219.2.2.1 bt219.2.2.2).bind fun t225 => (if t225 = 0 then ((bivouacref06_Of.f lt).bind fun bt228 => ((bivouacref06_Same.f t206 t207 t208 t209 bt228.1 bt228.2.1 bt228.2.2.1 bt228.2.2.2).bind fun t234 => (if t234 = true then (if t212 = 0 then ((bivouaclaw06_awake.f kj6).bind fun t235 => (some t235)) else (none)) else (none)))) else ((bivouacref06_Same.f t206 t207 t208 t209 0 0 0 ([] : List Int)).bind fun t226 => (if t226 = true then (if t212 = t225 then ((bivouaclaw06_awake.f kj6).bind fun t227 => (some t227)) else (none)) else (none))))))) else (none))) = some r := H
     have A23 := Aside0.mk A230
     clear A230
     replace H := Option.bind_eq_some_iff.mp H
     obtain ⟨t214, A240, H⟩ := H
     replace H : (if (strOfNums t214).toList = x5_6.toList then (if (lt.length : Int) < 3 then ((bivouacref06_Same.f t206 t207 t208 t209 0 0 0 ([] : List Int)).bind fun t217 => (if t217 = true then (if t212 = 2 then ((bivouaclaw06_awake.f kj6).bind fun t218 => (some t218)) else (none)) else (none))) else ((bivouacref06_Of.f lt).bind fun bt219 => ((bivouacref06_Check.f kj6 bt219.1 bt219.2.1 bt219.2.2.1 bt219.2.2.2).bind fun t225 => (if t225 = 0 then ((bivouacref06_Of.f lt).bind fun bt228 => ((bivouacref06_Same.f t206 t207 t208 t209 bt228.1 bt228.2.1 bt228.2.2.1 bt228.2.2.2).bind fun t234 => (if t234 = true then (if t212 = 0 then ((bivouaclaw06_awake.f kj6).bind fun t235 => (some t235)) else (none)) else (none)))) else ((bivouacref06_Same.f t206 t207 t208 t209 0 0 0 ([] : List Int)).bind fun t226 => (if t226 = true then (if t212 = t225 then ((bivouaclaw06_awake.f kj6).bind fun t227 => (some t227)) else (none)) else (none))))))) else (none)) = some r := H
     have A24 := Aside0.mk A240
     clear A240
     by_cases c25 : (strOfNums t214).toList = x5_6.toList
     ·
      rw [if_pos c25] at H
      have c25b0 : ((strOfNums t214).toList == x5_6.toList) = true := beq_iff_eq.mpr c25
      have c25b1 : ((strOfNums t214).toList != x5_6.toList) = false := bne_eq_false_iff_eq.mpr c25
      clear c25
      by_cases c26 : (lt.length : Int) < 3
      ·
       rw [if_pos c26] at H
       have c26b0 : decide ((lt.length : Int) < 3) = true := decide_eq_true c26
       have c26b1 : decide (lt.length < 3) = true := decide_eq_true (by omega)
       clear c26
       replace H := Option.bind_eq_some_iff.mp H
       obtain ⟨t217, A270, H⟩ := H
       replace H : (if t217 = true then (if t212 = 2 then ((bivouaclaw06_awake.f kj6).bind fun t218 => (some t218)) else (none)) else (none)) = some r := H
       have A27 := Aside0.mk A270
       clear A270
       by_cases c28 : t217 = true
       ·
        subst c28
        have H1 : (if t212 = 2 then ((bivouaclaw06_awake.f kj6).bind fun t218 => (some t218)) else (none)) = some r := by rw [if_pos rfl] at H; exact H
        clear H
        have H := H1
        clear H1
        by_cases c29 : t212 = 2
        ·
         rw [if_pos c29] at H
         have c29b0 : (t212 == 2) = true := beq_iff_eq.mpr c29
         have c29b1 : (t212 != 2) = false := bne_eq_false_iff_eq.mpr c29
         clear c29
         replace H := Option.bind_eq_some_iff.mp H
         obtain ⟨t218, A300, H⟩ := H
         replace H : (some t218) = some r := H
         have A30 := Aside0.mk A300
         clear A300
         obtain rfl := Option.some.inj H
         go_wp2_with (first | ((with_reducible refine gate_callee (f := 22) rfl ?_); refine goesL_ (some 36) rfl rfl Try.func22 (by kernel_rfl) rfl #[.slice A1 lt.length c1] rfl (by (try simp only [List.map_toArray, List.map_cons, List.map_nil]); first | done | (rw [show lt.length = 4300 from (by rw [List.length_take]; have h_ : (4300 : Int) ≤ (l1.length : Int) := of_decide_eq_true (by first | (with_reducible assumption) | assumption); omega)] <;> rfl) | rfl | (simp only [List.length_drop, List.length_take]; rfl)) ?_; (with_reducible refine (relief_Decode.calls kj6 _ _ lt t206 t207 t208 t209 t212 _ ?side1 ?side2 A23.out).mono ?_); (case side1 => repeat (first | exact (Kd.C_below HR201.out HB.out) | (with_reducible refine Kd.C_alloc ?_ _) | (with_reducible refine Kd.C_drewN ?_ _) | (with_reducible refine Kd.C_drew ?_))); (case side2 => exact HC201.out); rintro e w31 ⟨v210, rfl, ho0, hb⟩; refine ⟨_, rfl, ?_⟩; have n0_ := Aside0.mk (Kd.V_elder' (by (with_reducible repeat (first | apply Kd.V_alloc | apply Kd.V_drewN | apply Kd.V_drew)); exact HO_195003.out) (Kd.R_base ho0) hb); have n1_ := Aside0.mk (Kd.R_lower ho0 (below_size (by repeat (first | (with_reducible first | exact HB.out | apply below_alloc | apply pw_below_drewN | apply below_drew1 | refine below_set ?_ GE194.out) | exact HB.out)))); have n2_ := Aside0.mk (blk_below (g := gb194) (o := .cells #[.int .i64 t195, .int .i64 t196, .int .i64 t197, .slice Ao12 t198.length co12] 24 (0, 0)) (by (with_reducible repeat (first | refine blk_drewN ?_ _ | refine blk_drew ?_ | refine blk_alloc ?_ _)); exact BK194.out) hb); have n3_ := Aside0.mk (below_step (by repeat (first | (with_reducible first | exact HB.out | apply below_alloc | apply pw_below_drewN | apply below_drew1 | refine below_set ?_ GE194.out) | exact HB.out)) hb); clear HO_195003; clear BK194; clear HB; have HO_195003 := n0_; have HO211 := n1_; have BK194 := n2_; have HB := n3_; clear n0_ n1_ n2_ n3_; (try clear hb); (try clear hb2); (try clear hk); (try clear hi); (try clear ho0)) | ((with_reducible refine gate_dst (N := 6) rfl ?_); refine box_event ?hg (N := 6) ?hd (cs := #[.int .i64 0, .int .i64 0, .int .i64 0, .slice none 0 0]) (t := 24) ?hr ?_; (case hd => rfl); (case hg => rfl); (case hr => first | (go_simp; done) | (go_simp; rfl)); intro gb213 hg w32 hbox hb; have n0_ := Aside0.mk (Kd.V_below (Kd.V_elderB (by (with_reducible repeat (first | apply Kd.V_alloc | apply Kd.V_drewN | apply Kd.V_drew)); exact HO_195003.out) gb213 (Nat.le_of_eq hg.symm)) hb); have n1_ := Aside0.mk (Kd.R_below (by (with_reducible repeat (first | apply Kd.R_alloc | apply Kd.R_drewN | apply Kd.R_drew)); exact HO211.out) hb); have n2_ := Aside0.mk (blk_below (g := gb194) (o := .cells #[.int .i64 t195, .int .i64 t196, .int .i64 t197, .slice Ao12 t198.length co12] 24 (0, 0)) (by (with_reducible repeat (first | refine blk_drewN ?_ _ | refine blk_drew ?_ | refine blk_alloc ?_ _)); exact BK194.out) hb); have n3_ := Aside0.mk (below_step (by repeat (first | (with_reducible first | exact HB.out | apply below_alloc | apply pw_below_drewN | apply below_drew1 | refine below_set ?_ GE194.out) | exact HB.out)) hb); have n4_ := Aside0.mk (hbox); have n5_ := Aside0.mk ((by rw [hg]; exact (below_size (by repeat (first | (with_reducible first | exact HB.out | apply below_alloc | apply pw_below_drewN | apply below_drew1 | refine below_set ?_ GE194.out) | exact HB.out))) : w.heap.size ≤ gb213)); have n6_ := Aside0.mk ((by rw [hg]; exact (below_size (by repeat (first | (with_reducible first | exact HB.out | apply below_alloc | apply pw_below_drewN | apply below_drew1 | refine below_set ?_ GE194.out) | exact HB.out))) : w.heap.size ≤ gb213)); have n7_ := Aside0.mk ((by rw [hg]; exact Nat.ne_of_lt (blk_lt (g := gb194) (o := .cells #[.int .i64 t195, .int .i64 t196, .int .i64 t197, .slice Ao12 t198.length co12] 24 (0, 0)) (by (with_reducible repeat (first | refine blk_drewN ?_ _ | refine blk_drew ?_ | refine blk_alloc ?_ _)); exact BK194.out)) : gb194 ≠ gb213)); have n8_ := Aside0.mk ((by rw [hg]; exact Nat.ne_of_gt (blk_lt (g := gb194) (o := .cells #[.int .i64 t195, .int .i64 t196, .int .i64 t197, .slice Ao12 t198.length co12] 24 (0, 0)) (by (with_reducible repeat (first | refine blk_drewN ?_ _ | refine blk_drew ?_ | refine blk_alloc ?_ _)); exact BK194.out)) : gb213 ≠ gb194)); clear HO_195003; clear HO211; clear BK194; clear HB; have HO_195003 := n0_; have HO211 := n1_; have BK194 := n2_; have HB := n3_; have BK213 := n4_; have GW213 := n5_; have GE213 := n6_; have NB194_213 := n7_; have NB213_194 := n8_; clear n0_ n1_ n2_ n3_ n4_ n5_ n6_ n7_ n8_; clear hb hbox hg; have hnb33 := NB213_194.out; have hnc33 := NB194_213.out; have hcz34_0 : w32.cell? ⟨gb213, 0, none⟩ = some (.int .i64 0) := (blk_cell BK213.out 0).trans rfl; have hcz34_1 : w32.cell? ⟨gb213, 1, none⟩ = some (.int .i64 0) := (blk_cell BK213.out 1).trans rfl; have hcz34_2 : w32.cell? ⟨gb213, 2, none⟩ = some (.int .i64 0) := (blk_cell BK213.out 2).trans rfl; have hcz34_3 : w32.cell? ⟨gb213, 3, none⟩ = some (.slice none 0 0) := (blk_cell BK213.out 3).trans rfl; have hfz34_0 := blk_frozen BK213.out 0; have hfz34_1 := blk_frozen BK213.out 1; have hfz34_2 := blk_frozen BK213.out 2; have hfz34_3 := blk_frozen BK213.out 3; obtain ⟨Ao35, co35, eo35⟩ := Kd.R_slice HO211.out; subst eo35; have hcz36_0 : w32.cell? ⟨gb194, 0, none⟩ = some (.int .i64 t195) := (blk_cell BK194.out 0).trans rfl; have hcz36_1 : w32.cell? ⟨gb194, 1, none⟩ = some (.int .i64 t196) := (blk_cell BK194.out 1).trans rfl; have hcz36_2 : w32.cell? ⟨gb194, 2, none⟩ = some (.int .i64 t197) := (blk_cell BK194.out 2).trans rfl; have hcz36_3 : w32.cell? ⟨gb194, 3, none⟩ = some (.slice Ao12 t198.length co12) := (blk_cell BK194.out 3).trans rfl; have hfz36_0 := blk_frozen BK194.out 0; have hfz36_1 := blk_frozen BK194.out 1; have hfz36_2 := blk_frozen BK194.out 2; have hfz36_3 := blk_frozen BK194.out 3) | ((with_reducible refine gate_callee (f := 23) rfl ?_); refine goesL_ (some 40) rfl rfl Try.func23 (by kernel_rfl) rfl #[.agg #[.int .i64 t195, .int .i64 t196, .int .i64 t197, .slice Ao12 t198.length co12]] rfl (by (try simp only [List.map_toArray, List.map_cons, List.map_nil]); first | done | rfl | (simp only [List.length_drop, List.length_take]; rfl)) ?_; (with_reducible refine (relief_Encode.calls kj6 t195 t196 t197 _ _ t198 t214 _ ?side1 ?side2 A24.out).mono ?_); (case side1 => refine (Kd.V_reads' (e := 5) (base := w.heap.size) (ok := fun k_ => ((k_ ≠ gb194 ∧ some k_ ≠ (.slice Ao35 t209.length co35 : Value).ownBlock) ∧ k_ ≠ gb213)) (n := t198.length) (c := co12) ?_).2.2; exact (by (with_reducible repeat (first | apply Kd.V_alloc | apply Kd.V_drewN | apply Kd.V_drew)); exact (Kd.V_mono (Kd.V_far (p := ⟨gb213, 3, none⟩) (Kd.V_far (p := ⟨gb213, 2, none⟩) (Kd.V_far (p := ⟨gb213, 1, none⟩) (Kd.V_far (p := ⟨gb213, 0, none⟩) (Kd.V_mono HO_195003.out (fun k_ hk => (⟨hk, hk.2⟩ : _ ∧ k_ ≠ gb213))) (fun _ hk => hk.2) (.int .i64 t206)) (fun _ hk => hk.2) (.int .i64 t207)) (fun _ hk => hk.2) (.int .i64 t208)) (fun _ hk => hk.2) (.slice Ao35 t209.length co35)) (fun _ h_ => h_.1)))); (case side2 => exact (Kd.V_reads' HO_195003.out).2.1); rintro e w37 ⟨v215, rfl, ho0, hb⟩; refine ⟨_, rfl, ?_⟩; have n0_ := Aside0.mk (Kd.V_elder' (by (with_reducible repeat (first | apply Kd.V_alloc | apply Kd.V_drewN | apply Kd.V_drew)); exact (Kd.V_mono (Kd.V_far (p := ⟨gb213, 3, none⟩) (Kd.V_far (p := ⟨gb213, 2, none⟩) (Kd.V_far (p := ⟨gb213, 1, none⟩) (Kd.V_far (p := ⟨gb213, 0, none⟩) (Kd.V_mono HO_195003.out (fun k_ hk => (⟨hk, hk.2⟩ : _ ∧ k_ ≠ gb213))) (fun _ hk => hk.2) (.int .i64 t206)) (fun _ hk => hk.2) (.int .i64 t207)) (fun _ hk => hk.2) (.int .i64 t208)) (fun _ hk => hk.2) (.slice Ao35 t209.length co35)) (fun _ h_ => h_.1))) (Kd.R_base ho0) hb); have n1_ := Aside0.mk (Kd.R_elder' (by (with_reducible repeat (first | apply Kd.R_alloc | apply Kd.R_drewN | apply Kd.R_drew)); exact (Kd.R_mono (Kd.R_far (p := ⟨gb213, 3, none⟩) (Kd.R_far (p := ⟨gb213, 2, none⟩) (Kd.R_far (p := ⟨gb213, 1, none⟩) (Kd.R_far (p := ⟨gb213, 0, none⟩) (Kd.R_types HO211.out BK213.out (by decide)) (fun _ hk => hk.2) (.int .i64 t206)) (fun _ hk => hk.2) (.int .i64 t207)) (fun _ hk => hk.2) (.int .i64 t208)) (fun _ hk => hk.2) (.slice Ao35 t209.length co35)) (fun _ h_ => h_.1))) (Kd.R_base ho0) hb); have n2_ := Aside0.mk (Kd.R_lower (Kd.R_new' ho0 (Kd.R_lt (by (with_reducible repeat (first | apply Kd.R_alloc | apply Kd.R_drewN | apply Kd.R_drew)); exact (Kd.R_mono (Kd.R_far (p := ⟨gb213, 3, none⟩) (Kd.R_far (p := ⟨gb213, 2, none⟩) (Kd.R_far (p := ⟨gb213, 1, none⟩) (Kd.R_far (p := ⟨gb213, 0, none⟩) (Kd.R_types HO211.out BK213.out (by decide)) (fun _ hk => hk.2) (.int .i64 t206)) (fun _ hk => hk.2) (.int .i64 t207)) (fun _ hk => hk.2) (.int .i64 t208)) (fun _ hk => hk.2) (.slice Ao35 t209.length co35)) (fun _ h_ => h_.1))))) (below_size (by repeat (first | (with_reducible first | exact HB.out | apply below_alloc | apply pw_below_drewN | apply below_drew1 | refine below_set ?_ GE194.out | refine below_set ?_ GE213.out) | exact HB.out)))); have n3_ := Aside0.mk (blk_below (g := gb194) (o := .cells #[.int .i64 t195, .int .i64 t196, .int .i64 t197, .slice Ao12 t198.length co12] 24 (0, 0)) (by (with_reducible repeat (first | refine blk_drewN ?_ _ | refine blk_drew ?_ | refine blk_alloc ?_ _)); refine blk_far ?_ NB194_213.out _; (with_reducible repeat (first | refine blk_drewN ?_ _ | refine blk_drew ?_ | refine blk_alloc ?_ _)); refine blk_far ?_ NB194_213.out _; (with_reducible repeat (first | refine blk_drewN ?_ _ | refine blk_drew ?_ | refine blk_alloc ?_ _)); refine blk_far ?_ NB194_213.out _; (with_reducible repeat (first | refine blk_drewN ?_ _ | refine blk_drew ?_ | refine blk_alloc ?_ _)); refine blk_far ?_ NB194_213.out _; (with_reducible repeat (first | refine blk_drewN ?_ _ | refine blk_drew ?_ | refine blk_alloc ?_ _)); exact BK194.out) hb); have n4_ := Aside0.mk (blk_below (g := gb213) (o := .cells #[.int .i64 t206, .int .i64 t207, .int .i64 t208, .slice Ao35 t209.length co35] 24 (0, 0)) (by (with_reducible repeat (first | refine blk_drewN ?_ _ | refine blk_drew ?_ | refine blk_alloc ?_ _)); refine blk_put (cs := #[.int .i64 t206, .int .i64 t207, .int .i64 t208, .slice none 0 0]) ?_ 3 _ rfl; (with_reducible repeat (first | refine blk_drewN ?_ _ | refine blk_drew ?_ | refine blk_alloc ?_ _)); refine blk_put (cs := #[.int .i64 t206, .int .i64 t207, .int .i64 0, .slice none 0 0]) ?_ 2 _ rfl; (with_reducible repeat (first | refine blk_drewN ?_ _ | refine blk_drew ?_ | refine blk_alloc ?_ _)); refine blk_put (cs := #[.int .i64 t206, .int .i64 0, .int .i64 0, .slice none 0 0]) ?_ 1 _ rfl; (with_reducible repeat (first | refine blk_drewN ?_ _ | refine blk_drew ?_ | refine blk_alloc ?_ _)); refine blk_put (cs := #[.int .i64 0, .int .i64 0, .int .i64 0, .slice none 0 0]) ?_ 0 _ rfl; (with_reducible repeat (first | refine blk_drewN ?_ _ | refine blk_drew ?_ | refine blk_alloc ?_ _)); exact BK213.out) hb); have n5_ := Aside0.mk (below_step (by repeat (first | (with_reducible first | exact HB.out | apply below_alloc | apply pw_below_drewN | apply below_drew1 | refine below_set ?_ GE194.out | refine below_set ?_ GE213.out) | exact HB.out)) hb); clear HO_195003; clear HO211; clear BK194; clear BK213; clear HB; have HO_195003 := n0_; have HO211 := n1_; have HO216 := n2_; have BK194 := n3_; have BK213 := n4_; have HB := n5_; clear n0_ n1_ n2_ n3_ n4_ n5_; (try clear hb); (try clear hb2); (try clear hk); (try clear hi); (try clear ho0); have hcv38 := own_string (P := Try.prog) Try.underlying22 Try.underlying5 Try.underlying9 (Kd.own_of_R HO216.out); have hcz39_0 : w37.cell? ⟨gb213, 0, none⟩ = some (.int .i64 t206) := (blk_cell BK213.out 0).trans rfl; have hcz39_1 : w37.cell? ⟨gb213, 1, none⟩ = some (.int .i64 t207) := (blk_cell BK213.out 1).trans rfl; have hcz39_2 : w37.cell? ⟨gb213, 2, none⟩ = some (.int .i64 t208) := (blk_cell BK213.out 2).trans rfl; have hcz39_3 : w37.cell? ⟨gb213, 3, none⟩ = some (.slice Ao35 t209.length co35) := (blk_cell BK213.out 3).trans rfl; have hfz39_0 := blk_frozen BK213.out 0; have hfz39_1 := blk_frozen BK213.out 1; have hfz39_2 := blk_frozen BK213.out 2; have hfz39_3 := blk_frozen BK213.out 3) | ((with_reducible refine gate_callee (f := 24) rfl ?_); refine goesL_ (some 49) rfl rfl Try.func24 (by kernel_rfl) rfl #[.agg #[.int .i64 t206, .int .i64 t207, .int .i64 t208, .slice Ao35 t209.length co35], .agg #[.int .i64 0, .int .i64 0, .int .i64 0, .slice none 0 0]] rfl (by (try simp only [List.map_toArray, List.map_cons, List.map_nil]); first | done | rfl | (simp only [List.length_drop, List.length_take]; rfl)) ?_; (refine (bivouacref06_Same.calls t206 t207 t208 _ _ t209 0 0 0 _ _ ([] : List Int) true _ ?side1 ?side2 ?side3 ?side4 A27.out).mono ?_); (case side1 => repeat (first | exact (Kd.R_reads' HO211.out).2.2 | (with_reducible refine Kd.C_alloc ?_ _) | (with_reducible refine Kd.C_drewN ?_ _) | (with_reducible refine Kd.C_drew ?_))); (case side2 => exact (Kd.R_reads' HO211.out).2.1); (case side3 => exact Kd.C_nil _ _); (case side4 => exact Nat.le_refl _); rintro e w40 ⟨rfl, hb⟩; refine ⟨_, rfl, ?_⟩; have n0_ := Aside0.mk (Kd.V_below (by (with_reducible repeat (first | apply Kd.V_alloc | apply Kd.V_drewN | apply Kd.V_drew)); exact HO_195003.out) hb); have n1_ := Aside0.mk (Kd.R_below (by (with_reducible repeat (first | apply Kd.R_alloc | apply Kd.R_drewN | apply Kd.R_drew)); exact HO211.out) hb); have n2_ := Aside0.mk (Kd.R_below (by (with_reducible repeat (first | apply Kd.R_alloc | apply Kd.R_drewN | apply Kd.R_drew)); exact HO216.out) hb); have n3_ := Aside0.mk (blk_below (g := gb194) (o := .cells #[.int .i64 t195, .int .i64 t196, .int .i64 t197, .slice Ao12 t198.length co12] 24 (0, 0)) (by (with_reducible repeat (first | refine blk_drewN ?_ _ | refine blk_drew ?_ | refine blk_alloc ?_ _)); exact BK194.out) hb); have n4_ := Aside0.mk (blk_below (g := gb213) (o := .cells #[.int .i64 t206, .int .i64 t207, .int .i64 t208, .slice Ao35 t209.length co35] 24 (0, 0)) (by (with_reducible repeat (first | refine blk_drewN ?_ _ | refine blk_drew ?_ | refine blk_alloc ?_ _)); exact BK213.out) hb); have n5_ := Aside0.mk (below_step (by repeat (first | (with_reducible first | exact HB.out | apply below_alloc | apply pw_below_drewN | apply below_drew1 | refine below_set ?_ GE194.out | refine below_set ?_ GE213.out) | exact HB.out)) hb); clear HO_195003; clear HO211; clear HO216; clear BK194; clear BK213; clear HB; have HO_195003 := n0_; have HO211 := n1_; have HO216 := n2_; have BK194 := n3_; have BK213 := n4_; have HB := n5_; clear n0_ n1_ n2_ n3_ n4_ n5_; (try clear hb); (try clear hb2); (try clear hk); (try clear hi)) | (go_at_call 14; (with_reducible refine (bivouaclaw06_awake.calls kj6  t218 _ A30.out).mono ?_); rintro e w41 ⟨rfl, hb⟩; have n0_ := Aside0.mk (Kd.V_below (by (with_reducible repeat (first | apply Kd.V_alloc | apply Kd.V_drewN | apply Kd.V_drew)); exact HO_195003.out) hb); have n1_ := Aside0.mk (Kd.R_below (by (with_reducible repeat (first | apply Kd.R_alloc | apply Kd.R_drewN | apply Kd.R_drew)); exact HO211.out) hb); have n2_ := Aside0.mk (Kd.R_below (by (with_reducible repeat (first | apply Kd.R_alloc | apply Kd.R_drewN | apply Kd.R_drew)); exact HO216.out) hb); have n3_ := Aside0.mk (blk_below (g := gb194) (o := .cells #[.int .i64 t195, .int .i64 t196, .int .i64 t197, .slice Ao12 t198.length co12] 24 (0, 0)) (by (with_reducible repeat (first | refine blk_drewN ?_ _ | refine blk_drew ?_ | refine blk_alloc ?_ _)); exact BK194.out) hb); have n4_ := Aside0.mk (blk_below (g := gb213) (o := .cells #[.int .i64 t206, .int .i64 t207, .int .i64 t208, .slice Ao35 t209.length co35] 24 (0, 0)) (by (with_reducible repeat (first | refine blk_drewN ?_ _ | refine blk_drew ?_ | refine blk_alloc ?_ _)); exact BK213.out) hb); have n5_ := Aside0.mk (below_step (by repeat (first | (with_reducible first | exact HB.out | apply below_alloc | apply pw_below_drewN | apply below_drew1 | refine below_set ?_ GE194.out | refine below_set ?_ GE213.out) | exact HB.out)) hb); clear HO_195003; clear HO211; clear HO216; clear BK194; clear BK213; clear HB; have HO_195003 := n0_; have HO211 := n1_; have HO216 := n2_; have BK194 := n3_; have BK213 := n4_; have HB := n5_; clear n0_ n1_ n2_ n3_ n4_ n5_; (try clear hb); (try clear hb2); (try clear hk); (try clear hi)))
         go_ret
         exact ⟨by first | rfl | (simp [errW_none, errW_some] <;> rfl) | (simp [*, errW_none, errW_some] <;> rfl) | (rw [Int.tdiv_eq_ediv_of_nonneg (by assumption)]; rfl), by repeat (first | (with_reducible first | exact HB.out | apply below_alloc | apply pw_below_drewN | apply below_drew1 | refine below_set ?_ GE194.out | refine below_set ?_ GE213.out) | exact HB.out)⟩
        ·
         rw [if_neg c29] at H
         exact absurd H (by simp)
       ·
        replace c28 := Bool.eq_false_iff.mpr c28
        subst c28
        have H1 : (none) = some r := by rw [if_neg (show ¬ (false = true) by decide)] at H; exact H
        clear H
        have H := H1
        clear H1
        exact absurd H (by simp)
      ·
       rw [if_neg c26] at H
       have c26b0 : decide ((lt.length : Int) < 3) = false := decide_eq_false c26
       have c26b1 : decide (lt.length < 3) = false := decide_eq_false (by omega)
       clear c26
       replace H := Option.bind_eq_some_iff.mp H
       obtain ⟨⟨t219, t220, t221, t222⟩, A420, H⟩ := H
       replace H : ((bivouacref06_Check.f kj6 t219 t220 t221 t222).bind fun t225 => (if t225 = 0 then ((bivouacref06_Of.f lt).bind fun bt228 => ((bivouacref06_Same.f t206 t207 t208 t209 bt228.1 bt228.2.1 bt228.2.2.1 bt228.2.2.2).bind fun t234 => (if t234 = true then (if t212 = 0 then ((bivouaclaw06_awake.f kj6).bind fun t235 => (some t235)) else (none)) else (none)))) else ((bivouacref06_Same.f t206 t207 t208 t209 0 0 0 ([] : List Int)).bind fun t226 => (if t226 = true then (if t212 = t225 then ((bivouaclaw06_awake.f kj6).bind fun t227 => (some t227)) else (none)) else (none))))) = some r := H
       have A42 := Aside0.mk A420
       clear A420
       replace H := Option.bind_eq_some_iff.mp H
       obtain ⟨t225, A430, H⟩ := H
       replace H : (if t225 = 0 then ((bivouacref06_Of.f lt).bind fun bt228 => ((bivouacref06_Same.f t206 t207 t208 t209 bt228.1 bt228.2.1 bt228.2.2.1 bt228.2.2.2).bind fun t234 => (if t234 = true then (if t212 = 0 then ((bivouaclaw06_awake.f kj6).bind fun t235 => (some t235)) else (none)) else (none)))) else ((bivouacref06_Same.f t206 t207 t208 t209 0 0 0 ([] : List Int)).bind fun t226 => (if t226 = true then (if t212 = t225 then ((bivouaclaw06_awake.f kj6).bind fun t227 => (some t227)) else (none)) else (none)))) = some r := H
       have A43 := Aside0.mk A430
       clear A430
       by_cases c44 : t225 = 0
       ·
        rw [if_pos c44] at H
        have c44b0 : (t225 == 0) = true := beq_iff_eq.mpr c44
        have c44b1 : (t225 != 0) = false := bne_eq_false_iff_eq.mpr c44
        clear c44
        replace H := Option.bind_eq_some_iff.mp H
        obtain ⟨⟨t228, t229, t230, t231⟩, A450, H⟩ := H
        replace H : ((bivouacref06_Same.f t206 t207 t208 t209 t228 t229 t230 t231).bind fun t234 => (if t234 = true then (if t212 = 0 then ((bivouaclaw06_awake.f kj6).bind fun t235 => (some t235)) else (none)) else (none))) = some r := H
        have A45 := Aside0.mk A450
        clear A450
        replace H := Option.bind_eq_some_iff.mp H
        obtain ⟨t234, A460, H⟩ := H
        replace H : (if t234 = true then (if t212 = 0 then ((bivouaclaw06_awake.f kj6).bind fun t235 => (some t235)) else (none)) else (none)) = some r := H
        have A46 := Aside0.mk A460
        clear A460
        by_cases c47 : t234 = true
        ·
         subst c47
         have H1 : (if t212 = 0 then ((bivouaclaw06_awake.f kj6).bind fun t235 => (some t235)) else (none)) = some r := by rw [if_pos rfl] at H; exact H
         clear H
         have H := H1
         clear H1
         by_cases c48 : t212 = 0
         ·
          rw [if_pos c48] at H
          have c48b0 : (t212 == 0) = true := beq_iff_eq.mpr c48
          have c48b1 : (t212 != 0) = false := bne_eq_false_iff_eq.mpr c48
          clear c48
          replace H := Option.bind_eq_some_iff.mp H
          obtain ⟨t235, A490, H⟩ := H
          replace H : (some t235) = some r := H
          have A49 := Aside0.mk A490
          clear A490
          obtain rfl := Option.some.inj H
          try go_wp2_with (first | ((with_reducible refine gate_callee (f := 22) rfl ?_); refine goesL_ (some 36) rfl rfl Try.func22 (by kernel_rfl) rfl #[.slice A1 lt.length c1] rfl (by (try simp only [List.map_toArray, List.map_cons, List.map_nil]); first | done | (rw [show lt.length = 4300 from (by rw [List.length_take]; have h_ : (4300 : Int) ≤ (l1.length : Int) := of_decide_eq_true (by first | (with_reducible assumption) | assumption); omega)] <;> rfl) | rfl | (simp only [List.length_drop, List.length_take]; rfl)) ?_; (with_reducible refine (relief_Decode.calls kj6 _ _ lt t206 t207 t208 t209 t212 _ ?side1 ?side2 A23.out).mono ?_); (case side1 => repeat (first | exact (Kd.C_below HR201.out HB.out) | (with_reducible refine Kd.C_alloc ?_ _) | (with_reducible refine Kd.C_drewN ?_ _) | (with_reducible refine Kd.C_drew ?_))); (case side2 => exact HC201.out); rintro e w50 ⟨v210, rfl, ho0, hb⟩; refine ⟨_, rfl, ?_⟩; have n0_ := Aside0.mk (Kd.V_elder' (by (with_reducible repeat (first | apply Kd.V_alloc | apply Kd.V_drewN | apply Kd.V_drew)); exact HO_195003.out) (Kd.R_base ho0) hb); have n1_ := Aside0.mk (Kd.R_lower ho0 (below_size (by repeat (first | (with_reducible first | exact HB.out | apply below_alloc | apply pw_below_drewN | apply below_drew1 | refine below_set ?_ GE194.out) | exact HB.out)))); have n2_ := Aside0.mk (blk_below (g := gb194) (o := .cells #[.int .i64 t195, .int .i64 t196, .int .i64 t197, .slice Ao12 t198.length co12] 24 (0, 0)) (by (with_reducible repeat (first | refine blk_drewN ?_ _ | refine blk_drew ?_ | refine blk_alloc ?_ _)); exact BK194.out) hb); have n3_ := Aside0.mk (below_step (by repeat (first | (with_reducible first | exact HB.out | apply below_alloc | apply pw_below_drewN | apply below_drew1 | refine below_set ?_ GE194.out) | exact HB.out)) hb); clear HO_195003; clear BK194; clear HB; have HO_195003 := n0_; have HO211 := n1_; have BK194 := n2_; have HB := n3_; clear n0_ n1_ n2_ n3_; (try clear hb); (try clear hb2); (try clear hk); (try clear hi); (try clear ho0)) | ((with_reducible refine gate_dst (N := 6) rfl ?_); refine box_event ?hg (N := 6) ?hd (cs := #[.int .i64 0, .int .i64 0, .int .i64 0, .slice none 0 0]) (t := 24) ?hr ?_; (case hd => rfl); (case hg => rfl); (case hr => first | (go_simp; done) | (go_simp; rfl)); intro gb213 hg w51 hbox hb; have n0_ := Aside0.mk (Kd.V_below (Kd.V_elderB (by (with_reducible repeat (first | apply Kd.V_alloc | apply Kd.V_drewN | apply Kd.V_drew)); exact HO_195003.out) gb213 (Nat.le_of_eq hg.symm)) hb); have n1_ := Aside0.mk (Kd.R_below (by (with_reducible repeat (first | apply Kd.R_alloc | apply Kd.R_drewN | apply Kd.R_drew)); exact HO211.out) hb); have n2_ := Aside0.mk (blk_below (g := gb194) (o := .cells #[.int .i64 t195, .int .i64 t196, .int .i64 t197, .slice Ao12 t198.length co12] 24 (0, 0)) (by (with_reducible repeat (first | refine blk_drewN ?_ _ | refine blk_drew ?_ | refine blk_alloc ?_ _)); exact BK194.out) hb); have n3_ := Aside0.mk (below_step (by repeat (first | (with_reducible first | exact HB.out | apply below_alloc | apply pw_below_drewN | apply below_drew1 | refine below_set ?_ GE194.out) | exact HB.out)) hb); have n4_ := Aside0.mk (hbox); have n5_ := Aside0.mk ((by rw [hg]; exact (below_size (by repeat (first | (with_reducible first | exact HB.out | apply below_alloc | apply pw_below_drewN | apply below_drew1 | refine below_set ?_ GE194.out) | exact HB.out))) : w.heap.size ≤ gb213)); have n6_ := Aside0.mk ((by rw [hg]; exact (below_size (by repeat (first | (with_reducible first | exact HB.out | apply below_alloc | apply pw_below_drewN | apply below_drew1 | refine below_set ?_ GE194.out) | exact HB.out))) : w.heap.size ≤ gb213)); have n7_ := Aside0.mk ((by rw [hg]; exact Nat.ne_of_lt (blk_lt (g := gb194) (o := .cells #[.int .i64 t195, .int .i64 t196, .int .i64 t197, .slice Ao12 t198.length co12] 24 (0, 0)) (by (with_reducible repeat (first | refine blk_drewN ?_ _ | refine blk_drew ?_ | refine blk_alloc ?_ _)); exact BK194.out)) : gb194 ≠ gb213)); have n8_ := Aside0.mk ((by rw [hg]; exact Nat.ne_of_gt (blk_lt (g := gb194) (o := .cells #[.int .i64 t195, .int .i64 t196, .int .i64 t197, .slice Ao12 t198.length co12] 24 (0, 0)) (by (with_reducible repeat (first | refine blk_drewN ?_ _ | refine blk_drew ?_ | refine blk_alloc ?_ _)); exact BK194.out)) : gb213 ≠ gb194)); clear HO_195003; clear HO211; clear BK194; clear HB; have HO_195003 := n0_; have HO211 := n1_; have BK194 := n2_; have HB := n3_; have BK213 := n4_; have GW213 := n5_; have GE213 := n6_; have NB194_213 := n7_; have NB213_194 := n8_; clear n0_ n1_ n2_ n3_ n4_ n5_ n6_ n7_ n8_; clear hb hbox hg; have hnb52 := NB213_194.out; have hnc52 := NB194_213.out; have hcz53_0 : w51.cell? ⟨gb213, 0, none⟩ = some (.int .i64 0) := (blk_cell BK213.out 0).trans rfl; have hcz53_1 : w51.cell? ⟨gb213, 1, none⟩ = some (.int .i64 0) := (blk_cell BK213.out 1).trans rfl; have hcz53_2 : w51.cell? ⟨gb213, 2, none⟩ = some (.int .i64 0) := (blk_cell BK213.out 2).trans rfl; have hcz53_3 : w51.cell? ⟨gb213, 3, none⟩ = some (.slice none 0 0) := (blk_cell BK213.out 3).trans rfl; have hfz53_0 := blk_frozen BK213.out 0; have hfz53_1 := blk_frozen BK213.out 1; have hfz53_2 := blk_frozen BK213.out 2; have hfz53_3 := blk_frozen BK213.out 3; obtain ⟨Ao54, co54, eo54⟩ := Kd.R_slice HO211.out; subst eo54; have hcz55_0 : w51.cell? ⟨gb194, 0, none⟩ = some (.int .i64 t195) := (blk_cell BK194.out 0).trans rfl; have hcz55_1 : w51.cell? ⟨gb194, 1, none⟩ = some (.int .i64 t196) := (blk_cell BK194.out 1).trans rfl; have hcz55_2 : w51.cell? ⟨gb194, 2, none⟩ = some (.int .i64 t197) := (blk_cell BK194.out 2).trans rfl; have hcz55_3 : w51.cell? ⟨gb194, 3, none⟩ = some (.slice Ao12 t198.length co12) := (blk_cell BK194.out 3).trans rfl; have hfz55_0 := blk_frozen BK194.out 0; have hfz55_1 := blk_frozen BK194.out 1; have hfz55_2 := blk_frozen BK194.out 2; have hfz55_3 := blk_frozen BK194.out 3) | ((with_reducible refine gate_callee (f := 23) rfl ?_); refine goesL_ (some 40) rfl rfl Try.func23 (by kernel_rfl) rfl #[.agg #[.int .i64 t195, .int .i64 t196, .int .i64 t197, .slice Ao12 t198.length co12]] rfl (by (try simp only [List.map_toArray, List.map_cons, List.map_nil]); first | done | rfl | (simp only [List.length_drop, List.length_take]; rfl)) ?_; (with_reducible refine (relief_Encode.calls kj6 t195 t196 t197 _ _ t198 t214 _ ?side1 ?side2 A24.out).mono ?_); (case side1 => refine (Kd.V_reads' (e := 5) (base := w.heap.size) (ok := fun k_ => ((k_ ≠ gb194 ∧ some k_ ≠ (.slice Ao54 t209.length co54 : Value).ownBlock) ∧ k_ ≠ gb213)) (n := t198.length) (c := co12) ?_).2.2; exact (by (with_reducible repeat (first | apply Kd.V_alloc | apply Kd.V_drewN | apply Kd.V_drew)); exact (Kd.V_mono (Kd.V_far (p := ⟨gb213, 3, none⟩) (Kd.V_far (p := ⟨gb213, 2, none⟩) (Kd.V_far (p := ⟨gb213, 1, none⟩) (Kd.V_far (p := ⟨gb213, 0, none⟩) (Kd.V_mono HO_195003.out (fun k_ hk => (⟨hk, hk.2⟩ : _ ∧ k_ ≠ gb213))) (fun _ hk => hk.2) (.int .i64 t206)) (fun _ hk => hk.2) (.int .i64 t207)) (fun _ hk => hk.2) (.int .i64 t208)) (fun _ hk => hk.2) (.slice Ao54 t209.length co54)) (fun _ h_ => h_.1)))); (case side2 => exact (Kd.V_reads' HO_195003.out).2.1); rintro e w56 ⟨v215, rfl, ho0, hb⟩; refine ⟨_, rfl, ?_⟩; have n0_ := Aside0.mk (Kd.V_elder' (by (with_reducible repeat (first | apply Kd.V_alloc | apply Kd.V_drewN | apply Kd.V_drew)); exact (Kd.V_mono (Kd.V_far (p := ⟨gb213, 3, none⟩) (Kd.V_far (p := ⟨gb213, 2, none⟩) (Kd.V_far (p := ⟨gb213, 1, none⟩) (Kd.V_far (p := ⟨gb213, 0, none⟩) (Kd.V_mono HO_195003.out (fun k_ hk => (⟨hk, hk.2⟩ : _ ∧ k_ ≠ gb213))) (fun _ hk => hk.2) (.int .i64 t206)) (fun _ hk => hk.2) (.int .i64 t207)) (fun _ hk => hk.2) (.int .i64 t208)) (fun _ hk => hk.2) (.slice Ao54 t209.length co54)) (fun _ h_ => h_.1))) (Kd.R_base ho0) hb); have n1_ := Aside0.mk (Kd.R_elder' (by (with_reducible repeat (first | apply Kd.R_alloc | apply Kd.R_drewN | apply Kd.R_drew)); exact (Kd.R_mono (Kd.R_far (p := ⟨gb213, 3, none⟩) (Kd.R_far (p := ⟨gb213, 2, none⟩) (Kd.R_far (p := ⟨gb213, 1, none⟩) (Kd.R_far (p := ⟨gb213, 0, none⟩) (Kd.R_types HO211.out BK213.out (by decide)) (fun _ hk => hk.2) (.int .i64 t206)) (fun _ hk => hk.2) (.int .i64 t207)) (fun _ hk => hk.2) (.int .i64 t208)) (fun _ hk => hk.2) (.slice Ao54 t209.length co54)) (fun _ h_ => h_.1))) (Kd.R_base ho0) hb); have n2_ := Aside0.mk (Kd.R_lower (Kd.R_new' ho0 (Kd.R_lt (by (with_reducible repeat (first | apply Kd.R_alloc | apply Kd.R_drewN | apply Kd.R_drew)); exact (Kd.R_mono (Kd.R_far (p := ⟨gb213, 3, none⟩) (Kd.R_far (p := ⟨gb213, 2, none⟩) (Kd.R_far (p := ⟨gb213, 1, none⟩) (Kd.R_far (p := ⟨gb213, 0, none⟩) (Kd.R_types HO211.out BK213.out (by decide)) (fun _ hk => hk.2) (.int .i64 t206)) (fun _ hk => hk.2) (.int .i64 t207)) (fun _ hk => hk.2) (.int .i64 t208)) (fun _ hk => hk.2) (.slice Ao54 t209.length co54)) (fun _ h_ => h_.1))))) (below_size (by repeat (first | (with_reducible first | exact HB.out | apply below_alloc | apply pw_below_drewN | apply below_drew1 | refine below_set ?_ GE194.out | refine below_set ?_ GE213.out) | exact HB.out)))); have n3_ := Aside0.mk (blk_below (g := gb194) (o := .cells #[.int .i64 t195, .int .i64 t196, .int .i64 t197, .slice Ao12 t198.length co12] 24 (0, 0)) (by (with_reducible repeat (first | refine blk_drewN ?_ _ | refine blk_drew ?_ | refine blk_alloc ?_ _)); refine blk_far ?_ NB194_213.out _; (with_reducible repeat (first | refine blk_drewN ?_ _ | refine blk_drew ?_ | refine blk_alloc ?_ _)); refine blk_far ?_ NB194_213.out _; (with_reducible repeat (first | refine blk_drewN ?_ _ | refine blk_drew ?_ | refine blk_alloc ?_ _)); refine blk_far ?_ NB194_213.out _; (with_reducible repeat (first | refine blk_drewN ?_ _ | refine blk_drew ?_ | refine blk_alloc ?_ _)); refine blk_far ?_ NB194_213.out _; (with_reducible repeat (first | refine blk_drewN ?_ _ | refine blk_drew ?_ | refine blk_alloc ?_ _)); exact BK194.out) hb); have n4_ := Aside0.mk (blk_below (g := gb213) (o := .cells #[.int .i64 t206, .int .i64 t207, .int .i64 t208, .slice Ao54 t209.length co54] 24 (0, 0)) (by (with_reducible repeat (first | refine blk_drewN ?_ _ | refine blk_drew ?_ | refine blk_alloc ?_ _)); refine blk_put (cs := #[.int .i64 t206, .int .i64 t207, .int .i64 t208, .slice none 0 0]) ?_ 3 _ rfl; (with_reducible repeat (first | refine blk_drewN ?_ _ | refine blk_drew ?_ | refine blk_alloc ?_ _)); refine blk_put (cs := #[.int .i64 t206, .int .i64 t207, .int .i64 0, .slice none 0 0]) ?_ 2 _ rfl; (with_reducible repeat (first | refine blk_drewN ?_ _ | refine blk_drew ?_ | refine blk_alloc ?_ _)); refine blk_put (cs := #[.int .i64 t206, .int .i64 0, .int .i64 0, .slice none 0 0]) ?_ 1 _ rfl; (with_reducible repeat (first | refine blk_drewN ?_ _ | refine blk_drew ?_ | refine blk_alloc ?_ _)); refine blk_put (cs := #[.int .i64 0, .int .i64 0, .int .i64 0, .slice none 0 0]) ?_ 0 _ rfl; (with_reducible repeat (first | refine blk_drewN ?_ _ | refine blk_drew ?_ | refine blk_alloc ?_ _)); exact BK213.out) hb); have n5_ := Aside0.mk (below_step (by repeat (first | (with_reducible first | exact HB.out | apply below_alloc | apply pw_below_drewN | apply below_drew1 | refine below_set ?_ GE194.out | refine below_set ?_ GE213.out) | exact HB.out)) hb); clear HO_195003; clear HO211; clear BK194; clear BK213; clear HB; have HO_195003 := n0_; have HO211 := n1_; have HO216 := n2_; have BK194 := n3_; have BK213 := n4_; have HB := n5_; clear n0_ n1_ n2_ n3_ n4_ n5_; (try clear hb); (try clear hb2); (try clear hk); (try clear hi); (try clear ho0); have hcv57 := own_string (P := Try.prog) Try.underlying22 Try.underlying5 Try.underlying9 (Kd.own_of_R HO216.out)) | ((with_reducible refine gate_callee (f := 25) rfl ?_); refine goesL_ (some 58) rfl rfl Try.func25 (by kernel_rfl) rfl #[.slice A1 lt.length c1] rfl (by (try simp only [List.map_toArray, List.map_cons, List.map_nil]); first | done | (rw [show lt.length = 4300 from (by rw [List.length_take]; have h_ : (4300 : Int) ≤ (l1.length : Int) := of_decide_eq_true (by first | (with_reducible assumption) | assumption); omega)] <;> rfl) | rfl | (simp only [List.length_drop, List.length_take]; rfl)) ?_; (with_reducible refine (bivouacref06_Of.calls _ _ lt t219 t220 t221 t222 _ ?side1 ?side2 A42.out).mono ?_); (case side1 => repeat (first | exact (Kd.C_below HR201.out HB.out) | (with_reducible refine Kd.C_alloc ?_ _) | (with_reducible refine Kd.C_drewN ?_ _) | (with_reducible refine Kd.C_drew ?_))); (case side2 => exact HC201.out); rintro e w58 ⟨v223, rfl, ho0, hb⟩; refine ⟨_, rfl, ?_⟩; have n0_ := Aside0.mk (Kd.V_elder' (by (with_reducible repeat (first | apply Kd.V_alloc | apply Kd.V_drewN | apply Kd.V_drew)); exact HO_195003.out) (Kd.R_base ho0) hb); have n1_ := Aside0.mk (Kd.R_elder' (by (with_reducible repeat (first | apply Kd.R_alloc | apply Kd.R_drewN | apply Kd.R_drew)); exact HO211.out) (Kd.R_base ho0) hb); have n2_ := Aside0.mk (Kd.R_elder' (by (with_reducible repeat (first | apply Kd.R_alloc | apply Kd.R_drewN | apply Kd.R_drew)); exact HO216.out) (Kd.R_base ho0) hb); have n3_ := Aside0.mk (Kd.R_lower (Kd.R_new' (Kd.R_new' ho0 (Kd.R_lt (by (with_reducible repeat (first | apply Kd.R_alloc | apply Kd.R_drewN | apply Kd.R_drew)); exact HO211.out))) (Kd.R_lt (by (with_reducible repeat (first | apply Kd.R_alloc | apply Kd.R_drewN | apply Kd.R_drew)); exact HO216.out))) (below_size (by repeat (first | (with_reducible first | exact HB.out | apply below_alloc | apply pw_below_drewN | apply below_drew1 | refine below_set ?_ GE194.out | refine below_set ?_ GE213.out) | exact HB.out)))); have n4_ := Aside0.mk (blk_below (g := gb194) (o := .cells #[.int .i64 t195, .int .i64 t196, .int .i64 t197, .slice Ao12 t198.length co12] 24 (0, 0)) (by (with_reducible repeat (first | refine blk_drewN ?_ _ | refine blk_drew ?_ | refine blk_alloc ?_ _)); exact BK194.out) hb); have n5_ := Aside0.mk (blk_below (g := gb213) (o := .cells #[.int .i64 t206, .int .i64 t207, .int .i64 t208, .slice Ao54 t209.length co54] 24 (0, 0)) (by (with_reducible repeat (first | refine blk_drewN ?_ _ | refine blk_drew ?_ | refine blk_alloc ?_ _)); exact BK213.out) hb); have n6_ := Aside0.mk (below_step (by repeat (first | (with_reducible first | exact HB.out | apply below_alloc | apply pw_below_drewN | apply below_drew1 | refine below_set ?_ GE194.out | refine below_set ?_ GE213.out) | exact HB.out)) hb); clear HO_195003; clear HO211; clear HO216; clear BK194; clear BK213; clear HB; have HO_195003 := n0_; have HO211 := n1_; have HO216 := n2_; have HO224 := n3_; have BK194 := n4_; have BK213 := n5_; have HB := n6_; clear n0_ n1_ n2_ n3_ n4_ n5_ n6_; (try clear hb); (try clear hb2); (try clear hk); (try clear hi); (try clear ho0); obtain ⟨Ao59, co59, eo59⟩ := Kd.R_slice HO224.out; subst eo59) | ((with_reducible refine gate_callee (f := 10) rfl ?_); refine goesL_ (some 59) rfl rfl Try.func10 (by kernel_rfl) rfl #[.agg #[.int .i64 t219, .int .i64 t220, .int .i64 t221, .slice Ao59 t222.length co59]] rfl (by (try simp only [List.map_toArray, List.map_cons, List.map_nil]); first | done | rfl | (simp only [List.length_drop, List.length_take]; rfl)) ?_; (with_reducible refine (bivouacref06_Check.calls kj6 t219 t220 t221 _ _ t222 t225 _ ?side1 ?side2 A43.out).mono ?_); (case side1 => repeat (first | exact (Kd.R_reads' HO224.out).2.2 | (with_reducible refine Kd.C_alloc ?_ _) | (with_reducible refine Kd.C_drewN ?_ _) | (with_reducible refine Kd.C_drew ?_))); (case side2 => exact (Kd.R_reads' HO224.out).2.1); rintro e w60 ⟨rfl, hb⟩; refine ⟨_, rfl, ?_⟩; have n0_ := Aside0.mk (Kd.V_below (by (with_reducible repeat (first | apply Kd.V_alloc | apply Kd.V_drewN | apply Kd.V_drew)); exact HO_195003.out) hb); have n1_ := Aside0.mk (Kd.R_below (by (with_reducible repeat (first | apply Kd.R_alloc | apply Kd.R_drewN | apply Kd.R_drew)); exact HO211.out) hb); have n2_ := Aside0.mk (Kd.R_below (by (with_reducible repeat (first | apply Kd.R_alloc | apply Kd.R_drewN | apply Kd.R_drew)); exact HO216.out) hb); have n3_ := Aside0.mk (Kd.R_below (by (with_reducible repeat (first | apply Kd.R_alloc | apply Kd.R_drewN | apply Kd.R_drew)); exact HO224.out) hb); have n4_ := Aside0.mk (blk_below (g := gb194) (o := .cells #[.int .i64 t195, .int .i64 t196, .int .i64 t197, .slice Ao12 t198.length co12] 24 (0, 0)) (by (with_reducible repeat (first | refine blk_drewN ?_ _ | refine blk_drew ?_ | refine blk_alloc ?_ _)); exact BK194.out) hb); have n5_ := Aside0.mk (blk_below (g := gb213) (o := .cells #[.int .i64 t206, .int .i64 t207, .int .i64 t208, .slice Ao54 t209.length co54] 24 (0, 0)) (by (with_reducible repeat (first | refine blk_drewN ?_ _ | refine blk_drew ?_ | refine blk_alloc ?_ _)); exact BK213.out) hb); have n6_ := Aside0.mk (below_step (by repeat (first | (with_reducible first | exact HB.out | apply below_alloc | apply pw_below_drewN | apply below_drew1 | refine below_set ?_ GE194.out | refine below_set ?_ GE213.out) | exact HB.out)) hb); clear HO_195003; clear HO211; clear HO216; clear HO224; clear BK194; clear BK213; clear HB; have HO_195003 := n0_; have HO211 := n1_; have HO216 := n2_; have HO224 := n3_; have BK194 := n4_; have BK213 := n5_; have HB := n6_; clear n0_ n1_ n2_ n3_ n4_ n5_ n6_; (try clear hb); (try clear hb2); (try clear hk); (try clear hi)))
          have n0_ := Aside0.mk (Kd.V_drew HO_195003.out)
          have n1_ := Aside0.mk (Kd.R_drew HO211.out)
          have n2_ := Aside0.mk (Kd.R_drew HO216.out)
          have n3_ := Aside0.mk (Kd.R_drew HO224.out)
          have n4_ := Aside0.mk (blk_drew BK194.out)
          have n5_ := Aside0.mk (blk_drew BK213.out)
          have n6_ := Aside0.mk (below_drew1 HB.out)
          clear HO_195003
          clear HO211
          clear HO216
          clear HO224
          clear BK194
          clear BK213
          clear HB
          have HO_195003 := n0_
          have HO211 := n1_
          have HO216 := n2_
          have HO224 := n3_
          have BK194 := n4_
          have BK213 := n5_
          have HB := n6_
          clear n0_ n1_ n2_ n3_ n4_ n5_ n6_
          refine start_ (n := 12) (S := fun w' => w'.cell? ⟨gb213, 0, none⟩ = some (.int .i64 t206) ∧ w'.cell? ⟨gb213, 1, none⟩ = some (.int .i64 t207) ∧ w'.cell? ⟨gb213, 2, none⟩ = some (.int .i64 t208) ∧ w'.cell? ⟨gb213, 3, none⟩ = some (.slice Ao54 t209.length co54)) (ds := []) (bA 12 0) (by kernel_rfl) rfl rfl ⟨(blk_cell BK213.out 0).trans rfl, (blk_cell BK213.out 1).trans rfl, (blk_cell BK213.out 2).trans rfl, (blk_cell BK213.out 3).trans rfl⟩ (fun hHeld => ?_); refine with_tabW bivouaclaw06_ReliefBytes.tab15 bivouaclaw06_ReliefBytes.bits15 (fun HT_ HW_ => ?_)
          generalize w60.drew = w61 at HO_195003 HO211 HO216 HO224 BK194 BK213 HB hHeld ⊢
          refine pure_ (i := 1) (N := some 74) (v := ?_) (a' := ?_) (bA 12 2) rfl rfl (any_of HT_.out (by kernel_rfl)) (fun _ _ _ h => h) (Or.inl ⟨by rfl, ?_⟩) ?_ ?_
          rotate_left
          ·
           intro w'
           go_simp
           with_reducible rfl
          rotate_left
          ·
           simp only [Act.put, sA, sB, sC, i64_w, i32_w]
           rfl
          refine take_ (i := 0) (N := some 73) (v := ?_) (a' := ?_) (bA 12 3) rfl rfl (take_ofW HT_.out HW_.out (by kernel_rfl)) (fun _ _ _ h => h) (Or.inl ⟨by rfl, ?_⟩) hHeld ?_ ?_
          rotate_left
          ·
           rintro w' ⟨s0, s1, s2, s3⟩
           go_simp
           with_reducible rfl
          rotate_left
          ·
           simp only [Act.put, sA, sB, sC, i64_w, i32_w]
           rfl
          refine one_ (i := 2) (N := some 75) (bA 12 7) rfl rfl (one_of HT_.out (by kernel_rfl)) (by decide) (fun K hK => ?_)
          refine goes_ Try.func25 (by kernel_rfl) rfl #[.slice A1 lt.length c1] (by rfl) rfl rfl (by (try simp only [List.map_toArray, List.map_cons, List.map_nil]); first | done | (rw [show lt.length = 4300 from (by rw [List.length_take]; have h_ : (4300 : Int) ≤ (l1.length : Int) := of_decide_eq_true (by first | (with_reducible assumption) | assumption); omega)] <;> rfl) | rfl | (simp only [List.length_drop, List.length_take]; rfl)) ?_
          with_reducible refine (bivouacref06_Of.calls _ _ lt t228 t229 t230 t231 _ ?side1 ?side2 A45.out).mono ?_
          (case side1 => repeat (first | exact (Kd.C_below HR201.out HB.out) | (with_reducible refine Kd.C_alloc ?_ _) | (with_reducible refine Kd.C_drewN ?_ _) | (with_reducible refine Kd.C_drew ?_)))
          (case side2 => exact HC201.out)
          rintro e w62 ⟨v232, rfl, ho0, hb⟩
          refine ⟨_, rfl, ?_⟩
          have n0_ := Aside0.mk (Kd.V_elder' (by (with_reducible repeat (first | apply Kd.V_alloc | apply Kd.V_drewN | apply Kd.V_drew)); exact HO_195003.out) (Kd.R_base ho0) hb)
          have n1_ := Aside0.mk (Kd.R_elder' (by (with_reducible repeat (first | apply Kd.R_alloc | apply Kd.R_drewN | apply Kd.R_drew)); exact HO211.out) (Kd.R_base ho0) hb)
          have n2_ := Aside0.mk (Kd.R_elder' (by (with_reducible repeat (first | apply Kd.R_alloc | apply Kd.R_drewN | apply Kd.R_drew)); exact HO216.out) (Kd.R_base ho0) hb)
          have n3_ := Aside0.mk (Kd.R_elder' (by (with_reducible repeat (first | apply Kd.R_alloc | apply Kd.R_drewN | apply Kd.R_drew)); exact HO224.out) (Kd.R_base ho0) hb)
          have n4_ := Aside0.mk (Kd.R_lower (Kd.R_new' (Kd.R_new' (Kd.R_new' ho0 (Kd.R_lt (by (with_reducible repeat (first | apply Kd.R_alloc | apply Kd.R_drewN | apply Kd.R_drew)); exact HO211.out))) (Kd.R_lt (by (with_reducible repeat (first | apply Kd.R_alloc | apply Kd.R_drewN | apply Kd.R_drew)); exact HO216.out))) (Kd.R_lt (by (with_reducible repeat (first | apply Kd.R_alloc | apply Kd.R_drewN | apply Kd.R_drew)); exact HO224.out))) (below_size (by repeat (first | (with_reducible first | exact HB.out | apply below_alloc | apply pw_below_drewN | apply below_drew1 | refine below_set ?_ GE194.out | refine below_set ?_ GE213.out) | exact HB.out))))
          have n5_ := Aside0.mk (blk_below (g := gb194) (o := .cells #[.int .i64 t195, .int .i64 t196, .int .i64 t197, .slice Ao12 t198.length co12] 24 (0, 0)) (by (with_reducible repeat (first | refine blk_drewN ?_ _ | refine blk_drew ?_ | refine blk_alloc ?_ _)); exact BK194.out) hb)
          have n6_ := Aside0.mk (blk_below (g := gb213) (o := .cells #[.int .i64 t206, .int .i64 t207, .int .i64 t208, .slice Ao54 t209.length co54] 24 (0, 0)) (by (with_reducible repeat (first | refine blk_drewN ?_ _ | refine blk_drew ?_ | refine blk_alloc ?_ _)); exact BK213.out) hb)
          have n7_ := Aside0.mk (below_step (by repeat (first | (with_reducible first | exact HB.out | apply below_alloc | apply pw_below_drewN | apply below_drew1 | refine below_set ?_ GE194.out | refine below_set ?_ GE213.out) | exact HB.out)) hb)
          clear HO_195003
          clear HO211
          clear HO216
          clear HO224
          clear BK194
          clear BK213
          clear HB
          have HO_195003 := n0_
          have HO211 := n1_
          have HO216 := n2_
          have HO224 := n3_
          have HO233 := n4_
          have BK194 := n5_
          have BK213 := n6_
          have HB := n7_
          clear n0_ n1_ n2_ n3_ n4_ n5_ n6_ n7_
          (try clear hb)
          (try clear hb2)
          (try clear hk)
          (try clear hi)
          (try clear ho0)
          obtain ⟨Ao63, co63, eo63⟩ := Kd.R_slice HO233.out
          (first | subst eo63 | (injection eo63 with f1_ f2_ f3_; have f4_ := f1_.symm; have f5_ := f3_.symm; clear f1_ f2_ f3_; subst f4_; subst f5_))
          refine hK.out _ _ ⟨(blk_cell BK213.out 0).trans rfl, (blk_cell BK213.out 1).trans rfl, (blk_cell BK213.out 2).trans rfl, (blk_cell BK213.out 3).trans rfl⟩ (fun hHeld => ?_)
          clear hK K
          refine norm_ (a' := ?_) ?_ ?_
          rotate_left
          ·
           show Act.put _ (some 75) _ = _
           simp only [Act.put, sA, sB, sC, i64_w, i32_w]
           rfl
          refine one_ (i := 3) (N := some 76) (bA 12 15) rfl rfl (one_of HT_.out (by kernel_rfl)) (by decide) (fun K hK => ?_)
          refine goes_ Try.func24 (by kernel_rfl) rfl #[.agg #[.int .i64 t206, .int .i64 t207, .int .i64 t208, .slice Ao54 t209.length co54], .agg #[.int .i64 t228, .int .i64 t229, .int .i64 t230, .slice Ao63 t231.length co63]] (by rfl) rfl rfl (by (try simp only [List.map_toArray, List.map_cons, List.map_nil]); first | done | rfl | (simp only [List.length_drop, List.length_take]; rfl)) ?_
          with_reducible refine (bivouacref06_Same.calls t206 t207 t208 _ _ t209 t228 t229 t230 _ _ t231 true _ ?side1 ?side2 ?side3 ?side4 A46.out).mono ?_
          (case side1 => repeat (first | exact (Kd.R_reads' HO211.out).2.2 | (with_reducible refine Kd.C_alloc ?_ _) | (with_reducible refine Kd.C_drewN ?_ _) | (with_reducible refine Kd.C_drew ?_)))
          (case side2 => exact (Kd.R_reads' HO211.out).2.1)
          (case side3 => repeat (first | exact (Kd.R_reads' HO233.out).2.2 | (with_reducible refine Kd.C_alloc ?_ _) | (with_reducible refine Kd.C_drewN ?_ _) | (with_reducible refine Kd.C_drew ?_)))
          (case side4 => exact (Kd.R_reads' HO233.out).2.1)
          rintro e w64 ⟨rfl, hb⟩
          refine ⟨_, rfl, ?_⟩
          have n0_ := Aside0.mk (Kd.V_below (by (with_reducible repeat (first | apply Kd.V_alloc | apply Kd.V_drewN | apply Kd.V_drew)); exact HO_195003.out) hb)
          have n1_ := Aside0.mk (Kd.R_below (by (with_reducible repeat (first | apply Kd.R_alloc | apply Kd.R_drewN | apply Kd.R_drew)); exact HO211.out) hb)
          have n2_ := Aside0.mk (Kd.R_below (by (with_reducible repeat (first | apply Kd.R_alloc | apply Kd.R_drewN | apply Kd.R_drew)); exact HO216.out) hb)
          have n3_ := Aside0.mk (Kd.R_below (by (with_reducible repeat (first | apply Kd.R_alloc | apply Kd.R_drewN | apply Kd.R_drew)); exact HO224.out) hb)
          have n4_ := Aside0.mk (Kd.R_below (by (with_reducible repeat (first | apply Kd.R_alloc | apply Kd.R_drewN | apply Kd.R_drew)); exact HO233.out) hb)
          have n5_ := Aside0.mk (blk_below (g := gb194) (o := .cells #[.int .i64 t195, .int .i64 t196, .int .i64 t197, .slice Ao12 t198.length co12] 24 (0, 0)) (by (with_reducible repeat (first | refine blk_drewN ?_ _ | refine blk_drew ?_ | refine blk_alloc ?_ _)); exact BK194.out) hb)
          have n6_ := Aside0.mk (blk_below (g := gb213) (o := .cells #[.int .i64 t206, .int .i64 t207, .int .i64 t208, .slice Ao54 t209.length co54] 24 (0, 0)) (by (with_reducible repeat (first | refine blk_drewN ?_ _ | refine blk_drew ?_ | refine blk_alloc ?_ _)); exact BK213.out) hb)
          have n7_ := Aside0.mk (below_step (by repeat (first | (with_reducible first | exact HB.out | apply below_alloc | apply pw_below_drewN | apply below_drew1 | refine below_set ?_ GE194.out | refine below_set ?_ GE213.out) | exact HB.out)) hb)
          clear HO_195003
          clear HO211
          clear HO216
          clear HO224
          clear HO233
          clear BK194
          clear BK213
          clear HB
          have HO_195003 := n0_
          have HO211 := n1_
          have HO216 := n2_
          have HO224 := n3_
          have HO233 := n4_
          have BK194 := n5_
          have BK213 := n6_
          have HB := n7_
          clear n0_ n1_ n2_ n3_ n4_ n5_ n6_ n7_
          (try clear hb)
          (try clear hb2)
          (try clear hk)
          (try clear hi)
          refine hK.out _ _ ⟨(blk_cell BK213.out 0).trans rfl, (blk_cell BK213.out 1).trans rfl, (blk_cell BK213.out 2).trans rfl, (blk_cell BK213.out 3).trans rfl⟩ (fun hHeld => ?_)
          clear hK K
          refine norm_ (a' := ?_) ?_ ?_
          rotate_left
          ·
           show Act.put _ (some 76) _ = _
           simp only [Act.put, sA, sB, sC, i64_w, i32_w]
           rfl
          refine pure_ (i := 4) (N := some 77) (v := ?_) (a' := ?_) (bA 12 31) rfl rfl (any_of HT_.out (by kernel_rfl)) (fun _ _ _ h => h) (Or.inl ⟨by rfl, ?_⟩) ?_ ?_
          rotate_left
          ·
           intro w'
           go_simp
           with_reducible rfl
          rotate_left
          ·
           simp only [Act.put, sA, sB, sC, i64_w, i32_w]
           rfl
          refine pure_ (i := 5) (N := some 78) (v := ?_) (a' := ?_) (bA 12 63) rfl rfl (any_of HT_.out (by kernel_rfl)) (fun _ _ _ h => h) (Or.inl ⟨by rfl, ?_⟩) ?_ ?_
          rotate_left
          ·
           intro w'
           go_simp
           with_reducible rfl
          rotate_left
          ·
           simp only [Act.put, sA, sB, sC, i64_w, i32_w]
           rfl
          refine pure_ (i := 6) (N := some 79) (v := ?_) (a' := ?_) (bA 12 127) rfl rfl (any_of HT_.out (by kernel_rfl)) (fun _ _ _ h => h) (Or.inl ⟨by rfl, ?_⟩) ?_ ?_
          rotate_left
          ·
           intro w'
           go_simp
           with_reducible rfl
          rotate_left
          ·
           simp only [Act.put, sA, sB, sC, i64_w, i32_w]
           rfl
          refine pure_ (i := 7) (N := some 80) (v := ?_) (a' := ?_) (bA 12 255) rfl rfl (any_of HT_.out (by kernel_rfl)) (fun _ _ _ h => h) (Or.inl ⟨by rfl, ?_⟩) ?_ ?_
          rotate_left
          ·
           intro w'
           go_simp
           with_reducible rfl
          rotate_left
          ·
           simp only [Act.put, sA, sB, sC, i64_w, i32_w]
           rfl
          refine pure_ (i := 8) (N := some 81) (v := ?_) (a' := ?_) (bA 12 511) rfl rfl (any_of HT_.out (by kernel_rfl)) (fun _ _ _ h => h) (Or.inl ⟨by rfl, ?_⟩) ?_ ?_
          rotate_left
          ·
           intro w'
           go_simp
           with_reducible rfl
          rotate_left
          ·
           simp only [Act.put, sA, sB, sC, i64_w, i32_w]
           rfl
          refine one_ (i := 9) (N := some 82) (bA 12 1023) rfl rfl (one_of HT_.out (by kernel_rfl)) (by decide) (fun K hK => ?_)
          refine goes_ Try.func14 (by kernel_rfl) rfl #[] (by rfl) rfl rfl (by (try simp only [List.map_toArray, List.map_cons, List.map_nil]); first | done | rfl | (simp only [List.length_drop, List.length_take]; rfl)) ?_
          with_reducible refine (bivouaclaw06_awake.calls kj6  t235 _ A49.out).mono ?_
          rintro e w65 ⟨rfl, hb⟩
          refine ⟨_, rfl, ?_⟩
          have n0_ := Aside0.mk (Kd.V_below (by (with_reducible repeat (first | apply Kd.V_alloc | apply Kd.V_drewN | apply Kd.V_drew)); exact HO_195003.out) hb)
          have n1_ := Aside0.mk (Kd.R_below (by (with_reducible repeat (first | apply Kd.R_alloc | apply Kd.R_drewN | apply Kd.R_drew)); exact HO211.out) hb)
          have n2_ := Aside0.mk (Kd.R_below (by (with_reducible repeat (first | apply Kd.R_alloc | apply Kd.R_drewN | apply Kd.R_drew)); exact HO216.out) hb)
          have n3_ := Aside0.mk (Kd.R_below (by (with_reducible repeat (first | apply Kd.R_alloc | apply Kd.R_drewN | apply Kd.R_drew)); exact HO224.out) hb)
          have n4_ := Aside0.mk (Kd.R_below (by (with_reducible repeat (first | apply Kd.R_alloc | apply Kd.R_drewN | apply Kd.R_drew)); exact HO233.out) hb)
          have n5_ := Aside0.mk (blk_below (g := gb194) (o := .cells #[.int .i64 t195, .int .i64 t196, .int .i64 t197, .slice Ao12 t198.length co12] 24 (0, 0)) (by (with_reducible repeat (first | refine blk_drewN ?_ _ | refine blk_drew ?_ | refine blk_alloc ?_ _)); exact BK194.out) hb)
          have n6_ := Aside0.mk (blk_below (g := gb213) (o := .cells #[.int .i64 t206, .int .i64 t207, .int .i64 t208, .slice Ao54 t209.length co54] 24 (0, 0)) (by (with_reducible repeat (first | refine blk_drewN ?_ _ | refine blk_drew ?_ | refine blk_alloc ?_ _)); exact BK213.out) hb)
          have n7_ := Aside0.mk (below_step (by repeat (first | (with_reducible first | exact HB.out | apply below_alloc | apply pw_below_drewN | apply below_drew1 | refine below_set ?_ GE194.out | refine below_set ?_ GE213.out) | exact HB.out)) hb)
          clear HO_195003
          clear HO211
          clear HO216
          clear HO224
          clear HO233
          clear BK194
          clear BK213
          clear HB
          have HO_195003 := n0_
          have HO211 := n1_
          have HO216 := n2_
          have HO224 := n3_
          have HO233 := n4_
          have BK194 := n5_
          have BK213 := n6_
          have HB := n7_
          clear n0_ n1_ n2_ n3_ n4_ n5_ n6_ n7_
          (try clear hb)
          (try clear hb2)
          (try clear hk)
          (try clear hi)
          refine hK.out _ _ ⟨(blk_cell BK213.out 0).trans rfl, (blk_cell BK213.out 1).trans rfl, (blk_cell BK213.out 2).trans rfl, (blk_cell BK213.out 3).trans rfl⟩ (fun hHeld => ?_)
          clear hK K
          refine norm_ (a' := ?_) ?_ ?_
          rotate_left
          ·
           show Act.put _ (some 82) _ = _
           simp only [Act.put, sA, sB, sC, i64_w, i32_w]
           rfl
          refine pure_ (i := 10) (N := some 83) (v := ?_) (a' := ?_) (bA 12 2047) rfl rfl (any_of HT_.out (by kernel_rfl)) (fun _ _ _ h => h) (Or.inl ⟨by rfl, ?_⟩) ?_ ?_
          rotate_left
          ·
           intro w'
           go_simp
           with_reducible rfl
          rotate_left
          ·
           simp only [Act.put, sA, sB, sC, i64_w, i32_w]
           rfl
          refine pure_ (i := 11) (N := some 4) (v := ?_) (a' := ?_) (bA 12 4095) rfl rfl (any_of HT_.out (by kernel_rfl)) (fun _ _ _ h => h) (Or.inl ⟨by rfl, ?_⟩) ?_ ?_
          rotate_left
          ·
           intro w'
           go_simp
           with_reducible rfl
          rotate_left
          ·
           simp only [Act.put, sA, sB, sC, i64_w, i32_w]
           rfl
          refine done_ (done_of HT_.out (by kernel_rfl)) ?_
          try go_wp2
          go_ret
          exact ⟨by first | rfl | (simp [errW_none, errW_some] <;> rfl) | (simp [*, errW_none, errW_some] <;> rfl) | (rw [Int.tdiv_eq_ediv_of_nonneg (by assumption)]; rfl), by repeat (first | (with_reducible first | exact HB.out | apply below_alloc | apply pw_below_drewN | apply below_drew1 | refine below_set ?_ GE194.out | refine below_set ?_ GE213.out) | exact HB.out)⟩
         ·
          rw [if_neg c48] at H
          have c48b0 : (t212 == 0) = false := beq_eq_false_iff_ne.mpr c48
          have c48b1 : (t212 != 0) = true := bne_iff_ne.mpr c48
          exact absurd H (by simp)
        ·
         replace c47 := Bool.eq_false_iff.mpr c47
         subst c47
         have H1 : (none) = some r := by rw [if_neg (show ¬ (false = true) by decide)] at H; exact H
         clear H
         have H := H1
         clear H1
         exact absurd H (by simp)
       ·
        rw [if_neg c44] at H
        have c44b0 : (t225 == 0) = false := beq_eq_false_iff_ne.mpr c44
        have c44b1 : (t225 != 0) = true := bne_iff_ne.mpr c44
        replace H := Option.bind_eq_some_iff.mp H
        obtain ⟨t226, A660, H⟩ := H
        replace H : (if t226 = true then (if t212 = t225 then ((bivouaclaw06_awake.f kj6).bind fun t227 => (some t227)) else (none)) else (none)) = some r := H
        have A66 := Aside0.mk A660
        clear A660
        by_cases c67 : t226 = true
        ·
         subst c67
         have H1 : (if t212 = t225 then ((bivouaclaw06_awake.f kj6).bind fun t227 => (some t227)) else (none)) = some r := by rw [if_pos rfl] at H; exact H
         clear H
         have H := H1
         clear H1
         by_cases c68 : t212 = t225
         ·
          rw [if_pos c68] at H
          have c68b0 : (t212 == t225) = true := beq_iff_eq.mpr c68
          have c68b1 : (t212 != t225) = false := bne_eq_false_iff_eq.mpr c68
          clear c68
          replace H := Option.bind_eq_some_iff.mp H
          obtain ⟨t227, A690, H⟩ := H
          replace H : (some t227) = some r := H
          have A69 := Aside0.mk A690
          clear A690
          obtain rfl := Option.some.inj H
          go_wp2_with (first | ((with_reducible refine gate_callee (f := 22) rfl ?_); refine goesL_ (some 36) rfl rfl Try.func22 (by kernel_rfl) rfl #[.slice A1 lt.length c1] rfl (by (try simp only [List.map_toArray, List.map_cons, List.map_nil]); first | done | (rw [show lt.length = 4300 from (by rw [List.length_take]; have h_ : (4300 : Int) ≤ (l1.length : Int) := of_decide_eq_true (by first | (with_reducible assumption) | assumption); omega)] <;> rfl) | rfl | (simp only [List.length_drop, List.length_take]; rfl)) ?_; (with_reducible refine (relief_Decode.calls kj6 _ _ lt t206 t207 t208 t209 t212 _ ?side1 ?side2 A23.out).mono ?_); (case side1 => repeat (first | exact (Kd.C_below HR201.out HB.out) | (with_reducible refine Kd.C_alloc ?_ _) | (with_reducible refine Kd.C_drewN ?_ _) | (with_reducible refine Kd.C_drew ?_))); (case side2 => exact HC201.out); rintro e w70 ⟨v210, rfl, ho0, hb⟩; refine ⟨_, rfl, ?_⟩; have n0_ := Aside0.mk (Kd.V_elder' (by (with_reducible repeat (first | apply Kd.V_alloc | apply Kd.V_drewN | apply Kd.V_drew)); exact HO_195003.out) (Kd.R_base ho0) hb); have n1_ := Aside0.mk (Kd.R_lower ho0 (below_size (by repeat (first | (with_reducible first | exact HB.out | apply below_alloc | apply pw_below_drewN | apply below_drew1 | refine below_set ?_ GE194.out) | exact HB.out)))); have n2_ := Aside0.mk (blk_below (g := gb194) (o := .cells #[.int .i64 t195, .int .i64 t196, .int .i64 t197, .slice Ao12 t198.length co12] 24 (0, 0)) (by (with_reducible repeat (first | refine blk_drewN ?_ _ | refine blk_drew ?_ | refine blk_alloc ?_ _)); exact BK194.out) hb); have n3_ := Aside0.mk (below_step (by repeat (first | (with_reducible first | exact HB.out | apply below_alloc | apply pw_below_drewN | apply below_drew1 | refine below_set ?_ GE194.out) | exact HB.out)) hb); clear HO_195003; clear BK194; clear HB; have HO_195003 := n0_; have HO211 := n1_; have BK194 := n2_; have HB := n3_; clear n0_ n1_ n2_ n3_; (try clear hb); (try clear hb2); (try clear hk); (try clear hi); (try clear ho0)) | ((with_reducible refine gate_dst (N := 6) rfl ?_); refine box_event ?hg (N := 6) ?hd (cs := #[.int .i64 0, .int .i64 0, .int .i64 0, .slice none 0 0]) (t := 24) ?hr ?_; (case hd => rfl); (case hg => rfl); (case hr => first | (go_simp; done) | (go_simp; rfl)); intro gb213 hg w71 hbox hb; have n0_ := Aside0.mk (Kd.V_below (Kd.V_elderB (by (with_reducible repeat (first | apply Kd.V_alloc | apply Kd.V_drewN | apply Kd.V_drew)); exact HO_195003.out) gb213 (Nat.le_of_eq hg.symm)) hb); have n1_ := Aside0.mk (Kd.R_below (by (with_reducible repeat (first | apply Kd.R_alloc | apply Kd.R_drewN | apply Kd.R_drew)); exact HO211.out) hb); have n2_ := Aside0.mk (blk_below (g := gb194) (o := .cells #[.int .i64 t195, .int .i64 t196, .int .i64 t197, .slice Ao12 t198.length co12] 24 (0, 0)) (by (with_reducible repeat (first | refine blk_drewN ?_ _ | refine blk_drew ?_ | refine blk_alloc ?_ _)); exact BK194.out) hb); have n3_ := Aside0.mk (below_step (by repeat (first | (with_reducible first | exact HB.out | apply below_alloc | apply pw_below_drewN | apply below_drew1 | refine below_set ?_ GE194.out) | exact HB.out)) hb); have n4_ := Aside0.mk (hbox); have n5_ := Aside0.mk ((by rw [hg]; exact (below_size (by repeat (first | (with_reducible first | exact HB.out | apply below_alloc | apply pw_below_drewN | apply below_drew1 | refine below_set ?_ GE194.out) | exact HB.out))) : w.heap.size ≤ gb213)); have n6_ := Aside0.mk ((by rw [hg]; exact (below_size (by repeat (first | (with_reducible first | exact HB.out | apply below_alloc | apply pw_below_drewN | apply below_drew1 | refine below_set ?_ GE194.out) | exact HB.out))) : w.heap.size ≤ gb213)); have n7_ := Aside0.mk ((by rw [hg]; exact Nat.ne_of_lt (blk_lt (g := gb194) (o := .cells #[.int .i64 t195, .int .i64 t196, .int .i64 t197, .slice Ao12 t198.length co12] 24 (0, 0)) (by (with_reducible repeat (first | refine blk_drewN ?_ _ | refine blk_drew ?_ | refine blk_alloc ?_ _)); exact BK194.out)) : gb194 ≠ gb213)); have n8_ := Aside0.mk ((by rw [hg]; exact Nat.ne_of_gt (blk_lt (g := gb194) (o := .cells #[.int .i64 t195, .int .i64 t196, .int .i64 t197, .slice Ao12 t198.length co12] 24 (0, 0)) (by (with_reducible repeat (first | refine blk_drewN ?_ _ | refine blk_drew ?_ | refine blk_alloc ?_ _)); exact BK194.out)) : gb213 ≠ gb194)); clear HO_195003; clear HO211; clear BK194; clear HB; have HO_195003 := n0_; have HO211 := n1_; have BK194 := n2_; have HB := n3_; have BK213 := n4_; have GW213 := n5_; have GE213 := n6_; have NB194_213 := n7_; have NB213_194 := n8_; clear n0_ n1_ n2_ n3_ n4_ n5_ n6_ n7_ n8_; clear hb hbox hg; have hnb72 := NB213_194.out; have hnc72 := NB194_213.out; have hcz73_0 : w71.cell? ⟨gb213, 0, none⟩ = some (.int .i64 0) := (blk_cell BK213.out 0).trans rfl; have hcz73_1 : w71.cell? ⟨gb213, 1, none⟩ = some (.int .i64 0) := (blk_cell BK213.out 1).trans rfl; have hcz73_2 : w71.cell? ⟨gb213, 2, none⟩ = some (.int .i64 0) := (blk_cell BK213.out 2).trans rfl; have hcz73_3 : w71.cell? ⟨gb213, 3, none⟩ = some (.slice none 0 0) := (blk_cell BK213.out 3).trans rfl; have hfz73_0 := blk_frozen BK213.out 0; have hfz73_1 := blk_frozen BK213.out 1; have hfz73_2 := blk_frozen BK213.out 2; have hfz73_3 := blk_frozen BK213.out 3; obtain ⟨Ao74, co74, eo74⟩ := Kd.R_slice HO211.out; subst eo74; have hcz75_0 : w71.cell? ⟨gb194, 0, none⟩ = some (.int .i64 t195) := (blk_cell BK194.out 0).trans rfl; have hcz75_1 : w71.cell? ⟨gb194, 1, none⟩ = some (.int .i64 t196) := (blk_cell BK194.out 1).trans rfl; have hcz75_2 : w71.cell? ⟨gb194, 2, none⟩ = some (.int .i64 t197) := (blk_cell BK194.out 2).trans rfl; have hcz75_3 : w71.cell? ⟨gb194, 3, none⟩ = some (.slice Ao12 t198.length co12) := (blk_cell BK194.out 3).trans rfl; have hfz75_0 := blk_frozen BK194.out 0; have hfz75_1 := blk_frozen BK194.out 1; have hfz75_2 := blk_frozen BK194.out 2; have hfz75_3 := blk_frozen BK194.out 3) | ((with_reducible refine gate_callee (f := 23) rfl ?_); refine goesL_ (some 40) rfl rfl Try.func23 (by kernel_rfl) rfl #[.agg #[.int .i64 t195, .int .i64 t196, .int .i64 t197, .slice Ao12 t198.length co12]] rfl (by (try simp only [List.map_toArray, List.map_cons, List.map_nil]); first | done | rfl | (simp only [List.length_drop, List.length_take]; rfl)) ?_; (with_reducible refine (relief_Encode.calls kj6 t195 t196 t197 _ _ t198 t214 _ ?side1 ?side2 A24.out).mono ?_); (case side1 => refine (Kd.V_reads' (e := 5) (base := w.heap.size) (ok := fun k_ => ((k_ ≠ gb194 ∧ some k_ ≠ (.slice Ao74 t209.length co74 : Value).ownBlock) ∧ k_ ≠ gb213)) (n := t198.length) (c := co12) ?_).2.2; exact (by (with_reducible repeat (first | apply Kd.V_alloc | apply Kd.V_drewN | apply Kd.V_drew)); exact (Kd.V_mono (Kd.V_far (p := ⟨gb213, 3, none⟩) (Kd.V_far (p := ⟨gb213, 2, none⟩) (Kd.V_far (p := ⟨gb213, 1, none⟩) (Kd.V_far (p := ⟨gb213, 0, none⟩) (Kd.V_mono HO_195003.out (fun k_ hk => (⟨hk, hk.2⟩ : _ ∧ k_ ≠ gb213))) (fun _ hk => hk.2) (.int .i64 t206)) (fun _ hk => hk.2) (.int .i64 t207)) (fun _ hk => hk.2) (.int .i64 t208)) (fun _ hk => hk.2) (.slice Ao74 t209.length co74)) (fun _ h_ => h_.1)))); (case side2 => exact (Kd.V_reads' HO_195003.out).2.1); rintro e w76 ⟨v215, rfl, ho0, hb⟩; refine ⟨_, rfl, ?_⟩; have n0_ := Aside0.mk (Kd.V_elder' (by (with_reducible repeat (first | apply Kd.V_alloc | apply Kd.V_drewN | apply Kd.V_drew)); exact (Kd.V_mono (Kd.V_far (p := ⟨gb213, 3, none⟩) (Kd.V_far (p := ⟨gb213, 2, none⟩) (Kd.V_far (p := ⟨gb213, 1, none⟩) (Kd.V_far (p := ⟨gb213, 0, none⟩) (Kd.V_mono HO_195003.out (fun k_ hk => (⟨hk, hk.2⟩ : _ ∧ k_ ≠ gb213))) (fun _ hk => hk.2) (.int .i64 t206)) (fun _ hk => hk.2) (.int .i64 t207)) (fun _ hk => hk.2) (.int .i64 t208)) (fun _ hk => hk.2) (.slice Ao74 t209.length co74)) (fun _ h_ => h_.1))) (Kd.R_base ho0) hb); have n1_ := Aside0.mk (Kd.R_elder' (by (with_reducible repeat (first | apply Kd.R_alloc | apply Kd.R_drewN | apply Kd.R_drew)); exact (Kd.R_mono (Kd.R_far (p := ⟨gb213, 3, none⟩) (Kd.R_far (p := ⟨gb213, 2, none⟩) (Kd.R_far (p := ⟨gb213, 1, none⟩) (Kd.R_far (p := ⟨gb213, 0, none⟩) (Kd.R_types HO211.out BK213.out (by decide)) (fun _ hk => hk.2) (.int .i64 t206)) (fun _ hk => hk.2) (.int .i64 t207)) (fun _ hk => hk.2) (.int .i64 t208)) (fun _ hk => hk.2) (.slice Ao74 t209.length co74)) (fun _ h_ => h_.1))) (Kd.R_base ho0) hb); have n2_ := Aside0.mk (Kd.R_lower (Kd.R_new' ho0 (Kd.R_lt (by (with_reducible repeat (first | apply Kd.R_alloc | apply Kd.R_drewN | apply Kd.R_drew)); exact (Kd.R_mono (Kd.R_far (p := ⟨gb213, 3, none⟩) (Kd.R_far (p := ⟨gb213, 2, none⟩) (Kd.R_far (p := ⟨gb213, 1, none⟩) (Kd.R_far (p := ⟨gb213, 0, none⟩) (Kd.R_types HO211.out BK213.out (by decide)) (fun _ hk => hk.2) (.int .i64 t206)) (fun _ hk => hk.2) (.int .i64 t207)) (fun _ hk => hk.2) (.int .i64 t208)) (fun _ hk => hk.2) (.slice Ao74 t209.length co74)) (fun _ h_ => h_.1))))) (below_size (by repeat (first | (with_reducible first | exact HB.out | apply below_alloc | apply pw_below_drewN | apply below_drew1 | refine below_set ?_ GE194.out | refine below_set ?_ GE213.out) | exact HB.out)))); have n3_ := Aside0.mk (blk_below (g := gb194) (o := .cells #[.int .i64 t195, .int .i64 t196, .int .i64 t197, .slice Ao12 t198.length co12] 24 (0, 0)) (by (with_reducible repeat (first | refine blk_drewN ?_ _ | refine blk_drew ?_ | refine blk_alloc ?_ _)); refine blk_far ?_ NB194_213.out _; (with_reducible repeat (first | refine blk_drewN ?_ _ | refine blk_drew ?_ | refine blk_alloc ?_ _)); refine blk_far ?_ NB194_213.out _; (with_reducible repeat (first | refine blk_drewN ?_ _ | refine blk_drew ?_ | refine blk_alloc ?_ _)); refine blk_far ?_ NB194_213.out _; (with_reducible repeat (first | refine blk_drewN ?_ _ | refine blk_drew ?_ | refine blk_alloc ?_ _)); refine blk_far ?_ NB194_213.out _; (with_reducible repeat (first | refine blk_drewN ?_ _ | refine blk_drew ?_ | refine blk_alloc ?_ _)); exact BK194.out) hb); have n4_ := Aside0.mk (blk_below (g := gb213) (o := .cells #[.int .i64 t206, .int .i64 t207, .int .i64 t208, .slice Ao74 t209.length co74] 24 (0, 0)) (by (with_reducible repeat (first | refine blk_drewN ?_ _ | refine blk_drew ?_ | refine blk_alloc ?_ _)); refine blk_put (cs := #[.int .i64 t206, .int .i64 t207, .int .i64 t208, .slice none 0 0]) ?_ 3 _ rfl; (with_reducible repeat (first | refine blk_drewN ?_ _ | refine blk_drew ?_ | refine blk_alloc ?_ _)); refine blk_put (cs := #[.int .i64 t206, .int .i64 t207, .int .i64 0, .slice none 0 0]) ?_ 2 _ rfl; (with_reducible repeat (first | refine blk_drewN ?_ _ | refine blk_drew ?_ | refine blk_alloc ?_ _)); refine blk_put (cs := #[.int .i64 t206, .int .i64 0, .int .i64 0, .slice none 0 0]) ?_ 1 _ rfl; (with_reducible repeat (first | refine blk_drewN ?_ _ | refine blk_drew ?_ | refine blk_alloc ?_ _)); refine blk_put (cs := #[.int .i64 0, .int .i64 0, .int .i64 0, .slice none 0 0]) ?_ 0 _ rfl; (with_reducible repeat (first | refine blk_drewN ?_ _ | refine blk_drew ?_ | refine blk_alloc ?_ _)); exact BK213.out) hb); have n5_ := Aside0.mk (below_step (by repeat (first | (with_reducible first | exact HB.out | apply below_alloc | apply pw_below_drewN | apply below_drew1 | refine below_set ?_ GE194.out | refine below_set ?_ GE213.out) | exact HB.out)) hb); clear HO_195003; clear HO211; clear BK194; clear BK213; clear HB; have HO_195003 := n0_; have HO211 := n1_; have HO216 := n2_; have BK194 := n3_; have BK213 := n4_; have HB := n5_; clear n0_ n1_ n2_ n3_ n4_ n5_; (try clear hb); (try clear hb2); (try clear hk); (try clear hi); (try clear ho0); have hcv77 := own_string (P := Try.prog) Try.underlying22 Try.underlying5 Try.underlying9 (Kd.own_of_R HO216.out)) | ((with_reducible refine gate_callee (f := 25) rfl ?_); refine goesL_ (some 58) rfl rfl Try.func25 (by kernel_rfl) rfl #[.slice A1 lt.length c1] rfl (by (try simp only [List.map_toArray, List.map_cons, List.map_nil]); first | done | (rw [show lt.length = 4300 from (by rw [List.length_take]; have h_ : (4300 : Int) ≤ (l1.length : Int) := of_decide_eq_true (by first | (with_reducible assumption) | assumption); omega)] <;> rfl) | rfl | (simp only [List.length_drop, List.length_take]; rfl)) ?_; (with_reducible refine (bivouacref06_Of.calls _ _ lt t219 t220 t221 t222 _ ?side1 ?side2 A42.out).mono ?_); (case side1 => repeat (first | exact (Kd.C_below HR201.out HB.out) | (with_reducible refine Kd.C_alloc ?_ _) | (with_reducible refine Kd.C_drewN ?_ _) | (with_reducible refine Kd.C_drew ?_))); (case side2 => exact HC201.out); rintro e w78 ⟨v223, rfl, ho0, hb⟩; refine ⟨_, rfl, ?_⟩; have n0_ := Aside0.mk (Kd.V_elder' (by (with_reducible repeat (first | apply Kd.V_alloc | apply Kd.V_drewN | apply Kd.V_drew)); exact HO_195003.out) (Kd.R_base ho0) hb); have n1_ := Aside0.mk (Kd.R_elder' (by (with_reducible repeat (first | apply Kd.R_alloc | apply Kd.R_drewN | apply Kd.R_drew)); exact HO211.out) (Kd.R_base ho0) hb); have n2_ := Aside0.mk (Kd.R_elder' (by (with_reducible repeat (first | apply Kd.R_alloc | apply Kd.R_drewN | apply Kd.R_drew)); exact HO216.out) (Kd.R_base ho0) hb); have n3_ := Aside0.mk (Kd.R_lower (Kd.R_new' (Kd.R_new' ho0 (Kd.R_lt (by (with_reducible repeat (first | apply Kd.R_alloc | apply Kd.R_drewN | apply Kd.R_drew)); exact HO211.out))) (Kd.R_lt (by (with_reducible repeat (first | apply Kd.R_alloc | apply Kd.R_drewN | apply Kd.R_drew)); exact HO216.out))) (below_size (by repeat (first | (with_reducible first | exact HB.out | apply below_alloc | apply pw_below_drewN | apply below_drew1 | refine below_set ?_ GE194.out | refine below_set ?_ GE213.out) | exact HB.out)))); have n4_ := Aside0.mk (blk_below (g := gb194) (o := .cells #[.int .i64 t195, .int .i64 t196, .int .i64 t197, .slice Ao12 t198.length co12] 24 (0, 0)) (by (with_reducible repeat (first | refine blk_drewN ?_ _ | refine blk_drew ?_ | refine blk_alloc ?_ _)); exact BK194.out) hb); have n5_ := Aside0.mk (blk_below (g := gb213) (o := .cells #[.int .i64 t206, .int .i64 t207, .int .i64 t208, .slice Ao74 t209.length co74] 24 (0, 0)) (by (with_reducible repeat (first | refine blk_drewN ?_ _ | refine blk_drew ?_ | refine blk_alloc ?_ _)); exact BK213.out) hb); have n6_ := Aside0.mk (below_step (by repeat (first | (with_reducible first | exact HB.out | apply below_alloc | apply pw_below_drewN | apply below_drew1 | refine below_set ?_ GE194.out | refine below_set ?_ GE213.out) | exact HB.out)) hb); clear HO_195003; clear HO211; clear HO216; clear BK194; clear BK213; clear HB; have HO_195003 := n0_; have HO211 := n1_; have HO216 := n2_; have HO224 := n3_; have BK194 := n4_; have BK213 := n5_; have HB := n6_; clear n0_ n1_ n2_ n3_ n4_ n5_ n6_; (try clear hb); (try clear hb2); (try clear hk); (try clear hi); (try clear ho0); obtain ⟨Ao79, co79, eo79⟩ := Kd.R_slice HO224.out; subst eo79) | ((with_reducible refine gate_callee (f := 10) rfl ?_); refine goesL_ (some 59) rfl rfl Try.func10 (by kernel_rfl) rfl #[.agg #[.int .i64 t219, .int .i64 t220, .int .i64 t221, .slice Ao79 t222.length co79]] rfl (by (try simp only [List.map_toArray, List.map_cons, List.map_nil]); first | done | rfl | (simp only [List.length_drop, List.length_take]; rfl)) ?_; (with_reducible refine (bivouacref06_Check.calls kj6 t219 t220 t221 _ _ t222 t225 _ ?side1 ?side2 A43.out).mono ?_); (case side1 => repeat (first | exact (Kd.R_reads' HO224.out).2.2 | (with_reducible refine Kd.C_alloc ?_ _) | (with_reducible refine Kd.C_drewN ?_ _) | (with_reducible refine Kd.C_drew ?_))); (case side2 => exact (Kd.R_reads' HO224.out).2.1); rintro e w80 ⟨rfl, hb⟩; refine ⟨_, rfl, ?_⟩; have n0_ := Aside0.mk (Kd.V_below (by (with_reducible repeat (first | apply Kd.V_alloc | apply Kd.V_drewN | apply Kd.V_drew)); exact HO_195003.out) hb); have n1_ := Aside0.mk (Kd.R_below (by (with_reducible repeat (first | apply Kd.R_alloc | apply Kd.R_drewN | apply Kd.R_drew)); exact HO211.out) hb); have n2_ := Aside0.mk (Kd.R_below (by (with_reducible repeat (first | apply Kd.R_alloc | apply Kd.R_drewN | apply Kd.R_drew)); exact HO216.out) hb); have n3_ := Aside0.mk (Kd.R_below (by (with_reducible repeat (first | apply Kd.R_alloc | apply Kd.R_drewN | apply Kd.R_drew)); exact HO224.out) hb); have n4_ := Aside0.mk (blk_below (g := gb194) (o := .cells #[.int .i64 t195, .int .i64 t196, .int .i64 t197, .slice Ao12 t198.length co12] 24 (0, 0)) (by (with_reducible repeat (first | refine blk_drewN ?_ _ | refine blk_drew ?_ | refine blk_alloc ?_ _)); exact BK194.out) hb); have n5_ := Aside0.mk (blk_below (g := gb213) (o := .cells #[.int .i64 t206, .int .i64 t207, .int .i64 t208, .slice Ao74 t209.length co74] 24 (0, 0)) (by (with_reducible repeat (first | refine blk_drewN ?_ _ | refine blk_drew ?_ | refine blk_alloc ?_ _)); exact BK213.out) hb); have n6_ := Aside0.mk (below_step (by repeat (first | (with_reducible first | exact HB.out | apply below_alloc | apply pw_below_drewN | apply below_drew1 | refine below_set ?_ GE194.out | refine below_set ?_ GE213.out) | exact HB.out)) hb); clear HO_195003; clear HO211; clear HO216; clear HO224; clear BK194; clear BK213; clear HB; have HO_195003 := n0_; have HO211 := n1_; have HO216 := n2_; have HO224 := n3_; have BK194 := n4_; have BK213 := n5_; have HB := n6_; clear n0_ n1_ n2_ n3_ n4_ n5_ n6_; (try clear hb); (try clear hb2); (try clear hk); (try clear hi); have hcz81_0 : w80.cell? ⟨gb213, 0, none⟩ = some (.int .i64 t206) := (blk_cell BK213.out 0).trans rfl; have hcz81_1 : w80.cell? ⟨gb213, 1, none⟩ = some (.int .i64 t207) := (blk_cell BK213.out 1).trans rfl; have hcz81_2 : w80.cell? ⟨gb213, 2, none⟩ = some (.int .i64 t208) := (blk_cell BK213.out 2).trans rfl; have hcz81_3 : w80.cell? ⟨gb213, 3, none⟩ = some (.slice Ao74 t209.length co74) := (blk_cell BK213.out 3).trans rfl; have hfz81_0 := blk_frozen BK213.out 0; have hfz81_1 := blk_frozen BK213.out 1; have hfz81_2 := blk_frozen BK213.out 2; have hfz81_3 := blk_frozen BK213.out 3) | ((with_reducible refine gate_callee (f := 24) rfl ?_); refine goesL_ (some 64) rfl rfl Try.func24 (by kernel_rfl) rfl #[.agg #[.int .i64 t206, .int .i64 t207, .int .i64 t208, .slice Ao74 t209.length co74], .agg #[.int .i64 0, .int .i64 0, .int .i64 0, .slice none 0 0]] rfl (by (try simp only [List.map_toArray, List.map_cons, List.map_nil]); first | done | rfl | (simp only [List.length_drop, List.length_take]; rfl)) ?_; (refine (bivouacref06_Same.calls t206 t207 t208 _ _ t209 0 0 0 _ _ ([] : List Int) true _ ?side1 ?side2 ?side3 ?side4 A66.out).mono ?_); (case side1 => repeat (first | exact (Kd.R_reads' HO211.out).2.2 | (with_reducible refine Kd.C_alloc ?_ _) | (with_reducible refine Kd.C_drewN ?_ _) | (with_reducible refine Kd.C_drew ?_))); (case side2 => exact (Kd.R_reads' HO211.out).2.1); (case side3 => exact Kd.C_nil _ _); (case side4 => exact Nat.le_refl _); rintro e w82 ⟨rfl, hb⟩; refine ⟨_, rfl, ?_⟩; have n0_ := Aside0.mk (Kd.V_below (by (with_reducible repeat (first | apply Kd.V_alloc | apply Kd.V_drewN | apply Kd.V_drew)); exact HO_195003.out) hb); have n1_ := Aside0.mk (Kd.R_below (by (with_reducible repeat (first | apply Kd.R_alloc | apply Kd.R_drewN | apply Kd.R_drew)); exact HO211.out) hb); have n2_ := Aside0.mk (Kd.R_below (by (with_reducible repeat (first | apply Kd.R_alloc | apply Kd.R_drewN | apply Kd.R_drew)); exact HO216.out) hb); have n3_ := Aside0.mk (Kd.R_below (by (with_reducible repeat (first | apply Kd.R_alloc | apply Kd.R_drewN | apply Kd.R_drew)); exact HO224.out) hb); have n4_ := Aside0.mk (blk_below (g := gb194) (o := .cells #[.int .i64 t195, .int .i64 t196, .int .i64 t197, .slice Ao12 t198.length co12] 24 (0, 0)) (by (with_reducible repeat (first | refine blk_drewN ?_ _ | refine blk_drew ?_ | refine blk_alloc ?_ _)); exact BK194.out) hb); have n5_ := Aside0.mk (blk_below (g := gb213) (o := .cells #[.int .i64 t206, .int .i64 t207, .int .i64 t208, .slice Ao74 t209.length co74] 24 (0, 0)) (by (with_reducible repeat (first | refine blk_drewN ?_ _ | refine blk_drew ?_ | refine blk_alloc ?_ _)); exact BK213.out) hb); have n6_ := Aside0.mk (below_step (by repeat (first | (with_reducible first | exact HB.out | apply below_alloc | apply pw_below_drewN | apply below_drew1 | refine below_set ?_ GE194.out | refine below_set ?_ GE213.out) | exact HB.out)) hb); clear HO_195003; clear HO211; clear HO216; clear HO224; clear BK194; clear BK213; clear HB; have HO_195003 := n0_; have HO211 := n1_; have HO216 := n2_; have HO224 := n3_; have BK194 := n4_; have BK213 := n5_; have HB := n6_; clear n0_ n1_ n2_ n3_ n4_ n5_ n6_; (try clear hb); (try clear hb2); (try clear hk); (try clear hi)) | (go_at_call 14; (with_reducible refine (bivouaclaw06_awake.calls kj6  t227 _ A69.out).mono ?_); rintro e w83 ⟨rfl, hb⟩; have n0_ := Aside0.mk (Kd.V_below (by (with_reducible repeat (first | apply Kd.V_alloc | apply Kd.V_drewN | apply Kd.V_drew)); exact HO_195003.out) hb); have n1_ := Aside0.mk (Kd.R_below (by (with_reducible repeat (first | apply Kd.R_alloc | apply Kd.R_drewN | apply Kd.R_drew)); exact HO211.out) hb); have n2_ := Aside0.mk (Kd.R_below (by (with_reducible repeat (first | apply Kd.R_alloc | apply Kd.R_drewN | apply Kd.R_drew)); exact HO216.out) hb); have n3_ := Aside0.mk (Kd.R_below (by (with_reducible repeat (first | apply Kd.R_alloc | apply Kd.R_drewN | apply Kd.R_drew)); exact HO224.out) hb); have n4_ := Aside0.mk (blk_below (g := gb194) (o := .cells #[.int .i64 t195, .int .i64 t196, .int .i64 t197, .slice Ao12 t198.length co12] 24 (0, 0)) (by (with_reducible repeat (first | refine blk_drewN ?_ _ | refine blk_drew ?_ | refine blk_alloc ?_ _)); exact BK194.out) hb); have n5_ := Aside0.mk (blk_below (g := gb213) (o := .cells #[.int .i64 t206, .int .i64 t207, .int .i64 t208, .slice Ao74 t209.length co74] 24 (0, 0)) (by (with_reducible repeat (first | refine blk_drewN ?_ _ | refine blk_drew ?_ | refine blk_alloc ?_ _)); exact BK213.out) hb); have n6_ := Aside0.mk (below_step (by repeat (first | (with_reducible first | exact HB.out | apply below_alloc | apply pw_below_drewN | apply below_drew1 | refine below_set ?_ GE194.out | refine below_set ?_ GE213.out) | exact HB.out)) hb); clear HO_195003; clear HO211; clear HO216; clear HO224; clear BK194; clear BK213; clear HB; have HO_195003 := n0_; have HO211 := n1_; have HO216 := n2_; have HO224 := n3_; have BK194 := n4_; have BK213 := n5_; have HB := n6_; clear n0_ n1_ n2_ n3_ n4_ n5_ n6_; (try clear hb); (try clear hb2); (try clear hk); (try clear hi)))
          go_ret
          exact ⟨by first | rfl | (simp [errW_none, errW_some] <;> rfl) | (simp [*, errW_none, errW_some] <;> rfl) | (rw [Int.tdiv_eq_ediv_of_nonneg (by assumption)]; rfl), by repeat (first | (with_reducible first | exact HB.out | apply below_alloc | apply pw_below_drewN | apply below_drew1 | refine below_set ?_ GE194.out | refine below_set ?_ GE213.out) | exact HB.out)⟩
         ·
          rw [if_neg c68] at H
          exact absurd H (by simp)
        ·
         replace c67 := Bool.eq_false_iff.mpr c67
         subst c67
         have H1 : (none) = some r := by rw [if_neg (show ¬ (false = true) by decide)] at H; exact H
         clear H
         have H := H1
         clear H1
         exact absurd H (by simp)
     ·
      rw [if_neg c25] at H
      exact absurd H (by simp)
  ·
   rw [if_neg c5] at H
   exact absurd H (by simp)
 ·
  rw [if_neg c4] at H
  have c4b0 : decide (4300 < (l1.length : Int)) = false := decide_eq_false c4
  have c4b1 : decide (4300 < l1.length) = false := decide_eq_false (by omega)
  clear c4
  replace H := Option.bind_eq_some_iff.mp H
  obtain ⟨t236, A840, H⟩ := H
  replace H : (if t236 = 0 then ((some (([(t195) % 256, (t196) % 256, (t197) % 256] : List Int) : List Int)).bind fun y237 => (if (strOfNums y237).size + (strOfNums t198).size ≤ 9223372036854775807 then (bivouaclaw06_ReliefBytes.j1 k l1 ((strOfNums y237) ++ (strOfNums t198)) t195 t196 t197 t198) else (none))) else (bivouaclaw06_ReliefBytes.j1 k l1 (⟨#[]⟩ : ByteArray) t195 t196 t197 t198)) = some r := H
  have A84 := Aside0.mk A840
  clear A840
  have HC85 := Aside0.mk H
  clear H
  go_enter Try.func7, Try.ntmps7
  go_upto_if 18 with (first | ((with_reducible refine gate_dst (N := 2) rfl ?_); refine box_event ?hg (N := 2) ?hd (cs := #[.int .i64 a0_0, .int .i64 a0_1, .int .i64 a0_2, .slice A0_3 l0_3.length c0_3]) (t := 24) ?hr ?_; (case hd => rfl); (case hg => rfl); (case hr => first | (go_simp; done) | (go_simp; rfl)); intro gb194 hg w86 hbox hb; have n0_ := Aside0.mk (below_step (by repeat (first | (with_reducible first | exact HB.out | apply below_alloc | apply pw_below_drewN | apply below_drew1) | exact HB.out)) hb); have n1_ := Aside0.mk (hbox); have n2_ := Aside0.mk ((by rw [hg]; exact (below_size (by repeat (first | (with_reducible first | exact HB.out | apply below_alloc | apply pw_below_drewN | apply below_drew1) | exact HB.out))) : w.heap.size ≤ gb194)); have n3_ := Aside0.mk ((by rw [hg]; exact (below_size (by repeat (first | (with_reducible first | exact HB.out | apply below_alloc | apply pw_below_drewN | apply below_drew1) | exact HB.out))) : w.heap.size ≤ gb194)); clear HB; have HB := n0_; have BK194 := n1_; have GW194 := n2_; have GE194 := n3_; clear n0_ n1_ n2_ n3_; clear hb hbox hg; have hcz87_0 : w86.cell? ⟨gb194, 0, none⟩ = some (.int .i64 a0_0) := (blk_cell BK194.out 0).trans rfl; have hcz87_1 : w86.cell? ⟨gb194, 1, none⟩ = some (.int .i64 a0_1) := (blk_cell BK194.out 1).trans rfl; have hcz87_2 : w86.cell? ⟨gb194, 2, none⟩ = some (.int .i64 a0_2) := (blk_cell BK194.out 2).trans rfl; have hcz87_3 : w86.cell? ⟨gb194, 3, none⟩ = some (.slice A0_3 l0_3.length c0_3) := (blk_cell BK194.out 3).trans rfl; have hfz87_0 := blk_frozen BK194.out 0; have hfz87_1 := blk_frozen BK194.out 1; have hfz87_2 := blk_frozen BK194.out 2; have hfz87_3 := blk_frozen BK194.out 3) | ((with_reducible refine gate_callee (f := 9) rfl ?_); refine goesL_ (some 10) rfl rfl Try.func9 (by kernel_rfl) rfl #[.agg #[.int .i64 a0_0, .int .i64 a0_1, .int .i64 a0_2, .slice A0_3 l0_3.length c0_3]] rfl (by (try simp only [List.map_toArray, List.map_cons, List.map_nil]); first | done | rfl | (simp only [List.length_drop, List.length_take]; rfl)) ?_; (with_reducible refine (bivouaclaw06_few.calls a0_0 a0_1 a0_2 (fun k_ => k_ < w.heap.size) _ _ l0_3 t195 t196 t197 t198 _ ?side1 A3.out).mono ?_); (case side1 => exact Kd.V_mk HC0_3.out (Kd.F_below (Kd.C_F (Kd.heap_int .u8) HR0_3.out) (by repeat (first | (with_reducible first | exact HB.out | apply below_alloc | apply pw_below_drewN | apply below_drew1 | refine below_set ?_ GE194.out) | exact HB.out)))); rintro e w88 ⟨v199, rfl, ho0, hb⟩; refine ⟨_, rfl, ?_⟩; have n0_ := Aside0.mk (Kd.V_lower (Kd.V_mono (ok' := fun k_ => k_ ≠ gb194) ho0 (fun k_ hk_ => Or.elim hk_ (fun hs_ => fun e_ => Nat.not_le.2 hs_ (by rw [e_]; exact GW194.out)) (fun hn_ => (Kd.freshB (g := gb194) (o := .cells #[.int .i64 a0_0, .int .i64 a0_1, .int .i64 a0_2, .slice A0_3 l0_3.length c0_3] 24 (0, 0)) (by (with_reducible repeat (first | refine blk_drewN ?_ _ | refine blk_drew ?_ | refine blk_alloc ?_ _)); exact BK194.out) k_ hn_)))) (below_size (by repeat (first | (with_reducible first | exact HB.out | apply below_alloc | apply pw_below_drewN | apply below_drew1 | refine below_set ?_ GE194.out) | exact HB.out)))); have n1_ := Aside0.mk (blk_below (g := gb194) (o := .cells #[.int .i64 a0_0, .int .i64 a0_1, .int .i64 a0_2, .slice A0_3 l0_3.length c0_3] 24 (0, 0)) (by (with_reducible repeat (first | refine blk_drewN ?_ _ | refine blk_drew ?_ | refine blk_alloc ?_ _)); exact BK194.out) hb); have n2_ := Aside0.mk (below_step (by repeat (first | (with_reducible first | exact HB.out | apply below_alloc | apply pw_below_drewN | apply below_drew1 | refine below_set ?_ GE194.out) | exact HB.out)) hb); clear BK194; clear HB; have HO200 := n0_; have BK194 := n1_; have HB := n2_; clear n0_ n1_ n2_; (try clear hb); (try clear hb2); (try clear hk); (try clear hi); (try clear ho0); have hcz89_0 : w88.cell? ⟨gb194, 0, none⟩ = some (.int .i64 a0_0) := (blk_cell BK194.out 0).trans rfl; have hcz89_1 : w88.cell? ⟨gb194, 1, none⟩ = some (.int .i64 a0_1) := (blk_cell BK194.out 1).trans rfl; have hcz89_2 : w88.cell? ⟨gb194, 2, none⟩ = some (.int .i64 a0_2) := (blk_cell BK194.out 2).trans rfl; have hcz89_3 : w88.cell? ⟨gb194, 3, none⟩ = some (.slice A0_3 l0_3.length c0_3) := (blk_cell BK194.out 3).trans rfl; have hfz89_0 := blk_frozen BK194.out 0; have hfz89_1 := blk_frozen BK194.out 1; have hfz89_2 := blk_frozen BK194.out 2; have hfz89_3 := blk_frozen BK194.out 3; obtain ⟨Ao90, co90, eo90⟩ := Kd.V_slice HO200.out; subst eo90) | ((with_reducible refine gate_callee (f := 10) rfl ?_); refine goesL_ (some 17) rfl rfl Try.func10 (by kernel_rfl) rfl #[.agg #[.int .i64 t195, .int .i64 t196, .int .i64 t197, .slice Ao90 t198.length co90]] rfl (by (try simp only [List.map_toArray, List.map_cons, List.map_nil]); first | done | rfl | (simp only [List.length_drop, List.length_take]; rfl)) ?_; (with_reducible refine (bivouacref06_Check.calls k t195 t196 t197 _ _ t198 t236 _ ?side1 ?side2 A84.out).mono ?_); (case side1 => refine (Kd.V_reads' (e := 5) (base := w.heap.size) (ok := fun k_ => k_ ≠ gb194) (n := t198.length) (c := co90) ?_).2.2; exact (by (with_reducible repeat (first | apply Kd.V_alloc | apply Kd.V_drewN | apply Kd.V_drew)); exact (Kd.V_mono (Kd.V_far (p := ⟨gb194, 3, none⟩) (Kd.V_far (p := ⟨gb194, 2, none⟩) (Kd.V_far (p := ⟨gb194, 1, none⟩) (Kd.V_far (p := ⟨gb194, 0, none⟩) (Kd.V_mono HO200.out (fun k_ hk => (⟨hk, hk⟩ : _ ∧ k_ ≠ gb194))) (fun _ hk => hk.2) (.int .i64 t195)) (fun _ hk => hk.2) (.int .i64 t196)) (fun _ hk => hk.2) (.int .i64 t197)) (fun _ hk => hk.2) (.slice Ao90 t198.length co90)) (fun _ h_ => h_.1)))); (case side2 => exact (Kd.V_reads' HO200.out).2.1); rintro e w91 ⟨rfl, hb⟩; refine ⟨_, rfl, ?_⟩; have n0_ := Aside0.mk (Kd.V_below (by (with_reducible repeat (first | apply Kd.V_alloc | apply Kd.V_drewN | apply Kd.V_drew)); exact (Kd.V_mono (Kd.V_far (p := ⟨gb194, 3, none⟩) (Kd.V_far (p := ⟨gb194, 2, none⟩) (Kd.V_far (p := ⟨gb194, 1, none⟩) (Kd.V_far (p := ⟨gb194, 0, none⟩) (Kd.V_mono HO200.out (fun k_ hk => (⟨hk, hk⟩ : _ ∧ k_ ≠ gb194))) (fun _ hk => hk.2) (.int .i64 t195)) (fun _ hk => hk.2) (.int .i64 t196)) (fun _ hk => hk.2) (.int .i64 t197)) (fun _ hk => hk.2) (.slice Ao90 t198.length co90)) (fun _ h_ => h_.1))) hb); have n1_ := Aside0.mk (blk_below (g := gb194) (o := .cells #[.int .i64 t195, .int .i64 t196, .int .i64 t197, .slice Ao90 t198.length co90] 24 (0, 0)) (by (with_reducible repeat (first | refine blk_drewN ?_ _ | refine blk_drew ?_ | refine blk_alloc ?_ _)); refine blk_put (cs := #[.int .i64 t195, .int .i64 t196, .int .i64 t197, .slice A0_3 l0_3.length c0_3]) ?_ 3 _ rfl; (with_reducible repeat (first | refine blk_drewN ?_ _ | refine blk_drew ?_ | refine blk_alloc ?_ _)); refine blk_put (cs := #[.int .i64 t195, .int .i64 t196, .int .i64 a0_2, .slice A0_3 l0_3.length c0_3]) ?_ 2 _ rfl; (with_reducible repeat (first | refine blk_drewN ?_ _ | refine blk_drew ?_ | refine blk_alloc ?_ _)); refine blk_put (cs := #[.int .i64 t195, .int .i64 a0_1, .int .i64 a0_2, .slice A0_3 l0_3.length c0_3]) ?_ 1 _ rfl; (with_reducible repeat (first | refine blk_drewN ?_ _ | refine blk_drew ?_ | refine blk_alloc ?_ _)); refine blk_put (cs := #[.int .i64 a0_0, .int .i64 a0_1, .int .i64 a0_2, .slice A0_3 l0_3.length c0_3]) ?_ 0 _ rfl; (with_reducible repeat (first | refine blk_drewN ?_ _ | refine blk_drew ?_ | refine blk_alloc ?_ _)); exact BK194.out) hb); have n2_ := Aside0.mk (below_step (by repeat (first | (with_reducible first | exact HB.out | apply below_alloc | apply pw_below_drewN | apply below_drew1 | refine below_set ?_ GE194.out) | exact HB.out)) hb); clear HO200; clear BK194; clear HB; have HO200 := n0_; have BK194 := n1_; have HB := n2_; clear n0_ n1_ n2_; (try clear hb); (try clear hb2); (try clear hk); (try clear hi)))
  (try simp only [Act.put, List.setIfInBounds_toArray, List.set_cons_zero, List.set_cons_succ])
  go_cut [5] (fun v5 wc => ∃ (kq : Nat) (x5_84 : ByteArray), v5 = .string x5_84 ∧ Aside0 (bivouaclaw06_ReliefBytes.j1 kq l1 x5_84 t195 t196 t197 t198 = some r) ∧ Aside0 (kq ≤ k) ∧ Aside0 (Kd.V (Kd.int .u8) 5 wc w.heap.size (fun k_ => k_ ≠ gb194) (.slice Ao90 t198.length co90) t198) ∧ Aside0 (wc.heap[gb194]? = some (.cells #[.int .i64 t195, .int .i64 t196, .int .i64 t197, (.slice Ao90 t198.length co90)] 24 (0, 0))) ∧ Aside0 (Below w.heap.size w wc))
  case first =>
   have H := HC85.out
   clear HC85
   by_cases c92 : t236 = 0
   ·
    rw [if_pos c92] at H
    have c92b0 : (t236 == 0) = true := beq_iff_eq.mpr c92
    have c92b1 : (t236 != 0) = false := bne_eq_false_iff_eq.mpr c92
    clear c92
    (first | rw [c92b0] | (simp only [i64_w, i32_w]; rw [c92b0]) | skip)
    obtain ⟨y237, hy237⟩ : ∃ y_ : List Int, y_ = (([(t195) % 256, (t196) % 256, (t197) % 256] : List Int)) := ⟨_, rfl⟩
    replace H : (if (strOfNums y237).size + (strOfNums t198).size ≤ 9223372036854775807 then (bivouaclaw06_ReliefBytes.j1 k l1 ((strOfNums y237) ++ (strOfNums t198)) t195 t196 t197 t198) else (none)) = some r := by first | (rw [hy237]; with_reducible exact H) | (have H2_ := (Option.bind_some _ _).symm.trans H; rw [hy237]; with_reducible exact H2_) | (have H2_ := (Option.bind_some _ _).symm.trans H; with_reducible exact H2_) | with_reducible exact H | (rw [hy237]; exact H) | exact H
    have Ny237 := Aside0.mk hy237
    clear hy237
    by_cases c93 : (strOfNums y237).size + (strOfNums t198).size ≤ 9223372036854775807
    ·
     rw [if_pos c93] at H
     have c93b0 := eq_true c93
     have c93b1 : decide ((strOfNums y237).size + (strOfNums t198).size ≤ 9223372036854775807) = true := decide_eq_true c93
     try have c93b2 : (9223372036854775807 < (strOfNums y237).size + (strOfNums t198).size) = False := eq_false (Nat.not_lt.2 c93)
     have H' := Aside0.mk H
     clear H
     have hcz94_0 : w91.cell? ⟨gb194, 0, none⟩ = some (.int .i64 t195) := (blk_cell BK194.out 0).trans rfl
     have hcz94_1 : w91.cell? ⟨gb194, 1, none⟩ = some (.int .i64 t196) := (blk_cell BK194.out 1).trans rfl
     have hcz94_2 : w91.cell? ⟨gb194, 2, none⟩ = some (.int .i64 t197) := (blk_cell BK194.out 2).trans rfl
     have hcz94_3 : w91.cell? ⟨gb194, 3, none⟩ = some (.slice Ao90 t198.length co90) := (blk_cell BK194.out 3).trans rfl
     have hfz94_0 := blk_frozen BK194.out 0
     have hfz94_1 := blk_frozen BK194.out 1
     have hfz94_2 := blk_frozen BK194.out 2
     have hfz94_3 := blk_frozen BK194.out 3
     go_wp2_with (first | ((with_reducible refine gate_dst (N := 28) rfl ?_); refine Kd.R_lit (Kd.int .u8) _ 5 ?hg (N := 28) ?hd (xs := ([(t195) % 256, (t196) % 256, (t197) % 256] : List Int)) (inner := [.int .u8 ((t195) % 256), .int .u8 ((t196) % 256), .int .u8 ((t197) % 256)]) (ok := fun _ => True) (okp := fun _ => True) ?hr ?hp (fun _ hk => hk) trivial (Below.refl _ _) (Nat.le_refl _) (by simp) ?_; (case hd => rfl); (case hg => rfl); (case hr => first | (go_simp; done) | (go_simp; rfl)); (case hp => exact (Reps.one (show Kd.M (Kd.int .u8) _ _ _ ((t195) % 256) [.int .u8 ((t195) % 256)] from rfl) (Reps.one (show Kd.M (Kd.int .u8) _ _ _ ((t196) % 256) [.int .u8 ((t196) % 256)] from rfl) (Reps.one (show Kd.M (Kd.int .u8) _ _ _ ((t197) % 256) [.int .u8 ((t197) % 256)] from rfl) (Reps.none _ _))))); intro v238 w95 ho96 hb hg_ hnew_; clear hg_ hnew_; (first | rw [← Ny237.out] at ho96 | (simp only [Int.reduceToNat] at ho96; rw [← Ny237.out] at ho96)); have n0_ := Aside0.mk (Kd.V_elder' (by (with_reducible repeat (first | apply Kd.V_alloc | apply Kd.V_drewN | apply Kd.V_drew)); exact HO200.out) (Kd.R_base ho96) hb); have n1_ := Aside0.mk (Kd.R_lower ho96 (below_size (by repeat (first | (with_reducible first | exact HB.out | apply below_alloc | apply pw_below_drewN | apply below_drew1 | refine below_set ?_ GE194.out) | exact HB.out)))); have n2_ := Aside0.mk (blk_below (g := gb194) (o := .cells #[.int .i64 t195, .int .i64 t196, .int .i64 t197, .slice Ao90 t198.length co90] 24 (0, 0)) (by (with_reducible repeat (first | refine blk_drewN ?_ _ | refine blk_drew ?_ | refine blk_alloc ?_ _)); exact BK194.out) hb); have n3_ := Aside0.mk (below_step (by repeat (first | (with_reducible first | exact HB.out | apply below_alloc | apply pw_below_drewN | apply below_drew1 | refine below_set ?_ GE194.out) | exact HB.out)) hb); clear HO200; clear BK194; clear HB; have HO200 := n0_; have HO239 := n1_; have BK194 := n2_; have HB := n3_; clear n0_ n1_ n2_ n3_; clear hb ho96; have hcv97 := own_string (P := Try.prog) Try.underlying22 Try.underlying5 Try.underlying9 (Kd.own_of_R HO239.out); have hcz98_0 : w95.cell? ⟨gb194, 0, none⟩ = some (.int .i64 t195) := (blk_cell BK194.out 0).trans rfl; have hcz98_1 : w95.cell? ⟨gb194, 1, none⟩ = some (.int .i64 t196) := (blk_cell BK194.out 1).trans rfl; have hcz98_2 : w95.cell? ⟨gb194, 2, none⟩ = some (.int .i64 t197) := (blk_cell BK194.out 2).trans rfl; have hcz98_3 : w95.cell? ⟨gb194, 3, none⟩ = some (.slice Ao90 t198.length co90) := (blk_cell BK194.out 3).trans rfl; have hfz98_0 := blk_frozen BK194.out 0; have hfz98_1 := blk_frozen BK194.out 1; have hfz98_2 := blk_frozen BK194.out 2; have hfz98_3 := blk_frozen BK194.out 3; have hcv99 := Kd.C_string (P := Try.prog) (c := co90) Try.underlying22 Try.underlying5 Try.underlying9 (Kd.V_reads' HO200.out).2.2))
     go_meet
     case rel => exact ⟨_, ((strOfNums y237) ++ (strOfNums t198)), (by first | rfl | (simp; done) | (simp [*]; done)), H', ⟨by first | omega | exact Nat.le_refl _⟩, ⟨by (with_reducible repeat (first | apply Kd.V_alloc | apply Kd.V_drewN | apply Kd.V_drew)); exact Kd.V_mono HO200.out (fun _ hk => hk.1)⟩, ⟨by (with_reducible repeat (first | refine blk_drewN ?_ _ | refine blk_drew ?_ | refine blk_alloc ?_ _)); exact BK194.out⟩, ⟨by repeat (first | (with_reducible first | exact HB.out | apply below_alloc | apply pw_below_drewN | apply below_drew1 | refine below_set ?_ GE194.out) | exact HB.out)⟩⟩
    ·
     rw [if_neg c93] at H
     exact absurd H (by simp)
   ·
    rw [if_neg c92] at H
    have c92b0 : (t236 == 0) = false := beq_eq_false_iff_ne.mpr c92
    have c92b1 : (t236 != 0) = true := bne_iff_ne.mpr c92
    (first | rw [c92b0] | (simp only [i64_w, i32_w]; rw [c92b0]) | skip)
    have H' := Aside0.mk H
    clear H
    go_wp2
    go_meet
    case rel => exact ⟨_, ((⟨#[]⟩ : ByteArray)), (by first | rfl | (simp; done) | (simp [*]; done)), H', ⟨by first | omega | exact Nat.le_refl _⟩, ⟨by (with_reducible repeat (first | apply Kd.V_alloc | apply Kd.V_drewN | apply Kd.V_drew)); exact HO200.out⟩, ⟨by (with_reducible repeat (first | refine blk_drewN ?_ _ | refine blk_drew ?_ | refine blk_alloc ?_ _)); exact BK194.out⟩, ⟨by repeat (first | (with_reducible first | exact HB.out | apply below_alloc | apply pw_below_drewN | apply below_drew1 | refine below_set ?_ GE194.out) | exact HB.out)⟩⟩
  case rest =>
   clear HC85
   try clear c1
   try clear c2
   try clear p2
   try clear hcv2
   try clear c3
   try clear hcv3
   try clear c4
   try clear c4b0
   try clear c4b1
   try clear c5
   try clear c5b0
   try clear c5b1
   try clear hcv5
   try clear c6
   try clear c7
   try clear hcv7
   try clear c9
   try clear hcv9
   try clear c10
   try clear c14
   try clear c15
   try clear c15b0
   try clear c15b1
   try clear c16
   try clear c16b0
   try clear c16b1
   try clear c16b2
   try clear hcv20
   try clear c22
   try clear hcv22
   try clear c23
   try clear c24
   try clear c25
   try clear c25b0
   try clear c25b1
   try clear c26
   try clear c26b0
   try clear c26b1
   try clear c28
   try clear c29
   try clear c29b0
   try clear c29b1
   try clear c33
   try clear hcv38
   try clear c44
   try clear c44b0
   try clear c44b1
   try clear c47
   try clear c48
   try clear c48b0
   try clear c48b1
   try clear c52
   try clear hcv57
   try clear c67
   try clear c68
   try clear c68b0
   try clear c68b1
   try clear c72
   try clear hcv77
   try clear c92
   try clear c92b0
   try clear c92b1
   try clear c93
   try clear c93b0
   try clear c93b1
   try clear c93b2
   try clear hcv97
   try clear hcv99
   try clear hcz11_0
   try clear hcz11_1
   try clear hcz11_2
   try clear hcz11_3
   try clear hcz17_0
   try clear hcz17_1
   try clear hcz17_2
   try clear hcz17_3
   try clear hcz21_0
   try clear hcz21_1
   try clear hcz21_2
   try clear hcz21_3
   try clear hcz34_0
   try clear hcz34_1
   try clear hcz34_2
   try clear hcz34_3
   try clear hcz36_0
   try clear hcz36_1
   try clear hcz36_2
   try clear hcz36_3
   try clear hcz39_0
   try clear hcz39_1
   try clear hcz39_2
   try clear hcz39_3
   try clear hcz53_0
   try clear hcz53_1
   try clear hcz53_2
   try clear hcz53_3
   try clear hcz55_0
   try clear hcz55_1
   try clear hcz55_2
   try clear hcz55_3
   try clear hcz73_0
   try clear hcz73_1
   try clear hcz73_2
   try clear hcz73_3
   try clear hcz75_0
   try clear hcz75_1
   try clear hcz75_2
   try clear hcz75_3
   try clear hcz81_0
   try clear hcz81_1
   try clear hcz81_2
   try clear hcz81_3
   try clear hcz87_0
   try clear hcz87_1
   try clear hcz87_2
   try clear hcz87_3
   try clear hcz89_0
   try clear hcz89_1
   try clear hcz89_2
   try clear hcz89_3
   try clear hcz94_0
   try clear hcz94_1
   try clear hcz94_2
   try clear hcz94_3
   try clear hcz98_0
   try clear hcz98_1
   try clear hcz98_2
   try clear hcz98_3
   try clear hcz9_0
   try clear hcz9_1
   try clear hcz9_2
   try clear hcz9_3
   try clear hfz11_0
   try clear hfz11_1
   try clear hfz11_2
   try clear hfz11_3
   try clear hfz17_0
   try clear hfz17_1
   try clear hfz17_2
   try clear hfz17_3
   try clear hfz21_0
   try clear hfz21_1
   try clear hfz21_2
   try clear hfz21_3
   try clear hfz34_0
   try clear hfz34_1
   try clear hfz34_2
   try clear hfz34_3
   try clear hfz36_0
   try clear hfz36_1
   try clear hfz36_2
   try clear hfz36_3
   try clear hfz39_0
   try clear hfz39_1
   try clear hfz39_2
   try clear hfz39_3
   try clear hfz53_0
   try clear hfz53_1
   try clear hfz53_2
   try clear hfz53_3
   try clear hfz55_0
   try clear hfz55_1
   try clear hfz55_2
   try clear hfz55_3
   try clear hfz73_0
   try clear hfz73_1
   try clear hfz73_2
   try clear hfz73_3
   try clear hfz75_0
   try clear hfz75_1
   try clear hfz75_2
   try clear hfz75_3
   try clear hfz81_0
   try clear hfz81_1
   try clear hfz81_2
   try clear hfz81_3
   try clear hfz87_0
   try clear hfz87_1
   try clear hfz87_2
   try clear hfz87_3
   try clear hfz89_0
   try clear hfz89_1
   try clear hfz89_2
   try clear hfz89_3
   try clear hfz94_0
   try clear hfz94_1
   try clear hfz94_2
   try clear hfz94_3
   try clear hfz98_0
   try clear hfz98_1
   try clear hfz98_2
   try clear hfz98_3
   try clear hfz9_0
   try clear hfz9_1
   try clear hfz9_2
   try clear hfz9_3
   try clear p2
   obtain ⟨kq, x5_84, rfl, HA, HJ84, HO_195003, BK194, HB⟩ := hcut
   cases kq with
   | zero => exact absurd HA.out (by simp [bivouaclaw06_ReliefBytes.j1])
   | succ kj84 =>
    have H := HA.out
    clear HA
    simp only [bivouaclaw06_ReliefBytes.j1] at H
    replace H := Option.bind_eq_some_iff.mp H
    obtain ⟨⟨t240, t241, t242, t243, t246⟩, A1000, H⟩ := H
    replace H : ((relief_Encode.f kj84 t195 t196 t197 t198).bind fun t248 => (if (strOfNums t248).toList = x5_84.toList then (if (l1.length : Int) < 3 then ((bivouacref06_Same.f t240 t241 t242 t243 0 0 0 ([] : List Int)).bind fun t251 => (if t251 = true then (if t246 = 2 then ((bivouaclaw06_awake.f kj84).bind fun t252 => (some t252)) else (none)) else (none))) else ((bivouacref06_Of.f l1).bind fun bt253 => ((bivouacref06_Check.f kj84 bt253.1 bt253.2.1 bt253.2.2.1 bt253.2.2.2).bind fun t259 => (if t259 = 0 then ((bivouacref06_Of.f l1).bind fun bt262 => ((bivouacref06_Same.f t240 t241 t242 t243 bt262.1 bt262.2.1 bt262.2.2.1 bt262.2.2.2).bind fun t268 => (if t268 = true then (if t246 = 0 then ((bivouaclaw06_awake.f kj84).bind fun t269 => (some t269)) else (none)) else (none)))) else ((bivouacref06_Same.f t240 t241 t242 t243 0 0 0 ([] : List Int)).bind fun t260 => (if t260 = true then (if t246 = t259 then ((bivouaclaw06_awake.f kj84).bind fun t261 => (some t261)) else (none)) else (none))))))) else (none))) = some r := H
    have A100 := Aside0.mk A1000
    clear A1000
    replace H := Option.bind_eq_some_iff.mp H
    obtain ⟨t248, A1010, H⟩ := H
    replace H : (if (strOfNums t248).toList = x5_84.toList then (if (l1.length : Int) < 3 then ((bivouacref06_Same.f t240 t241 t242 t243 0 0 0 ([] : List Int)).bind fun t251 => (if t251 = true then (if t246 = 2 then ((bivouaclaw06_awake.f kj84).bind fun t252 => (some t252)) else (none)) else (none))) else ((bivouacref06_Of.f l1).bind fun bt253 => ((bivouacref06_Check.f kj84 bt253.1 bt253.2.1 bt253.2.2.1 bt253.2.2.2).bind fun t259 => (if t259 = 0 then ((bivouacref06_Of.f l1).bind fun bt262 => ((bivouacref06_Same.f t240 t241 t242 t243 bt262.1 bt262.2.1 bt262.2.2.1 bt262.2.2.2).bind fun t268 => (if t268 = true then (if t246 = 0 then ((bivouaclaw06_awake.f kj84).bind fun t269 => (some t269)) else (none)) else (none)))) else ((bivouacref06_Same.f t240 t241 t242 t243 0 0 0 ([] : List Int)).bind fun t260 => (if t260 = true then (if t246 = t259 then ((bivouaclaw06_awake.f kj84).bind fun t261 => (some t261)) else (none)) else (none))))))) else (none)) = some r := H
    have A101 := Aside0.mk A1010
    clear A1010
    by_cases c102 : (strOfNums t248).toList = x5_84.toList
    ·
     rw [if_pos c102] at H
     have c102b0 : ((strOfNums t248).toList == x5_84.toList) = true := beq_iff_eq.mpr c102
     have c102b1 : ((strOfNums t248).toList != x5_84.toList) = false := bne_eq_false_iff_eq.mpr c102
     clear c102
     by_cases c103 : (l1.length : Int) < 3
     ·
      rw [if_pos c103] at H
      have c103b0 : decide ((l1.length : Int) < 3) = true := decide_eq_true c103
      have c103b1 : decide (l1.length < 3) = true := decide_eq_true (by omega)
      clear c103
      replace H := Option.bind_eq_some_iff.mp H
      obtain ⟨t251, A1040, H⟩ := H
      replace H : (if t251 = true then (if t246 = 2 then ((bivouaclaw06_awake.f kj84).bind fun t252 => (some t252)) else (none)) else (none)) = some r := H
      have A104 := Aside0.mk A1040
      clear A1040
      by_cases c105 : t251 = true
      ·
       subst c105
       have H1 : (if t246 = 2 then ((bivouaclaw06_awake.f kj84).bind fun t252 => (some t252)) else (none)) = some r := by rw [if_pos rfl] at H; exact H
       clear H
       have H := H1
       clear H1
       by_cases c106 : t246 = 2
       ·
        rw [if_pos c106] at H
        have c106b0 : (t246 == 2) = true := beq_iff_eq.mpr c106
        have c106b1 : (t246 != 2) = false := bne_eq_false_iff_eq.mpr c106
        clear c106
        replace H := Option.bind_eq_some_iff.mp H
        obtain ⟨t252, A1070, H⟩ := H
        replace H : (some t252) = some r := H
        have A107 := Aside0.mk A1070
        clear A1070
        obtain rfl := Option.some.inj H
        go_wp2_with (first | ((with_reducible refine gate_callee (f := 22) rfl ?_); refine goesL_ (some 36) rfl rfl Try.func22 (by kernel_rfl) rfl #[.slice A1 l1.length c1] rfl (by (try simp only [List.map_toArray, List.map_cons, List.map_nil]); first | done | rfl | (simp only [List.length_drop, List.length_take]; rfl)) ?_; (with_reducible refine (relief_Decode.calls kj84 _ _ l1 t240 t241 t242 t243 t246 _ ?side1 ?side2 A100.out).mono ?_); (case side1 => repeat (first | exact (Kd.C_below HR1.out HB.out) | (with_reducible refine Kd.C_alloc ?_ _) | (with_reducible refine Kd.C_drewN ?_ _) | (with_reducible refine Kd.C_drew ?_))); (case side2 => exact HC1.out); rintro e w108 ⟨v244, rfl, ho0, hb⟩; refine ⟨_, rfl, ?_⟩; have n0_ := Aside0.mk (Kd.V_elder' (by (with_reducible repeat (first | apply Kd.V_alloc | apply Kd.V_drewN | apply Kd.V_drew)); exact HO_195003.out) (Kd.R_base ho0) hb); have n1_ := Aside0.mk (Kd.R_lower ho0 (below_size (by repeat (first | (with_reducible first | exact HB.out | apply below_alloc | apply pw_below_drewN | apply below_drew1 | refine below_set ?_ GE194.out) | exact HB.out)))); have n2_ := Aside0.mk (blk_below (g := gb194) (o := .cells #[.int .i64 t195, .int .i64 t196, .int .i64 t197, .slice Ao90 t198.length co90] 24 (0, 0)) (by (with_reducible repeat (first | refine blk_drewN ?_ _ | refine blk_drew ?_ | refine blk_alloc ?_ _)); exact BK194.out) hb); have n3_ := Aside0.mk (below_step (by repeat (first | (with_reducible first | exact HB.out | apply below_alloc | apply pw_below_drewN | apply below_drew1 | refine below_set ?_ GE194.out) | exact HB.out)) hb); clear HO_195003; clear BK194; clear HB; have HO_195003 := n0_; have HO245 := n1_; have BK194 := n2_; have HB := n3_; clear n0_ n1_ n2_ n3_; (try clear hb); (try clear hb2); (try clear hk); (try clear hi); (try clear ho0)) | ((with_reducible refine gate_dst (N := 6) rfl ?_); refine box_event ?hg (N := 6) ?hd (cs := #[.int .i64 0, .int .i64 0, .int .i64 0, .slice none 0 0]) (t := 24) ?hr ?_; (case hd => rfl); (case hg => rfl); (case hr => first | (go_simp; done) | (go_simp; rfl)); intro gb247 hg w109 hbox hb; have n0_ := Aside0.mk (Kd.V_below (Kd.V_elderB (by (with_reducible repeat (first | apply Kd.V_alloc | apply Kd.V_drewN | apply Kd.V_drew)); exact HO_195003.out) gb247 (Nat.le_of_eq hg.symm)) hb); have n1_ := Aside0.mk (Kd.R_below (by (with_reducible repeat (first | apply Kd.R_alloc | apply Kd.R_drewN | apply Kd.R_drew)); exact HO245.out) hb); have n2_ := Aside0.mk (blk_below (g := gb194) (o := .cells #[.int .i64 t195, .int .i64 t196, .int .i64 t197, .slice Ao90 t198.length co90] 24 (0, 0)) (by (with_reducible repeat (first | refine blk_drewN ?_ _ | refine blk_drew ?_ | refine blk_alloc ?_ _)); exact BK194.out) hb); have n3_ := Aside0.mk (below_step (by repeat (first | (with_reducible first | exact HB.out | apply below_alloc | apply pw_below_drewN | apply below_drew1 | refine below_set ?_ GE194.out) | exact HB.out)) hb); have n4_ := Aside0.mk (hbox); have n5_ := Aside0.mk ((by rw [hg]; exact (below_size (by repeat (first | (with_reducible first | exact HB.out | apply below_alloc | apply pw_below_drewN | apply below_drew1 | refine below_set ?_ GE194.out) | exact HB.out))) : w.heap.size ≤ gb247)); have n6_ := Aside0.mk ((by rw [hg]; exact (below_size (by repeat (first | (with_reducible first | exact HB.out | apply below_alloc | apply pw_below_drewN | apply below_drew1 | refine below_set ?_ GE194.out) | exact HB.out))) : w.heap.size ≤ gb247)); have n7_ := Aside0.mk ((by rw [hg]; exact Nat.ne_of_lt (blk_lt (g := gb194) (o := .cells #[.int .i64 t195, .int .i64 t196, .int .i64 t197, .slice Ao90 t198.length co90] 24 (0, 0)) (by (with_reducible repeat (first | refine blk_drewN ?_ _ | refine blk_drew ?_ | refine blk_alloc ?_ _)); exact BK194.out)) : gb194 ≠ gb247)); have n8_ := Aside0.mk ((by rw [hg]; exact Nat.ne_of_gt (blk_lt (g := gb194) (o := .cells #[.int .i64 t195, .int .i64 t196, .int .i64 t197, .slice Ao90 t198.length co90] 24 (0, 0)) (by (with_reducible repeat (first | refine blk_drewN ?_ _ | refine blk_drew ?_ | refine blk_alloc ?_ _)); exact BK194.out)) : gb247 ≠ gb194)); clear HO_195003; clear HO245; clear BK194; clear HB; have HO_195003 := n0_; have HO245 := n1_; have BK194 := n2_; have HB := n3_; have BK247 := n4_; have GW247 := n5_; have GE247 := n6_; have NB194_247 := n7_; have NB247_194 := n8_; clear n0_ n1_ n2_ n3_ n4_ n5_ n6_ n7_ n8_; clear hb hbox hg; have hnb110 := NB247_194.out; have hnc110 := NB194_247.out; have hcz111_0 : w109.cell? ⟨gb247, 0, none⟩ = some (.int .i64 0) := (blk_cell BK247.out 0).trans rfl; have hcz111_1 : w109.cell? ⟨gb247, 1, none⟩ = some (.int .i64 0) := (blk_cell BK247.out 1).trans rfl; have hcz111_2 : w109.cell? ⟨gb247, 2, none⟩ = some (.int .i64 0) := (blk_cell BK247.out 2).trans rfl; have hcz111_3 : w109.cell? ⟨gb247, 3, none⟩ = some (.slice none 0 0) := (blk_cell BK247.out 3).trans rfl; have hfz111_0 := blk_frozen BK247.out 0; have hfz111_1 := blk_frozen BK247.out 1; have hfz111_2 := blk_frozen BK247.out 2; have hfz111_3 := blk_frozen BK247.out 3; obtain ⟨Ao112, co112, eo112⟩ := Kd.R_slice HO245.out; subst eo112; have hcz113_0 : w109.cell? ⟨gb194, 0, none⟩ = some (.int .i64 t195) := (blk_cell BK194.out 0).trans rfl; have hcz113_1 : w109.cell? ⟨gb194, 1, none⟩ = some (.int .i64 t196) := (blk_cell BK194.out 1).trans rfl; have hcz113_2 : w109.cell? ⟨gb194, 2, none⟩ = some (.int .i64 t197) := (blk_cell BK194.out 2).trans rfl; have hcz113_3 : w109.cell? ⟨gb194, 3, none⟩ = some (.slice Ao90 t198.length co90) := (blk_cell BK194.out 3).trans rfl; have hfz113_0 := blk_frozen BK194.out 0; have hfz113_1 := blk_frozen BK194.out 1; have hfz113_2 := blk_frozen BK194.out 2; have hfz113_3 := blk_frozen BK194.out 3) | ((with_reducible refine gate_callee (f := 23) rfl ?_); refine goesL_ (some 40) rfl rfl Try.func23 (by kernel_rfl) rfl #[.agg #[.int .i64 t195, .int .i64 t196, .int .i64 t197, .slice Ao90 t198.length co90]] rfl (by (try simp only [List.map_toArray, List.map_cons, List.map_nil]); first | done | rfl | (simp only [List.length_drop, List.length_take]; rfl)) ?_; (with_reducible refine (relief_Encode.calls kj84 t195 t196 t197 _ _ t198 t248 _ ?side1 ?side2 A101.out).mono ?_); (case side1 => refine (Kd.V_reads' (e := 5) (base := w.heap.size) (ok := fun k_ => ((k_ ≠ gb194 ∧ some k_ ≠ (.slice Ao112 t243.length co112 : Value).ownBlock) ∧ k_ ≠ gb247)) (n := t198.length) (c := co90) ?_).2.2; exact (by (with_reducible repeat (first | apply Kd.V_alloc | apply Kd.V_drewN | apply Kd.V_drew)); exact (Kd.V_mono (Kd.V_far (p := ⟨gb247, 3, none⟩) (Kd.V_far (p := ⟨gb247, 2, none⟩) (Kd.V_far (p := ⟨gb247, 1, none⟩) (Kd.V_far (p := ⟨gb247, 0, none⟩) (Kd.V_mono HO_195003.out (fun k_ hk => (⟨hk, hk.2⟩ : _ ∧ k_ ≠ gb247))) (fun _ hk => hk.2) (.int .i64 t240)) (fun _ hk => hk.2) (.int .i64 t241)) (fun _ hk => hk.2) (.int .i64 t242)) (fun _ hk => hk.2) (.slice Ao112 t243.length co112)) (fun _ h_ => h_.1)))); (case side2 => exact (Kd.V_reads' HO_195003.out).2.1); rintro e w114 ⟨v249, rfl, ho0, hb⟩; refine ⟨_, rfl, ?_⟩; have n0_ := Aside0.mk (Kd.V_elder' (by (with_reducible repeat (first | apply Kd.V_alloc | apply Kd.V_drewN | apply Kd.V_drew)); exact (Kd.V_mono (Kd.V_far (p := ⟨gb247, 3, none⟩) (Kd.V_far (p := ⟨gb247, 2, none⟩) (Kd.V_far (p := ⟨gb247, 1, none⟩) (Kd.V_far (p := ⟨gb247, 0, none⟩) (Kd.V_mono HO_195003.out (fun k_ hk => (⟨hk, hk.2⟩ : _ ∧ k_ ≠ gb247))) (fun _ hk => hk.2) (.int .i64 t240)) (fun _ hk => hk.2) (.int .i64 t241)) (fun _ hk => hk.2) (.int .i64 t242)) (fun _ hk => hk.2) (.slice Ao112 t243.length co112)) (fun _ h_ => h_.1))) (Kd.R_base ho0) hb); have n1_ := Aside0.mk (Kd.R_elder' (by (with_reducible repeat (first | apply Kd.R_alloc | apply Kd.R_drewN | apply Kd.R_drew)); exact (Kd.R_mono (Kd.R_far (p := ⟨gb247, 3, none⟩) (Kd.R_far (p := ⟨gb247, 2, none⟩) (Kd.R_far (p := ⟨gb247, 1, none⟩) (Kd.R_far (p := ⟨gb247, 0, none⟩) (Kd.R_types HO245.out BK247.out (by decide)) (fun _ hk => hk.2) (.int .i64 t240)) (fun _ hk => hk.2) (.int .i64 t241)) (fun _ hk => hk.2) (.int .i64 t242)) (fun _ hk => hk.2) (.slice Ao112 t243.length co112)) (fun _ h_ => h_.1))) (Kd.R_base ho0) hb); have n2_ := Aside0.mk (Kd.R_lower (Kd.R_new' ho0 (Kd.R_lt (by (with_reducible repeat (first | apply Kd.R_alloc | apply Kd.R_drewN | apply Kd.R_drew)); exact (Kd.R_mono (Kd.R_far (p := ⟨gb247, 3, none⟩) (Kd.R_far (p := ⟨gb247, 2, none⟩) (Kd.R_far (p := ⟨gb247, 1, none⟩) (Kd.R_far (p := ⟨gb247, 0, none⟩) (Kd.R_types HO245.out BK247.out (by decide)) (fun _ hk => hk.2) (.int .i64 t240)) (fun _ hk => hk.2) (.int .i64 t241)) (fun _ hk => hk.2) (.int .i64 t242)) (fun _ hk => hk.2) (.slice Ao112 t243.length co112)) (fun _ h_ => h_.1))))) (below_size (by repeat (first | (with_reducible first | exact HB.out | apply below_alloc | apply pw_below_drewN | apply below_drew1 | refine below_set ?_ GE194.out | refine below_set ?_ GE247.out) | exact HB.out)))); have n3_ := Aside0.mk (blk_below (g := gb194) (o := .cells #[.int .i64 t195, .int .i64 t196, .int .i64 t197, .slice Ao90 t198.length co90] 24 (0, 0)) (by (with_reducible repeat (first | refine blk_drewN ?_ _ | refine blk_drew ?_ | refine blk_alloc ?_ _)); refine blk_far ?_ NB194_247.out _; (with_reducible repeat (first | refine blk_drewN ?_ _ | refine blk_drew ?_ | refine blk_alloc ?_ _)); refine blk_far ?_ NB194_247.out _; (with_reducible repeat (first | refine blk_drewN ?_ _ | refine blk_drew ?_ | refine blk_alloc ?_ _)); refine blk_far ?_ NB194_247.out _; (with_reducible repeat (first | refine blk_drewN ?_ _ | refine blk_drew ?_ | refine blk_alloc ?_ _)); refine blk_far ?_ NB194_247.out _; (with_reducible repeat (first | refine blk_drewN ?_ _ | refine blk_drew ?_ | refine blk_alloc ?_ _)); exact BK194.out) hb); have n4_ := Aside0.mk (blk_below (g := gb247) (o := .cells #[.int .i64 t240, .int .i64 t241, .int .i64 t242, .slice Ao112 t243.length co112] 24 (0, 0)) (by (with_reducible repeat (first | refine blk_drewN ?_ _ | refine blk_drew ?_ | refine blk_alloc ?_ _)); refine blk_put (cs := #[.int .i64 t240, .int .i64 t241, .int .i64 t242, .slice none 0 0]) ?_ 3 _ rfl; (with_reducible repeat (first | refine blk_drewN ?_ _ | refine blk_drew ?_ | refine blk_alloc ?_ _)); refine blk_put (cs := #[.int .i64 t240, .int .i64 t241, .int .i64 0, .slice none 0 0]) ?_ 2 _ rfl; (with_reducible repeat (first | refine blk_drewN ?_ _ | refine blk_drew ?_ | refine blk_alloc ?_ _)); refine blk_put (cs := #[.int .i64 t240, .int .i64 0, .int .i64 0, .slice none 0 0]) ?_ 1 _ rfl; (with_reducible repeat (first | refine blk_drewN ?_ _ | refine blk_drew ?_ | refine blk_alloc ?_ _)); refine blk_put (cs := #[.int .i64 0, .int .i64 0, .int .i64 0, .slice none 0 0]) ?_ 0 _ rfl; (with_reducible repeat (first | refine blk_drewN ?_ _ | refine blk_drew ?_ | refine blk_alloc ?_ _)); exact BK247.out) hb); have n5_ := Aside0.mk (below_step (by repeat (first | (with_reducible first | exact HB.out | apply below_alloc | apply pw_below_drewN | apply below_drew1 | refine below_set ?_ GE194.out | refine below_set ?_ GE247.out) | exact HB.out)) hb); clear HO_195003; clear HO245; clear BK194; clear BK247; clear HB; have HO_195003 := n0_; have HO245 := n1_; have HO250 := n2_; have BK194 := n3_; have BK247 := n4_; have HB := n5_; clear n0_ n1_ n2_ n3_ n4_ n5_; (try clear hb); (try clear hb2); (try clear hk); (try clear hi); (try clear ho0); have hcv115 := own_string (P := Try.prog) Try.underlying22 Try.underlying5 Try.underlying9 (Kd.own_of_R HO250.out); have hcz116_0 : w114.cell? ⟨gb247, 0, none⟩ = some (.int .i64 t240) := (blk_cell BK247.out 0).trans rfl; have hcz116_1 : w114.cell? ⟨gb247, 1, none⟩ = some (.int .i64 t241) := (blk_cell BK247.out 1).trans rfl; have hcz116_2 : w114.cell? ⟨gb247, 2, none⟩ = some (.int .i64 t242) := (blk_cell BK247.out 2).trans rfl; have hcz116_3 : w114.cell? ⟨gb247, 3, none⟩ = some (.slice Ao112 t243.length co112) := (blk_cell BK247.out 3).trans rfl; have hfz116_0 := blk_frozen BK247.out 0; have hfz116_1 := blk_frozen BK247.out 1; have hfz116_2 := blk_frozen BK247.out 2; have hfz116_3 := blk_frozen BK247.out 3) | ((with_reducible refine gate_callee (f := 24) rfl ?_); refine goesL_ (some 49) rfl rfl Try.func24 (by kernel_rfl) rfl #[.agg #[.int .i64 t240, .int .i64 t241, .int .i64 t242, .slice Ao112 t243.length co112], .agg #[.int .i64 0, .int .i64 0, .int .i64 0, .slice none 0 0]] rfl (by (try simp only [List.map_toArray, List.map_cons, List.map_nil]); first | done | rfl | (simp only [List.length_drop, List.length_take]; rfl)) ?_; (refine (bivouacref06_Same.calls t240 t241 t242 _ _ t243 0 0 0 _ _ ([] : List Int) true _ ?side1 ?side2 ?side3 ?side4 A104.out).mono ?_); (case side1 => repeat (first | exact (Kd.R_reads' HO245.out).2.2 | (with_reducible refine Kd.C_alloc ?_ _) | (with_reducible refine Kd.C_drewN ?_ _) | (with_reducible refine Kd.C_drew ?_))); (case side2 => exact (Kd.R_reads' HO245.out).2.1); (case side3 => exact Kd.C_nil _ _); (case side4 => exact Nat.le_refl _); rintro e w117 ⟨rfl, hb⟩; refine ⟨_, rfl, ?_⟩; have n0_ := Aside0.mk (Kd.V_below (by (with_reducible repeat (first | apply Kd.V_alloc | apply Kd.V_drewN | apply Kd.V_drew)); exact HO_195003.out) hb); have n1_ := Aside0.mk (Kd.R_below (by (with_reducible repeat (first | apply Kd.R_alloc | apply Kd.R_drewN | apply Kd.R_drew)); exact HO245.out) hb); have n2_ := Aside0.mk (Kd.R_below (by (with_reducible repeat (first | apply Kd.R_alloc | apply Kd.R_drewN | apply Kd.R_drew)); exact HO250.out) hb); have n3_ := Aside0.mk (blk_below (g := gb194) (o := .cells #[.int .i64 t195, .int .i64 t196, .int .i64 t197, .slice Ao90 t198.length co90] 24 (0, 0)) (by (with_reducible repeat (first | refine blk_drewN ?_ _ | refine blk_drew ?_ | refine blk_alloc ?_ _)); exact BK194.out) hb); have n4_ := Aside0.mk (blk_below (g := gb247) (o := .cells #[.int .i64 t240, .int .i64 t241, .int .i64 t242, .slice Ao112 t243.length co112] 24 (0, 0)) (by (with_reducible repeat (first | refine blk_drewN ?_ _ | refine blk_drew ?_ | refine blk_alloc ?_ _)); exact BK247.out) hb); have n5_ := Aside0.mk (below_step (by repeat (first | (with_reducible first | exact HB.out | apply below_alloc | apply pw_below_drewN | apply below_drew1 | refine below_set ?_ GE194.out | refine below_set ?_ GE247.out) | exact HB.out)) hb); clear HO_195003; clear HO245; clear HO250; clear BK194; clear BK247; clear HB; have HO_195003 := n0_; have HO245 := n1_; have HO250 := n2_; have BK194 := n3_; have BK247 := n4_; have HB := n5_; clear n0_ n1_ n2_ n3_ n4_ n5_; (try clear hb); (try clear hb2); (try clear hk); (try clear hi)) | (go_at_call 14; (with_reducible refine (bivouaclaw06_awake.calls kj84  t252 _ A107.out).mono ?_); rintro e w118 ⟨rfl, hb⟩; have n0_ := Aside0.mk (Kd.V_below (by (with_reducible repeat (first | apply Kd.V_alloc | apply Kd.V_drewN | apply Kd.V_drew)); exact HO_195003.out) hb); have n1_ := Aside0.mk (Kd.R_below (by (with_reducible repeat (first | apply Kd.R_alloc | apply Kd.R_drewN | apply Kd.R_drew)); exact HO245.out) hb); have n2_ := Aside0.mk (Kd.R_below (by (with_reducible repeat (first | apply Kd.R_alloc | apply Kd.R_drewN | apply Kd.R_drew)); exact HO250.out) hb); have n3_ := Aside0.mk (blk_below (g := gb194) (o := .cells #[.int .i64 t195, .int .i64 t196, .int .i64 t197, .slice Ao90 t198.length co90] 24 (0, 0)) (by (with_reducible repeat (first | refine blk_drewN ?_ _ | refine blk_drew ?_ | refine blk_alloc ?_ _)); exact BK194.out) hb); have n4_ := Aside0.mk (blk_below (g := gb247) (o := .cells #[.int .i64 t240, .int .i64 t241, .int .i64 t242, .slice Ao112 t243.length co112] 24 (0, 0)) (by (with_reducible repeat (first | refine blk_drewN ?_ _ | refine blk_drew ?_ | refine blk_alloc ?_ _)); exact BK247.out) hb); have n5_ := Aside0.mk (below_step (by repeat (first | (with_reducible first | exact HB.out | apply below_alloc | apply pw_below_drewN | apply below_drew1 | refine below_set ?_ GE194.out | refine below_set ?_ GE247.out) | exact HB.out)) hb); clear HO_195003; clear HO245; clear HO250; clear BK194; clear BK247; clear HB; have HO_195003 := n0_; have HO245 := n1_; have HO250 := n2_; have BK194 := n3_; have BK247 := n4_; have HB := n5_; clear n0_ n1_ n2_ n3_ n4_ n5_; (try clear hb); (try clear hb2); (try clear hk); (try clear hi)))
        go_ret
        exact ⟨by first | rfl | (simp [errW_none, errW_some] <;> rfl) | (simp [*, errW_none, errW_some] <;> rfl) | (rw [Int.tdiv_eq_ediv_of_nonneg (by assumption)]; rfl), by repeat (first | (with_reducible first | exact HB.out | apply below_alloc | apply pw_below_drewN | apply below_drew1 | refine below_set ?_ GE194.out | refine below_set ?_ GE247.out) | exact HB.out)⟩
       ·
        rw [if_neg c106] at H
        exact absurd H (by simp)
      ·
       replace c105 := Bool.eq_false_iff.mpr c105
       subst c105
       have H1 : (none) = some r := by rw [if_neg (show ¬ (false = true) by decide)] at H; exact H
       clear H
       have H := H1
       clear H1
       exact absurd H (by simp)
     ·
      rw [if_neg c103] at H
      have c103b0 : decide ((l1.length : Int) < 3) = false := decide_eq_false c103
      have c103b1 : decide (l1.length < 3) = false := decide_eq_false (by omega)
      clear c103
      replace H := Option.bind_eq_some_iff.mp H
      obtain ⟨⟨t253, t254, t255, t256⟩, A1190, H⟩ := H
      replace H : ((bivouacref06_Check.f kj84 t253 t254 t255 t256).bind fun t259 => (if t259 = 0 then ((bivouacref06_Of.f l1).bind fun bt262 => ((bivouacref06_Same.f t240 t241 t242 t243 bt262.1 bt262.2.1 bt262.2.2.1 bt262.2.2.2).bind fun t268 => (if t268 = true then (if t246 = 0 then ((bivouaclaw06_awake.f kj84).bind fun t269 => (some t269)) else (none)) else (none)))) else ((bivouacref06_Same.f t240 t241 t242 t243 0 0 0 ([] : List Int)).bind fun t260 => (if t260 = true then (if t246 = t259 then ((bivouaclaw06_awake.f kj84).bind fun t261 => (some t261)) else (none)) else (none))))) = some r := H
      have A119 := Aside0.mk A1190
      clear A1190
      replace H := Option.bind_eq_some_iff.mp H
      obtain ⟨t259, A1200, H⟩ := H
      replace H : (if t259 = 0 then ((bivouacref06_Of.f l1).bind fun bt262 => ((bivouacref06_Same.f t240 t241 t242 t243 bt262.1 bt262.2.1 bt262.2.2.1 bt262.2.2.2).bind fun t268 => (if t268 = true then (if t246 = 0 then ((bivouaclaw06_awake.f kj84).bind fun t269 => (some t269)) else (none)) else (none)))) else ((bivouacref06_Same.f t240 t241 t242 t243 0 0 0 ([] : List Int)).bind fun t260 => (if t260 = true then (if t246 = t259 then ((bivouaclaw06_awake.f kj84).bind fun t261 => (some t261)) else (none)) else (none)))) = some r := H
      have A120 := Aside0.mk A1200
      clear A1200
      by_cases c121 : t259 = 0
      ·
       rw [if_pos c121] at H
       have c121b0 : (t259 == 0) = true := beq_iff_eq.mpr c121
       have c121b1 : (t259 != 0) = false := bne_eq_false_iff_eq.mpr c121
       clear c121
       replace H := Option.bind_eq_some_iff.mp H
       obtain ⟨⟨t262, t263, t264, t265⟩, A1220, H⟩ := H
       replace H : ((bivouacref06_Same.f t240 t241 t242 t243 t262 t263 t264 t265).bind fun t268 => (if t268 = true then (if t246 = 0 then ((bivouaclaw06_awake.f kj84).bind fun t269 => (some t269)) else (none)) else (none))) = some r := H
       have A122 := Aside0.mk A1220
       clear A1220
       replace H := Option.bind_eq_some_iff.mp H
       obtain ⟨t268, A1230, H⟩ := H
       replace H : (if t268 = true then (if t246 = 0 then ((bivouaclaw06_awake.f kj84).bind fun t269 => (some t269)) else (none)) else (none)) = some r := H
       have A123 := Aside0.mk A1230
       clear A1230
       by_cases c124 : t268 = true
       ·
        subst c124
        have H1 : (if t246 = 0 then ((bivouaclaw06_awake.f kj84).bind fun t269 => (some t269)) else (none)) = some r := by rw [if_pos rfl] at H; exact H
        clear H
        have H := H1
        clear H1
        by_cases c125 : t246 = 0
        ·
         rw [if_pos c125] at H
         have c125b0 : (t246 == 0) = true := beq_iff_eq.mpr c125
         have c125b1 : (t246 != 0) = false := bne_eq_false_iff_eq.mpr c125
         clear c125
         replace H := Option.bind_eq_some_iff.mp H
         obtain ⟨t269, A1260, H⟩ := H
         replace H : (some t269) = some r := H
         have A126 := Aside0.mk A1260
         clear A1260
         obtain rfl := Option.some.inj H
         try go_wp2_with (first | ((with_reducible refine gate_callee (f := 22) rfl ?_); refine goesL_ (some 36) rfl rfl Try.func22 (by kernel_rfl) rfl #[.slice A1 l1.length c1] rfl (by (try simp only [List.map_toArray, List.map_cons, List.map_nil]); first | done | rfl | (simp only [List.length_drop, List.length_take]; rfl)) ?_; (with_reducible refine (relief_Decode.calls kj84 _ _ l1 t240 t241 t242 t243 t246 _ ?side1 ?side2 A100.out).mono ?_); (case side1 => repeat (first | exact (Kd.C_below HR1.out HB.out) | (with_reducible refine Kd.C_alloc ?_ _) | (with_reducible refine Kd.C_drewN ?_ _) | (with_reducible refine Kd.C_drew ?_))); (case side2 => exact HC1.out); rintro e w127 ⟨v244, rfl, ho0, hb⟩; refine ⟨_, rfl, ?_⟩; have n0_ := Aside0.mk (Kd.V_elder' (by (with_reducible repeat (first | apply Kd.V_alloc | apply Kd.V_drewN | apply Kd.V_drew)); exact HO_195003.out) (Kd.R_base ho0) hb); have n1_ := Aside0.mk (Kd.R_lower ho0 (below_size (by repeat (first | (with_reducible first | exact HB.out | apply below_alloc | apply pw_below_drewN | apply below_drew1 | refine below_set ?_ GE194.out) | exact HB.out)))); have n2_ := Aside0.mk (blk_below (g := gb194) (o := .cells #[.int .i64 t195, .int .i64 t196, .int .i64 t197, .slice Ao90 t198.length co90] 24 (0, 0)) (by (with_reducible repeat (first | refine blk_drewN ?_ _ | refine blk_drew ?_ | refine blk_alloc ?_ _)); exact BK194.out) hb); have n3_ := Aside0.mk (below_step (by repeat (first | (with_reducible first | exact HB.out | apply below_alloc | apply pw_below_drewN | apply below_drew1 | refine below_set ?_ GE194.out) | exact HB.out)) hb); clear HO_195003; clear BK194; clear HB; have HO_195003 := n0_; have HO245 := n1_; have BK194 := n2_; have HB := n3_; clear n0_ n1_ n2_ n3_; (try clear hb); (try clear hb2); (try clear hk); (try clear hi); (try clear ho0)) | ((with_reducible refine gate_dst (N := 6) rfl ?_); refine box_event ?hg (N := 6) ?hd (cs := #[.int .i64 0, .int .i64 0, .int .i64 0, .slice none 0 0]) (t := 24) ?hr ?_; (case hd => rfl); (case hg => rfl); (case hr => first | (go_simp; done) | (go_simp; rfl)); intro gb247 hg w128 hbox hb; have n0_ := Aside0.mk (Kd.V_below (Kd.V_elderB (by (with_reducible repeat (first | apply Kd.V_alloc | apply Kd.V_drewN | apply Kd.V_drew)); exact HO_195003.out) gb247 (Nat.le_of_eq hg.symm)) hb); have n1_ := Aside0.mk (Kd.R_below (by (with_reducible repeat (first | apply Kd.R_alloc | apply Kd.R_drewN | apply Kd.R_drew)); exact HO245.out) hb); have n2_ := Aside0.mk (blk_below (g := gb194) (o := .cells #[.int .i64 t195, .int .i64 t196, .int .i64 t197, .slice Ao90 t198.length co90] 24 (0, 0)) (by (with_reducible repeat (first | refine blk_drewN ?_ _ | refine blk_drew ?_ | refine blk_alloc ?_ _)); exact BK194.out) hb); have n3_ := Aside0.mk (below_step (by repeat (first | (with_reducible first | exact HB.out | apply below_alloc | apply pw_below_drewN | apply below_drew1 | refine below_set ?_ GE194.out) | exact HB.out)) hb); have n4_ := Aside0.mk (hbox); have n5_ := Aside0.mk ((by rw [hg]; exact (below_size (by repeat (first | (with_reducible first | exact HB.out | apply below_alloc | apply pw_below_drewN | apply below_drew1 | refine below_set ?_ GE194.out) | exact HB.out))) : w.heap.size ≤ gb247)); have n6_ := Aside0.mk ((by rw [hg]; exact (below_size (by repeat (first | (with_reducible first | exact HB.out | apply below_alloc | apply pw_below_drewN | apply below_drew1 | refine below_set ?_ GE194.out) | exact HB.out))) : w.heap.size ≤ gb247)); have n7_ := Aside0.mk ((by rw [hg]; exact Nat.ne_of_lt (blk_lt (g := gb194) (o := .cells #[.int .i64 t195, .int .i64 t196, .int .i64 t197, .slice Ao90 t198.length co90] 24 (0, 0)) (by (with_reducible repeat (first | refine blk_drewN ?_ _ | refine blk_drew ?_ | refine blk_alloc ?_ _)); exact BK194.out)) : gb194 ≠ gb247)); have n8_ := Aside0.mk ((by rw [hg]; exact Nat.ne_of_gt (blk_lt (g := gb194) (o := .cells #[.int .i64 t195, .int .i64 t196, .int .i64 t197, .slice Ao90 t198.length co90] 24 (0, 0)) (by (with_reducible repeat (first | refine blk_drewN ?_ _ | refine blk_drew ?_ | refine blk_alloc ?_ _)); exact BK194.out)) : gb247 ≠ gb194)); clear HO_195003; clear HO245; clear BK194; clear HB; have HO_195003 := n0_; have HO245 := n1_; have BK194 := n2_; have HB := n3_; have BK247 := n4_; have GW247 := n5_; have GE247 := n6_; have NB194_247 := n7_; have NB247_194 := n8_; clear n0_ n1_ n2_ n3_ n4_ n5_ n6_ n7_ n8_; clear hb hbox hg; have hnb129 := NB247_194.out; have hnc129 := NB194_247.out; have hcz130_0 : w128.cell? ⟨gb247, 0, none⟩ = some (.int .i64 0) := (blk_cell BK247.out 0).trans rfl; have hcz130_1 : w128.cell? ⟨gb247, 1, none⟩ = some (.int .i64 0) := (blk_cell BK247.out 1).trans rfl; have hcz130_2 : w128.cell? ⟨gb247, 2, none⟩ = some (.int .i64 0) := (blk_cell BK247.out 2).trans rfl; have hcz130_3 : w128.cell? ⟨gb247, 3, none⟩ = some (.slice none 0 0) := (blk_cell BK247.out 3).trans rfl; have hfz130_0 := blk_frozen BK247.out 0; have hfz130_1 := blk_frozen BK247.out 1; have hfz130_2 := blk_frozen BK247.out 2; have hfz130_3 := blk_frozen BK247.out 3; obtain ⟨Ao131, co131, eo131⟩ := Kd.R_slice HO245.out; subst eo131; have hcz132_0 : w128.cell? ⟨gb194, 0, none⟩ = some (.int .i64 t195) := (blk_cell BK194.out 0).trans rfl; have hcz132_1 : w128.cell? ⟨gb194, 1, none⟩ = some (.int .i64 t196) := (blk_cell BK194.out 1).trans rfl; have hcz132_2 : w128.cell? ⟨gb194, 2, none⟩ = some (.int .i64 t197) := (blk_cell BK194.out 2).trans rfl; have hcz132_3 : w128.cell? ⟨gb194, 3, none⟩ = some (.slice Ao90 t198.length co90) := (blk_cell BK194.out 3).trans rfl; have hfz132_0 := blk_frozen BK194.out 0; have hfz132_1 := blk_frozen BK194.out 1; have hfz132_2 := blk_frozen BK194.out 2; have hfz132_3 := blk_frozen BK194.out 3) | ((with_reducible refine gate_callee (f := 23) rfl ?_); refine goesL_ (some 40) rfl rfl Try.func23 (by kernel_rfl) rfl #[.agg #[.int .i64 t195, .int .i64 t196, .int .i64 t197, .slice Ao90 t198.length co90]] rfl (by (try simp only [List.map_toArray, List.map_cons, List.map_nil]); first | done | rfl | (simp only [List.length_drop, List.length_take]; rfl)) ?_; (with_reducible refine (relief_Encode.calls kj84 t195 t196 t197 _ _ t198 t248 _ ?side1 ?side2 A101.out).mono ?_); (case side1 => refine (Kd.V_reads' (e := 5) (base := w.heap.size) (ok := fun k_ => ((k_ ≠ gb194 ∧ some k_ ≠ (.slice Ao131 t243.length co131 : Value).ownBlock) ∧ k_ ≠ gb247)) (n := t198.length) (c := co90) ?_).2.2; exact (by (with_reducible repeat (first | apply Kd.V_alloc | apply Kd.V_drewN | apply Kd.V_drew)); exact (Kd.V_mono (Kd.V_far (p := ⟨gb247, 3, none⟩) (Kd.V_far (p := ⟨gb247, 2, none⟩) (Kd.V_far (p := ⟨gb247, 1, none⟩) (Kd.V_far (p := ⟨gb247, 0, none⟩) (Kd.V_mono HO_195003.out (fun k_ hk => (⟨hk, hk.2⟩ : _ ∧ k_ ≠ gb247))) (fun _ hk => hk.2) (.int .i64 t240)) (fun _ hk => hk.2) (.int .i64 t241)) (fun _ hk => hk.2) (.int .i64 t242)) (fun _ hk => hk.2) (.slice Ao131 t243.length co131)) (fun _ h_ => h_.1)))); (case side2 => exact (Kd.V_reads' HO_195003.out).2.1); rintro e w133 ⟨v249, rfl, ho0, hb⟩; refine ⟨_, rfl, ?_⟩; have n0_ := Aside0.mk (Kd.V_elder' (by (with_reducible repeat (first | apply Kd.V_alloc | apply Kd.V_drewN | apply Kd.V_drew)); exact (Kd.V_mono (Kd.V_far (p := ⟨gb247, 3, none⟩) (Kd.V_far (p := ⟨gb247, 2, none⟩) (Kd.V_far (p := ⟨gb247, 1, none⟩) (Kd.V_far (p := ⟨gb247, 0, none⟩) (Kd.V_mono HO_195003.out (fun k_ hk => (⟨hk, hk.2⟩ : _ ∧ k_ ≠ gb247))) (fun _ hk => hk.2) (.int .i64 t240)) (fun _ hk => hk.2) (.int .i64 t241)) (fun _ hk => hk.2) (.int .i64 t242)) (fun _ hk => hk.2) (.slice Ao131 t243.length co131)) (fun _ h_ => h_.1))) (Kd.R_base ho0) hb); have n1_ := Aside0.mk (Kd.R_elder' (by (with_reducible repeat (first | apply Kd.R_alloc | apply Kd.R_drewN | apply Kd.R_drew)); exact (Kd.R_mono (Kd.R_far (p := ⟨gb247, 3, none⟩) (Kd.R_far (p := ⟨gb247, 2, none⟩) (Kd.R_far (p := ⟨gb247, 1, none⟩) (Kd.R_far (p := ⟨gb247, 0, none⟩) (Kd.R_types HO245.out BK247.out (by decide)) (fun _ hk => hk.2) (.int .i64 t240)) (fun _ hk => hk.2) (.int .i64 t241)) (fun _ hk => hk.2) (.int .i64 t242)) (fun _ hk => hk.2) (.slice Ao131 t243.length co131)) (fun _ h_ => h_.1))) (Kd.R_base ho0) hb); have n2_ := Aside0.mk (Kd.R_lower (Kd.R_new' ho0 (Kd.R_lt (by (with_reducible repeat (first | apply Kd.R_alloc | apply Kd.R_drewN | apply Kd.R_drew)); exact (Kd.R_mono (Kd.R_far (p := ⟨gb247, 3, none⟩) (Kd.R_far (p := ⟨gb247, 2, none⟩) (Kd.R_far (p := ⟨gb247, 1, none⟩) (Kd.R_far (p := ⟨gb247, 0, none⟩) (Kd.R_types HO245.out BK247.out (by decide)) (fun _ hk => hk.2) (.int .i64 t240)) (fun _ hk => hk.2) (.int .i64 t241)) (fun _ hk => hk.2) (.int .i64 t242)) (fun _ hk => hk.2) (.slice Ao131 t243.length co131)) (fun _ h_ => h_.1))))) (below_size (by repeat (first | (with_reducible first | exact HB.out | apply below_alloc | apply pw_below_drewN | apply below_drew1 | refine below_set ?_ GE194.out | refine below_set ?_ GE247.out) | exact HB.out)))); have n3_ := Aside0.mk (blk_below (g := gb194) (o := .cells #[.int .i64 t195, .int .i64 t196, .int .i64 t197, .slice Ao90 t198.length co90] 24 (0, 0)) (by (with_reducible repeat (first | refine blk_drewN ?_ _ | refine blk_drew ?_ | refine blk_alloc ?_ _)); refine blk_far ?_ NB194_247.out _; (with_reducible repeat (first | refine blk_drewN ?_ _ | refine blk_drew ?_ | refine blk_alloc ?_ _)); refine blk_far ?_ NB194_247.out _; (with_reducible repeat (first | refine blk_drewN ?_ _ | refine blk_drew ?_ | refine blk_alloc ?_ _)); refine blk_far ?_ NB194_247.out _; (with_reducible repeat (first | refine blk_drewN ?_ _ | refine blk_drew ?_ | refine blk_alloc ?_ _)); refine blk_far ?_ NB194_247.out _; (with_reducible repeat (first | refine blk_drewN ?_ _ | refine blk_drew ?_ | refine blk_alloc ?_ _)); exact BK194.out) hb); have n4_ := Aside0.mk (blk_below (g := gb247) (o := .cells #[.int .i64 t240, .int .i64 t241, .int .i64 t242, .slice Ao131 t243.length co131] 24 (0, 0)) (by (with_reducible repeat (first | refine blk_drewN ?_ _ | refine blk_drew ?_ | refine blk_alloc ?_ _)); refine blk_put (cs := #[.int .i64 t240, .int .i64 t241, .int .i64 t242, .slice none 0 0]) ?_ 3 _ rfl; (with_reducible repeat (first | refine blk_drewN ?_ _ | refine blk_drew ?_ | refine blk_alloc ?_ _)); refine blk_put (cs := #[.int .i64 t240, .int .i64 t241, .int .i64 0, .slice none 0 0]) ?_ 2 _ rfl; (with_reducible repeat (first | refine blk_drewN ?_ _ | refine blk_drew ?_ | refine blk_alloc ?_ _)); refine blk_put (cs := #[.int .i64 t240, .int .i64 0, .int .i64 0, .slice none 0 0]) ?_ 1 _ rfl; (with_reducible repeat (first | refine blk_drewN ?_ _ | refine blk_drew ?_ | refine blk_alloc ?_ _)); refine blk_put (cs := #[.int .i64 0, .int .i64 0, .int .i64 0, .slice none 0 0]) ?_ 0 _ rfl; (with_reducible repeat (first | refine blk_drewN ?_ _ | refine blk_drew ?_ | refine blk_alloc ?_ _)); exact BK247.out) hb); have n5_ := Aside0.mk (below_step (by repeat (first | (with_reducible first | exact HB.out | apply below_alloc | apply pw_below_drewN | apply below_drew1 | refine below_set ?_ GE194.out | refine below_set ?_ GE247.out) | exact HB.out)) hb); clear HO_195003; clear HO245; clear BK194; clear BK247; clear HB; have HO_195003 := n0_; have HO245 := n1_; have HO250 := n2_; have BK194 := n3_; have BK247 := n4_; have HB := n5_; clear n0_ n1_ n2_ n3_ n4_ n5_; (try clear hb); (try clear hb2); (try clear hk); (try clear hi); (try clear ho0); have hcv134 := own_string (P := Try.prog) Try.underlying22 Try.underlying5 Try.underlying9 (Kd.own_of_R HO250.out)) | ((with_reducible refine gate_callee (f := 25) rfl ?_); refine goesL_ (some 58) rfl rfl Try.func25 (by kernel_rfl) rfl #[.slice A1 l1.length c1] rfl (by (try simp only [List.map_toArray, List.map_cons, List.map_nil]); first | done | rfl | (simp only [List.length_drop, List.length_take]; rfl)) ?_; (with_reducible refine (bivouacref06_Of.calls _ _ l1 t253 t254 t255 t256 _ ?side1 ?side2 A119.out).mono ?_); (case side1 => repeat (first | exact (Kd.C_below HR1.out HB.out) | (with_reducible refine Kd.C_alloc ?_ _) | (with_reducible refine Kd.C_drewN ?_ _) | (with_reducible refine Kd.C_drew ?_))); (case side2 => exact HC1.out); rintro e w135 ⟨v257, rfl, ho0, hb⟩; refine ⟨_, rfl, ?_⟩; have n0_ := Aside0.mk (Kd.V_elder' (by (with_reducible repeat (first | apply Kd.V_alloc | apply Kd.V_drewN | apply Kd.V_drew)); exact HO_195003.out) (Kd.R_base ho0) hb); have n1_ := Aside0.mk (Kd.R_elder' (by (with_reducible repeat (first | apply Kd.R_alloc | apply Kd.R_drewN | apply Kd.R_drew)); exact HO245.out) (Kd.R_base ho0) hb); have n2_ := Aside0.mk (Kd.R_elder' (by (with_reducible repeat (first | apply Kd.R_alloc | apply Kd.R_drewN | apply Kd.R_drew)); exact HO250.out) (Kd.R_base ho0) hb); have n3_ := Aside0.mk (Kd.R_lower (Kd.R_new' (Kd.R_new' ho0 (Kd.R_lt (by (with_reducible repeat (first | apply Kd.R_alloc | apply Kd.R_drewN | apply Kd.R_drew)); exact HO245.out))) (Kd.R_lt (by (with_reducible repeat (first | apply Kd.R_alloc | apply Kd.R_drewN | apply Kd.R_drew)); exact HO250.out))) (below_size (by repeat (first | (with_reducible first | exact HB.out | apply below_alloc | apply pw_below_drewN | apply below_drew1 | refine below_set ?_ GE194.out | refine below_set ?_ GE247.out) | exact HB.out)))); have n4_ := Aside0.mk (blk_below (g := gb194) (o := .cells #[.int .i64 t195, .int .i64 t196, .int .i64 t197, .slice Ao90 t198.length co90] 24 (0, 0)) (by (with_reducible repeat (first | refine blk_drewN ?_ _ | refine blk_drew ?_ | refine blk_alloc ?_ _)); exact BK194.out) hb); have n5_ := Aside0.mk (blk_below (g := gb247) (o := .cells #[.int .i64 t240, .int .i64 t241, .int .i64 t242, .slice Ao131 t243.length co131] 24 (0, 0)) (by (with_reducible repeat (first | refine blk_drewN ?_ _ | refine blk_drew ?_ | refine blk_alloc ?_ _)); exact BK247.out) hb); have n6_ := Aside0.mk (below_step (by repeat (first | (with_reducible first | exact HB.out | apply below_alloc | apply pw_below_drewN | apply below_drew1 | refine below_set ?_ GE194.out | refine below_set ?_ GE247.out) | exact HB.out)) hb); clear HO_195003; clear HO245; clear HO250; clear BK194; clear BK247; clear HB; have HO_195003 := n0_; have HO245 := n1_; have HO250 := n2_; have HO258 := n3_; have BK194 := n4_; have BK247 := n5_; have HB := n6_; clear n0_ n1_ n2_ n3_ n4_ n5_ n6_; (try clear hb); (try clear hb2); (try clear hk); (try clear hi); (try clear ho0); obtain ⟨Ao136, co136, eo136⟩ := Kd.R_slice HO258.out; subst eo136) | ((with_reducible refine gate_callee (f := 10) rfl ?_); refine goesL_ (some 59) rfl rfl Try.func10 (by kernel_rfl) rfl #[.agg #[.int .i64 t253, .int .i64 t254, .int .i64 t255, .slice Ao136 t256.length co136]] rfl (by (try simp only [List.map_toArray, List.map_cons, List.map_nil]); first | done | rfl | (simp only [List.length_drop, List.length_take]; rfl)) ?_; (with_reducible refine (bivouacref06_Check.calls kj84 t253 t254 t255 _ _ t256 t259 _ ?side1 ?side2 A120.out).mono ?_); (case side1 => repeat (first | exact (Kd.R_reads' HO258.out).2.2 | (with_reducible refine Kd.C_alloc ?_ _) | (with_reducible refine Kd.C_drewN ?_ _) | (with_reducible refine Kd.C_drew ?_))); (case side2 => exact (Kd.R_reads' HO258.out).2.1); rintro e w137 ⟨rfl, hb⟩; refine ⟨_, rfl, ?_⟩; have n0_ := Aside0.mk (Kd.V_below (by (with_reducible repeat (first | apply Kd.V_alloc | apply Kd.V_drewN | apply Kd.V_drew)); exact HO_195003.out) hb); have n1_ := Aside0.mk (Kd.R_below (by (with_reducible repeat (first | apply Kd.R_alloc | apply Kd.R_drewN | apply Kd.R_drew)); exact HO245.out) hb); have n2_ := Aside0.mk (Kd.R_below (by (with_reducible repeat (first | apply Kd.R_alloc | apply Kd.R_drewN | apply Kd.R_drew)); exact HO250.out) hb); have n3_ := Aside0.mk (Kd.R_below (by (with_reducible repeat (first | apply Kd.R_alloc | apply Kd.R_drewN | apply Kd.R_drew)); exact HO258.out) hb); have n4_ := Aside0.mk (blk_below (g := gb194) (o := .cells #[.int .i64 t195, .int .i64 t196, .int .i64 t197, .slice Ao90 t198.length co90] 24 (0, 0)) (by (with_reducible repeat (first | refine blk_drewN ?_ _ | refine blk_drew ?_ | refine blk_alloc ?_ _)); exact BK194.out) hb); have n5_ := Aside0.mk (blk_below (g := gb247) (o := .cells #[.int .i64 t240, .int .i64 t241, .int .i64 t242, .slice Ao131 t243.length co131] 24 (0, 0)) (by (with_reducible repeat (first | refine blk_drewN ?_ _ | refine blk_drew ?_ | refine blk_alloc ?_ _)); exact BK247.out) hb); have n6_ := Aside0.mk (below_step (by repeat (first | (with_reducible first | exact HB.out | apply below_alloc | apply pw_below_drewN | apply below_drew1 | refine below_set ?_ GE194.out | refine below_set ?_ GE247.out) | exact HB.out)) hb); clear HO_195003; clear HO245; clear HO250; clear HO258; clear BK194; clear BK247; clear HB; have HO_195003 := n0_; have HO245 := n1_; have HO250 := n2_; have HO258 := n3_; have BK194 := n4_; have BK247 := n5_; have HB := n6_; clear n0_ n1_ n2_ n3_ n4_ n5_ n6_; (try clear hb); (try clear hb2); (try clear hk); (try clear hi)))
         have n0_ := Aside0.mk (Kd.V_drew HO_195003.out)
         have n1_ := Aside0.mk (Kd.R_drew HO245.out)
         have n2_ := Aside0.mk (Kd.R_drew HO250.out)
         have n3_ := Aside0.mk (Kd.R_drew HO258.out)
         have n4_ := Aside0.mk (blk_drew BK194.out)
         have n5_ := Aside0.mk (blk_drew BK247.out)
         have n6_ := Aside0.mk (below_drew1 HB.out)
         clear HO_195003
         clear HO245
         clear HO250
         clear HO258
         clear BK194
         clear BK247
         clear HB
         have HO_195003 := n0_
         have HO245 := n1_
         have HO250 := n2_
         have HO258 := n3_
         have BK194 := n4_
         have BK247 := n5_
         have HB := n6_
         clear n0_ n1_ n2_ n3_ n4_ n5_ n6_
         refine start_ (n := 12) (S := fun w' => w'.cell? ⟨gb247, 0, none⟩ = some (.int .i64 t240) ∧ w'.cell? ⟨gb247, 1, none⟩ = some (.int .i64 t241) ∧ w'.cell? ⟨gb247, 2, none⟩ = some (.int .i64 t242) ∧ w'.cell? ⟨gb247, 3, none⟩ = some (.slice Ao131 t243.length co131)) (ds := []) (bA 12 0) (by kernel_rfl) rfl rfl ⟨(blk_cell BK247.out 0).trans rfl, (blk_cell BK247.out 1).trans rfl, (blk_cell BK247.out 2).trans rfl, (blk_cell BK247.out 3).trans rfl⟩ (fun hHeld => ?_); refine with_tabW bivouaclaw06_ReliefBytes.tab15 bivouaclaw06_ReliefBytes.bits15 (fun HT_ HW_ => ?_)
         generalize w137.drew = w138 at HO_195003 HO245 HO250 HO258 BK194 BK247 HB hHeld ⊢
         refine pure_ (i := 1) (N := some 74) (v := ?_) (a' := ?_) (bA 12 2) rfl rfl (any_of HT_.out (by kernel_rfl)) (fun _ _ _ h => h) (Or.inl ⟨by rfl, ?_⟩) ?_ ?_
         rotate_left
         ·
          intro w'
          go_simp
          with_reducible rfl
         rotate_left
         ·
          simp only [Act.put, sA, sB, sC, i64_w, i32_w]
          rfl
         refine take_ (i := 0) (N := some 73) (v := ?_) (a' := ?_) (bA 12 3) rfl rfl (take_ofW HT_.out HW_.out (by kernel_rfl)) (fun _ _ _ h => h) (Or.inl ⟨by rfl, ?_⟩) hHeld ?_ ?_
         rotate_left
         ·
          rintro w' ⟨s0, s1, s2, s3⟩
          go_simp
          with_reducible rfl
         rotate_left
         ·
          simp only [Act.put, sA, sB, sC, i64_w, i32_w]
          rfl
         refine one_ (i := 2) (N := some 75) (bA 12 7) rfl rfl (one_of HT_.out (by kernel_rfl)) (by decide) (fun K hK => ?_)
         refine goes_ Try.func25 (by kernel_rfl) rfl #[.slice A1 l1.length c1] (by rfl) rfl rfl (by (try simp only [List.map_toArray, List.map_cons, List.map_nil]); first | done | rfl | (simp only [List.length_drop, List.length_take]; rfl)) ?_
         with_reducible refine (bivouacref06_Of.calls _ _ l1 t262 t263 t264 t265 _ ?side1 ?side2 A122.out).mono ?_
         (case side1 => repeat (first | exact (Kd.C_below HR1.out HB.out) | (with_reducible refine Kd.C_alloc ?_ _) | (with_reducible refine Kd.C_drewN ?_ _) | (with_reducible refine Kd.C_drew ?_)))
         (case side2 => exact HC1.out)
         rintro e w139 ⟨v266, rfl, ho0, hb⟩
         refine ⟨_, rfl, ?_⟩
         have n0_ := Aside0.mk (Kd.V_elder' (by (with_reducible repeat (first | apply Kd.V_alloc | apply Kd.V_drewN | apply Kd.V_drew)); exact HO_195003.out) (Kd.R_base ho0) hb)
         have n1_ := Aside0.mk (Kd.R_elder' (by (with_reducible repeat (first | apply Kd.R_alloc | apply Kd.R_drewN | apply Kd.R_drew)); exact HO245.out) (Kd.R_base ho0) hb)
         have n2_ := Aside0.mk (Kd.R_elder' (by (with_reducible repeat (first | apply Kd.R_alloc | apply Kd.R_drewN | apply Kd.R_drew)); exact HO250.out) (Kd.R_base ho0) hb)
         have n3_ := Aside0.mk (Kd.R_elder' (by (with_reducible repeat (first | apply Kd.R_alloc | apply Kd.R_drewN | apply Kd.R_drew)); exact HO258.out) (Kd.R_base ho0) hb)
         have n4_ := Aside0.mk (Kd.R_lower (Kd.R_new' (Kd.R_new' (Kd.R_new' ho0 (Kd.R_lt (by (with_reducible repeat (first | apply Kd.R_alloc | apply Kd.R_drewN | apply Kd.R_drew)); exact HO245.out))) (Kd.R_lt (by (with_reducible repeat (first | apply Kd.R_alloc | apply Kd.R_drewN | apply Kd.R_drew)); exact HO250.out))) (Kd.R_lt (by (with_reducible repeat (first | apply Kd.R_alloc | apply Kd.R_drewN | apply Kd.R_drew)); exact HO258.out))) (below_size (by repeat (first | (with_reducible first | exact HB.out | apply below_alloc | apply pw_below_drewN | apply below_drew1 | refine below_set ?_ GE194.out | refine below_set ?_ GE247.out) | exact HB.out))))
         have n5_ := Aside0.mk (blk_below (g := gb194) (o := .cells #[.int .i64 t195, .int .i64 t196, .int .i64 t197, .slice Ao90 t198.length co90] 24 (0, 0)) (by (with_reducible repeat (first | refine blk_drewN ?_ _ | refine blk_drew ?_ | refine blk_alloc ?_ _)); exact BK194.out) hb)
         have n6_ := Aside0.mk (blk_below (g := gb247) (o := .cells #[.int .i64 t240, .int .i64 t241, .int .i64 t242, .slice Ao131 t243.length co131] 24 (0, 0)) (by (with_reducible repeat (first | refine blk_drewN ?_ _ | refine blk_drew ?_ | refine blk_alloc ?_ _)); exact BK247.out) hb)
         have n7_ := Aside0.mk (below_step (by repeat (first | (with_reducible first | exact HB.out | apply below_alloc | apply pw_below_drewN | apply below_drew1 | refine below_set ?_ GE194.out | refine below_set ?_ GE247.out) | exact HB.out)) hb)
         clear HO_195003
         clear HO245
         clear HO250
         clear HO258
         clear BK194
         clear BK247
         clear HB
         have HO_195003 := n0_
         have HO245 := n1_
         have HO250 := n2_
         have HO258 := n3_
         have HO267 := n4_
         have BK194 := n5_
         have BK247 := n6_
         have HB := n7_
         clear n0_ n1_ n2_ n3_ n4_ n5_ n6_ n7_
         (try clear hb)
         (try clear hb2)
         (try clear hk)
         (try clear hi)
         (try clear ho0)
         obtain ⟨Ao140, co140, eo140⟩ := Kd.R_slice HO267.out
         (first | subst eo140 | (injection eo140 with f1_ f2_ f3_; have f4_ := f1_.symm; have f5_ := f3_.symm; clear f1_ f2_ f3_; subst f4_; subst f5_))
         refine hK.out _ _ ⟨(blk_cell BK247.out 0).trans rfl, (blk_cell BK247.out 1).trans rfl, (blk_cell BK247.out 2).trans rfl, (blk_cell BK247.out 3).trans rfl⟩ (fun hHeld => ?_)
         clear hK K
         refine norm_ (a' := ?_) ?_ ?_
         rotate_left
         ·
          show Act.put _ (some 75) _ = _
          simp only [Act.put, sA, sB, sC, i64_w, i32_w]
          rfl
         refine one_ (i := 3) (N := some 76) (bA 12 15) rfl rfl (one_of HT_.out (by kernel_rfl)) (by decide) (fun K hK => ?_)
         refine goes_ Try.func24 (by kernel_rfl) rfl #[.agg #[.int .i64 t240, .int .i64 t241, .int .i64 t242, .slice Ao131 t243.length co131], .agg #[.int .i64 t262, .int .i64 t263, .int .i64 t264, .slice Ao140 t265.length co140]] (by rfl) rfl rfl (by (try simp only [List.map_toArray, List.map_cons, List.map_nil]); first | done | rfl | (simp only [List.length_drop, List.length_take]; rfl)) ?_
         with_reducible refine (bivouacref06_Same.calls t240 t241 t242 _ _ t243 t262 t263 t264 _ _ t265 true _ ?side1 ?side2 ?side3 ?side4 A123.out).mono ?_
         (case side1 => repeat (first | exact (Kd.R_reads' HO245.out).2.2 | (with_reducible refine Kd.C_alloc ?_ _) | (with_reducible refine Kd.C_drewN ?_ _) | (with_reducible refine Kd.C_drew ?_)))
         (case side2 => exact (Kd.R_reads' HO245.out).2.1)
         (case side3 => repeat (first | exact (Kd.R_reads' HO267.out).2.2 | (with_reducible refine Kd.C_alloc ?_ _) | (with_reducible refine Kd.C_drewN ?_ _) | (with_reducible refine Kd.C_drew ?_)))
         (case side4 => exact (Kd.R_reads' HO267.out).2.1)
         rintro e w141 ⟨rfl, hb⟩
         refine ⟨_, rfl, ?_⟩
         have n0_ := Aside0.mk (Kd.V_below (by (with_reducible repeat (first | apply Kd.V_alloc | apply Kd.V_drewN | apply Kd.V_drew)); exact HO_195003.out) hb)
         have n1_ := Aside0.mk (Kd.R_below (by (with_reducible repeat (first | apply Kd.R_alloc | apply Kd.R_drewN | apply Kd.R_drew)); exact HO245.out) hb)
         have n2_ := Aside0.mk (Kd.R_below (by (with_reducible repeat (first | apply Kd.R_alloc | apply Kd.R_drewN | apply Kd.R_drew)); exact HO250.out) hb)
         have n3_ := Aside0.mk (Kd.R_below (by (with_reducible repeat (first | apply Kd.R_alloc | apply Kd.R_drewN | apply Kd.R_drew)); exact HO258.out) hb)
         have n4_ := Aside0.mk (Kd.R_below (by (with_reducible repeat (first | apply Kd.R_alloc | apply Kd.R_drewN | apply Kd.R_drew)); exact HO267.out) hb)
         have n5_ := Aside0.mk (blk_below (g := gb194) (o := .cells #[.int .i64 t195, .int .i64 t196, .int .i64 t197, .slice Ao90 t198.length co90] 24 (0, 0)) (by (with_reducible repeat (first | refine blk_drewN ?_ _ | refine blk_drew ?_ | refine blk_alloc ?_ _)); exact BK194.out) hb)
         have n6_ := Aside0.mk (blk_below (g := gb247) (o := .cells #[.int .i64 t240, .int .i64 t241, .int .i64 t242, .slice Ao131 t243.length co131] 24 (0, 0)) (by (with_reducible repeat (first | refine blk_drewN ?_ _ | refine blk_drew ?_ | refine blk_alloc ?_ _)); exact BK247.out) hb)
         have n7_ := Aside0.mk (below_step (by repeat (first | (with_reducible first | exact HB.out | apply below_alloc | apply pw_below_drewN | apply below_drew1 | refine below_set ?_ GE194.out | refine below_set ?_ GE247.out) | exact HB.out)) hb)
         clear HO_195003
         clear HO245
         clear HO250
         clear HO258
         clear HO267
         clear BK194
         clear BK247
         clear HB
         have HO_195003 := n0_
         have HO245 := n1_
         have HO250 := n2_
         have HO258 := n3_
         have HO267 := n4_
         have BK194 := n5_
         have BK247 := n6_
         have HB := n7_
         clear n0_ n1_ n2_ n3_ n4_ n5_ n6_ n7_
         (try clear hb)
         (try clear hb2)
         (try clear hk)
         (try clear hi)
         refine hK.out _ _ ⟨(blk_cell BK247.out 0).trans rfl, (blk_cell BK247.out 1).trans rfl, (blk_cell BK247.out 2).trans rfl, (blk_cell BK247.out 3).trans rfl⟩ (fun hHeld => ?_)
         clear hK K
         refine norm_ (a' := ?_) ?_ ?_
         rotate_left
         ·
          show Act.put _ (some 76) _ = _
          simp only [Act.put, sA, sB, sC, i64_w, i32_w]
          rfl
         refine pure_ (i := 4) (N := some 77) (v := ?_) (a' := ?_) (bA 12 31) rfl rfl (any_of HT_.out (by kernel_rfl)) (fun _ _ _ h => h) (Or.inl ⟨by rfl, ?_⟩) ?_ ?_
         rotate_left
         ·
          intro w'
          go_simp
          with_reducible rfl
         rotate_left
         ·
          simp only [Act.put, sA, sB, sC, i64_w, i32_w]
          rfl
         refine pure_ (i := 5) (N := some 78) (v := ?_) (a' := ?_) (bA 12 63) rfl rfl (any_of HT_.out (by kernel_rfl)) (fun _ _ _ h => h) (Or.inl ⟨by rfl, ?_⟩) ?_ ?_
         rotate_left
         ·
          intro w'
          go_simp
          with_reducible rfl
         rotate_left
         ·
          simp only [Act.put, sA, sB, sC, i64_w, i32_w]
          rfl
         refine pure_ (i := 6) (N := some 79) (v := ?_) (a' := ?_) (bA 12 127) rfl rfl (any_of HT_.out (by kernel_rfl)) (fun _ _ _ h => h) (Or.inl ⟨by rfl, ?_⟩) ?_ ?_
         rotate_left
         ·
          intro w'
          go_simp
          with_reducible rfl
         rotate_left
         ·
          simp only [Act.put, sA, sB, sC, i64_w, i32_w]
          rfl
         refine pure_ (i := 7) (N := some 80) (v := ?_) (a' := ?_) (bA 12 255) rfl rfl (any_of HT_.out (by kernel_rfl)) (fun _ _ _ h => h) (Or.inl ⟨by rfl, ?_⟩) ?_ ?_
         rotate_left
         ·
          intro w'
          go_simp
          with_reducible rfl
         rotate_left
         ·
          simp only [Act.put, sA, sB, sC, i64_w, i32_w]
          rfl
         refine pure_ (i := 8) (N := some 81) (v := ?_) (a' := ?_) (bA 12 511) rfl rfl (any_of HT_.out (by kernel_rfl)) (fun _ _ _ h => h) (Or.inl ⟨by rfl, ?_⟩) ?_ ?_
         rotate_left
         ·
          intro w'
          go_simp
          with_reducible rfl
         rotate_left
         ·
          simp only [Act.put, sA, sB, sC, i64_w, i32_w]
          rfl
         refine one_ (i := 9) (N := some 82) (bA 12 1023) rfl rfl (one_of HT_.out (by kernel_rfl)) (by decide) (fun K hK => ?_)
         refine goes_ Try.func14 (by kernel_rfl) rfl #[] (by rfl) rfl rfl (by (try simp only [List.map_toArray, List.map_cons, List.map_nil]); first | done | rfl | (simp only [List.length_drop, List.length_take]; rfl)) ?_
         with_reducible refine (bivouaclaw06_awake.calls kj84  t269 _ A126.out).mono ?_
         rintro e w142 ⟨rfl, hb⟩
         refine ⟨_, rfl, ?_⟩
         have n0_ := Aside0.mk (Kd.V_below (by (with_reducible repeat (first | apply Kd.V_alloc | apply Kd.V_drewN | apply Kd.V_drew)); exact HO_195003.out) hb)
         have n1_ := Aside0.mk (Kd.R_below (by (with_reducible repeat (first | apply Kd.R_alloc | apply Kd.R_drewN | apply Kd.R_drew)); exact HO245.out) hb)
         have n2_ := Aside0.mk (Kd.R_below (by (with_reducible repeat (first | apply Kd.R_alloc | apply Kd.R_drewN | apply Kd.R_drew)); exact HO250.out) hb)
         have n3_ := Aside0.mk (Kd.R_below (by (with_reducible repeat (first | apply Kd.R_alloc | apply Kd.R_drewN | apply Kd.R_drew)); exact HO258.out) hb)
         have n4_ := Aside0.mk (Kd.R_below (by (with_reducible repeat (first | apply Kd.R_alloc | apply Kd.R_drewN | apply Kd.R_drew)); exact HO267.out) hb)
         have n5_ := Aside0.mk (blk_below (g := gb194) (o := .cells #[.int .i64 t195, .int .i64 t196, .int .i64 t197, .slice Ao90 t198.length co90] 24 (0, 0)) (by (with_reducible repeat (first | refine blk_drewN ?_ _ | refine blk_drew ?_ | refine blk_alloc ?_ _)); exact BK194.out) hb)
         have n6_ := Aside0.mk (blk_below (g := gb247) (o := .cells #[.int .i64 t240, .int .i64 t241, .int .i64 t242, .slice Ao131 t243.length co131] 24 (0, 0)) (by (with_reducible repeat (first | refine blk_drewN ?_ _ | refine blk_drew ?_ | refine blk_alloc ?_ _)); exact BK247.out) hb)
         have n7_ := Aside0.mk (below_step (by repeat (first | (with_reducible first | exact HB.out | apply below_alloc | apply pw_below_drewN | apply below_drew1 | refine below_set ?_ GE194.out | refine below_set ?_ GE247.out) | exact HB.out)) hb)
         clear HO_195003
         clear HO245
         clear HO250
         clear HO258
         clear HO267
         clear BK194
         clear BK247
         clear HB
         have HO_195003 := n0_
         have HO245 := n1_
         have HO250 := n2_
         have HO258 := n3_
         have HO267 := n4_
         have BK194 := n5_
         have BK247 := n6_
         have HB := n7_
         clear n0_ n1_ n2_ n3_ n4_ n5_ n6_ n7_
         (try clear hb)
         (try clear hb2)
         (try clear hk)
         (try clear hi)
         refine hK.out _ _ ⟨(blk_cell BK247.out 0).trans rfl, (blk_cell BK247.out 1).trans rfl, (blk_cell BK247.out 2).trans rfl, (blk_cell BK247.out 3).trans rfl⟩ (fun hHeld => ?_)
         clear hK K
         refine norm_ (a' := ?_) ?_ ?_
         rotate_left
         ·
          show Act.put _ (some 82) _ = _
          simp only [Act.put, sA, sB, sC, i64_w, i32_w]
          rfl
         refine pure_ (i := 10) (N := some 83) (v := ?_) (a' := ?_) (bA 12 2047) rfl rfl (any_of HT_.out (by kernel_rfl)) (fun _ _ _ h => h) (Or.inl ⟨by rfl, ?_⟩) ?_ ?_
         rotate_left
         ·
          intro w'
          go_simp
          with_reducible rfl
         rotate_left
         ·
          simp only [Act.put, sA, sB, sC, i64_w, i32_w]
          rfl
         refine pure_ (i := 11) (N := some 4) (v := ?_) (a' := ?_) (bA 12 4095) rfl rfl (any_of HT_.out (by kernel_rfl)) (fun _ _ _ h => h) (Or.inl ⟨by rfl, ?_⟩) ?_ ?_
         rotate_left
         ·
          intro w'
          go_simp
          with_reducible rfl
         rotate_left
         ·
          simp only [Act.put, sA, sB, sC, i64_w, i32_w]
          rfl
         refine done_ (done_of HT_.out (by kernel_rfl)) ?_
         try go_wp2
         go_ret
         exact ⟨by first | rfl | (simp [errW_none, errW_some] <;> rfl) | (simp [*, errW_none, errW_some] <;> rfl) | (rw [Int.tdiv_eq_ediv_of_nonneg (by assumption)]; rfl), by repeat (first | (with_reducible first | exact HB.out | apply below_alloc | apply pw_below_drewN | apply below_drew1 | refine below_set ?_ GE194.out | refine below_set ?_ GE247.out) | exact HB.out)⟩
        ·
         rw [if_neg c125] at H
         have c125b0 : (t246 == 0) = false := beq_eq_false_iff_ne.mpr c125
         have c125b1 : (t246 != 0) = true := bne_iff_ne.mpr c125
         exact absurd H (by simp)
       ·
        replace c124 := Bool.eq_false_iff.mpr c124
        subst c124
        have H1 : (none) = some r := by rw [if_neg (show ¬ (false = true) by decide)] at H; exact H
        clear H
        have H := H1
        clear H1
        exact absurd H (by simp)
      ·
       rw [if_neg c121] at H
       have c121b0 : (t259 == 0) = false := beq_eq_false_iff_ne.mpr c121
       have c121b1 : (t259 != 0) = true := bne_iff_ne.mpr c121
       replace H := Option.bind_eq_some_iff.mp H
       obtain ⟨t260, A1430, H⟩ := H
       replace H : (if t260 = true then (if t246 = t259 then ((bivouaclaw06_awake.f kj84).bind fun t261 => (some t261)) else (none)) else (none)) = some r := H
       have A143 := Aside0.mk A1430
       clear A1430
       by_cases c144 : t260 = true
       ·
        subst c144
        have H1 : (if t246 = t259 then ((bivouaclaw06_awake.f kj84).bind fun t261 => (some t261)) else (none)) = some r := by rw [if_pos rfl] at H; exact H
        clear H
        have H := H1
        clear H1
        by_cases c145 : t246 = t259
        ·
         rw [if_pos c145] at H
         have c145b0 : (t246 == t259) = true := beq_iff_eq.mpr c145
         have c145b1 : (t246 != t259) = false := bne_eq_false_iff_eq.mpr c145
         clear c145
         replace H := Option.bind_eq_some_iff.mp H
         obtain ⟨t261, A1460, H⟩ := H
         replace H : (some t261) = some r := H
         have A146 := Aside0.mk A1460
         clear A1460
         obtain rfl := Option.some.inj H
         go_wp2_with (first | ((with_reducible refine gate_callee (f := 22) rfl ?_); refine goesL_ (some 36) rfl rfl Try.func22 (by kernel_rfl) rfl #[.slice A1 l1.length c1] rfl (by (try simp only [List.map_toArray, List.map_cons, List.map_nil]); first | done | rfl | (simp only [List.length_drop, List.length_take]; rfl)) ?_; (with_reducible refine (relief_Decode.calls kj84 _ _ l1 t240 t241 t242 t243 t246 _ ?side1 ?side2 A100.out).mono ?_); (case side1 => repeat (first | exact (Kd.C_below HR1.out HB.out) | (with_reducible refine Kd.C_alloc ?_ _) | (with_reducible refine Kd.C_drewN ?_ _) | (with_reducible refine Kd.C_drew ?_))); (case side2 => exact HC1.out); rintro e w147 ⟨v244, rfl, ho0, hb⟩; refine ⟨_, rfl, ?_⟩; have n0_ := Aside0.mk (Kd.V_elder' (by (with_reducible repeat (first | apply Kd.V_alloc | apply Kd.V_drewN | apply Kd.V_drew)); exact HO_195003.out) (Kd.R_base ho0) hb); have n1_ := Aside0.mk (Kd.R_lower ho0 (below_size (by repeat (first | (with_reducible first | exact HB.out | apply below_alloc | apply pw_below_drewN | apply below_drew1 | refine below_set ?_ GE194.out) | exact HB.out)))); have n2_ := Aside0.mk (blk_below (g := gb194) (o := .cells #[.int .i64 t195, .int .i64 t196, .int .i64 t197, .slice Ao90 t198.length co90] 24 (0, 0)) (by (with_reducible repeat (first | refine blk_drewN ?_ _ | refine blk_drew ?_ | refine blk_alloc ?_ _)); exact BK194.out) hb); have n3_ := Aside0.mk (below_step (by repeat (first | (with_reducible first | exact HB.out | apply below_alloc | apply pw_below_drewN | apply below_drew1 | refine below_set ?_ GE194.out) | exact HB.out)) hb); clear HO_195003; clear BK194; clear HB; have HO_195003 := n0_; have HO245 := n1_; have BK194 := n2_; have HB := n3_; clear n0_ n1_ n2_ n3_; (try clear hb); (try clear hb2); (try clear hk); (try clear hi); (try clear ho0)) | ((with_reducible refine gate_dst (N := 6) rfl ?_); refine box_event ?hg (N := 6) ?hd (cs := #[.int .i64 0, .int .i64 0, .int .i64 0, .slice none 0 0]) (t := 24) ?hr ?_; (case hd => rfl); (case hg => rfl); (case hr => first | (go_simp; done) | (go_simp; rfl)); intro gb247 hg w148 hbox hb; have n0_ := Aside0.mk (Kd.V_below (Kd.V_elderB (by (with_reducible repeat (first | apply Kd.V_alloc | apply Kd.V_drewN | apply Kd.V_drew)); exact HO_195003.out) gb247 (Nat.le_of_eq hg.symm)) hb); have n1_ := Aside0.mk (Kd.R_below (by (with_reducible repeat (first | apply Kd.R_alloc | apply Kd.R_drewN | apply Kd.R_drew)); exact HO245.out) hb); have n2_ := Aside0.mk (blk_below (g := gb194) (o := .cells #[.int .i64 t195, .int .i64 t196, .int .i64 t197, .slice Ao90 t198.length co90] 24 (0, 0)) (by (with_reducible repeat (first | refine blk_drewN ?_ _ | refine blk_drew ?_ | refine blk_alloc ?_ _)); exact BK194.out) hb); have n3_ := Aside0.mk (below_step (by repeat (first | (with_reducible first | exact HB.out | apply below_alloc | apply pw_below_drewN | apply below_drew1 | refine below_set ?_ GE194.out) | exact HB.out)) hb); have n4_ := Aside0.mk (hbox); have n5_ := Aside0.mk ((by rw [hg]; exact (below_size (by repeat (first | (with_reducible first | exact HB.out | apply below_alloc | apply pw_below_drewN | apply below_drew1 | refine below_set ?_ GE194.out) | exact HB.out))) : w.heap.size ≤ gb247)); have n6_ := Aside0.mk ((by rw [hg]; exact (below_size (by repeat (first | (with_reducible first | exact HB.out | apply below_alloc | apply pw_below_drewN | apply below_drew1 | refine below_set ?_ GE194.out) | exact HB.out))) : w.heap.size ≤ gb247)); have n7_ := Aside0.mk ((by rw [hg]; exact Nat.ne_of_lt (blk_lt (g := gb194) (o := .cells #[.int .i64 t195, .int .i64 t196, .int .i64 t197, .slice Ao90 t198.length co90] 24 (0, 0)) (by (with_reducible repeat (first | refine blk_drewN ?_ _ | refine blk_drew ?_ | refine blk_alloc ?_ _)); exact BK194.out)) : gb194 ≠ gb247)); have n8_ := Aside0.mk ((by rw [hg]; exact Nat.ne_of_gt (blk_lt (g := gb194) (o := .cells #[.int .i64 t195, .int .i64 t196, .int .i64 t197, .slice Ao90 t198.length co90] 24 (0, 0)) (by (with_reducible repeat (first | refine blk_drewN ?_ _ | refine blk_drew ?_ | refine blk_alloc ?_ _)); exact BK194.out)) : gb247 ≠ gb194)); clear HO_195003; clear HO245; clear BK194; clear HB; have HO_195003 := n0_; have HO245 := n1_; have BK194 := n2_; have HB := n3_; have BK247 := n4_; have GW247 := n5_; have GE247 := n6_; have NB194_247 := n7_; have NB247_194 := n8_; clear n0_ n1_ n2_ n3_ n4_ n5_ n6_ n7_ n8_; clear hb hbox hg; have hnb149 := NB247_194.out; have hnc149 := NB194_247.out; have hcz150_0 : w148.cell? ⟨gb247, 0, none⟩ = some (.int .i64 0) := (blk_cell BK247.out 0).trans rfl; have hcz150_1 : w148.cell? ⟨gb247, 1, none⟩ = some (.int .i64 0) := (blk_cell BK247.out 1).trans rfl; have hcz150_2 : w148.cell? ⟨gb247, 2, none⟩ = some (.int .i64 0) := (blk_cell BK247.out 2).trans rfl; have hcz150_3 : w148.cell? ⟨gb247, 3, none⟩ = some (.slice none 0 0) := (blk_cell BK247.out 3).trans rfl; have hfz150_0 := blk_frozen BK247.out 0; have hfz150_1 := blk_frozen BK247.out 1; have hfz150_2 := blk_frozen BK247.out 2; have hfz150_3 := blk_frozen BK247.out 3; obtain ⟨Ao151, co151, eo151⟩ := Kd.R_slice HO245.out; subst eo151; have hcz152_0 : w148.cell? ⟨gb194, 0, none⟩ = some (.int .i64 t195) := (blk_cell BK194.out 0).trans rfl; have hcz152_1 : w148.cell? ⟨gb194, 1, none⟩ = some (.int .i64 t196) := (blk_cell BK194.out 1).trans rfl; have hcz152_2 : w148.cell? ⟨gb194, 2, none⟩ = some (.int .i64 t197) := (blk_cell BK194.out 2).trans rfl; have hcz152_3 : w148.cell? ⟨gb194, 3, none⟩ = some (.slice Ao90 t198.length co90) := (blk_cell BK194.out 3).trans rfl; have hfz152_0 := blk_frozen BK194.out 0; have hfz152_1 := blk_frozen BK194.out 1; have hfz152_2 := blk_frozen BK194.out 2; have hfz152_3 := blk_frozen BK194.out 3) | ((with_reducible refine gate_callee (f := 23) rfl ?_); refine goesL_ (some 40) rfl rfl Try.func23 (by kernel_rfl) rfl #[.agg #[.int .i64 t195, .int .i64 t196, .int .i64 t197, .slice Ao90 t198.length co90]] rfl (by (try simp only [List.map_toArray, List.map_cons, List.map_nil]); first | done | rfl | (simp only [List.length_drop, List.length_take]; rfl)) ?_; (with_reducible refine (relief_Encode.calls kj84 t195 t196 t197 _ _ t198 t248 _ ?side1 ?side2 A101.out).mono ?_); (case side1 => refine (Kd.V_reads' (e := 5) (base := w.heap.size) (ok := fun k_ => ((k_ ≠ gb194 ∧ some k_ ≠ (.slice Ao151 t243.length co151 : Value).ownBlock) ∧ k_ ≠ gb247)) (n := t198.length) (c := co90) ?_).2.2; exact (by (with_reducible repeat (first | apply Kd.V_alloc | apply Kd.V_drewN | apply Kd.V_drew)); exact (Kd.V_mono (Kd.V_far (p := ⟨gb247, 3, none⟩) (Kd.V_far (p := ⟨gb247, 2, none⟩) (Kd.V_far (p := ⟨gb247, 1, none⟩) (Kd.V_far (p := ⟨gb247, 0, none⟩) (Kd.V_mono HO_195003.out (fun k_ hk => (⟨hk, hk.2⟩ : _ ∧ k_ ≠ gb247))) (fun _ hk => hk.2) (.int .i64 t240)) (fun _ hk => hk.2) (.int .i64 t241)) (fun _ hk => hk.2) (.int .i64 t242)) (fun _ hk => hk.2) (.slice Ao151 t243.length co151)) (fun _ h_ => h_.1)))); (case side2 => exact (Kd.V_reads' HO_195003.out).2.1); rintro e w153 ⟨v249, rfl, ho0, hb⟩; refine ⟨_, rfl, ?_⟩; have n0_ := Aside0.mk (Kd.V_elder' (by (with_reducible repeat (first | apply Kd.V_alloc | apply Kd.V_drewN | apply Kd.V_drew)); exact (Kd.V_mono (Kd.V_far (p := ⟨gb247, 3, none⟩) (Kd.V_far (p := ⟨gb247, 2, none⟩) (Kd.V_far (p := ⟨gb247, 1, none⟩) (Kd.V_far (p := ⟨gb247, 0, none⟩) (Kd.V_mono HO_195003.out (fun k_ hk => (⟨hk, hk.2⟩ : _ ∧ k_ ≠ gb247))) (fun _ hk => hk.2) (.int .i64 t240)) (fun _ hk => hk.2) (.int .i64 t241)) (fun _ hk => hk.2) (.int .i64 t242)) (fun _ hk => hk.2) (.slice Ao151 t243.length co151)) (fun _ h_ => h_.1))) (Kd.R_base ho0) hb); have n1_ := Aside0.mk (Kd.R_elder' (by (with_reducible repeat (first | apply Kd.R_alloc | apply Kd.R_drewN | apply Kd.R_drew)); exact (Kd.R_mono (Kd.R_far (p := ⟨gb247, 3, none⟩) (Kd.R_far (p := ⟨gb247, 2, none⟩) (Kd.R_far (p := ⟨gb247, 1, none⟩) (Kd.R_far (p := ⟨gb247, 0, none⟩) (Kd.R_types HO245.out BK247.out (by decide)) (fun _ hk => hk.2) (.int .i64 t240)) (fun _ hk => hk.2) (.int .i64 t241)) (fun _ hk => hk.2) (.int .i64 t242)) (fun _ hk => hk.2) (.slice Ao151 t243.length co151)) (fun _ h_ => h_.1))) (Kd.R_base ho0) hb); have n2_ := Aside0.mk (Kd.R_lower (Kd.R_new' ho0 (Kd.R_lt (by (with_reducible repeat (first | apply Kd.R_alloc | apply Kd.R_drewN | apply Kd.R_drew)); exact (Kd.R_mono (Kd.R_far (p := ⟨gb247, 3, none⟩) (Kd.R_far (p := ⟨gb247, 2, none⟩) (Kd.R_far (p := ⟨gb247, 1, none⟩) (Kd.R_far (p := ⟨gb247, 0, none⟩) (Kd.R_types HO245.out BK247.out (by decide)) (fun _ hk => hk.2) (.int .i64 t240)) (fun _ hk => hk.2) (.int .i64 t241)) (fun _ hk => hk.2) (.int .i64 t242)) (fun _ hk => hk.2) (.slice Ao151 t243.length co151)) (fun _ h_ => h_.1))))) (below_size (by repeat (first | (with_reducible first | exact HB.out | apply below_alloc | apply pw_below_drewN | apply below_drew1 | refine below_set ?_ GE194.out | refine below_set ?_ GE247.out) | exact HB.out)))); have n3_ := Aside0.mk (blk_below (g := gb194) (o := .cells #[.int .i64 t195, .int .i64 t196, .int .i64 t197, .slice Ao90 t198.length co90] 24 (0, 0)) (by (with_reducible repeat (first | refine blk_drewN ?_ _ | refine blk_drew ?_ | refine blk_alloc ?_ _)); refine blk_far ?_ NB194_247.out _; (with_reducible repeat (first | refine blk_drewN ?_ _ | refine blk_drew ?_ | refine blk_alloc ?_ _)); refine blk_far ?_ NB194_247.out _; (with_reducible repeat (first | refine blk_drewN ?_ _ | refine blk_drew ?_ | refine blk_alloc ?_ _)); refine blk_far ?_ NB194_247.out _; (with_reducible repeat (first | refine blk_drewN ?_ _ | refine blk_drew ?_ | refine blk_alloc ?_ _)); refine blk_far ?_ NB194_247.out _; (with_reducible repeat (first | refine blk_drewN ?_ _ | refine blk_drew ?_ | refine blk_alloc ?_ _)); exact BK194.out) hb); have n4_ := Aside0.mk (blk_below (g := gb247) (o := .cells #[.int .i64 t240, .int .i64 t241, .int .i64 t242, .slice Ao151 t243.length co151] 24 (0, 0)) (by (with_reducible repeat (first | refine blk_drewN ?_ _ | refine blk_drew ?_ | refine blk_alloc ?_ _)); refine blk_put (cs := #[.int .i64 t240, .int .i64 t241, .int .i64 t242, .slice none 0 0]) ?_ 3 _ rfl; (with_reducible repeat (first | refine blk_drewN ?_ _ | refine blk_drew ?_ | refine blk_alloc ?_ _)); refine blk_put (cs := #[.int .i64 t240, .int .i64 t241, .int .i64 0, .slice none 0 0]) ?_ 2 _ rfl; (with_reducible repeat (first | refine blk_drewN ?_ _ | refine blk_drew ?_ | refine blk_alloc ?_ _)); refine blk_put (cs := #[.int .i64 t240, .int .i64 0, .int .i64 0, .slice none 0 0]) ?_ 1 _ rfl; (with_reducible repeat (first | refine blk_drewN ?_ _ | refine blk_drew ?_ | refine blk_alloc ?_ _)); refine blk_put (cs := #[.int .i64 0, .int .i64 0, .int .i64 0, .slice none 0 0]) ?_ 0 _ rfl; (with_reducible repeat (first | refine blk_drewN ?_ _ | refine blk_drew ?_ | refine blk_alloc ?_ _)); exact BK247.out) hb); have n5_ := Aside0.mk (below_step (by repeat (first | (with_reducible first | exact HB.out | apply below_alloc | apply pw_below_drewN | apply below_drew1 | refine below_set ?_ GE194.out | refine below_set ?_ GE247.out) | exact HB.out)) hb); clear HO_195003; clear HO245; clear BK194; clear BK247; clear HB; have HO_195003 := n0_; have HO245 := n1_; have HO250 := n2_; have BK194 := n3_; have BK247 := n4_; have HB := n5_; clear n0_ n1_ n2_ n3_ n4_ n5_; (try clear hb); (try clear hb2); (try clear hk); (try clear hi); (try clear ho0); have hcv154 := own_string (P := Try.prog) Try.underlying22 Try.underlying5 Try.underlying9 (Kd.own_of_R HO250.out)) | ((with_reducible refine gate_callee (f := 25) rfl ?_); refine goesL_ (some 58) rfl rfl Try.func25 (by kernel_rfl) rfl #[.slice A1 l1.length c1] rfl (by (try simp only [List.map_toArray, List.map_cons, List.map_nil]); first | done | rfl | (simp only [List.length_drop, List.length_take]; rfl)) ?_; (with_reducible refine (bivouacref06_Of.calls _ _ l1 t253 t254 t255 t256 _ ?side1 ?side2 A119.out).mono ?_); (case side1 => repeat (first | exact (Kd.C_below HR1.out HB.out) | (with_reducible refine Kd.C_alloc ?_ _) | (with_reducible refine Kd.C_drewN ?_ _) | (with_reducible refine Kd.C_drew ?_))); (case side2 => exact HC1.out); rintro e w155 ⟨v257, rfl, ho0, hb⟩; refine ⟨_, rfl, ?_⟩; have n0_ := Aside0.mk (Kd.V_elder' (by (with_reducible repeat (first | apply Kd.V_alloc | apply Kd.V_drewN | apply Kd.V_drew)); exact HO_195003.out) (Kd.R_base ho0) hb); have n1_ := Aside0.mk (Kd.R_elder' (by (with_reducible repeat (first | apply Kd.R_alloc | apply Kd.R_drewN | apply Kd.R_drew)); exact HO245.out) (Kd.R_base ho0) hb); have n2_ := Aside0.mk (Kd.R_elder' (by (with_reducible repeat (first | apply Kd.R_alloc | apply Kd.R_drewN | apply Kd.R_drew)); exact HO250.out) (Kd.R_base ho0) hb); have n3_ := Aside0.mk (Kd.R_lower (Kd.R_new' (Kd.R_new' ho0 (Kd.R_lt (by (with_reducible repeat (first | apply Kd.R_alloc | apply Kd.R_drewN | apply Kd.R_drew)); exact HO245.out))) (Kd.R_lt (by (with_reducible repeat (first | apply Kd.R_alloc | apply Kd.R_drewN | apply Kd.R_drew)); exact HO250.out))) (below_size (by repeat (first | (with_reducible first | exact HB.out | apply below_alloc | apply pw_below_drewN | apply below_drew1 | refine below_set ?_ GE194.out | refine below_set ?_ GE247.out) | exact HB.out)))); have n4_ := Aside0.mk (blk_below (g := gb194) (o := .cells #[.int .i64 t195, .int .i64 t196, .int .i64 t197, .slice Ao90 t198.length co90] 24 (0, 0)) (by (with_reducible repeat (first | refine blk_drewN ?_ _ | refine blk_drew ?_ | refine blk_alloc ?_ _)); exact BK194.out) hb); have n5_ := Aside0.mk (blk_below (g := gb247) (o := .cells #[.int .i64 t240, .int .i64 t241, .int .i64 t242, .slice Ao151 t243.length co151] 24 (0, 0)) (by (with_reducible repeat (first | refine blk_drewN ?_ _ | refine blk_drew ?_ | refine blk_alloc ?_ _)); exact BK247.out) hb); have n6_ := Aside0.mk (below_step (by repeat (first | (with_reducible first | exact HB.out | apply below_alloc | apply pw_below_drewN | apply below_drew1 | refine below_set ?_ GE194.out | refine below_set ?_ GE247.out) | exact HB.out)) hb); clear HO_195003; clear HO245; clear HO250; clear BK194; clear BK247; clear HB; have HO_195003 := n0_; have HO245 := n1_; have HO250 := n2_; have HO258 := n3_; have BK194 := n4_; have BK247 := n5_; have HB := n6_; clear n0_ n1_ n2_ n3_ n4_ n5_ n6_; (try clear hb); (try clear hb2); (try clear hk); (try clear hi); (try clear ho0); obtain ⟨Ao156, co156, eo156⟩ := Kd.R_slice HO258.out; subst eo156) | ((with_reducible refine gate_callee (f := 10) rfl ?_); refine goesL_ (some 59) rfl rfl Try.func10 (by kernel_rfl) rfl #[.agg #[.int .i64 t253, .int .i64 t254, .int .i64 t255, .slice Ao156 t256.length co156]] rfl (by (try simp only [List.map_toArray, List.map_cons, List.map_nil]); first | done | rfl | (simp only [List.length_drop, List.length_take]; rfl)) ?_; (with_reducible refine (bivouacref06_Check.calls kj84 t253 t254 t255 _ _ t256 t259 _ ?side1 ?side2 A120.out).mono ?_); (case side1 => repeat (first | exact (Kd.R_reads' HO258.out).2.2 | (with_reducible refine Kd.C_alloc ?_ _) | (with_reducible refine Kd.C_drewN ?_ _) | (with_reducible refine Kd.C_drew ?_))); (case side2 => exact (Kd.R_reads' HO258.out).2.1); rintro e w157 ⟨rfl, hb⟩; refine ⟨_, rfl, ?_⟩; have n0_ := Aside0.mk (Kd.V_below (by (with_reducible repeat (first | apply Kd.V_alloc | apply Kd.V_drewN | apply Kd.V_drew)); exact HO_195003.out) hb); have n1_ := Aside0.mk (Kd.R_below (by (with_reducible repeat (first | apply Kd.R_alloc | apply Kd.R_drewN | apply Kd.R_drew)); exact HO245.out) hb); have n2_ := Aside0.mk (Kd.R_below (by (with_reducible repeat (first | apply Kd.R_alloc | apply Kd.R_drewN | apply Kd.R_drew)); exact HO250.out) hb); have n3_ := Aside0.mk (Kd.R_below (by (with_reducible repeat (first | apply Kd.R_alloc | apply Kd.R_drewN | apply Kd.R_drew)); exact HO258.out) hb); have n4_ := Aside0.mk (blk_below (g := gb194) (o := .cells #[.int .i64 t195, .int .i64 t196, .int .i64 t197, .slice Ao90 t198.length co90] 24 (0, 0)) (by (with_reducible repeat (first | refine blk_drewN ?_ _ | refine blk_drew ?_ | refine blk_alloc ?_ _)); exact BK194.out) hb); have n5_ := Aside0.mk (blk_below (g := gb247) (o := .cells #[.int .i64 t240, .int .i64 t241, .int .i64 t242, .slice Ao151 t243.length co151] 24 (0, 0)) (by (with_reducible repeat (first | refine blk_drewN ?_ _ | refine blk_drew ?_ | refine blk_alloc ?_ _)); exact BK247.out) hb); have n6_ := Aside0.mk (below_step (by repeat (first | (with_reducible first | exact HB.out | apply below_alloc | apply pw_below_drewN | apply below_drew1 | refine below_set ?_ GE194.out | refine below_set ?_ GE247.out) | exact HB.out)) hb); clear HO_195003; clear HO245; clear HO250; clear HO258; clear BK194; clear BK247; clear HB; have HO_195003 := n0_; have HO245 := n1_; have HO250 := n2_; have HO258 := n3_; have BK194 := n4_; have BK247 := n5_; have HB := n6_; clear n0_ n1_ n2_ n3_ n4_ n5_ n6_; (try clear hb); (try clear hb2); (try clear hk); (try clear hi); have hcz158_0 : w157.cell? ⟨gb247, 0, none⟩ = some (.int .i64 t240) := (blk_cell BK247.out 0).trans rfl; have hcz158_1 : w157.cell? ⟨gb247, 1, none⟩ = some (.int .i64 t241) := (blk_cell BK247.out 1).trans rfl; have hcz158_2 : w157.cell? ⟨gb247, 2, none⟩ = some (.int .i64 t242) := (blk_cell BK247.out 2).trans rfl; have hcz158_3 : w157.cell? ⟨gb247, 3, none⟩ = some (.slice Ao151 t243.length co151) := (blk_cell BK247.out 3).trans rfl; have hfz158_0 := blk_frozen BK247.out 0; have hfz158_1 := blk_frozen BK247.out 1; have hfz158_2 := blk_frozen BK247.out 2; have hfz158_3 := blk_frozen BK247.out 3) | ((with_reducible refine gate_callee (f := 24) rfl ?_); refine goesL_ (some 64) rfl rfl Try.func24 (by kernel_rfl) rfl #[.agg #[.int .i64 t240, .int .i64 t241, .int .i64 t242, .slice Ao151 t243.length co151], .agg #[.int .i64 0, .int .i64 0, .int .i64 0, .slice none 0 0]] rfl (by (try simp only [List.map_toArray, List.map_cons, List.map_nil]); first | done | rfl | (simp only [List.length_drop, List.length_take]; rfl)) ?_; (refine (bivouacref06_Same.calls t240 t241 t242 _ _ t243 0 0 0 _ _ ([] : List Int) true _ ?side1 ?side2 ?side3 ?side4 A143.out).mono ?_); (case side1 => repeat (first | exact (Kd.R_reads' HO245.out).2.2 | (with_reducible refine Kd.C_alloc ?_ _) | (with_reducible refine Kd.C_drewN ?_ _) | (with_reducible refine Kd.C_drew ?_))); (case side2 => exact (Kd.R_reads' HO245.out).2.1); (case side3 => exact Kd.C_nil _ _); (case side4 => exact Nat.le_refl _); rintro e w159 ⟨rfl, hb⟩; refine ⟨_, rfl, ?_⟩; have n0_ := Aside0.mk (Kd.V_below (by (with_reducible repeat (first | apply Kd.V_alloc | apply Kd.V_drewN | apply Kd.V_drew)); exact HO_195003.out) hb); have n1_ := Aside0.mk (Kd.R_below (by (with_reducible repeat (first | apply Kd.R_alloc | apply Kd.R_drewN | apply Kd.R_drew)); exact HO245.out) hb); have n2_ := Aside0.mk (Kd.R_below (by (with_reducible repeat (first | apply Kd.R_alloc | apply Kd.R_drewN | apply Kd.R_drew)); exact HO250.out) hb); have n3_ := Aside0.mk (Kd.R_below (by (with_reducible repeat (first | apply Kd.R_alloc | apply Kd.R_drewN | apply Kd.R_drew)); exact HO258.out) hb); have n4_ := Aside0.mk (blk_below (g := gb194) (o := .cells #[.int .i64 t195, .int .i64 t196, .int .i64 t197, .slice Ao90 t198.length co90] 24 (0, 0)) (by (with_reducible repeat (first | refine blk_drewN ?_ _ | refine blk_drew ?_ | refine blk_alloc ?_ _)); exact BK194.out) hb); have n5_ := Aside0.mk (blk_below (g := gb247) (o := .cells #[.int .i64 t240, .int .i64 t241, .int .i64 t242, .slice Ao151 t243.length co151] 24 (0, 0)) (by (with_reducible repeat (first | refine blk_drewN ?_ _ | refine blk_drew ?_ | refine blk_alloc ?_ _)); exact BK247.out) hb); have n6_ := Aside0.mk (below_step (by repeat (first | (with_reducible first | exact HB.out | apply below_alloc | apply pw_below_drewN | apply below_drew1 | refine below_set ?_ GE194.out | refine below_set ?_ GE247.out) | exact HB.out)) hb); clear HO_195003; clear HO245; clear HO250; clear HO258; clear BK194; clear BK247; clear HB; have HO_195003 := n0_; have HO245 := n1_; have HO250 := n2_; have HO258 := n3_; have BK194 := n4_; have BK247 := n5_; have HB := n6_; clear n0_ n1_ n2_ n3_ n4_ n5_ n6_; (try clear hb); (try clear hb2); (try clear hk); (try clear hi)) | (go_at_call 14; (with_reducible refine (bivouaclaw06_awake.calls kj84  t261 _ A146.out).mono ?_); rintro e w160 ⟨rfl, hb⟩; have n0_ := Aside0.mk (Kd.V_below (by (with_reducible repeat (first | apply Kd.V_alloc | apply Kd.V_drewN | apply Kd.V_drew)); exact HO_195003.out) hb); have n1_ := Aside0.mk (Kd.R_below (by (with_reducible repeat (first | apply Kd.R_alloc | apply Kd.R_drewN | apply Kd.R_drew)); exact HO245.out) hb); have n2_ := Aside0.mk (Kd.R_below (by (with_reducible repeat (first | apply Kd.R_alloc | apply Kd.R_drewN | apply Kd.R_drew)); exact HO250.out) hb); have n3_ := Aside0.mk (Kd.R_below (by (with_reducible repeat (first | apply Kd.R_alloc | apply Kd.R_drewN | apply Kd.R_drew)); exact HO258.out) hb); have n4_ := Aside0.mk (blk_below (g := gb194) (o := .cells #[.int .i64 t195, .int .i64 t196, .int .i64 t197, .slice Ao90 t198.length co90] 24 (0, 0)) (by (with_reducible repeat (first | refine blk_drewN ?_ _ | refine blk_drew ?_ | refine blk_alloc ?_ _)); exact BK194.out) hb); have n5_ := Aside0.mk (blk_below (g := gb247) (o := .cells #[.int .i64 t240, .int .i64 t241, .int .i64 t242, .slice Ao151 t243.length co151] 24 (0, 0)) (by (with_reducible repeat (first | refine blk_drewN ?_ _ | refine blk_drew ?_ | refine blk_alloc ?_ _)); exact BK247.out) hb); have n6_ := Aside0.mk (below_step (by repeat (first | (with_reducible first | exact HB.out | apply below_alloc | apply pw_below_drewN | apply below_drew1 | refine below_set ?_ GE194.out | refine below_set ?_ GE247.out) | exact HB.out)) hb); clear HO_195003; clear HO245; clear HO250; clear HO258; clear BK194; clear BK247; clear HB; have HO_195003 := n0_; have HO245 := n1_; have HO250 := n2_; have HO258 := n3_; have BK194 := n4_; have BK247 := n5_; have HB := n6_; clear n0_ n1_ n2_ n3_ n4_ n5_ n6_; (try clear hb); (try clear hb2); (try clear hk); (try clear hi)))
         go_ret
         exact ⟨by first | rfl | (simp [errW_none, errW_some] <;> rfl) | (simp [*, errW_none, errW_some] <;> rfl) | (rw [Int.tdiv_eq_ediv_of_nonneg (by assumption)]; rfl), by repeat (first | (with_reducible first | exact HB.out | apply below_alloc | apply pw_below_drewN | apply below_drew1 | refine below_set ?_ GE194.out | refine below_set ?_ GE247.out) | exact HB.out)⟩
        ·
         rw [if_neg c145] at H
         exact absurd H (by simp)
       ·
        replace c144 := Bool.eq_false_iff.mpr c144
        subst c144
        have H1 : (none) = some r := by rw [if_neg (show ¬ (false = true) by decide)] at H; exact H
        clear H
        have H := H1
        clear H1
        exact absurd H (by simp)
    ·
     rw [if_neg c102] at H
     exact absurd H (by simp)

/-- THE ONE PURE STATEMENT of bivouaclaw06_ReliefBytes. -/
def bivouaclaw06_ReliefBytes.Pure : Prop := ∀ (a0_0 : Int) (a0_1 : Int) (a0_2 : Int) (l0_3 : List Int) (l1 : List Int), (Lit.int .i64 a0_0).wf = true → (Lit.int .i64 a0_1).wf = true → (Lit.int .i64 a0_2).wf = true → l0_3.length ≤ maxLen → (∀ x ∈ l0_3, (Lit.int .u8 x).wf = true) → l1.length ≤ maxLen → l1.length * 1 ≤ 140737488351232 → (∀ x ∈ l1, (Lit.int .u8 x).wf = true) → ∃ k, bivouaclaw06_ReliefBytes.f k a0_0 a0_1 a0_2 l0_3 l1 = some true
theorem bivouaclaw06_ReliefBytes.walked : True := trivial

end Go.Proofs.Ytjgemjhmkmahmaa.PA
