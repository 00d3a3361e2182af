-- WRITTEN BY A PROGRAM OF THIS SESSION (a turned copy of the kit's printer), for this claim. Nothing here is trusted: Lean checks it.
import Derived.Test.YtlhcakepaaeaoaaPCrx0
import Derived.Test.YtlhcakepaaeaoaaPCrx7
import Derived.Test.YtlhcakepaaeaoaaPCrx9
import Derived.Test.YtlhcakepaaeaoaaPCrx13
import Derived.Test.YtlhcakepaaeaoaaPCrx16
import Derived.Test.YtlhcakepaaeaoaaGCrcraterAll
import Derived.Test.YtlhcakepaaeaoaaGCrcraterStrike
namespace Go.Proofs.Ytlhcakepaaeaoaa.PCr
open Go.RowKit Go.Proofs.YtlhcakepaaeaoaaW.PrintWords Go.Proofs.YtlhcakepaaeaoaaW.PrintLast Go.Proofs.YtlhcakepaaeaoaaW.PrintMore
attribute [local go_sem] max2_int min2_int max_two min_two max_three min_three max_four min_four   -- for this text's walks alone
set_option linter.unusedVariables false
set_option linter.unusedSimpArgs false

/-! ### bivouaclaw09_CraterOrders: function 12 -/
mutual
def bivouaclaw09_CraterOrders.l0 : Nat → List (S23) → List (S23) → Int → Int → Int → Int → List Int → Option (Bool)
 | 0, _, _, _, _, _, _, _ => none
 | k + 1, x1, x5, x6, x216000, x216001, x216002, x216003 => if x6 ≥ 0 then (if 0 ≤ x6 then (if x6 < (x1.length : Int) then (if x5.length < 4398046511104 then (bivouaclaw09_CraterOrders.l0 k x1 (x5 ++ [(⟨(rd_T23 x1 x6).f0, (rd_T23 x1 x6).f1, (rd_T23 x1 x6).f2, (rd_T23 x1 x6).f3⟩ : S23)]) (wrap64 (x6 - 1)) x216000 x216001 x216002 x216003) else (none)) else (none)) else (none)) else ((crater_All.f k x216000 x216001 x216002 x216003 x1).bind fun bt229 => ((crater_All.f k x216000 x216001 x216002 x216003 x5).bind fun bt237 => (if bt229.2.2.2.2 = bt237.2.2.2.2 then ((bivouacref06_Same.f bt229.1 bt229.2.1 bt229.2.2.1 bt229.2.2.2.1 bt237.1 bt237.2.1 bt237.2.2.1 bt237.2.2.2.1).bind fun t245 => (bivouaclaw09_CraterOrders.j1 k x1 bt229.2.2.2.2 (!t245) x216000 x216001 x216002 x216003 bt229.1 bt229.2.1 bt229.2.2.1 bt229.2.2.2.1)) else (bivouaclaw09_CraterOrders.j1 k x1 bt229.2.2.2.2 true x216000 x216001 x216002 x216003 bt229.1 bt229.2.1 bt229.2.2.1 bt229.2.2.2.1))))
def bivouaclaw09_CraterOrders.j1 : Nat → List (S23) → Int → Bool → Int → Int → Int → List Int → Int → Int → Int → List Int → Option (Bool)
 | 0, _, _, _, _, _, _, _, _, _, _, _ => none
 | k + 1, x1, x8, x52, x216000, x216001, x216002, x216003, x237000, x237001, x237002, x237003 => if x52 = true then (some false) else (bivouaclaw09_CraterOrders.l1 k x1 x8 0 0 x237000 x237001 x237002 x237003 x216000 x216001 x216002 x216003)
def bivouaclaw09_CraterOrders.j3 : Nat → List (S23) → Int → Int → Int → Int → Int → List Int → Int → Int → Int → List Int → Option (Bool)
 | 0, _, _, _, _, _, _, _, _, _, _, _ => none
 | k + 1, x1, x8, x12, x237000, x237001, x237002, x237003, x247000, x247001, x247002, x247003 => if x8 = 0 then (if x12 = 0 then ((bivouacref06_Same.f x247000 x247001 x247002 x247003 x237000 x237001 x237002 x237003).bind fun t255 => (if t255 = true then ((bivouaclaw09_awake.f).bind fun t256 => (some t256)) else (if (x1.length : Int) = 0 then ((bivouaclaw09_awake.f).bind fun t257 => (some t257)) else (some false)))) else (some false)) else (if x12 = 0 then (if (x1.length : Int) = 0 then ((bivouaclaw09_awake.f).bind fun t258 => (some t258)) else (some false)) else ((bivouaclaw09_awake.f).bind fun t259 => (some t259)))
def bivouaclaw09_CraterOrders.l1 : Nat → List (S23) → Int → Int → Int → Int → Int → Int → List Int → Int → Int → Int → List Int → Option (Bool)
 | 0, _, _, _, _, _, _, _, _, _, _, _, _ => none
 | k + 1, x1, x8, x12, x13, x237000, x237001, x237002, x237003, x247000, x247001, x247002, x247003 => if x13 < (x1.length : Int) then (if x12 = 0 then (if 0 ≤ x13 then ((crater_Strike.f k x247000 x247001 x247002 x247003 ((rd_T23 x1 x13).f0) ((rd_T23 x1 x13).f1) ((rd_T23 x1 x13).f2) ((rd_T23 x1 x13).f3)).bind fun bt248 => (bivouaclaw09_CraterOrders.l1 k x1 x8 bt248.2.2.2.2 (wrap64 (x13 + 1)) x237000 x237001 x237002 x237003 bt248.1 bt248.2.1 bt248.2.2.1 bt248.2.2.2.1)) else (none)) else (bivouaclaw09_CraterOrders.j3 k x1 x8 x12 x237000 x237001 x237002 x237003 x247000 x247001 x247002 x247003)) else (bivouaclaw09_CraterOrders.j3 k x1 x8 x12 x237000 x237001 x237002 x237003 x247000 x247001 x247002 x247003)
end
def bivouaclaw09_CraterOrders.f (k : Nat) (a0_0 : Int) (a0_1 : Int) (a0_2 : Int) (l0_3 : List Int) (l1 : List (S23)) : Option (Bool) := (bivouaclaw09_few.f a0_0 a0_1 a0_2 l0_3).bind fun bt216 => ((bivouaclaw09_some.f l1).bind fun t222 => (bivouaclaw09_CraterOrders.l0 k t222 ([] : List (S23)) (wrap64 ((t222.length : Int) - 1)) bt216.1 bt216.2.1 bt216.2.2.1 bt216.2.2.2))
theorem bivouaclaw09_CraterOrders.mono_l : ∀ k, (∀ y0 y1 y2 y3 y4 y5 y6, LeO (bivouaclaw09_CraterOrders.l0 k y0 y1 y2 y3 y4 y5 y6) (bivouaclaw09_CraterOrders.l0 (k + 1) y0 y1 y2 y3 y4 y5 y6)) ∧ (∀ y0 y1 y2 y3 y4 y5 y6 y7 y8 y9 y10, LeO (bivouaclaw09_CraterOrders.j1 k y0 y1 y2 y3 y4 y5 y6 y7 y8 y9 y10) (bivouaclaw09_CraterOrders.j1 (k + 1) y0 y1 y2 y3 y4 y5 y6 y7 y8 y9 y10)) ∧ (∀ y0 y1 y2 y3 y4 y5 y6 y7 y8 y9 y10, LeO (bivouaclaw09_CraterOrders.j3 k y0 y1 y2 y3 y4 y5 y6 y7 y8 y9 y10) (bivouaclaw09_CraterOrders.j3 (k + 1) y0 y1 y2 y3 y4 y5 y6 y7 y8 y9 y10)) ∧ (∀ y0 y1 y2 y3 y4 y5 y6 y7 y8 y9 y10 y11, LeO (bivouaclaw09_CraterOrders.l1 k y0 y1 y2 y3 y4 y5 y6 y7 y8 y9 y10 y11) (bivouaclaw09_CraterOrders.l1 (k + 1) y0 y1 y2 y3 y4 y5 y6 y7 y8 y9 y10 y11))
 | 0 => ⟨fun _ _ _ _ _ _ _ r h => by simp [bivouaclaw09_CraterOrders.l0] at h, fun _ _ _ _ _ _ _ _ _ _ _ r h => by simp [bivouaclaw09_CraterOrders.j1] at h, fun _ _ _ _ _ _ _ _ _ _ _ r h => by simp [bivouaclaw09_CraterOrders.j3] at h, fun _ _ _ _ _ _ _ _ _ _ _ _ r h => by simp [bivouaclaw09_CraterOrders.l1] at h⟩
 | k + 1 => by
  obtain ⟨ih0, ih1, ih2, ih3⟩ := bivouaclaw09_CraterOrders.mono_l k
  refine ⟨?_, ?_, ?_, ?_⟩
  ·
   intro y0 y1 y2 y3 y4 y5 y6
   unfold bivouaclaw09_CraterOrders.l0
   repeat' first
   | (with_reducible exact ih0 _ _ _ _ _ _ _)
   | (with_reducible exact ih1 _ _ _ _ _ _ _ _ _ _ _)
   | (with_reducible exact ih2 _ _ _ _ _ _ _ _ _ _ _)
   | (with_reducible exact ih3 _ _ _ _ _ _ _ _ _ _ _ _)
   | (with_reducible exact crater_All.mono _ _ _ _ _ _)
   | (with_reducible exact crater_Strike.mono _ _ _ _ _ _ _ _ _)
   | (with_reducible exact LeO.refl _)
   | (with_reducible exact LeO.none _)
   | (with_reducible refine LeO.ite ?_ ?_)
   | (with_reducible refine LeO.bind ?_ (fun _ => ?_))
   | exact ih0 _ _ _ _ _ _ _
   | exact ih1 _ _ _ _ _ _ _ _ _ _ _
   | exact ih2 _ _ _ _ _ _ _ _ _ _ _
   | exact ih3 _ _ _ _ _ _ _ _ _ _ _ _
   | exact crater_All.mono _ _ _ _ _ _
   | exact crater_Strike.mono _ _ _ _ _ _ _ _ _
   | exact LeO.none _
   | refine LeO.ite ?_ ?_
   | refine LeO.bind ?_ (fun _ => ?_)
  ·
   intro y0 y1 y2 y3 y4 y5 y6 y7 y8 y9 y10
   unfold bivouaclaw09_CraterOrders.j1
   repeat' first
   | (with_reducible exact ih0 _ _ _ _ _ _ _)
   | (with_reducible exact ih1 _ _ _ _ _ _ _ _ _ _ _)
   | (with_reducible exact ih2 _ _ _ _ _ _ _ _ _ _ _)
   | (with_reducible exact ih3 _ _ _ _ _ _ _ _ _ _ _ _)
   | (with_reducible exact crater_All.mono _ _ _ _ _ _)
   | (with_reducible exact crater_Strike.mono _ _ _ _ _ _ _ _ _)
   | (with_reducible exact LeO.refl _)
   | (with_reducible exact LeO.none _)
   | (with_reducible refine LeO.ite ?_ ?_)
   | (with_reducible refine LeO.bind ?_ (fun _ => ?_))
   | exact ih0 _ _ _ _ _ _ _
   | exact ih1 _ _ _ _ _ _ _ _ _ _ _
   | exact ih2 _ _ _ _ _ _ _ _ _ _ _
   | exact ih3 _ _ _ _ _ _ _ _ _ _ _ _
   | exact crater_All.mono _ _ _ _ _ _
   | exact crater_Strike.mono _ _ _ _ _ _ _ _ _
   | exact LeO.none _
   | refine LeO.ite ?_ ?_
   | refine LeO.bind ?_ (fun _ => ?_)
  ·
   intro y0 y1 y2 y3 y4 y5 y6 y7 y8 y9 y10
   unfold bivouaclaw09_CraterOrders.j3
   repeat' first
   | (with_reducible exact ih0 _ _ _ _ _ _ _)
   | (with_reducible exact ih1 _ _ _ _ _ _ _ _ _ _ _)
   | (with_reducible exact ih2 _ _ _ _ _ _ _ _ _ _ _)
   | (with_reducible exact ih3 _ _ _ _ _ _ _ _ _ _ _ _)
   | (with_reducible exact crater_All.mono _ _ _ _ _ _)
   | (with_reducible exact crater_Strike.mono _ _ _ _ _ _ _ _ _)
   | (with_reducible exact LeO.refl _)
   | (with_reducible exact LeO.none _)
   | (with_reducible refine LeO.ite ?_ ?_)
   | (with_reducible refine LeO.bind ?_ (fun _ => ?_))
   | exact ih0 _ _ _ _ _ _ _
   | exact ih1 _ _ _ _ _ _ _ _ _ _ _
   | exact ih2 _ _ _ _ _ _ _ _ _ _ _
   | exact ih3 _ _ _ _ _ _ _ _ _ _ _ _
   | exact crater_All.mono _ _ _ _ _ _
   | exact crater_Strike.mono _ _ _ _ _ _ _ _ _
   | exact LeO.none _
   | refine LeO.ite ?_ ?_
   | refine LeO.bind ?_ (fun _ => ?_)
  ·
   intro y0 y1 y2 y3 y4 y5 y6 y7 y8 y9 y10 y11
   unfold bivouaclaw09_CraterOrders.l1
   repeat' first
   | (with_reducible exact ih0 _ _ _ _ _ _ _)
   | (with_reducible exact ih1 _ _ _ _ _ _ _ _ _ _ _)
   | (with_reducible exact ih2 _ _ _ _ _ _ _ _ _ _ _)
   | (with_reducible exact ih3 _ _ _ _ _ _ _ _ _ _ _ _)
   | (with_reducible exact crater_All.mono _ _ _ _ _ _)
   | (with_reducible exact crater_Strike.mono _ _ _ _ _ _ _ _ _)
   | (with_reducible exact LeO.refl _)
   | (with_reducible exact LeO.none _)
   | (with_reducible refine LeO.ite ?_ ?_)
   | (with_reducible refine LeO.bind ?_ (fun _ => ?_))
   | exact ih0 _ _ _ _ _ _ _
   | exact ih1 _ _ _ _ _ _ _ _ _ _ _
   | exact ih2 _ _ _ _ _ _ _ _ _ _ _
   | exact ih3 _ _ _ _ _ _ _ _ _ _ _ _
   | exact crater_All.mono _ _ _ _ _ _
   | exact crater_Strike.mono _ _ _ _ _ _ _ _ _
   | exact LeO.none _
   | refine LeO.ite ?_ ?_
   | refine LeO.bind ?_ (fun _ => ?_)
theorem bivouaclaw09_CraterOrders.mono : ∀ a0 a1 a2 a3 a4 k, LeO (bivouaclaw09_CraterOrders.f k a0 a1 a2 a3 a4) (bivouaclaw09_CraterOrders.f (k + 1) a0 a1 a2 a3 a4) := by
 intro a0 a1 a2 a3 a4 k
 obtain ⟨ih0, ih1, ih2, ih3⟩ := bivouaclaw09_CraterOrders.mono_l k
 unfold bivouaclaw09_CraterOrders.f
 repeat' first
   | (with_reducible exact ih0 _ _ _ _ _ _ _)
   | (with_reducible exact ih1 _ _ _ _ _ _ _ _ _ _ _)
   | (with_reducible exact ih2 _ _ _ _ _ _ _ _ _ _ _)
   | (with_reducible exact ih3 _ _ _ _ _ _ _ _ _ _ _ _)
   | (with_reducible exact crater_All.mono _ _ _ _ _ _)
   | (with_reducible exact crater_Strike.mono _ _ _ _ _ _ _ _ _)
   | (with_reducible exact LeO.refl _)
   | (with_reducible exact LeO.none _)
   | (with_reducible refine LeO.ite ?_ ?_)
   | (with_reducible refine LeO.bind ?_ (fun _ => ?_))
   | exact ih0 _ _ _ _ _ _ _
   | exact ih1 _ _ _ _ _ _ _ _ _ _ _
   | exact ih2 _ _ _ _ _ _ _ _ _ _ _
   | exact ih3 _ _ _ _ _ _ _ _ _ _ _ _
   | exact crater_All.mono _ _ _ _ _ _
   | exact crater_Strike.mono _ _ _ _ _ _ _ _ _
   | exact LeO.none _
   | refine LeO.ite ?_ ?_
   | refine LeO.bind ?_ (fun _ => ?_)
def bivouaclaw09_CraterOrders.T15 : Bool × List (List Nat × List Nat) := (true, [([], []), ([], []), ([], []), ([1, 2], [1, 2]), ([3], [3]), ([0, 4], [0, 4]), ([5], [5]), ([6], [6]), ([6], [6]), ([7, 5, 0, 1, 2, 3, 4, 5, 6, 7], [7]), ([8, 9, 0, 1, 2, 3, 4, 5, 6, 7, 8, 9], [8])])
def bivouaclaw09_CraterOrders.B15 : List Nat := [0, 0, 0, 6, 14, 31, 63, 127, 127, 255, 1023]
theorem bivouaclaw09_CraterOrders.tab15 : rtab .any (opsOf Try.f12 15) = bivouaclaw09_CraterOrders.T15 := by kernel_rfl
theorem bivouaclaw09_CraterOrders.bits15 : waitsOk bivouaclaw09_CraterOrders.T15.2 bivouaclaw09_CraterOrders.B15 = true := by kernel_rfl
set_option maxHeartbeats 8000000 in
set_option maxRecDepth 100000 in
theorem bivouaclaw09_CraterOrders.calls (k : Nat) (a0_0 : Int) (a0_1 : Int) (a0_2 : Int) (A0_3 : Option Addr) (c0_3 : Nat) (l0_3 : List Int) (A1 : Option Addr) (c1 : Nat) (l1 : List (S23)) (r : Bool) (w : World) (hr0_3 : Kd.C (Kd.int .u8) w A0_3 l0_3.length l0_3) (hc0_3 : l0_3.length ≤ c0_3) (hr1 : Kd.C k23 w A1 l1.length l1) (hc1 : l1.length ≤ c1) (h : bivouaclaw09_CraterOrders.f k a0_0 a0_1 a0_2 l0_3 l1 = some r) :
  Calls Try.prog 12 #[.agg #[.int .i64 a0_0, .int .i64 a0_1, .int .i64 a0_2, .slice A0_3 l0_3.length c0_3], .slice A1 l1.length c1] w fun e w' => e = .returned (.bool r) ∧ Below w.heap.size w w' := by
 have hu46 := Try.underlying46
 have hu23 := Try.underlying23
 have HR0_3 := Aside0.mk hr0_3
 have HC0_3 := Aside0.mk hc0_3
 clear hr0_3 hc0_3
 have HR1 := Aside0.mk hr1
 have HC1 := Aside0.mk hc1
 clear hr1 hc1
 have HB := Aside0.mk (Below.refl w.heap.size w)
 have H : ((bivouaclaw09_few.f a0_0 a0_1 a0_2 l0_3).bind fun bt216 => ((bivouaclaw09_some.f l1).bind fun t222 => (bivouaclaw09_CraterOrders.l0 k t222 ([] : List (S23)) (wrap64 ((t222.length : Int) - 1)) bt216.1 bt216.2.1 bt216.2.2.1 bt216.2.2.2))) = some r := h
 clear h
 replace H := Option.bind_eq_some_iff.mp H
 obtain ⟨⟨t216, t217, t218, t219⟩, A30, H⟩ := H
 replace H : ((bivouaclaw09_some.f l1).bind fun t222 => (bivouaclaw09_CraterOrders.l0 k t222 ([] : List (S23)) (wrap64 ((t222.length : Int) - 1)) t216 t217 t218 t219)) = some r := H
 have A3 := Aside0.mk A30
 clear A30
 replace H := Option.bind_eq_some_iff.mp H
 obtain ⟨t222, A40, H⟩ := H
 replace H : (bivouaclaw09_CraterOrders.l0 k t222 ([] : List (S23)) (wrap64 ((t222.length : Int) - 1)) t216 t217 t218 t219) = some r := H
 have A4 := Aside0.mk A40
 clear A40
 have H' := Aside0.mk H
 clear H
 go_enter Try.func12, Try.ntmps12
 go_wp2_with (first | ((with_reducible refine gate_dst (N := 2) rfl ?_); (try (refine gate_guard (by rfl) ?_; dsimp only)); refine box_event ?hg (N := 2) ?hd (cs := #[.int .i64 a0_0, .int .i64 a0_1, .int .i64 a0_2, .slice A0_3 l0_3.length c0_3]) (t := 46) ?hr ?_; (case hd => rfl); (case hg => rfl); (case hr => first | (go_simp; done) | (go_simp; rfl)); intro gb215 hg w5 hbox hb; have n0_ := Aside0.mk (below_step (by repeat (first | (with_reducible first | exact HB.out | apply below_alloc | apply pw_below_drewN | apply below_drew1) | exact HB.out)) hb); have n1_ := Aside0.mk (hbox); have n2_ := Aside0.mk ((by rw [hg]; exact (below_size (by repeat (first | (with_reducible first | exact HB.out | apply below_alloc | apply pw_below_drewN | apply below_drew1) | exact HB.out))) : w.heap.size ≤ gb215)); have n3_ := Aside0.mk ((by rw [hg]; exact (below_size (by repeat (first | (with_reducible first | exact HB.out | apply below_alloc | apply pw_below_drewN | apply below_drew1) | exact HB.out))) : w.heap.size ≤ gb215)); clear HB; have HB := n0_; have BK215 := n1_; have GW215 := n2_; have GE215 := n3_; clear n0_ n1_ n2_ n3_; clear hb hbox hg; have hcz6_0 : w5.cell? ⟨gb215, 0, none⟩ = some (.int .i64 a0_0) := (blk_cell BK215.out 0).trans rfl; have hcz6_1 : w5.cell? ⟨gb215, 1, none⟩ = some (.int .i64 a0_1) := (blk_cell BK215.out 1).trans rfl; have hcz6_2 : w5.cell? ⟨gb215, 2, none⟩ = some (.int .i64 a0_2) := (blk_cell BK215.out 2).trans rfl; have hcz6_3 : w5.cell? ⟨gb215, 3, none⟩ = some (.slice A0_3 l0_3.length c0_3) := (blk_cell BK215.out 3).trans rfl; have hfz6_0 := blk_frozen BK215.out 0; have hfz6_1 := blk_frozen BK215.out 1; have hfz6_2 := blk_frozen BK215.out 2; have hfz6_3 := blk_frozen BK215.out 3) | ((with_reducible refine gate_callee (f := 26) rfl ?_); refine goesL_ (some 15) rfl rfl Try.func26 (by kernel_rfl) rfl #[.agg #[.int .i64 a0_0, .int .i64 a0_1, .int .i64 a0_2, .slice A0_3 l0_3.length c0_3]] rfl (by (try simp only [List.map_toArray, List.map_cons, List.map_nil]); first | done | rfl | (simp only [List.length_drop, List.length_take]; rfl)) ?_; (with_reducible refine (bivouaclaw09_few.calls a0_0 a0_1 a0_2 (fun k_ => k_ < w.heap.size) _ _ l0_3 t216 t217 t218 t219 _ ?side1 A3.out).mono ?_); (case side1 => exact Kd.V_mk HC0_3.out (Kd.F_below (Kd.C_F (Kd.heap_int .u8) HR0_3.out) (by repeat (first | (with_reducible first | exact HB.out | apply below_alloc | apply pw_below_drewN | apply below_drew1 | refine below_set ?_ GE215.out) | exact HB.out)))); rintro e w7 ⟨v220, rfl, ho0, hb⟩; refine ⟨_, rfl, ?_⟩; have n0_ := Aside0.mk (Kd.V_lower (Kd.V_mono (ok' := fun k_ => k_ ≠ gb215) ho0 (fun k_ hk_ => Or.elim hk_ (fun hs_ => fun e_ => Nat.not_le.2 hs_ (by rw [e_]; exact GW215.out)) (fun hn_ => (Kd.freshB (g := gb215) (o := .cells #[.int .i64 a0_0, .int .i64 a0_1, .int .i64 a0_2, .slice A0_3 l0_3.length c0_3] 46 (0, 0)) (by (with_reducible repeat (first | refine blk_drewN ?_ _ | refine blk_drew ?_ | refine blk_alloc ?_ _)); exact BK215.out) k_ hn_)))) (below_size (by repeat (first | (with_reducible first | exact HB.out | apply below_alloc | apply pw_below_drewN | apply below_drew1 | refine below_set ?_ GE215.out) | exact HB.out)))); have n1_ := Aside0.mk (blk_below (g := gb215) (o := .cells #[.int .i64 a0_0, .int .i64 a0_1, .int .i64 a0_2, .slice A0_3 l0_3.length c0_3] 46 (0, 0)) (by (with_reducible repeat (first | refine blk_drewN ?_ _ | refine blk_drew ?_ | refine blk_alloc ?_ _)); exact BK215.out) hb); have n2_ := Aside0.mk (below_step (by repeat (first | (with_reducible first | exact HB.out | apply below_alloc | apply pw_below_drewN | apply below_drew1 | refine below_set ?_ GE215.out) | exact HB.out)) hb); clear BK215; clear HB; have HO221 := n0_; have BK215 := n1_; have HB := n2_; clear n0_ n1_ n2_; (try clear hb); (try clear hb2); (try clear hk); (try clear hi); (try clear ho0)) | ((with_reducible refine gate_callee (f := 30) rfl ?_); refine goesL_ (some 17) rfl rfl Try.func30 (by kernel_rfl) rfl #[.slice A1 l1.length c1] rfl (by (try simp only [List.map_toArray, List.map_cons, List.map_nil]); first | done | rfl | (simp only [List.length_drop, List.length_take]; rfl)) ?_; (with_reducible refine (bivouaclaw09_some.calls (fun k_ => k_ < w.heap.size) _ _ l1 t222 _ ?side1 A4.out).mono ?_); (case side1 => exact Kd.V_mk HC1.out (Kd.F_below (Kd.C_F k23_heap HR1.out) (by repeat (first | (with_reducible first | exact HB.out | apply below_alloc | apply pw_below_drewN | apply below_drew1 | refine below_set ?_ GE215.out) | exact HB.out)))); rintro e w8 ⟨v223, rfl, ho0, hb⟩; refine ⟨_, rfl, ?_⟩; have n0_ := Aside0.mk (Kd.V_below (by (with_reducible repeat (first | apply Kd.V_alloc | apply Kd.V_drewN | apply Kd.V_drew)); exact HO221.out) hb); have n1_ := Aside0.mk (Kd.V_lower (Kd.V_mono (ok' := fun k_ => k_ ≠ gb215) ho0 (fun k_ hk_ => Or.elim hk_ (fun hs_ => fun e_ => Nat.not_le.2 hs_ (by rw [e_]; exact GW215.out)) (fun hn_ => (Kd.freshB (g := gb215) (o := .cells #[.int .i64 a0_0, .int .i64 a0_1, .int .i64 a0_2, .slice A0_3 l0_3.length c0_3] 46 (0, 0)) (by (with_reducible repeat (first | refine blk_drewN ?_ _ | refine blk_drew ?_ | refine blk_alloc ?_ _)); exact BK215.out) k_ hn_)))) (below_size (by repeat (first | (with_reducible first | exact HB.out | apply below_alloc | apply pw_below_drewN | apply below_drew1 | refine below_set ?_ GE215.out) | exact HB.out)))); have n2_ := Aside0.mk (blk_below (g := gb215) (o := .cells #[.int .i64 a0_0, .int .i64 a0_1, .int .i64 a0_2, .slice A0_3 l0_3.length c0_3] 46 (0, 0)) (by (with_reducible repeat (first | refine blk_drewN ?_ _ | refine blk_drew ?_ | refine blk_alloc ?_ _)); exact BK215.out) hb); have n3_ := Aside0.mk (below_step (by repeat (first | (with_reducible first | exact HB.out | apply below_alloc | apply pw_below_drewN | apply below_drew1 | refine below_set ?_ GE215.out) | exact HB.out)) hb); clear HO221; clear BK215; clear HB; have HO221 := n0_; have HO224 := n1_; have BK215 := n2_; have HB := n3_; clear n0_ n1_ n2_ n3_; (try clear hb); (try clear hb2); (try clear hk); (try clear hi); (try clear ho0); have hcz9_0 : w8.cell? ⟨gb215, 0, none⟩ = some (.int .i64 a0_0) := (blk_cell BK215.out 0).trans rfl; have hcz9_1 : w8.cell? ⟨gb215, 1, none⟩ = some (.int .i64 a0_1) := (blk_cell BK215.out 1).trans rfl; have hcz9_2 : w8.cell? ⟨gb215, 2, none⟩ = some (.int .i64 a0_2) := (blk_cell BK215.out 2).trans rfl; have hcz9_3 : w8.cell? ⟨gb215, 3, none⟩ = some (.slice A0_3 l0_3.length c0_3) := (blk_cell BK215.out 3).trans rfl; have hfz9_0 := blk_frozen BK215.out 0; have hfz9_1 := blk_frozen BK215.out 1; have hfz9_2 := blk_frozen BK215.out 2; have hfz9_3 := blk_frozen BK215.out 3; obtain ⟨Ao10, co10, eo10⟩ := Kd.V_slice HO221.out; subst eo10; obtain ⟨Ao11, co11, eo11⟩ := Kd.V_slice HO224.out; subst eo11))
 go_loopg [5, 6] k (fun kq v5 v6 w' => ∃ (x5_1 : List (S23)) (x6_1 : Int), v6 = .int .i64 x6_1 ∧ Aside0 (bivouaclaw09_CraterOrders.l0 kq t222 x5_1 x6_1 t216 t217 t218 t219 = some r) ∧ Aside0 (kq ≤ k) ∧ Aside0 (Kd.V k23 23 w' w.heap.size (fun k_ => some k_ ≠ (v5 : Value).ownBlock ∧ k_ ≠ gb215) (.slice Ao11 t222.length co11) t222) ∧ Aside0 (Kd.R k23 23 w' w.heap.size (fun _ => True) v5 x5_1) ∧ Aside0 (Kd.V (Kd.int .u8) 5 w' w.heap.size (fun k_ => some k_ ≠ (v5 : Value).ownBlock ∧ k_ ≠ gb215) (.slice Ao10 t219.length co10) t219) ∧ Aside0 (w'.heap[gb215]? = some (.cells #[.int .i64 t216, .int .i64 t217, .int .i64 t218, (.slice Ao10 t219.length co10)] 46 (0, 0))) ∧ Aside0 (Below w.heap.size w w'))
 case atStart => exact ⟨(([] : List (S23))), (wrap64 ((t222.length : Int) - 1)), (by first | rfl | (simp; done) | (simp [*]; done)), H', ⟨Nat.le_refl _⟩, ⟨by (with_reducible repeat (first | apply Kd.V_alloc | apply Kd.V_drewN | apply Kd.V_drew)); exact Kd.V_mono (Kd.V_far (p := ⟨gb215, 3, none⟩) (Kd.V_far (p := ⟨gb215, 2, none⟩) (Kd.V_far (p := ⟨gb215, 1, none⟩) (Kd.V_far (p := ⟨gb215, 0, none⟩) (Kd.V_mono HO224.out (fun k_ hk => (⟨hk, hk⟩ : _ ∧ k_ ≠ gb215))) (fun _ hk => hk.2) (.int .i64 t216)) (fun _ hk => hk.2) (.int .i64 t217)) (fun _ hk => hk.2) (.int .i64 t218)) (fun _ hk => hk.2) (.slice Ao10 t219.length co10)) (fun _ hk => ⟨(by simp [Value.ownBlock]), hk.1⟩)⟩, ⟨by first | exact Kd.R_nil _ _ _ _ _ | exact Kd.N_nil _ _ _ _ _ | exact Kd.V_nil _ _ _ _ _ | exact Kd.Q_nil _ _ _ _ _ | exact Kd.S_nil _ _ _ _ _⟩, ⟨by (with_reducible repeat (first | apply Kd.V_alloc | apply Kd.V_drewN | apply Kd.V_drew)); exact Kd.V_mono (Kd.V_far (p := ⟨gb215, 3, none⟩) (Kd.V_far (p := ⟨gb215, 2, none⟩) (Kd.V_far (p := ⟨gb215, 1, none⟩) (Kd.V_far (p := ⟨gb215, 0, none⟩) (Kd.V_mono HO221.out (fun k_ hk => (⟨hk, hk⟩ : _ ∧ k_ ≠ gb215))) (fun _ hk => hk.2) (.int .i64 t216)) (fun _ hk => hk.2) (.int .i64 t217)) (fun _ hk => hk.2) (.int .i64 t218)) (fun _ hk => hk.2) (.slice Ao10 t219.length co10)) (fun _ hk => ⟨(by simp [Value.ownBlock]), hk.1⟩)⟩, ⟨by (with_reducible repeat (first | refine blk_drewN ?_ _ | refine blk_drew ?_ | refine blk_alloc ?_ _)); refine blk_put (cs := #[.int .i64 t216, .int .i64 t217, .int .i64 t218, .slice A0_3 l0_3.length c0_3]) ?_ 3 _ rfl; (with_reducible repeat (first | refine blk_drewN ?_ _ | refine blk_drew ?_ | refine blk_alloc ?_ _)); refine blk_put (cs := #[.int .i64 t216, .int .i64 t217, .int .i64 a0_2, .slice A0_3 l0_3.length c0_3]) ?_ 2 _ rfl; (with_reducible repeat (first | refine blk_drewN ?_ _ | refine blk_drew ?_ | refine blk_alloc ?_ _)); refine blk_put (cs := #[.int .i64 t216, .int .i64 a0_1, .int .i64 a0_2, .slice A0_3 l0_3.length c0_3]) ?_ 1 _ rfl; (with_reducible repeat (first | refine blk_drewN ?_ _ | refine blk_drew ?_ | refine blk_alloc ?_ _)); refine blk_put (cs := #[.int .i64 a0_0, .int .i64 a0_1, .int .i64 a0_2, .slice A0_3 l0_3.length c0_3]) ?_ 0 _ rfl; (with_reducible repeat (first | refine blk_drewN ?_ _ | refine blk_drew ?_ | refine blk_alloc ?_ _)); exact BK215.out⟩, ⟨by repeat (first | (with_reducible first | exact HB.out | apply below_alloc | apply pw_below_drewN | apply below_drew1 | refine below_set ?_ GE215.out) | exact HB.out)⟩⟩
 case round =>
  clear H'
  try clear c1
  try clear c2
  try clear p2
  try clear c3
  try clear p6
  try clear hcz6_0
  try clear hcz6_1
  try clear hcz6_2
  try clear hcz6_3
  try clear hcz9_0
  try clear hcz9_1
  try clear hcz9_2
  try clear hcz9_3
  try clear hfz6_0
  try clear hfz6_1
  try clear hfz6_2
  try clear hfz6_3
  try clear hfz9_0
  try clear hfz9_1
  try clear hfz9_2
  try clear hfz9_3
  obtain ⟨x5_1, x6_1, rfl, HA, HK1, HO_1, HO_5, HO_216003, BK215, HB⟩ := hrel
  cases gk with
  | zero => exact absurd HA.out (by simp [bivouaclaw09_CraterOrders.l0])
  | succ k1 =>
   have H := HA.out
   clear HA
   simp only [bivouaclaw09_CraterOrders.l0] at H
   by_cases c12 : x6_1 ≥ 0
   ·
    rw [if_pos c12] at H
    have c12b0 : decide (0 ≤ x6_1) = true := decide_eq_true c12
    clear c12
    by_cases c13 : 0 ≤ x6_1
    ·
     rw [if_pos c13] at H
     have c13b0 : decide (0 ≤ x6_1) = true := decide_eq_true c13
     clear c13
     by_cases c14 : x6_1 < (t222.length : Int)
     ·
      rw [if_pos c14] at H
      have c14b0 : decide (x6_1 < (t222.length : Int)) = true := decide_eq_true c14
      clear c14
      by_cases c15 : x5_1.length < 4398046511104
      ·
       rw [if_pos c15] at H
       have LMc15 := Aside0.mk c15
       clear c15
       obtain ⟨y226, hy226⟩ : ∃ y_ : List (S23), y_ = (x5_1 ++ [(⟨(rd_T23 t222 x6_1).f0, (rd_T23 t222 x6_1).f1, (rd_T23 t222 x6_1).f2, (rd_T23 t222 x6_1).f3⟩ : S23)]) := ⟨_, rfl⟩
       replace H : (bivouaclaw09_CraterOrders.l0 k1 t222 y226 (wrap64 (x6_1 - 1)) t216 t217 t218 t219) = some r := by first | (rw [hy226]; with_reducible exact H) | (have H2_ := (Option.bind_some _ _).symm.trans H; rw [hy226]; with_reducible exact H2_) | (have H2_ := (Option.bind_some _ _).symm.trans H; with_reducible exact H2_) | with_reducible exact H | (rw [hy226]; exact H) | exact H
       have Ny226 := Aside0.mk hy226
       clear hy226
       have H' := Aside0.mk H
       clear H
       have p225 : 0 ≤ (x6_1 : Int) := of_decide_eq_true (by first | (with_reducible assumption) | assumption)
       have q225 : x6_1 < (t222.length : Int) := of_decide_eq_true (by first | (with_reducible assumption) | assumption)
       obtain ⟨ad225, e225, hx225_0, hx225_1, hx225_2, hx225_3⟩ := at_T23 (Kd.V_reads' HO_1.out).2.2 x6_1 p225 q225
       cases e225
       replace p225 := eq_true p225
       replace q225 := eq_true q225
       go_wp2_with (first | ((with_reducible refine gate_builtin (b := .append) (xs := #[.tmp 25, .tmp 30]) rfl ?_); (try (refine gate_guard (by rfl) ?_; dsimp only)); at_builtin; refine Kd.R_append k23 (w0 := w) w.heap.size rfl (.tmp 25) (.tmp 30) 53 23 (.agg #[(.int .i64 0), (.int .i64 0), (.int .i64 0), (.int .i64 0)]) 32 rfl Try.underlying53 info23 rfl (by decide) (by omega) u5 x5_1 (⟨(rd_T23 t222 x6_1).f0, (rd_T23 t222 x6_1).f1, (rd_T23 t222 x6_1).f2, (rd_T23 t222 x6_1).f3⟩ : S23) [.int .i64 ((rd_T23 t222 x6_1).f0), .int .i64 ((rd_T23 t222 x6_1).f1), .int .i64 ((rd_T23 t222 x6_1).f2), .int .i64 ((rd_T23 t222 x6_1).f3)] (fun _ => True) (fun _ => False) rfl rfl ?aP (fun _ hk => hk.elim) ?aF ?aO ?aB ?aS ?aL ?_; (case aP => exact k23_mkM _ _ _ (⟨(rd_T23 t222 x6_1).f0, (rd_T23 t222 x6_1).f1, (rd_T23 t222 x6_1).f2, (rd_T23 t222 x6_1).f3⟩ : S23)); (case aB => exact (by repeat (first | (with_reducible first | exact HB.out | apply below_alloc | apply pw_below_drewN | apply below_drew1 | refine below_set ?_ GE215.out) | exact HB.out))); (case aF => exact (fun _ _ => trivial)); (case aO => exact (by (with_reducible repeat (first | apply Kd.R_alloc | apply Kd.R_drewN | apply Kd.R_drew)); exact HO_5.out)); (case aS => exact (below_size (by repeat (first | (with_reducible first | exact HB.out | apply below_alloc | apply pw_below_drewN | apply below_drew1 | refine below_set ?_ GE215.out) | exact HB.out)))); (case aL => have := LMc15.out; omega); intro v227 w16 ho hb hg hat; rw [← Ny226.out] at ho; have n0_ := Aside0.mk (Kd.V_afterv (ok := (fun k_ => k_ ≠ gb215)) (by (with_reducible repeat (first | apply Kd.V_alloc | apply Kd.V_drewN | apply Kd.V_drew)); exact Kd.V_mono HO_1.out (fun _ hk => ⟨hk.2, hk.1⟩)) hg hat); have n1_ := Aside0.mk (Kd.V_afterv (ok := (fun k_ => k_ ≠ gb215)) (by (with_reducible repeat (first | apply Kd.V_alloc | apply Kd.V_drewN | apply Kd.V_drew)); exact Kd.V_mono HO_216003.out (fun _ hk => ⟨hk.2, hk.1⟩)) hg hat); have n2_ := Aside0.mk (blk_grown (g := gb215) (o := .cells #[.int .i64 t216, .int .i64 t217, .int .i64 t218, .slice Ao10 t219.length co10] 46 (0, 0)) (by (with_reducible repeat (first | refine blk_drewN ?_ _ | refine blk_drew ?_ | refine blk_alloc ?_ _)); exact BK215.out) hg (Kd.R_ne HO_5.out BK215.out (by decide))); have n3_ := Aside0.mk (hb); have n4_ := Aside0.mk (ho); clear HO_1; clear HO_216003; clear BK215; clear HB; clear HO_5; have HO_1 := n0_; have HO_216003 := n1_; have BK215 := n2_; have HB := n3_; have HO228 := n4_; clear n0_ n1_ n2_ n3_ n4_; clear ho hb hg hat))
       go_roundg k1
       case measure => have := HK1.out; omega
       case rel => exact ⟨(y226), (wrap64 (x6_1 - 1)), (by first | rfl | (simp; done) | (simp [*]; done)), H', ⟨by have := HK1.out; omega⟩, ⟨by (with_reducible repeat (first | apply Kd.V_alloc | apply Kd.V_drewN | apply Kd.V_drew)); exact Kd.V_mono HO_1.out (fun _ hk => ⟨hk.2, hk.1⟩)⟩, ⟨by (with_reducible repeat (first | apply Kd.R_alloc | apply Kd.R_drewN | apply Kd.R_drew)); exact HO228.out⟩, ⟨by (with_reducible repeat (first | apply Kd.V_alloc | apply Kd.V_drewN | apply Kd.V_drew)); exact Kd.V_mono HO_216003.out (fun _ hk => ⟨hk.2, hk.1⟩)⟩, ⟨by (with_reducible repeat (first | refine blk_drewN ?_ _ | refine blk_drew ?_ | refine blk_alloc ?_ _)); exact BK215.out⟩, ⟨by repeat (first | (with_reducible first | exact HB.out | apply below_alloc | apply pw_below_drewN | apply below_drew1 | refine below_set ?_ GE215.out) | exact HB.out)⟩⟩
      ·
       rw [if_neg c15] at H
       exact absurd H (by simp)
     ·
      rw [if_neg c14] at H
      exact absurd H (by simp)
    ·
     rw [if_neg c13] at H
     exact absurd H (by simp)
   ·
    rw [if_neg c12] at H
    have c12b0 : decide (0 ≤ x6_1) = false := decide_eq_false c12
    clear c12
    replace H := Option.bind_eq_some_iff.mp H
    obtain ⟨⟨t229, t230, t231, t232, t235⟩, A170, H⟩ := H
    replace H : ((crater_All.f k1 t216 t217 t218 t219 x5_1).bind fun bt237 => (if t235 = bt237.2.2.2.2 then ((bivouacref06_Same.f t229 t230 t231 t232 bt237.1 bt237.2.1 bt237.2.2.1 bt237.2.2.2.1).bind fun t245 => (bivouaclaw09_CraterOrders.j1 k1 t222 t235 (!t245) t216 t217 t218 t219 t229 t230 t231 t232)) else (bivouaclaw09_CraterOrders.j1 k1 t222 t235 true t216 t217 t218 t219 t229 t230 t231 t232))) = some r := H
    have A17 := Aside0.mk A170
    clear A170
    replace H := Option.bind_eq_some_iff.mp H
    obtain ⟨⟨t237, t238, t239, t240, t243⟩, A180, H⟩ := H
    replace H : (if t235 = t243 then ((bivouacref06_Same.f t229 t230 t231 t232 t237 t238 t239 t240).bind fun t245 => (bivouaclaw09_CraterOrders.j1 k1 t222 t235 (!t245) t216 t217 t218 t219 t229 t230 t231 t232)) else (bivouaclaw09_CraterOrders.j1 k1 t222 t235 true t216 t217 t218 t219 t229 t230 t231 t232)) = some r := H
    have A18 := Aside0.mk A180
    clear A180
    have HC19 := Aside0.mk H
    clear H
    have hcz20_0 : wr.cell? ⟨gb215, 0, none⟩ = some (.int .i64 t216) := (blk_cell BK215.out 0).trans rfl
    have hcz20_1 : wr.cell? ⟨gb215, 1, none⟩ = some (.int .i64 t217) := (blk_cell BK215.out 1).trans rfl
    have hcz20_2 : wr.cell? ⟨gb215, 2, none⟩ = some (.int .i64 t218) := (blk_cell BK215.out 2).trans rfl
    have hcz20_3 : wr.cell? ⟨gb215, 3, none⟩ = some (.slice Ao10 t219.length co10) := (blk_cell BK215.out 3).trans rfl
    have hfz20_0 := blk_frozen BK215.out 0
    have hfz20_1 := blk_frozen BK215.out 1
    have hfz20_2 := blk_frozen BK215.out 2
    have hfz20_3 := blk_frozen BK215.out 3
    go_upto_region 9 with (first | ((with_reducible refine gate_callee (f := 31) rfl ?_); refine goesL_ (some 35) rfl rfl Try.func31 (by kernel_rfl) rfl #[.agg #[.int .i64 t216, .int .i64 t217, .int .i64 t218, .slice Ao10 t219.length co10], .slice Ao11 t222.length co11] rfl (by (try simp only [List.map_toArray, List.map_cons, List.map_nil]); first | done | rfl | (simp only [List.length_drop, List.length_take]; rfl)) ?_; (with_reducible refine (crater_All.calls k1 t216 t217 t218 _ _ t219 _ _ t222 t229 t230 t231 t232 t235 _ ?side1 ?side2 ?side3 ?side4 A17.out).mono ?_); (case side1 => repeat (first | exact (Kd.V_reads' HO_216003.out).2.2 | (with_reducible refine Kd.C_alloc ?_ _) | (with_reducible refine Kd.C_drewN ?_ _) | (with_reducible refine Kd.C_drew ?_))); (case side2 => exact (Kd.V_reads' HO_216003.out).2.1); (case side3 => repeat (first | exact (Kd.V_reads' HO_1.out).2.2 | (with_reducible refine Kd.C_alloc ?_ _) | (with_reducible refine Kd.C_drewN ?_ _) | (with_reducible refine Kd.C_drew ?_))); (case side4 => exact (Kd.V_reads' HO_1.out).2.1); rintro e w21 ⟨v233, rfl, ho0, hb⟩; refine ⟨_, rfl, ?_⟩; have n0_ := Aside0.mk (Kd.V_elder' (by (with_reducible repeat (first | apply Kd.V_alloc | apply Kd.V_drewN | apply Kd.V_drew)); exact HO_1.out) (Kd.R_base ho0) hb); have n1_ := Aside0.mk (Kd.R_below (by (with_reducible repeat (first | apply Kd.R_alloc | apply Kd.R_drewN | apply Kd.R_drew)); exact HO_5.out) hb); have n2_ := Aside0.mk (Kd.V_elder' (by (with_reducible repeat (first | apply Kd.V_alloc | apply Kd.V_drewN | apply Kd.V_drew)); exact HO_216003.out) (Kd.R_base ho0) hb); have n3_ := Aside0.mk (Kd.R_lower ho0 (below_size (by repeat (first | (with_reducible first | exact HB.out | apply below_alloc | apply pw_below_drewN | apply below_drew1 | refine below_set ?_ GE215.out) | exact HB.out)))); have n4_ := Aside0.mk (blk_below (g := gb215) (o := .cells #[.int .i64 t216, .int .i64 t217, .int .i64 t218, .slice Ao10 t219.length co10] 46 (0, 0)) (by (with_reducible repeat (first | refine blk_drewN ?_ _ | refine blk_drew ?_ | refine blk_alloc ?_ _)); exact BK215.out) hb); have n5_ := Aside0.mk (below_step (by repeat (first | (with_reducible first | exact HB.out | apply below_alloc | apply pw_below_drewN | apply below_drew1 | refine below_set ?_ GE215.out) | exact HB.out)) hb); clear HO_1; clear HO_5; clear HO_216003; clear BK215; clear HB; have HO_1 := n0_; have HO_5 := n1_; have HO_216003 := n2_; have HO234 := n3_; have BK215 := n4_; have HB := n5_; clear n0_ n1_ n2_ n3_ n4_ n5_; (try clear hb); (try clear hb2); (try clear hk); (try clear hi); (try clear ho0)) | ((with_reducible refine gate_dst (N := 7) rfl ?_); (try (refine gate_guard (by rfl) ?_; dsimp only)); refine box_event ?hg (N := 7) ?hd (cs := #[.int .i64 0, .int .i64 0, .int .i64 0, .slice none 0 0]) (t := 46) ?hr ?_; (case hd => rfl); (case hg => rfl); (case hr => first | (go_simp; done) | (go_simp; rfl)); intro gb236 hg w22 hbox hb; have n0_ := Aside0.mk (Kd.V_below (Kd.V_elderB (by (with_reducible repeat (first | apply Kd.V_alloc | apply Kd.V_drewN | apply Kd.V_drew)); exact HO_1.out) gb236 (Nat.le_of_eq hg.symm)) hb); have n1_ := Aside0.mk (Kd.R_below (by (with_reducible repeat (first | apply Kd.R_alloc | apply Kd.R_drewN | apply Kd.R_drew)); exact HO_5.out) hb); have n2_ := Aside0.mk (Kd.V_below (Kd.V_elderB (by (with_reducible repeat (first | apply Kd.V_alloc | apply Kd.V_drewN | apply Kd.V_drew)); exact HO_216003.out) gb236 (Nat.le_of_eq hg.symm)) hb); have n3_ := Aside0.mk (Kd.R_below (by (with_reducible repeat (first | apply Kd.R_alloc | apply Kd.R_drewN | apply Kd.R_drew)); exact HO234.out) hb); have n4_ := Aside0.mk (blk_below (g := gb215) (o := .cells #[.int .i64 t216, .int .i64 t217, .int .i64 t218, .slice Ao10 t219.length co10] 46 (0, 0)) (by (with_reducible repeat (first | refine blk_drewN ?_ _ | refine blk_drew ?_ | refine blk_alloc ?_ _)); exact BK215.out) hb); have n5_ := Aside0.mk (below_step (by repeat (first | (with_reducible first | exact HB.out | apply below_alloc | apply pw_below_drewN | apply below_drew1 | refine below_set ?_ GE215.out) | exact HB.out)) hb); have n6_ := Aside0.mk (hbox); have n7_ := Aside0.mk ((by rw [hg]; exact (below_size (by repeat (first | (with_reducible first | exact HB.out | apply below_alloc | apply pw_below_drewN | apply below_drew1 | refine below_set ?_ GE215.out) | exact HB.out))) : w.heap.size ≤ gb236)); have n8_ := Aside0.mk ((by rw [hg]; exact (below_size (by repeat (first | (with_reducible first | exact HB.out | apply below_alloc | apply pw_below_drewN | apply below_drew1 | refine below_set ?_ GE215.out) | exact HB.out))) : w.heap.size ≤ gb236)); have n9_ := Aside0.mk ((by rw [hg]; exact Nat.ne_of_lt (blk_lt (g := gb215) (o := .cells #[.int .i64 t216, .int .i64 t217, .int .i64 t218, .slice Ao10 t219.length co10] 46 (0, 0)) (by (with_reducible repeat (first | refine blk_drewN ?_ _ | refine blk_drew ?_ | refine blk_alloc ?_ _)); exact BK215.out)) : gb215 ≠ gb236)); have n10_ := Aside0.mk ((by rw [hg]; exact Nat.ne_of_gt (blk_lt (g := gb215) (o := .cells #[.int .i64 t216, .int .i64 t217, .int .i64 t218, .slice Ao10 t219.length co10] 46 (0, 0)) (by (with_reducible repeat (first | refine blk_drewN ?_ _ | refine blk_drew ?_ | refine blk_alloc ?_ _)); exact BK215.out)) : gb236 ≠ gb215)); clear HO_1; clear HO_5; clear HO_216003; clear HO234; clear BK215; clear HB; have HO_1 := n0_; have HO_5 := n1_; have HO_216003 := n2_; have HO234 := n3_; have BK215 := n4_; have HB := n5_; have BK236 := n6_; have GW236 := n7_; have GE236 := n8_; have NB215_236 := n9_; have NB236_215 := n10_; clear n0_ n1_ n2_ n3_ n4_ n5_ n6_ n7_ n8_ n9_ n10_; clear hb hbox hg; have hnb23 := NB236_215.out; have hnc23 := NB215_236.out; have hcz24_0 : w22.cell? ⟨gb236, 0, none⟩ = some (.int .i64 0) := (blk_cell BK236.out 0).trans rfl; have hcz24_1 : w22.cell? ⟨gb236, 1, none⟩ = some (.int .i64 0) := (blk_cell BK236.out 1).trans rfl; have hcz24_2 : w22.cell? ⟨gb236, 2, none⟩ = some (.int .i64 0) := (blk_cell BK236.out 2).trans rfl; have hcz24_3 : w22.cell? ⟨gb236, 3, none⟩ = some (.slice none 0 0) := (blk_cell BK236.out 3).trans rfl; have hfz24_0 := blk_frozen BK236.out 0; have hfz24_1 := blk_frozen BK236.out 1; have hfz24_2 := blk_frozen BK236.out 2; have hfz24_3 := blk_frozen BK236.out 3; obtain ⟨Ao25, co25, eo25⟩ := Kd.R_slice HO234.out; subst eo25; have hcz26_0 : w22.cell? ⟨gb215, 0, none⟩ = some (.int .i64 t216) := (blk_cell BK215.out 0).trans rfl; have hcz26_1 : w22.cell? ⟨gb215, 1, none⟩ = some (.int .i64 t217) := (blk_cell BK215.out 1).trans rfl; have hcz26_2 : w22.cell? ⟨gb215, 2, none⟩ = some (.int .i64 t218) := (blk_cell BK215.out 2).trans rfl; have hcz26_3 : w22.cell? ⟨gb215, 3, none⟩ = some (.slice Ao10 t219.length co10) := (blk_cell BK215.out 3).trans rfl; have hfz26_0 := blk_frozen BK215.out 0; have hfz26_1 := blk_frozen BK215.out 1; have hfz26_2 := blk_frozen BK215.out 2; have hfz26_3 := blk_frozen BK215.out 3; obtain ⟨Ao27, co27, eo27⟩ := Kd.R_slice HO_5.out; subst eo27) | ((with_reducible refine gate_callee (f := 31) rfl ?_); refine goesL_ (some 41) rfl rfl Try.func31 (by kernel_rfl) rfl #[.agg #[.int .i64 t216, .int .i64 t217, .int .i64 t218, .slice Ao10 t219.length co10], .slice Ao27 x5_1.length co27] rfl (by (try simp only [List.map_toArray, List.map_cons, List.map_nil]); first | done | rfl | (simp only [List.length_drop, List.length_take]; rfl)) ?_; (with_reducible refine (crater_All.calls k1 t216 t217 t218 _ _ t219 _ _ x5_1 t237 t238 t239 t240 t243 _ ?side1 ?side2 ?side3 ?side4 A18.out).mono ?_); (case side1 => refine (Kd.V_reads' (e := 5) (base := w.heap.size) (ok := fun k_ => (((some k_ ≠ (.slice Ao27 x5_1.length co27 : Value).ownBlock ∧ k_ ≠ gb215) ∧ some k_ ≠ (.slice Ao25 t232.length co25 : Value).ownBlock) ∧ k_ ≠ gb236)) (n := t219.length) (c := co10) ?_).2.2; exact (by (with_reducible repeat (first | apply Kd.V_alloc | apply Kd.V_drewN | apply Kd.V_drew)); exact (Kd.V_mono (Kd.V_far (p := ⟨gb236, 3, none⟩) (Kd.V_far (p := ⟨gb236, 2, none⟩) (Kd.V_far (p := ⟨gb236, 1, none⟩) (Kd.V_far (p := ⟨gb236, 0, none⟩) (Kd.V_mono HO_216003.out (fun k_ hk => (⟨hk, hk.2⟩ : _ ∧ k_ ≠ gb236))) (fun _ hk => hk.2) (.int .i64 t229)) (fun _ hk => hk.2) (.int .i64 t230)) (fun _ hk => hk.2) (.int .i64 t231)) (fun _ hk => hk.2) (.slice Ao25 t232.length co25)) (fun _ h_ => h_.1)))); (case side2 => exact (Kd.V_reads' HO_216003.out).2.1); (case side3 => refine (Kd.R_reads' (e := 23) (base := w.heap.size) (ok := fun k_ => True) (n := x5_1.length) (c := co27) ?_).2.2; exact (by (with_reducible repeat (first | apply Kd.R_alloc | apply Kd.R_drewN | apply Kd.R_drew)); exact (Kd.R_mono (Kd.R_far (p := ⟨gb236, 3, none⟩) (Kd.R_far (p := ⟨gb236, 2, none⟩) (Kd.R_far (p := ⟨gb236, 1, none⟩) (Kd.R_far (p := ⟨gb236, 0, none⟩) (Kd.R_types HO_5.out BK236.out (by decide)) (fun _ hk => hk.2) (.int .i64 t229)) (fun _ hk => hk.2) (.int .i64 t230)) (fun _ hk => hk.2) (.int .i64 t231)) (fun _ hk => hk.2) (.slice Ao25 t232.length co25)) (fun _ h_ => h_.1)))); (case side4 => exact (Kd.R_reads' HO_5.out).2.1); rintro e w28 ⟨v241, rfl, ho0, hb⟩; refine ⟨_, rfl, ?_⟩; have n0_ := Aside0.mk (Kd.V_elder' (by (with_reducible repeat (first | apply Kd.V_alloc | apply Kd.V_drewN | apply Kd.V_drew)); exact (Kd.V_mono (Kd.V_far (p := ⟨gb236, 3, none⟩) (Kd.V_far (p := ⟨gb236, 2, none⟩) (Kd.V_far (p := ⟨gb236, 1, none⟩) (Kd.V_far (p := ⟨gb236, 0, none⟩) (Kd.V_mono HO_1.out (fun k_ hk => (⟨hk, hk.2⟩ : _ ∧ k_ ≠ gb236))) (fun _ hk => hk.2) (.int .i64 t229)) (fun _ hk => hk.2) (.int .i64 t230)) (fun _ hk => hk.2) (.int .i64 t231)) (fun _ hk => hk.2) (.slice Ao25 t232.length co25)) (fun _ h_ => h_.1))) (Kd.R_base ho0) hb); have n1_ := Aside0.mk (Kd.R_below (by (with_reducible repeat (first | apply Kd.R_alloc | apply Kd.R_drewN | apply Kd.R_drew)); exact (Kd.R_mono (Kd.R_far (p := ⟨gb236, 3, none⟩) (Kd.R_far (p := ⟨gb236, 2, none⟩) (Kd.R_far (p := ⟨gb236, 1, none⟩) (Kd.R_far (p := ⟨gb236, 0, none⟩) (Kd.R_types HO_5.out BK236.out (by decide)) (fun _ hk => hk.2) (.int .i64 t229)) (fun _ hk => hk.2) (.int .i64 t230)) (fun _ hk => hk.2) (.int .i64 t231)) (fun _ hk => hk.2) (.slice Ao25 t232.length co25)) (fun _ h_ => h_.1))) hb); have n2_ := Aside0.mk (Kd.V_elder' (by (with_reducible repeat (first | apply Kd.V_alloc | apply Kd.V_drewN | apply Kd.V_drew)); exact (Kd.V_mono (Kd.V_far (p := ⟨gb236, 3, none⟩) (Kd.V_far (p := ⟨gb236, 2, none⟩) (Kd.V_far (p := ⟨gb236, 1, none⟩) (Kd.V_far (p := ⟨gb236, 0, none⟩) (Kd.V_mono HO_216003.out (fun k_ hk => (⟨hk, hk.2⟩ : _ ∧ k_ ≠ gb236))) (fun _ hk => hk.2) (.int .i64 t229)) (fun _ hk => hk.2) (.int .i64 t230)) (fun _ hk => hk.2) (.int .i64 t231)) (fun _ hk => hk.2) (.slice Ao25 t232.length co25)) (fun _ h_ => h_.1))) (Kd.R_base ho0) hb); have n3_ := Aside0.mk (Kd.R_elder' (by (with_reducible repeat (first | apply Kd.R_alloc | apply Kd.R_drewN | apply Kd.R_drew)); exact (Kd.R_mono (Kd.R_far (p := ⟨gb236, 3, none⟩) (Kd.R_far (p := ⟨gb236, 2, none⟩) (Kd.R_far (p := ⟨gb236, 1, none⟩) (Kd.R_far (p := ⟨gb236, 0, none⟩) (Kd.R_types HO234.out BK236.out (by decide)) (fun _ hk => hk.2) (.int .i64 t229)) (fun _ hk => hk.2) (.int .i64 t230)) (fun _ hk => hk.2) (.int .i64 t231)) (fun _ hk => hk.2) (.slice Ao25 t232.length co25)) (fun _ h_ => h_.1))) (Kd.R_base ho0) hb); have n4_ := Aside0.mk (Kd.R_lower (Kd.R_new' ho0 (Kd.R_lt (by (with_reducible repeat (first | apply Kd.R_alloc | apply Kd.R_drewN | apply Kd.R_drew)); exact (Kd.R_mono (Kd.R_far (p := ⟨gb236, 3, none⟩) (Kd.R_far (p := ⟨gb236, 2, none⟩) (Kd.R_far (p := ⟨gb236, 1, none⟩) (Kd.R_far (p := ⟨gb236, 0, none⟩) (Kd.R_types HO234.out BK236.out (by decide)) (fun _ hk => hk.2) (.int .i64 t229)) (fun _ hk => hk.2) (.int .i64 t230)) (fun _ hk => hk.2) (.int .i64 t231)) (fun _ hk => hk.2) (.slice Ao25 t232.length co25)) (fun _ h_ => h_.1))))) (below_size (by repeat (first | (with_reducible first | exact HB.out | apply below_alloc | apply pw_below_drewN | apply below_drew1 | refine below_set ?_ GE215.out | refine below_set ?_ GE236.out) | exact HB.out)))); have n5_ := Aside0.mk (blk_below (g := gb215) (o := .cells #[.int .i64 t216, .int .i64 t217, .int .i64 t218, .slice Ao10 t219.length co10] 46 (0, 0)) (by (with_reducible repeat (first | refine blk_drewN ?_ _ | refine blk_drew ?_ | refine blk_alloc ?_ _)); refine blk_far ?_ NB215_236.out _; (with_reducible repeat (first | refine blk_drewN ?_ _ | refine blk_drew ?_ | refine blk_alloc ?_ _)); refine blk_far ?_ NB215_236.out _; (with_reducible repeat (first | refine blk_drewN ?_ _ | refine blk_drew ?_ | refine blk_alloc ?_ _)); refine blk_far ?_ NB215_236.out _; (with_reducible repeat (first | refine blk_drewN ?_ _ | refine blk_drew ?_ | refine blk_alloc ?_ _)); refine blk_far ?_ NB215_236.out _; (with_reducible repeat (first | refine blk_drewN ?_ _ | refine blk_drew ?_ | refine blk_alloc ?_ _)); exact BK215.out) hb); have n6_ := Aside0.mk (blk_below (g := gb236) (o := .cells #[.int .i64 t229, .int .i64 t230, .int .i64 t231, .slice Ao25 t232.length co25] 46 (0, 0)) (by (with_reducible repeat (first | refine blk_drewN ?_ _ | refine blk_drew ?_ | refine blk_alloc ?_ _)); refine blk_put (cs := #[.int .i64 t229, .int .i64 t230, .int .i64 t231, .slice none 0 0]) ?_ 3 _ rfl; (with_reducible repeat (first | refine blk_drewN ?_ _ | refine blk_drew ?_ | refine blk_alloc ?_ _)); refine blk_put (cs := #[.int .i64 t229, .int .i64 t230, .int .i64 0, .slice none 0 0]) ?_ 2 _ rfl; (with_reducible repeat (first | refine blk_drewN ?_ _ | refine blk_drew ?_ | refine blk_alloc ?_ _)); refine blk_put (cs := #[.int .i64 t229, .int .i64 0, .int .i64 0, .slice none 0 0]) ?_ 1 _ rfl; (with_reducible repeat (first | refine blk_drewN ?_ _ | refine blk_drew ?_ | refine blk_alloc ?_ _)); refine blk_put (cs := #[.int .i64 0, .int .i64 0, .int .i64 0, .slice none 0 0]) ?_ 0 _ rfl; (with_reducible repeat (first | refine blk_drewN ?_ _ | refine blk_drew ?_ | refine blk_alloc ?_ _)); exact BK236.out) hb); have n7_ := Aside0.mk (below_step (by repeat (first | (with_reducible first | exact HB.out | apply below_alloc | apply pw_below_drewN | apply below_drew1 | refine below_set ?_ GE215.out | refine below_set ?_ GE236.out) | exact HB.out)) hb); clear HO_1; clear HO_5; clear HO_216003; clear HO234; clear BK215; clear BK236; clear HB; have HO_1 := n0_; have HO_5 := n1_; have HO_216003 := n2_; have HO234 := n3_; have HO242 := n4_; have BK215 := n5_; have BK236 := n6_; have HB := n7_; clear n0_ n1_ n2_ n3_ n4_ n5_ n6_ n7_; (try clear hb); (try clear hb2); (try clear hk); (try clear hi); (try clear ho0)) | ((with_reducible refine gate_dst (N := 9) rfl ?_); (try (refine gate_guard (by rfl) ?_; dsimp only)); refine box_event ?hg (N := 9) ?hd (cs := #[.int .i64 0, .int .i64 0, .int .i64 0, .slice none 0 0]) (t := 46) ?hr ?_; (case hd => rfl); (case hg => rfl); (case hr => first | (go_simp; done) | (go_simp; rfl)); intro gb244 hg w29 hbox hb; have n0_ := Aside0.mk (Kd.V_below (Kd.V_elderB (by (with_reducible repeat (first | apply Kd.V_alloc | apply Kd.V_drewN | apply Kd.V_drew)); exact HO_1.out) gb244 (Nat.le_of_eq hg.symm)) hb); have n1_ := Aside0.mk (Kd.R_below (by (with_reducible repeat (first | apply Kd.R_alloc | apply Kd.R_drewN | apply Kd.R_drew)); exact HO_5.out) hb); have n2_ := Aside0.mk (Kd.V_below (Kd.V_elderB (by (with_reducible repeat (first | apply Kd.V_alloc | apply Kd.V_drewN | apply Kd.V_drew)); exact HO_216003.out) gb244 (Nat.le_of_eq hg.symm)) hb); have n3_ := Aside0.mk (Kd.R_below (by (with_reducible repeat (first | apply Kd.R_alloc | apply Kd.R_drewN | apply Kd.R_drew)); exact HO234.out) hb); have n4_ := Aside0.mk (Kd.R_below (by (with_reducible repeat (first | apply Kd.R_alloc | apply Kd.R_drewN | apply Kd.R_drew)); exact HO242.out) hb); have n5_ := Aside0.mk (blk_below (g := gb215) (o := .cells #[.int .i64 t216, .int .i64 t217, .int .i64 t218, .slice Ao10 t219.length co10] 46 (0, 0)) (by (with_reducible repeat (first | refine blk_drewN ?_ _ | refine blk_drew ?_ | refine blk_alloc ?_ _)); exact BK215.out) hb); have n6_ := Aside0.mk (blk_below (g := gb236) (o := .cells #[.int .i64 t229, .int .i64 t230, .int .i64 t231, .slice Ao25 t232.length co25] 46 (0, 0)) (by (with_reducible repeat (first | refine blk_drewN ?_ _ | refine blk_drew ?_ | refine blk_alloc ?_ _)); exact BK236.out) hb); have n7_ := Aside0.mk (below_step (by repeat (first | (with_reducible first | exact HB.out | apply below_alloc | apply pw_below_drewN | apply below_drew1 | refine below_set ?_ GE215.out | refine below_set ?_ GE236.out) | exact HB.out)) hb); have n8_ := Aside0.mk (hbox); have n9_ := Aside0.mk ((by rw [hg]; exact (below_size (by repeat (first | (with_reducible first | exact HB.out | apply below_alloc | apply pw_below_drewN | apply below_drew1 | refine below_set ?_ GE215.out | refine below_set ?_ GE236.out) | exact HB.out))) : w.heap.size ≤ gb244)); have n10_ := Aside0.mk ((by rw [hg]; exact (below_size (by repeat (first | (with_reducible first | exact HB.out | apply below_alloc | apply pw_below_drewN | apply below_drew1 | refine below_set ?_ GE215.out | refine below_set ?_ GE236.out) | exact HB.out))) : w.heap.size ≤ gb244)); have n11_ := Aside0.mk ((by rw [hg]; exact Nat.ne_of_lt (blk_lt (g := gb215) (o := .cells #[.int .i64 t216, .int .i64 t217, .int .i64 t218, .slice Ao10 t219.length co10] 46 (0, 0)) (by (with_reducible repeat (first | refine blk_drewN ?_ _ | refine blk_drew ?_ | refine blk_alloc ?_ _)); exact BK215.out)) : gb215 ≠ gb244)); have n12_ := Aside0.mk ((by rw [hg]; exact Nat.ne_of_gt (blk_lt (g := gb215) (o := .cells #[.int .i64 t216, .int .i64 t217, .int .i64 t218, .slice Ao10 t219.length co10] 46 (0, 0)) (by (with_reducible repeat (first | refine blk_drewN ?_ _ | refine blk_drew ?_ | refine blk_alloc ?_ _)); exact BK215.out)) : gb244 ≠ gb215)); have n13_ := Aside0.mk ((by rw [hg]; exact Nat.ne_of_lt (blk_lt (g := gb236) (o := .cells #[.int .i64 t229, .int .i64 t230, .int .i64 t231, .slice Ao25 t232.length co25] 46 (0, 0)) (by (with_reducible repeat (first | refine blk_drewN ?_ _ | refine blk_drew ?_ | refine blk_alloc ?_ _)); exact BK236.out)) : gb236 ≠ gb244)); have n14_ := Aside0.mk ((by rw [hg]; exact Nat.ne_of_gt (blk_lt (g := gb236) (o := .cells #[.int .i64 t229, .int .i64 t230, .int .i64 t231, .slice Ao25 t232.length co25] 46 (0, 0)) (by (with_reducible repeat (first | refine blk_drewN ?_ _ | refine blk_drew ?_ | refine blk_alloc ?_ _)); exact BK236.out)) : gb244 ≠ gb236)); clear HO_1; clear HO_5; clear HO_216003; clear HO234; clear HO242; clear BK215; clear BK236; clear HB; have HO_1 := n0_; have HO_5 := n1_; have HO_216003 := n2_; have HO234 := n3_; have HO242 := n4_; have BK215 := n5_; have BK236 := n6_; have HB := n7_; have BK244 := n8_; have GW244 := n9_; have GE244 := n10_; have NB215_244 := n11_; have NB244_215 := n12_; have NB236_244 := n13_; have NB244_236 := n14_; clear n0_ n1_ n2_ n3_ n4_ n5_ n6_ n7_ n8_ n9_ n10_ n11_ n12_ n13_ n14_; clear hb hbox hg; have hnb30 := NB244_215.out; have hnc30 := NB215_244.out; have hnb31 := NB244_236.out; have hnc31 := NB236_244.out; have hcz32_0 : w29.cell? ⟨gb244, 0, none⟩ = some (.int .i64 0) := (blk_cell BK244.out 0).trans rfl; have hcz32_1 : w29.cell? ⟨gb244, 1, none⟩ = some (.int .i64 0) := (blk_cell BK244.out 1).trans rfl; have hcz32_2 : w29.cell? ⟨gb244, 2, none⟩ = some (.int .i64 0) := (blk_cell BK244.out 2).trans rfl; have hcz32_3 : w29.cell? ⟨gb244, 3, none⟩ = some (.slice none 0 0) := (blk_cell BK244.out 3).trans rfl; have hfz32_0 := blk_frozen BK244.out 0; have hfz32_1 := blk_frozen BK244.out 1; have hfz32_2 := blk_frozen BK244.out 2; have hfz32_3 := blk_frozen BK244.out 3; obtain ⟨Ao33, co33, eo33⟩ := Kd.R_slice HO242.out; subst eo33))
    (try simp only [Act.put, List.setIfInBounds_toArray, List.set_cons_zero, List.set_cons_succ])
    go_cut [52] (fun v52 wc => ∃ (kq : Nat) (x52_18 : Bool), v52 = .bool x52_18 ∧ Aside0 (bivouaclaw09_CraterOrders.j1 kq t222 t235 x52_18 t216 t217 t218 t219 t229 t230 t231 t232 = some r) ∧ Aside0 (kq ≤ k1) ∧ Aside0 (Kd.V k23 23 wc w.heap.size (fun k_ => some k_ ≠ ((.slice Ao25 t232.length co25) : Value).ownBlock ∧ some k_ ≠ ((.slice Ao33 t240.length co33) : Value).ownBlock ∧ k_ ≠ gb215 ∧ k_ ≠ gb236 ∧ k_ ≠ gb244) (.slice Ao11 t222.length co11) t222) ∧ Aside0 (Kd.V (Kd.int .u8) 5 wc w.heap.size (fun k_ => some k_ ≠ ((.slice Ao25 t232.length co25) : Value).ownBlock ∧ some k_ ≠ ((.slice Ao33 t240.length co33) : Value).ownBlock ∧ k_ ≠ gb215 ∧ k_ ≠ gb236 ∧ k_ ≠ gb244) (.slice Ao10 t219.length co10) t219) ∧ Aside0 (Kd.R (Kd.int .u8) 5 wc w.heap.size (fun k_ => some k_ ≠ ((.slice Ao33 t240.length co33) : Value).ownBlock) (.slice Ao25 t232.length co25) t232) ∧ Aside0 (Kd.R (Kd.int .u8) 5 wc w.heap.size (fun k_ => some k_ ≠ ((.slice Ao25 t232.length co25) : Value).ownBlock) (.slice Ao33 t240.length co33) t240) ∧ Aside0 (wc.heap[gb215]? = some (.cells #[.int .i64 t216, .int .i64 t217, .int .i64 t218, (.slice Ao10 t219.length co10)] 46 (0, 0))) ∧ Aside0 (wc.heap[gb236]? = some (.cells #[.int .i64 t229, .int .i64 t230, .int .i64 t231, (.slice Ao25 t232.length co25)] 46 (0, 0))) ∧ Aside0 (wc.heap[gb244]? = some (.cells #[.int .i64 t237, .int .i64 t238, .int .i64 t239, (.slice Ao33 t240.length co33)] 46 (0, 0))) ∧ Aside0 (Below w.heap.size w wc))
    case first =>
     have H := HC19.out
     clear HC19
     by_cases c34 : t235 = t243
     ·
      rw [if_pos c34] at H
      have c34b0 : (t235 == t243) = true := beq_iff_eq.mpr c34
      have c34b1 : (t235 != t243) = false := bne_eq_false_iff_eq.mpr c34
      clear c34
      (first | rw [c34b0] | (simp only [i64_w, i32_w]; rw [c34b0]) | skip)
      replace H := Option.bind_eq_some_iff.mp H
      obtain ⟨t245, A350, H⟩ := H
      replace H : (bivouaclaw09_CraterOrders.j1 k1 t222 t235 (!t245) t216 t217 t218 t219 t229 t230 t231 t232) = some r := H
      have A35 := Aside0.mk A350
      clear A350
      have H' := Aside0.mk H
      clear H
      have hnb36 := NB236_215.out
      have hnc36 := NB215_236.out
      have hnb37 := NB236_244.out
      have hnc37 := NB244_236.out
      have hcz38_0 : w29.cell? ⟨gb236, 0, none⟩ = some (.int .i64 t229) := (blk_cell BK236.out 0).trans rfl
      have hcz38_1 : w29.cell? ⟨gb236, 1, none⟩ = some (.int .i64 t230) := (blk_cell BK236.out 1).trans rfl
      have hcz38_2 : w29.cell? ⟨gb236, 2, none⟩ = some (.int .i64 t231) := (blk_cell BK236.out 2).trans rfl
      have hcz38_3 : w29.cell? ⟨gb236, 3, none⟩ = some (.slice Ao25 t232.length co25) := (blk_cell BK236.out 3).trans rfl
      have hfz38_0 := blk_frozen BK236.out 0
      have hfz38_1 := blk_frozen BK236.out 1
      have hfz38_2 := blk_frozen BK236.out 2
      have hfz38_3 := blk_frozen BK236.out 3
      have hnb39 := NB244_215.out
      have hnc39 := NB215_244.out
      have hcz40_0 : w29.cell? ⟨gb244, 0, none⟩ = some (.int .i64 0) := (blk_cell BK244.out 0).trans rfl
      have hcz40_1 : w29.cell? ⟨gb244, 1, none⟩ = some (.int .i64 0) := (blk_cell BK244.out 1).trans rfl
      have hcz40_2 : w29.cell? ⟨gb244, 2, none⟩ = some (.int .i64 0) := (blk_cell BK244.out 2).trans rfl
      have hcz40_3 : w29.cell? ⟨gb244, 3, none⟩ = some (.slice none 0 0) := (blk_cell BK244.out 3).trans rfl
      have hfz40_0 := blk_frozen BK244.out 0
      have hfz40_1 := blk_frozen BK244.out 1
      have hfz40_2 := blk_frozen BK244.out 2
      have hfz40_3 := blk_frozen BK244.out 3
      go_wp2_with (first | (go_at_call 28; (with_reducible refine (bivouacref06_Same.calls t229 t230 t231 _ _ t232 t237 t238 t239 _ _ t240 t245 _ ?side1 ?side2 ?side3 ?side4 A35.out).mono ?_); (case side1 => refine (Kd.R_reads' (e := 5) (base := w.heap.size) (ok := fun k_ => (True ∧ some k_ ≠ (.slice Ao33 t240.length co33 : Value).ownBlock)) (n := t232.length) (c := co25) ?_).2.2; exact (by (with_reducible repeat (first | apply Kd.R_alloc | apply Kd.R_drewN | apply Kd.R_drew)); exact (Kd.R_mono (Kd.R_far (p := ⟨gb244, 3, none⟩) (Kd.R_far (p := ⟨gb244, 2, none⟩) (Kd.R_far (p := ⟨gb244, 1, none⟩) (Kd.R_far (p := ⟨gb244, 0, none⟩) (Kd.R_types HO234.out BK244.out (by decide)) (fun _ hk => hk.2) (.int .i64 t237)) (fun _ hk => hk.2) (.int .i64 t238)) (fun _ hk => hk.2) (.int .i64 t239)) (fun _ hk => hk.2) (.slice Ao33 t240.length co33)) (fun _ h_ => h_.1)))); (case side2 => exact (Kd.R_reads' HO234.out).2.1); (case side3 => refine (Kd.R_reads' (e := 5) (base := w.heap.size) (ok := fun k_ => (True ∧ some k_ ≠ (.slice Ao25 t232.length co25 : Value).ownBlock)) (n := t240.length) (c := co33) ?_).2.2; exact (by (with_reducible repeat (first | apply Kd.R_alloc | apply Kd.R_drewN | apply Kd.R_drew)); exact (Kd.R_mono (Kd.R_far (p := ⟨gb244, 3, none⟩) (Kd.R_far (p := ⟨gb244, 2, none⟩) (Kd.R_far (p := ⟨gb244, 1, none⟩) (Kd.R_far (p := ⟨gb244, 0, none⟩) (Kd.R_types HO242.out BK244.out (by decide)) (fun _ hk => hk.2) (.int .i64 t237)) (fun _ hk => hk.2) (.int .i64 t238)) (fun _ hk => hk.2) (.int .i64 t239)) (fun _ hk => hk.2) (.slice Ao33 t240.length co33)) (fun _ h_ => h_.1)))); (case side4 => exact (Kd.R_reads' HO242.out).2.1); rintro e w41 ⟨rfl, hb⟩; have n0_ := Aside0.mk (Kd.V_below (by (with_reducible repeat (first | apply Kd.V_alloc | apply Kd.V_drewN | apply Kd.V_drew)); exact (Kd.V_mono (Kd.V_far (p := ⟨gb244, 3, none⟩) (Kd.V_far (p := ⟨gb244, 2, none⟩) (Kd.V_far (p := ⟨gb244, 1, none⟩) (Kd.V_far (p := ⟨gb244, 0, none⟩) (Kd.V_mono HO_1.out (fun k_ hk => (⟨hk, hk.2⟩ : _ ∧ k_ ≠ gb244))) (fun _ hk => hk.2) (.int .i64 t237)) (fun _ hk => hk.2) (.int .i64 t238)) (fun _ hk => hk.2) (.int .i64 t239)) (fun _ hk => hk.2) (.slice Ao33 t240.length co33)) (fun _ h_ => h_.1))) hb); have n1_ := Aside0.mk (Kd.R_below (by (with_reducible repeat (first | apply Kd.R_alloc | apply Kd.R_drewN | apply Kd.R_drew)); exact (Kd.R_mono (Kd.R_far (p := ⟨gb244, 3, none⟩) (Kd.R_far (p := ⟨gb244, 2, none⟩) (Kd.R_far (p := ⟨gb244, 1, none⟩) (Kd.R_far (p := ⟨gb244, 0, none⟩) (Kd.R_types HO_5.out BK244.out (by decide)) (fun _ hk => hk.2) (.int .i64 t237)) (fun _ hk => hk.2) (.int .i64 t238)) (fun _ hk => hk.2) (.int .i64 t239)) (fun _ hk => hk.2) (.slice Ao33 t240.length co33)) (fun _ h_ => h_.1))) hb); have n2_ := Aside0.mk (Kd.V_below (by (with_reducible repeat (first | apply Kd.V_alloc | apply Kd.V_drewN | apply Kd.V_drew)); exact (Kd.V_mono (Kd.V_far (p := ⟨gb244, 3, none⟩) (Kd.V_far (p := ⟨gb244, 2, none⟩) (Kd.V_far (p := ⟨gb244, 1, none⟩) (Kd.V_far (p := ⟨gb244, 0, none⟩) (Kd.V_mono HO_216003.out (fun k_ hk => (⟨hk, hk.2⟩ : _ ∧ k_ ≠ gb244))) (fun _ hk => hk.2) (.int .i64 t237)) (fun _ hk => hk.2) (.int .i64 t238)) (fun _ hk => hk.2) (.int .i64 t239)) (fun _ hk => hk.2) (.slice Ao33 t240.length co33)) (fun _ h_ => h_.1))) hb); have n3_ := Aside0.mk (Kd.R_below (by (with_reducible repeat (first | apply Kd.R_alloc | apply Kd.R_drewN | apply Kd.R_drew)); exact (Kd.R_mono (Kd.R_far (p := ⟨gb244, 3, none⟩) (Kd.R_far (p := ⟨gb244, 2, none⟩) (Kd.R_far (p := ⟨gb244, 1, none⟩) (Kd.R_far (p := ⟨gb244, 0, none⟩) (Kd.R_types HO234.out BK244.out (by decide)) (fun _ hk => hk.2) (.int .i64 t237)) (fun _ hk => hk.2) (.int .i64 t238)) (fun _ hk => hk.2) (.int .i64 t239)) (fun _ hk => hk.2) (.slice Ao33 t240.length co33)) (fun _ h_ => h_.1))) hb); have n4_ := Aside0.mk (Kd.R_below (by (with_reducible repeat (first | apply Kd.R_alloc | apply Kd.R_drewN | apply Kd.R_drew)); exact (Kd.R_mono (Kd.R_far (p := ⟨gb244, 3, none⟩) (Kd.R_far (p := ⟨gb244, 2, none⟩) (Kd.R_far (p := ⟨gb244, 1, none⟩) (Kd.R_far (p := ⟨gb244, 0, none⟩) (Kd.R_types HO242.out BK244.out (by decide)) (fun _ hk => hk.2) (.int .i64 t237)) (fun _ hk => hk.2) (.int .i64 t238)) (fun _ hk => hk.2) (.int .i64 t239)) (fun _ hk => hk.2) (.slice Ao33 t240.length co33)) (fun _ h_ => h_.1))) hb); have n5_ := Aside0.mk (blk_below (g := gb215) (o := .cells #[.int .i64 t216, .int .i64 t217, .int .i64 t218, .slice Ao10 t219.length co10] 46 (0, 0)) (by (with_reducible repeat (first | refine blk_drewN ?_ _ | refine blk_drew ?_ | refine blk_alloc ?_ _)); refine blk_far ?_ NB215_244.out _; (with_reducible repeat (first | refine blk_drewN ?_ _ | refine blk_drew ?_ | refine blk_alloc ?_ _)); refine blk_far ?_ NB215_244.out _; (with_reducible repeat (first | refine blk_drewN ?_ _ | refine blk_drew ?_ | refine blk_alloc ?_ _)); refine blk_far ?_ NB215_244.out _; (with_reducible repeat (first | refine blk_drewN ?_ _ | refine blk_drew ?_ | refine blk_alloc ?_ _)); refine blk_far ?_ NB215_244.out _; (with_reducible repeat (first | refine blk_drewN ?_ _ | refine blk_drew ?_ | refine blk_alloc ?_ _)); exact BK215.out) hb); have n6_ := Aside0.mk (blk_below (g := gb236) (o := .cells #[.int .i64 t229, .int .i64 t230, .int .i64 t231, .slice Ao25 t232.length co25] 46 (0, 0)) (by (with_reducible repeat (first | refine blk_drewN ?_ _ | refine blk_drew ?_ | refine blk_alloc ?_ _)); refine blk_far ?_ NB236_244.out _; (with_reducible repeat (first | refine blk_drewN ?_ _ | refine blk_drew ?_ | refine blk_alloc ?_ _)); refine blk_far ?_ NB236_244.out _; (with_reducible repeat (first | refine blk_drewN ?_ _ | refine blk_drew ?_ | refine blk_alloc ?_ _)); refine blk_far ?_ NB236_244.out _; (with_reducible repeat (first | refine blk_drewN ?_ _ | refine blk_drew ?_ | refine blk_alloc ?_ _)); refine blk_far ?_ NB236_244.out _; (with_reducible repeat (first | refine blk_drewN ?_ _ | refine blk_drew ?_ | refine blk_alloc ?_ _)); exact BK236.out) hb); have n7_ := Aside0.mk (blk_below (g := gb244) (o := .cells #[.int .i64 t237, .int .i64 t238, .int .i64 t239, .slice Ao33 t240.length co33] 46 (0, 0)) (by (with_reducible repeat (first | refine blk_drewN ?_ _ | refine blk_drew ?_ | refine blk_alloc ?_ _)); refine blk_put (cs := #[.int .i64 t237, .int .i64 t238, .int .i64 t239, .slice none 0 0]) ?_ 3 _ rfl; (with_reducible repeat (first | refine blk_drewN ?_ _ | refine blk_drew ?_ | refine blk_alloc ?_ _)); refine blk_put (cs := #[.int .i64 t237, .int .i64 t238, .int .i64 0, .slice none 0 0]) ?_ 2 _ rfl; (with_reducible repeat (first | refine blk_drewN ?_ _ | refine blk_drew ?_ | refine blk_alloc ?_ _)); refine blk_put (cs := #[.int .i64 t237, .int .i64 0, .int .i64 0, .slice none 0 0]) ?_ 1 _ rfl; (with_reducible repeat (first | refine blk_drewN ?_ _ | refine blk_drew ?_ | refine blk_alloc ?_ _)); refine blk_put (cs := #[.int .i64 0, .int .i64 0, .int .i64 0, .slice none 0 0]) ?_ 0 _ rfl; (with_reducible repeat (first | refine blk_drewN ?_ _ | refine blk_drew ?_ | refine blk_alloc ?_ _)); exact BK244.out) hb); have n8_ := Aside0.mk (below_step (by repeat (first | (with_reducible first | exact HB.out | apply below_alloc | apply pw_below_drewN | apply below_drew1 | refine below_set ?_ GE215.out | refine below_set ?_ GE236.out | refine below_set ?_ GE244.out) | exact HB.out)) hb); clear HO_1; clear HO_5; clear HO_216003; clear HO234; clear HO242; clear BK215; clear BK236; clear BK244; clear HB; have HO_1 := n0_; have HO_5 := n1_; have HO_216003 := n2_; have HO234 := n3_; have HO242 := n4_; have BK215 := n5_; have BK236 := n6_; have BK244 := n7_; have HB := n8_; clear n0_ n1_ n2_ n3_ n4_ n5_ n6_ n7_ n8_; (try clear hb); (try clear hb2); (try clear hk); (try clear hi)))
      go_meet
      case rel => exact ⟨_, (!t245), (by first | rfl | (simp; done) | (simp [*]; done)), H', ⟨by have := HK1.out; first | omega | exact Nat.le_refl _⟩, ⟨by (with_reducible repeat (first | apply Kd.V_alloc | apply Kd.V_drewN | apply Kd.V_drew)); exact Kd.V_mono HO_1.out (fun _ hk => ⟨hk.1.1.1.2, ⟨hk.1.2, ⟨hk.1.1.1.1.2, ⟨hk.1.1.2, hk.2⟩⟩⟩⟩)⟩, ⟨by (with_reducible repeat (first | apply Kd.V_alloc | apply Kd.V_drewN | apply Kd.V_drew)); exact Kd.V_mono HO_216003.out (fun _ hk => ⟨hk.1.1.1.2, ⟨hk.1.2, ⟨hk.1.1.1.1.2, ⟨hk.1.1.2, hk.2⟩⟩⟩⟩)⟩, ⟨by (with_reducible repeat (first | apply Kd.R_alloc | apply Kd.R_drewN | apply Kd.R_drew)); exact Kd.R_mono HO234.out (fun _ hk => hk.2)⟩, ⟨by (with_reducible repeat (first | apply Kd.R_alloc | apply Kd.R_drewN | apply Kd.R_drew)); exact Kd.R_mono HO242.out (fun _ hk => hk.2)⟩, ⟨by (with_reducible repeat (first | refine blk_drewN ?_ _ | refine blk_drew ?_ | refine blk_alloc ?_ _)); exact BK215.out⟩, ⟨by (with_reducible repeat (first | refine blk_drewN ?_ _ | refine blk_drew ?_ | refine blk_alloc ?_ _)); exact BK236.out⟩, ⟨by (with_reducible repeat (first | refine blk_drewN ?_ _ | refine blk_drew ?_ | refine blk_alloc ?_ _)); exact BK244.out⟩, ⟨by repeat (first | (with_reducible first | exact HB.out | apply below_alloc | apply pw_below_drewN | apply below_drew1 | refine below_set ?_ GE215.out | refine below_set ?_ GE236.out | refine below_set ?_ GE244.out) | exact HB.out)⟩⟩
     ·
      rw [if_neg c34] at H
      have c34b0 : (t235 == t243) = false := beq_eq_false_iff_ne.mpr c34
      have c34b1 : (t235 != t243) = true := bne_iff_ne.mpr c34
      (first | rw [c34b0] | (simp only [i64_w, i32_w]; rw [c34b0]) | skip)
      have H' := Aside0.mk H
      clear H
      go_wp2
      go_meet
      case rel => exact ⟨_, (true), (by first | rfl | (simp; done) | (simp [*]; done)), H', ⟨by have := HK1.out; first | omega | exact Nat.le_refl _⟩, ⟨by (with_reducible repeat (first | apply Kd.V_alloc | apply Kd.V_drewN | apply Kd.V_drew)); exact Kd.V_mono (Kd.V_far (p := ⟨gb244, 3, none⟩) (Kd.V_far (p := ⟨gb244, 2, none⟩) (Kd.V_far (p := ⟨gb244, 1, none⟩) (Kd.V_far (p := ⟨gb244, 0, none⟩) (Kd.V_mono HO_1.out (fun k_ hk => (⟨hk, hk.2⟩ : _ ∧ k_ ≠ gb244))) (fun _ hk => hk.2) (.int .i64 t237)) (fun _ hk => hk.2) (.int .i64 t238)) (fun _ hk => hk.2) (.int .i64 t239)) (fun _ hk => hk.2) (.slice Ao33 t240.length co33)) (fun _ hk => ⟨hk.1.1.1.1.2, ⟨hk.1.1.2, ⟨hk.1.1.1.1.1.2, ⟨hk.1.1.1.2, hk.1.2⟩⟩⟩⟩)⟩, ⟨by (with_reducible repeat (first | apply Kd.V_alloc | apply Kd.V_drewN | apply Kd.V_drew)); exact Kd.V_mono (Kd.V_far (p := ⟨gb244, 3, none⟩) (Kd.V_far (p := ⟨gb244, 2, none⟩) (Kd.V_far (p := ⟨gb244, 1, none⟩) (Kd.V_far (p := ⟨gb244, 0, none⟩) (Kd.V_mono HO_216003.out (fun k_ hk => (⟨hk, hk.2⟩ : _ ∧ k_ ≠ gb244))) (fun _ hk => hk.2) (.int .i64 t237)) (fun _ hk => hk.2) (.int .i64 t238)) (fun _ hk => hk.2) (.int .i64 t239)) (fun _ hk => hk.2) (.slice Ao33 t240.length co33)) (fun _ hk => ⟨hk.1.1.1.1.2, ⟨hk.1.1.2, ⟨hk.1.1.1.1.1.2, ⟨hk.1.1.1.2, hk.1.2⟩⟩⟩⟩)⟩, ⟨by (with_reducible repeat (first | apply Kd.R_alloc | apply Kd.R_drewN | apply Kd.R_drew)); exact Kd.R_mono (Kd.R_far (p := ⟨gb244, 3, none⟩) (Kd.R_far (p := ⟨gb244, 2, none⟩) (Kd.R_far (p := ⟨gb244, 1, none⟩) (Kd.R_far (p := ⟨gb244, 0, none⟩) (Kd.R_types HO234.out BK244.out (by decide)) (fun _ hk => hk.2) (.int .i64 t237)) (fun _ hk => hk.2) (.int .i64 t238)) (fun _ hk => hk.2) (.int .i64 t239)) (fun _ hk => hk.2) (.slice Ao33 t240.length co33)) (fun _ hk => hk.1.2)⟩, ⟨by (with_reducible repeat (first | apply Kd.R_alloc | apply Kd.R_drewN | apply Kd.R_drew)); exact Kd.R_mono (Kd.R_far (p := ⟨gb244, 3, none⟩) (Kd.R_far (p := ⟨gb244, 2, none⟩) (Kd.R_far (p := ⟨gb244, 1, none⟩) (Kd.R_far (p := ⟨gb244, 0, none⟩) (Kd.R_types HO242.out BK244.out (by decide)) (fun _ hk => hk.2) (.int .i64 t237)) (fun _ hk => hk.2) (.int .i64 t238)) (fun _ hk => hk.2) (.int .i64 t239)) (fun _ hk => hk.2) (.slice Ao33 t240.length co33)) (fun _ hk => hk.1.2)⟩, ⟨by (with_reducible repeat (first | refine blk_drewN ?_ _ | refine blk_drew ?_ | refine blk_alloc ?_ _)); refine blk_far ?_ NB215_244.out _; (with_reducible repeat (first | refine blk_drewN ?_ _ | refine blk_drew ?_ | refine blk_alloc ?_ _)); refine blk_far ?_ NB215_244.out _; (with_reducible repeat (first | refine blk_drewN ?_ _ | refine blk_drew ?_ | refine blk_alloc ?_ _)); refine blk_far ?_ NB215_244.out _; (with_reducible repeat (first | refine blk_drewN ?_ _ | refine blk_drew ?_ | refine blk_alloc ?_ _)); refine blk_far ?_ NB215_244.out _; (with_reducible repeat (first | refine blk_drewN ?_ _ | refine blk_drew ?_ | refine blk_alloc ?_ _)); exact BK215.out⟩, ⟨by (with_reducible repeat (first | refine blk_drewN ?_ _ | refine blk_drew ?_ | refine blk_alloc ?_ _)); refine blk_far ?_ NB236_244.out _; (with_reducible repeat (first | refine blk_drewN ?_ _ | refine blk_drew ?_ | refine blk_alloc ?_ _)); refine blk_far ?_ NB236_244.out _; (with_reducible repeat (first | refine blk_drewN ?_ _ | refine blk_drew ?_ | refine blk_alloc ?_ _)); refine blk_far ?_ NB236_244.out _; (with_reducible repeat (first | refine blk_drewN ?_ _ | refine blk_drew ?_ | refine blk_alloc ?_ _)); refine blk_far ?_ NB236_244.out _; (with_reducible repeat (first | refine blk_drewN ?_ _ | refine blk_drew ?_ | refine blk_alloc ?_ _)); exact BK236.out⟩, ⟨by (with_reducible repeat (first | refine blk_drewN ?_ _ | refine blk_drew ?_ | refine blk_alloc ?_ _)); refine blk_put (cs := #[.int .i64 t237, .int .i64 t238, .int .i64 t239, .slice none 0 0]) ?_ 3 _ rfl; (with_reducible repeat (first | refine blk_drewN ?_ _ | refine blk_drew ?_ | refine blk_alloc ?_ _)); refine blk_put (cs := #[.int .i64 t237, .int .i64 t238, .int .i64 0, .slice none 0 0]) ?_ 2 _ rfl; (with_reducible repeat (first | refine blk_drewN ?_ _ | refine blk_drew ?_ | refine blk_alloc ?_ _)); refine blk_put (cs := #[.int .i64 t237, .int .i64 0, .int .i64 0, .slice none 0 0]) ?_ 1 _ rfl; (with_reducible repeat (first | refine blk_drewN ?_ _ | refine blk_drew ?_ | refine blk_alloc ?_ _)); refine blk_put (cs := #[.int .i64 0, .int .i64 0, .int .i64 0, .slice none 0 0]) ?_ 0 _ rfl; (with_reducible repeat (first | refine blk_drewN ?_ _ | refine blk_drew ?_ | refine blk_alloc ?_ _)); exact BK244.out⟩, ⟨by repeat (first | (with_reducible first | exact HB.out | apply below_alloc | apply pw_below_drewN | apply below_drew1 | refine below_set ?_ GE215.out | refine below_set ?_ GE236.out | refine below_set ?_ GE244.out) | exact HB.out)⟩⟩
    case rest =>
     clear HC19
     try clear c1
     try clear c2
     try clear p2
     try clear q2
     try clear hx2
     try clear c3
     try clear p6
     try clear c12
     try clear c12b0
     try clear c13
     try clear c13b0
     try clear c14
     try clear c14b0
     try clear c15
     try clear p22
     try clear q22
     try clear hx22
     try clear c23
     try clear c26
     try clear c30
     try clear c31
     try clear c34
     try clear c34b0
     try clear c34b1
     try clear c36
     try clear c37
     try clear c39
     try clear hcz20_0
     try clear hcz20_1
     try clear hcz20_2
     try clear hcz20_3
     try clear hcz24_0
     try clear hcz24_1
     try clear hcz24_2
     try clear hcz24_3
     try clear hcz26_0
     try clear hcz26_1
     try clear hcz26_2
     try clear hcz26_3
     try clear hcz32_0
     try clear hcz32_1
     try clear hcz32_2
     try clear hcz32_3
     try clear hcz38_0
     try clear hcz38_1
     try clear hcz38_2
     try clear hcz38_3
     try clear hcz40_0
     try clear hcz40_1
     try clear hcz40_2
     try clear hcz40_3
     try clear hcz6_0
     try clear hcz6_1
     try clear hcz6_2
     try clear hcz6_3
     try clear hcz9_0
     try clear hcz9_1
     try clear hcz9_2
     try clear hcz9_3
     try clear hfz20_0
     try clear hfz20_1
     try clear hfz20_2
     try clear hfz20_3
     try clear hfz24_0
     try clear hfz24_1
     try clear hfz24_2
     try clear hfz24_3
     try clear hfz26_0
     try clear hfz26_1
     try clear hfz26_2
     try clear hfz26_3
     try clear hfz32_0
     try clear hfz32_1
     try clear hfz32_2
     try clear hfz32_3
     try clear hfz38_0
     try clear hfz38_1
     try clear hfz38_2
     try clear hfz38_3
     try clear hfz40_0
     try clear hfz40_1
     try clear hfz40_2
     try clear hfz40_3
     try clear hfz6_0
     try clear hfz6_1
     try clear hfz6_2
     try clear hfz6_3
     try clear hfz9_0
     try clear hfz9_1
     try clear hfz9_2
     try clear hfz9_3
     try clear hx225_0
     try clear hx225_1
     try clear hx225_2
     try clear hx225_3
     try clear p2
     try clear p225
     try clear p6
     try clear q225
     obtain ⟨kq, x52_18, rfl, HA, HJ18, HO_1, HO_216003, HO_237003, HO_245003, BK215, BK236, BK244, HB⟩ := hcut
     cases kq with
     | zero => exact absurd HA.out (by simp [bivouaclaw09_CraterOrders.j1])
     | succ kj18 =>
      have H := HA.out
      clear HA
      simp only [bivouaclaw09_CraterOrders.j1] at H
      by_cases c42 : x52_18 = true
      ·
       subst c42
       have H1 : (some false) = some r := by rw [if_pos rfl] at H; exact H
       clear H
       have H := H1
       clear H1
       obtain rfl := Option.some.inj H
       go_wp2
       go_ret
       exact ⟨by first | rfl | (simp [errW_none, errW_some] <;> rfl) | (simp [*, errW_none, errW_some] <;> rfl) | (rw [Int.tdiv_eq_ediv_of_nonneg (by assumption)]; rfl), by repeat (first | (with_reducible first | exact HB.out | apply below_alloc | apply pw_below_drewN | apply below_drew1 | refine below_set ?_ GE215.out | refine below_set ?_ GE236.out | refine below_set ?_ GE244.out) | exact HB.out)⟩
      ·
       replace c42 := Bool.eq_false_iff.mpr c42
       subst c42
       have H1 : (bivouaclaw09_CraterOrders.l1 kj18 t222 t235 0 0 t229 t230 t231 t232 t216 t217 t218 t219) = some r := by rw [if_neg (show ¬ (false = true) by decide)] at H; exact H
       clear H
       have H := H1
       clear H1
       have HC43 := Aside0.mk H
       clear H
       have hnb44 := NB215_236.out
       have hnc44 := NB236_215.out
       have hnb45 := NB215_244.out
       have hnc45 := NB244_215.out
       have hcz46_0 : wc.cell? ⟨gb215, 0, none⟩ = some (.int .i64 t216) := (blk_cell BK215.out 0).trans rfl
       have hcz46_1 : wc.cell? ⟨gb215, 1, none⟩ = some (.int .i64 t217) := (blk_cell BK215.out 1).trans rfl
       have hcz46_2 : wc.cell? ⟨gb215, 2, none⟩ = some (.int .i64 t218) := (blk_cell BK215.out 2).trans rfl
       have hcz46_3 : wc.cell? ⟨gb215, 3, none⟩ = some (.slice Ao10 t219.length co10) := (blk_cell BK215.out 3).trans rfl
       have hfz46_0 := blk_frozen BK215.out 0
       have hfz46_1 := blk_frozen BK215.out 1
       have hfz46_2 := blk_frozen BK215.out 2
       have hfz46_3 := blk_frozen BK215.out 3
       go_upto_block 2 with (first | ((with_reducible refine gate_dst (N := 11) rfl ?_); (try (refine gate_guard (by rfl) ?_; dsimp only)); refine box_event ?hg (N := 11) ?hd (cs := #[.int .i64 0, .int .i64 0, .int .i64 0, .slice none 0 0]) (t := 46) ?hr ?_; (case hd => rfl); (case hg => rfl); (case hr => first | (go_simp; done) | (go_simp; rfl)); intro gb246 hg w47 hbox hb; have n0_ := Aside0.mk (Kd.V_below (Kd.V_elderB (by (with_reducible repeat (first | apply Kd.V_alloc | apply Kd.V_drewN | apply Kd.V_drew)); exact HO_1.out) gb246 (Nat.le_of_eq hg.symm)) hb); have n1_ := Aside0.mk (Kd.V_below (Kd.V_elderB (by (with_reducible repeat (first | apply Kd.V_alloc | apply Kd.V_drewN | apply Kd.V_drew)); exact HO_216003.out) gb246 (Nat.le_of_eq hg.symm)) hb); have n2_ := Aside0.mk (Kd.R_below (by (with_reducible repeat (first | apply Kd.R_alloc | apply Kd.R_drewN | apply Kd.R_drew)); exact HO_237003.out) hb); have n3_ := Aside0.mk (Kd.R_below (by (with_reducible repeat (first | apply Kd.R_alloc | apply Kd.R_drewN | apply Kd.R_drew)); exact HO_245003.out) hb); have n4_ := Aside0.mk (blk_below (g := gb215) (o := .cells #[.int .i64 t216, .int .i64 t217, .int .i64 t218, .slice Ao10 t219.length co10] 46 (0, 0)) (by (with_reducible repeat (first | refine blk_drewN ?_ _ | refine blk_drew ?_ | refine blk_alloc ?_ _)); exact BK215.out) hb); have n5_ := Aside0.mk (blk_below (g := gb236) (o := .cells #[.int .i64 t229, .int .i64 t230, .int .i64 t231, .slice Ao25 t232.length co25] 46 (0, 0)) (by (with_reducible repeat (first | refine blk_drewN ?_ _ | refine blk_drew ?_ | refine blk_alloc ?_ _)); exact BK236.out) hb); have n6_ := Aside0.mk (blk_below (g := gb244) (o := .cells #[.int .i64 t237, .int .i64 t238, .int .i64 t239, .slice Ao33 t240.length co33] 46 (0, 0)) (by (with_reducible repeat (first | refine blk_drewN ?_ _ | refine blk_drew ?_ | refine blk_alloc ?_ _)); exact BK244.out) hb); have n7_ := Aside0.mk (below_step (by repeat (first | (with_reducible first | exact HB.out | apply below_alloc | apply pw_below_drewN | apply below_drew1 | refine below_set ?_ GE215.out | refine below_set ?_ GE236.out | refine below_set ?_ GE244.out) | exact HB.out)) hb); have n8_ := Aside0.mk (hbox); have n9_ := Aside0.mk ((by rw [hg]; exact (below_size (by repeat (first | (with_reducible first | exact HB.out | apply below_alloc | apply pw_below_drewN | apply below_drew1 | refine below_set ?_ GE215.out | refine below_set ?_ GE236.out | refine below_set ?_ GE244.out) | exact HB.out))) : w.heap.size ≤ gb246)); have n10_ := Aside0.mk ((by rw [hg]; exact (below_size (by repeat (first | (with_reducible first | exact HB.out | apply below_alloc | apply pw_below_drewN | apply below_drew1 | refine below_set ?_ GE215.out | refine below_set ?_ GE236.out | refine below_set ?_ GE244.out) | exact HB.out))) : w.heap.size ≤ gb246)); have n11_ := Aside0.mk ((by rw [hg]; exact Nat.ne_of_lt (blk_lt (g := gb215) (o := .cells #[.int .i64 t216, .int .i64 t217, .int .i64 t218, .slice Ao10 t219.length co10] 46 (0, 0)) (by (with_reducible repeat (first | refine blk_drewN ?_ _ | refine blk_drew ?_ | refine blk_alloc ?_ _)); exact BK215.out)) : gb215 ≠ gb246)); have n12_ := Aside0.mk ((by rw [hg]; exact Nat.ne_of_gt (blk_lt (g := gb215) (o := .cells #[.int .i64 t216, .int .i64 t217, .int .i64 t218, .slice Ao10 t219.length co10] 46 (0, 0)) (by (with_reducible repeat (first | refine blk_drewN ?_ _ | refine blk_drew ?_ | refine blk_alloc ?_ _)); exact BK215.out)) : gb246 ≠ gb215)); have n13_ := Aside0.mk ((by rw [hg]; exact Nat.ne_of_lt (blk_lt (g := gb236) (o := .cells #[.int .i64 t229, .int .i64 t230, .int .i64 t231, .slice Ao25 t232.length co25] 46 (0, 0)) (by (with_reducible repeat (first | refine blk_drewN ?_ _ | refine blk_drew ?_ | refine blk_alloc ?_ _)); exact BK236.out)) : gb236 ≠ gb246)); have n14_ := Aside0.mk ((by rw [hg]; exact Nat.ne_of_gt (blk_lt (g := gb236) (o := .cells #[.int .i64 t229, .int .i64 t230, .int .i64 t231, .slice Ao25 t232.length co25] 46 (0, 0)) (by (with_reducible repeat (first | refine blk_drewN ?_ _ | refine blk_drew ?_ | refine blk_alloc ?_ _)); exact BK236.out)) : gb246 ≠ gb236)); have n15_ := Aside0.mk ((by rw [hg]; exact Nat.ne_of_lt (blk_lt (g := gb244) (o := .cells #[.int .i64 t237, .int .i64 t238, .int .i64 t239, .slice Ao33 t240.length co33] 46 (0, 0)) (by (with_reducible repeat (first | refine blk_drewN ?_ _ | refine blk_drew ?_ | refine blk_alloc ?_ _)); exact BK244.out)) : gb244 ≠ gb246)); have n16_ := Aside0.mk ((by rw [hg]; exact Nat.ne_of_gt (blk_lt (g := gb244) (o := .cells #[.int .i64 t237, .int .i64 t238, .int .i64 t239, .slice Ao33 t240.length co33] 46 (0, 0)) (by (with_reducible repeat (first | refine blk_drewN ?_ _ | refine blk_drew ?_ | refine blk_alloc ?_ _)); exact BK244.out)) : gb246 ≠ gb244)); clear HO_1; clear HO_216003; clear HO_237003; clear HO_245003; clear BK215; clear BK236; clear BK244; clear HB; have HO_1 := n0_; have HO_216003 := n1_; have HO_237003 := n2_; have HO_245003 := n3_; have BK215 := n4_; have BK236 := n5_; have BK244 := n6_; have HB := n7_; have BK246 := n8_; have GW246 := n9_; have GE246 := n10_; have NB215_246 := n11_; have NB246_215 := n12_; have NB236_246 := n13_; have NB246_236 := n14_; have NB244_246 := n15_; have NB246_244 := n16_; clear n0_ n1_ n2_ n3_ n4_ n5_ n6_ n7_ n8_ n9_ n10_ n11_ n12_ n13_ n14_ n15_ n16_; clear hb hbox hg; have hnb48 := NB246_215.out; have hnc48 := NB215_246.out; have hnb49 := NB246_236.out; have hnc49 := NB236_246.out; have hnb50 := NB246_244.out; have hnc50 := NB244_246.out; have hcz51_0 : w47.cell? ⟨gb246, 0, none⟩ = some (.int .i64 0) := (blk_cell BK246.out 0).trans rfl; have hcz51_1 : w47.cell? ⟨gb246, 1, none⟩ = some (.int .i64 0) := (blk_cell BK246.out 1).trans rfl; have hcz51_2 : w47.cell? ⟨gb246, 2, none⟩ = some (.int .i64 0) := (blk_cell BK246.out 2).trans rfl; have hcz51_3 : w47.cell? ⟨gb246, 3, none⟩ = some (.slice none 0 0) := (blk_cell BK246.out 3).trans rfl; have hfz51_0 := blk_frozen BK246.out 0; have hfz51_1 := blk_frozen BK246.out 1; have hfz51_2 := blk_frozen BK246.out 2; have hfz51_3 := blk_frozen BK246.out 3))
       (try simp only [Act.put, List.setIfInBounds_toArray, List.set_cons_zero, List.set_cons_succ])
       go_cut [12] (fun v12 wc => ∃ (kq : Nat) (x12_42 : Int) (x247000_42 : Int) (x247001_42 : Int) (x247002_42 : Int) (x247003_42 : List Int) (u247003 : Value), v12 = .int .i64 x12_42 ∧ Aside0 (bivouaclaw09_CraterOrders.j3 kq t222 t235 x12_42 t229 t230 t231 t232 x247000_42 x247001_42 x247002_42 x247003_42 = some r) ∧ Aside0 (kq ≤ kj18) ∧ Aside0 (Kd.V k23 23 wc w.heap.size (fun k_ => some k_ ≠ ((.slice Ao25 t232.length co25) : Value).ownBlock ∧ some k_ ≠ ((.slice Ao33 t240.length co33) : Value).ownBlock ∧ k_ ≠ gb215 ∧ k_ ≠ gb236 ∧ k_ ≠ gb244 ∧ k_ ≠ gb246) (.slice Ao11 t222.length co11) t222) ∧ Aside0 (Kd.V (Kd.int .u8) 5 wc w.heap.size (fun k_ => some k_ ≠ ((.slice Ao25 t232.length co25) : Value).ownBlock ∧ some k_ ≠ ((.slice Ao33 t240.length co33) : Value).ownBlock ∧ k_ ≠ gb215 ∧ k_ ≠ gb236 ∧ k_ ≠ gb244 ∧ k_ ≠ gb246) (.slice Ao10 t219.length co10) t219) ∧ Aside0 (Kd.R (Kd.int .u8) 5 wc w.heap.size (fun k_ => some k_ ≠ ((.slice Ao33 t240.length co33) : Value).ownBlock) (.slice Ao25 t232.length co25) t232) ∧ Aside0 (Kd.R (Kd.int .u8) 5 wc w.heap.size (fun k_ => some k_ ≠ ((.slice Ao25 t232.length co25) : Value).ownBlock) (.slice Ao33 t240.length co33) t240) ∧ Aside0 (Kd.V (Kd.int .u8) 5 wc w.heap.size (fun k_ => some k_ ≠ ((.slice Ao25 t232.length co25) : Value).ownBlock ∧ some k_ ≠ ((.slice Ao33 t240.length co33) : Value).ownBlock ∧ k_ ≠ gb215 ∧ k_ ≠ gb236 ∧ k_ ≠ gb244 ∧ k_ ≠ gb246) u247003 x247003_42) ∧ Aside0 (wc.heap[gb215]? = some (.cells #[.int .i64 t216, .int .i64 t217, .int .i64 t218, (.slice Ao10 t219.length co10)] 46 (0, 0))) ∧ Aside0 (wc.heap[gb236]? = some (.cells #[.int .i64 t229, .int .i64 t230, .int .i64 t231, (.slice Ao25 t232.length co25)] 46 (0, 0))) ∧ Aside0 (wc.heap[gb244]? = some (.cells #[.int .i64 t237, .int .i64 t238, .int .i64 t239, (.slice Ao33 t240.length co33)] 46 (0, 0))) ∧ Aside0 (wc.heap[gb246]? = some (.cells #[.int .i64 x247000_42, .int .i64 x247001_42, .int .i64 x247002_42, u247003] 46 (0, 0))) ∧ Aside0 (Below w.heap.size w wc))
       case first =>
        have H := HC43.out
        clear HC43
        have H' := Aside0.mk H
        clear H
        go_wp2
        go_loopg [12, 13] kj18 (fun kq v12 v13 w' => ∃ (x12_3 : Int) (x13_3 : Int) (x247000_3 : Int) (x247001_3 : Int) (x247002_3 : Int) (x247003_3 : List Int) (u247003 : Value), v12 = .int .i64 x12_3 ∧ v13 = .int .i64 x13_3 ∧ Aside0 (bivouaclaw09_CraterOrders.l1 kq t222 t235 x12_3 x13_3 t229 t230 t231 t232 x247000_3 x247001_3 x247002_3 x247003_3 = some r) ∧ Aside0 (kq ≤ kj18) ∧ Aside0 (Kd.V k23 23 w' w.heap.size (fun k_ => some k_ ≠ ((.slice Ao25 t232.length co25) : Value).ownBlock ∧ some k_ ≠ ((.slice Ao33 t240.length co33) : Value).ownBlock ∧ k_ ≠ gb215 ∧ k_ ≠ gb236 ∧ k_ ≠ gb244 ∧ k_ ≠ gb246) (.slice Ao11 t222.length co11) t222) ∧ Aside0 (Kd.V (Kd.int .u8) 5 w' w.heap.size (fun k_ => some k_ ≠ ((.slice Ao25 t232.length co25) : Value).ownBlock ∧ some k_ ≠ ((.slice Ao33 t240.length co33) : Value).ownBlock ∧ k_ ≠ gb215 ∧ k_ ≠ gb236 ∧ k_ ≠ gb244 ∧ k_ ≠ gb246) (.slice Ao10 t219.length co10) t219) ∧ Aside0 (Kd.R (Kd.int .u8) 5 w' w.heap.size (fun k_ => some k_ ≠ ((.slice Ao33 t240.length co33) : Value).ownBlock) (.slice Ao25 t232.length co25) t232) ∧ Aside0 (Kd.R (Kd.int .u8) 5 w' w.heap.size (fun k_ => some k_ ≠ ((.slice Ao25 t232.length co25) : Value).ownBlock) (.slice Ao33 t240.length co33) t240) ∧ Aside0 (Kd.V (Kd.int .u8) 5 w' w.heap.size (fun k_ => some k_ ≠ ((.slice Ao25 t232.length co25) : Value).ownBlock ∧ some k_ ≠ ((.slice Ao33 t240.length co33) : Value).ownBlock ∧ k_ ≠ gb215 ∧ k_ ≠ gb236 ∧ k_ ≠ gb244 ∧ k_ ≠ gb246) u247003 x247003_3) ∧ Aside0 (w'.heap[gb215]? = some (.cells #[.int .i64 t216, .int .i64 t217, .int .i64 t218, (.slice Ao10 t219.length co10)] 46 (0, 0))) ∧ Aside0 (w'.heap[gb236]? = some (.cells #[.int .i64 t229, .int .i64 t230, .int .i64 t231, (.slice Ao25 t232.length co25)] 46 (0, 0))) ∧ Aside0 (w'.heap[gb244]? = some (.cells #[.int .i64 t237, .int .i64 t238, .int .i64 t239, (.slice Ao33 t240.length co33)] 46 (0, 0))) ∧ Aside0 (w'.heap[gb246]? = some (.cells #[.int .i64 x247000_3, .int .i64 x247001_3, .int .i64 x247002_3, u247003] 46 (0, 0))) ∧ Aside0 (Below w.heap.size w w'))
        case atStart => exact ⟨(0), (0), (t216), (t217), (t218), (t219), (.slice Ao10 t219.length co10), (by first | rfl | (simp; done) | (simp [*]; done)), (by first | rfl | (simp; done) | (simp [*]; done)), H', ⟨Nat.le_refl _⟩, ⟨by (with_reducible repeat (first | apply Kd.V_alloc | apply Kd.V_drewN | apply Kd.V_drew)); exact Kd.V_mono (Kd.V_far (p := ⟨gb246, 3, none⟩) (Kd.V_far (p := ⟨gb246, 2, none⟩) (Kd.V_far (p := ⟨gb246, 1, none⟩) (Kd.V_far (p := ⟨gb246, 0, none⟩) (Kd.V_mono HO_1.out (fun k_ hk => (⟨hk, hk.2⟩ : _ ∧ k_ ≠ gb246))) (fun _ hk => hk.2) (.int .i64 t216)) (fun _ hk => hk.2) (.int .i64 t217)) (fun _ hk => hk.2) (.int .i64 t218)) (fun _ hk => hk.2) (.slice Ao10 t219.length co10)) (fun _ hk => ⟨hk.1.1.1, ⟨hk.1.1.2.1, ⟨hk.1.1.2.2.1, ⟨hk.1.1.2.2.2.1, ⟨hk.1.1.2.2.2.2, hk.1.2⟩⟩⟩⟩⟩)⟩, ⟨by (with_reducible repeat (first | apply Kd.V_alloc | apply Kd.V_drewN | apply Kd.V_drew)); exact Kd.V_mono (Kd.V_far (p := ⟨gb246, 3, none⟩) (Kd.V_far (p := ⟨gb246, 2, none⟩) (Kd.V_far (p := ⟨gb246, 1, none⟩) (Kd.V_far (p := ⟨gb246, 0, none⟩) (Kd.V_mono HO_216003.out (fun k_ hk => (⟨hk, hk.2⟩ : _ ∧ k_ ≠ gb246))) (fun _ hk => hk.2) (.int .i64 t216)) (fun _ hk => hk.2) (.int .i64 t217)) (fun _ hk => hk.2) (.int .i64 t218)) (fun _ hk => hk.2) (.slice Ao10 t219.length co10)) (fun _ hk => ⟨hk.1.1.1, ⟨hk.1.1.2.1, ⟨hk.1.1.2.2.1, ⟨hk.1.1.2.2.2.1, ⟨hk.1.1.2.2.2.2, hk.1.2⟩⟩⟩⟩⟩)⟩, ⟨by (with_reducible repeat (first | apply Kd.R_alloc | apply Kd.R_drewN | apply Kd.R_drew)); exact Kd.R_mono (Kd.R_far (p := ⟨gb246, 3, none⟩) (Kd.R_far (p := ⟨gb246, 2, none⟩) (Kd.R_far (p := ⟨gb246, 1, none⟩) (Kd.R_far (p := ⟨gb246, 0, none⟩) (Kd.R_types HO_237003.out BK246.out (by decide)) (fun _ hk => hk.2) (.int .i64 t216)) (fun _ hk => hk.2) (.int .i64 t217)) (fun _ hk => hk.2) (.int .i64 t218)) (fun _ hk => hk.2) (.slice Ao10 t219.length co10)) (fun _ hk => hk.1)⟩, ⟨by (with_reducible repeat (first | apply Kd.R_alloc | apply Kd.R_drewN | apply Kd.R_drew)); exact Kd.R_mono (Kd.R_far (p := ⟨gb246, 3, none⟩) (Kd.R_far (p := ⟨gb246, 2, none⟩) (Kd.R_far (p := ⟨gb246, 1, none⟩) (Kd.R_far (p := ⟨gb246, 0, none⟩) (Kd.R_types HO_245003.out BK246.out (by decide)) (fun _ hk => hk.2) (.int .i64 t216)) (fun _ hk => hk.2) (.int .i64 t217)) (fun _ hk => hk.2) (.int .i64 t218)) (fun _ hk => hk.2) (.slice Ao10 t219.length co10)) (fun _ hk => hk.1)⟩, ⟨by (with_reducible repeat (first | apply Kd.V_alloc | apply Kd.V_drewN | apply Kd.V_drew)); exact Kd.V_mono (Kd.V_far (p := ⟨gb246, 3, none⟩) (Kd.V_far (p := ⟨gb246, 2, none⟩) (Kd.V_far (p := ⟨gb246, 1, none⟩) (Kd.V_far (p := ⟨gb246, 0, none⟩) (Kd.V_mono HO_216003.out (fun k_ hk => (⟨hk, hk.2⟩ : _ ∧ k_ ≠ gb246))) (fun _ hk => hk.2) (.int .i64 t216)) (fun _ hk => hk.2) (.int .i64 t217)) (fun _ hk => hk.2) (.int .i64 t218)) (fun _ hk => hk.2) (.slice Ao10 t219.length co10)) (fun _ hk => ⟨hk.1.1.1, ⟨hk.1.1.2.1, ⟨hk.1.1.2.2.1, ⟨hk.1.1.2.2.2.1, ⟨hk.1.1.2.2.2.2, hk.1.2⟩⟩⟩⟩⟩)⟩, ⟨by (with_reducible repeat (first | refine blk_drewN ?_ _ | refine blk_drew ?_ | refine blk_alloc ?_ _)); refine blk_far ?_ NB215_246.out _; (with_reducible repeat (first | refine blk_drewN ?_ _ | refine blk_drew ?_ | refine blk_alloc ?_ _)); refine blk_far ?_ NB215_246.out _; (with_reducible repeat (first | refine blk_drewN ?_ _ | refine blk_drew ?_ | refine blk_alloc ?_ _)); refine blk_far ?_ NB215_246.out _; (with_reducible repeat (first | refine blk_drewN ?_ _ | refine blk_drew ?_ | refine blk_alloc ?_ _)); refine blk_far ?_ NB215_246.out _; (with_reducible repeat (first | refine blk_drewN ?_ _ | refine blk_drew ?_ | refine blk_alloc ?_ _)); exact BK215.out⟩, ⟨by (with_reducible repeat (first | refine blk_drewN ?_ _ | refine blk_drew ?_ | refine blk_alloc ?_ _)); refine blk_far ?_ NB236_246.out _; (with_reducible repeat (first | refine blk_drewN ?_ _ | refine blk_drew ?_ | refine blk_alloc ?_ _)); refine blk_far ?_ NB236_246.out _; (with_reducible repeat (first | refine blk_drewN ?_ _ | refine blk_drew ?_ | refine blk_alloc ?_ _)); refine blk_far ?_ NB236_246.out _; (with_reducible repeat (first | refine blk_drewN ?_ _ | refine blk_drew ?_ | refine blk_alloc ?_ _)); refine blk_far ?_ NB236_246.out _; (with_reducible repeat (first | refine blk_drewN ?_ _ | refine blk_drew ?_ | refine blk_alloc ?_ _)); exact BK236.out⟩, ⟨by (with_reducible repeat (first | refine blk_drewN ?_ _ | refine blk_drew ?_ | refine blk_alloc ?_ _)); refine blk_far ?_ NB244_246.out _; (with_reducible repeat (first | refine blk_drewN ?_ _ | refine blk_drew ?_ | refine blk_alloc ?_ _)); refine blk_far ?_ NB244_246.out _; (with_reducible repeat (first | refine blk_drewN ?_ _ | refine blk_drew ?_ | refine blk_alloc ?_ _)); refine blk_far ?_ NB244_246.out _; (with_reducible repeat (first | refine blk_drewN ?_ _ | refine blk_drew ?_ | refine blk_alloc ?_ _)); refine blk_far ?_ NB244_246.out _; (with_reducible repeat (first | refine blk_drewN ?_ _ | refine blk_drew ?_ | refine blk_alloc ?_ _)); exact BK244.out⟩, ⟨by (with_reducible repeat (first | refine blk_drewN ?_ _ | refine blk_drew ?_ | refine blk_alloc ?_ _)); refine blk_put (cs := #[.int .i64 t216, .int .i64 t217, .int .i64 t218, .slice none 0 0]) ?_ 3 _ rfl; (with_reducible repeat (first | refine blk_drewN ?_ _ | refine blk_drew ?_ | refine blk_alloc ?_ _)); refine blk_put (cs := #[.int .i64 t216, .int .i64 t217, .int .i64 0, .slice none 0 0]) ?_ 2 _ rfl; (with_reducible repeat (first | refine blk_drewN ?_ _ | refine blk_drew ?_ | refine blk_alloc ?_ _)); refine blk_put (cs := #[.int .i64 t216, .int .i64 0, .int .i64 0, .slice none 0 0]) ?_ 1 _ rfl; (with_reducible repeat (first | refine blk_drewN ?_ _ | refine blk_drew ?_ | refine blk_alloc ?_ _)); refine blk_put (cs := #[.int .i64 0, .int .i64 0, .int .i64 0, .slice none 0 0]) ?_ 0 _ rfl; (with_reducible repeat (first | refine blk_drewN ?_ _ | refine blk_drew ?_ | refine blk_alloc ?_ _)); exact BK246.out⟩, ⟨by repeat (first | (with_reducible first | exact HB.out | apply below_alloc | apply pw_below_drewN | apply below_drew1 | refine below_set ?_ GE215.out | refine below_set ?_ GE236.out | refine below_set ?_ GE244.out | refine below_set ?_ GE246.out) | exact HB.out)⟩⟩
        case round =>
         clear H'
         try clear c1
         try clear c2
         try clear p2
         try clear q2
         try clear hx2
         try clear c3
         try clear c4
         try clear c5
         try clear p6
         try clear c12
         try clear c12b0
         try clear c13
         try clear c13b0
         try clear c14
         try clear c14b0
         try clear c15
         try clear p22
         try clear q22
         try clear hx22
         try clear c23
         try clear c26
         try clear c30
         try clear c31
         try clear c34
         try clear c34b0
         try clear c34b1
         try clear c36
         try clear c37
         try clear c39
         try clear c42
         try clear c44
         try clear c45
         try clear c48
         try clear c49
         try clear c50
         try clear hcz20_0
         try clear hcz20_1
         try clear hcz20_2
         try clear hcz20_3
         try clear hcz24_0
         try clear hcz24_1
         try clear hcz24_2
         try clear hcz24_3
         try clear hcz26_0
         try clear hcz26_1
         try clear hcz26_2
         try clear hcz26_3
         try clear hcz32_0
         try clear hcz32_1
         try clear hcz32_2
         try clear hcz32_3
         try clear hcz38_0
         try clear hcz38_1
         try clear hcz38_2
         try clear hcz38_3
         try clear hcz40_0
         try clear hcz40_1
         try clear hcz40_2
         try clear hcz40_3
         try clear hcz46_0
         try clear hcz46_1
         try clear hcz46_2
         try clear hcz46_3
         try clear hcz51_0
         try clear hcz51_1
         try clear hcz51_2
         try clear hcz51_3
         try clear hcz6_0
         try clear hcz6_1
         try clear hcz6_2
         try clear hcz6_3
         try clear hcz9_0
         try clear hcz9_1
         try clear hcz9_2
         try clear hcz9_3
         try clear hfz20_0
         try clear hfz20_1
         try clear hfz20_2
         try clear hfz20_3
         try clear hfz24_0
         try clear hfz24_1
         try clear hfz24_2
         try clear hfz24_3
         try clear hfz26_0
         try clear hfz26_1
         try clear hfz26_2
         try clear hfz26_3
         try clear hfz32_0
         try clear hfz32_1
         try clear hfz32_2
         try clear hfz32_3
         try clear hfz38_0
         try clear hfz38_1
         try clear hfz38_2
         try clear hfz38_3
         try clear hfz40_0
         try clear hfz40_1
         try clear hfz40_2
         try clear hfz40_3
         try clear hfz46_0
         try clear hfz46_1
         try clear hfz46_2
         try clear hfz46_3
         try clear hfz51_0
         try clear hfz51_1
         try clear hfz51_2
         try clear hfz51_3
         try clear hfz6_0
         try clear hfz6_1
         try clear hfz6_2
         try clear hfz6_3
         try clear hfz9_0
         try clear hfz9_1
         try clear hfz9_2
         try clear hfz9_3
         try clear hx225_0
         try clear hx225_1
         try clear hx225_2
         try clear hx225_3
         try clear p2
         try clear p22
         try clear p225
         try clear p6
         try clear q2
         try clear q22
         try clear q225
         obtain ⟨x12_3, x13_3, x247000_3, x247001_3, x247002_3, x247003_3, u247003, rfl, rfl, HA, HK3, HO_1, HO_216003, HO_237003, HO_245003, HO_247003, BK215, BK236, BK244, BK246, HB⟩ := hrel
         cases gk with
         | zero => exact absurd HA.out (by simp [bivouaclaw09_CraterOrders.l1])
         | succ k3 =>
          have H := HA.out
          clear HA
          simp only [bivouaclaw09_CraterOrders.l1] at H
          by_cases c52 : x13_3 < (t222.length : Int)
          ·
           rw [if_pos c52] at H
           have c52b0 : decide (x13_3 < (t222.length : Int)) = true := decide_eq_true c52
           clear c52
           (first | rw [c52b0] | (simp only [i64_w, i32_w]; rw [c52b0]) | skip)
           by_cases c53 : x12_3 = 0
           ·
            rw [if_pos c53] at H
            have c53b0 : (x12_3 == 0) = true := beq_iff_eq.mpr c53
            have c53b1 : (x12_3 != 0) = false := bne_eq_false_iff_eq.mpr c53
            clear c53
            by_cases c54 : 0 ≤ x13_3
            ·
             rw [if_pos c54] at H
             have c54b0 : decide (0 ≤ x13_3) = true := decide_eq_true c54
             clear c54
             replace H := Option.bind_eq_some_iff.mp H
             obtain ⟨⟨t248, t249, t250, t251, t254⟩, A550, H⟩ := H
             replace H : (bivouaclaw09_CraterOrders.l1 k3 t222 t235 t254 (wrap64 (x13_3 + 1)) t229 t230 t231 t232 t248 t249 t250 t251) = some r := H
             have A55 := Aside0.mk A550
             clear A550
             have H' := Aside0.mk H
             clear H
             try go_wp2
             have n0_ := Aside0.mk (Kd.V_drew HO_1.out)
             have n1_ := Aside0.mk (Kd.V_drew HO_216003.out)
             have n2_ := Aside0.mk (Kd.R_drew HO_237003.out)
             have n3_ := Aside0.mk (Kd.R_drew HO_245003.out)
             have n4_ := Aside0.mk (Kd.V_drew HO_247003.out)
             have n5_ := Aside0.mk (blk_drew BK215.out)
             have n6_ := Aside0.mk (blk_drew BK236.out)
             have n7_ := Aside0.mk (blk_drew BK244.out)
             have n8_ := Aside0.mk (blk_drew BK246.out)
             have n9_ := Aside0.mk (below_drew1 HB.out)
             clear HO_1
             clear HO_216003
             clear HO_237003
             clear HO_245003
             clear HO_247003
             clear BK215
             clear BK236
             clear BK244
             clear BK246
             clear HB
             have HO_1 := n0_
             have HO_216003 := n1_
             have HO_237003 := n2_
             have HO_245003 := n3_
             have HO_247003 := n4_
             have BK215 := n5_
             have BK236 := n6_
             have BK244 := n7_
             have BK246 := n8_
             have HB := n9_
             clear n0_ n1_ n2_ n3_ n4_ n5_ n6_ n7_ n8_ n9_
             have p247 : 0 ≤ (x13_3 : Int) := of_decide_eq_true (by first | (with_reducible assumption) | assumption)
             have q247 : x13_3 < (t222.length : Int) := of_decide_eq_true (by first | (with_reducible assumption) | assumption)
             obtain ⟨ad247, e247, hx247_0, hx247_1, hx247_2, hx247_3⟩ := at_T23 (Kd.V_reads' HO_1.out).2.2 x13_3 p247 q247
             cases e247
             replace p247 := eq_true p247
             replace q247 := eq_true q247
             obtain ⟨Ao57, co57, eo57⟩ := Kd.V_slice HO_247003.out
             (first | subst eo57 | (injection eo57 with f1_ f2_ f3_; have f4_ := f1_.symm; have f5_ := f3_.symm; clear f1_ f2_ f3_; subst f4_; subst f5_))
             refine start_ (n := 11) (S := fun w' => w'.cell? ⟨gb246, 0, none⟩ = some (.int .i64 x247000_3) ∧ w'.cell? ⟨gb246, 1, none⟩ = some (.int .i64 x247001_3) ∧ w'.cell? ⟨gb246, 2, none⟩ = some (.int .i64 x247002_3) ∧ w'.cell? ⟨gb246, 3, none⟩ = some (.slice Ao57 x247003_3.length co57) ∧ w'.cell? (ad247.add ((x13_3).toNat * 4)) = some (.int .i64 ((rd_T23 t222 x13_3).f0)) ∧ w'.cell? ⟨(ad247.add ((x13_3).toNat * 4)).block, (ad247.add ((x13_3).toNat * 4)).off + 1, none⟩ = some (.int .i64 ((rd_T23 t222 x13_3).f1)) ∧ w'.cell? ⟨(ad247.add ((x13_3).toNat * 4)).block, (ad247.add ((x13_3).toNat * 4)).off + 2, none⟩ = some (.int .i64 ((rd_T23 t222 x13_3).f2)) ∧ w'.cell? ⟨(ad247.add ((x13_3).toNat * 4)).block, (ad247.add ((x13_3).toNat * 4)).off + 3, none⟩ = some (.int .i64 ((rd_T23 t222 x13_3).f3))) (ds := [9]) (bA 11 0) (by kernel_rfl) rfl rfl ⟨(blk_cell BK246.out 0).trans rfl, (blk_cell BK246.out 1).trans rfl, (blk_cell BK246.out 2).trans rfl, (blk_cell BK246.out 3).trans rfl, hx247_0, hx247_1, hx247_2, hx247_3⟩ (fun hHeld => ?_); refine with_tabW bivouaclaw09_CraterOrders.tab15 bivouaclaw09_CraterOrders.bits15 (fun HT_ HW_ => ?_)
             generalize wr.drew = w56 at HO_1 HO_216003 HO_237003 HO_245003 HO_247003 BK215 BK236 BK244 BK246 HB hx247_0 hx247_1 hx247_2 hx247_3 hHeld ⊢
             refine pure_ (i := 1) (N := some 66) (v := ?_) (a' := ?_) (bA 11 2) rfl rfl (any_of HT_.out (by kernel_rfl)) (fun _ _ _ h => h) (Or.inl ⟨by rfl, ?_⟩) ?_ ?_
             rotate_left
             ·
              intro w'
              go_simp
              with_reducible rfl
             rotate_left
             ·
              simp only [Act.put, sA, sB, sC, i64_w, i32_w]
              rfl
             refine pure_ (i := 2) (N := some 67) (v := ?_) (a' := ?_) (bA 11 6) rfl rfl (any_of HT_.out (by kernel_rfl)) (fun _ _ _ h => h) (Or.inl ⟨by rfl, ?_⟩) ?_ ?_
             rotate_left
             ·
              intro w'
              go_simp
              with_reducible rfl
             rotate_left
             ·
              simp only [Act.put, sA, sB, sC, i64_w, i32_w]
              rfl
             refine pure_ (i := 3) (N := some 68) (v := ?_) (a' := ?_) (bA 11 14) rfl rfl (any_of HT_.out (by kernel_rfl)) (fun _ _ _ h => h) (Or.inl ⟨by rfl, ?_⟩) ?_ ?_
             rotate_left
             ·
              intro w'
              go_simp
              with_reducible rfl
             rotate_left
             ·
              simp only [Act.put, sA, sB, sC, i64_w, i32_w]
              rfl
             refine take_ (i := 0) (N := some 65) (v := ?_) (a' := ?_) (bA 11 15) rfl rfl (take_ofW HT_.out HW_.out (by kernel_rfl)) (fun _ _ _ h => h) (Or.inl ⟨by rfl, ?_⟩) hHeld ?_ ?_
             rotate_left
             ·
              rintro w' ⟨s0, s1, s2, s3, s4, s5, s6, s7⟩
              go_simp
              with_reducible rfl
             rotate_left
             ·
              simp only [Act.put, sA, sB, sC, i64_w, i32_w]
              rfl
             refine take_ (i := 4) (N := some 69) (v := ?_) (a' := ?_) (bA 11 31) rfl rfl (take_ofW HT_.out HW_.out (by kernel_rfl)) (fun _ _ _ h => h) (Or.inl ⟨by rfl, ?_⟩) hHeld ?_ ?_
             rotate_left
             ·
              rintro w' ⟨s0, s1, s2, s3, s4, s5, s6, s7⟩
              go_simp
              with_reducible rfl
             rotate_left
             ·
              simp only [Act.put, sA, sB, sC, i64_w, i32_w]
              rfl
             refine one_ (i := 5) (N := some 70) (bA 11 63) rfl rfl (one_of HT_.out (by kernel_rfl)) (by decide) (fun K hK => ?_)
             refine goes_ Try.func27 (by kernel_rfl) rfl #[.agg #[.int .i64 x247000_3, .int .i64 x247001_3, .int .i64 x247002_3, .slice Ao57 x247003_3.length co57], .agg #[.int .i64 ((rd_T23 t222 x13_3).f0), .int .i64 ((rd_T23 t222 x13_3).f1), .int .i64 ((rd_T23 t222 x13_3).f2), .int .i64 ((rd_T23 t222 x13_3).f3)]] (by rfl) rfl rfl (by (try simp only [List.map_toArray, List.map_cons, List.map_nil]); first | done | rfl | (simp only [List.length_drop, List.length_take]; rfl)) ?_
             with_reducible refine (crater_Strike.calls k3 x247000_3 x247001_3 x247002_3 _ _ x247003_3 ((rd_T23 t222 x13_3).f0) ((rd_T23 t222 x13_3).f1) ((rd_T23 t222 x13_3).f2) ((rd_T23 t222 x13_3).f3) t248 t249 t250 t251 t254 _ ?side1 ?side2 A55.out).mono ?_
             (case side1 => repeat (first | exact (Kd.V_reads' HO_247003.out).2.2 | (with_reducible refine Kd.C_alloc ?_ _) | (with_reducible refine Kd.C_drewN ?_ _) | (with_reducible refine Kd.C_drew ?_)))
             (case side2 => exact (Kd.V_reads' HO_247003.out).2.1)
             rintro e w58 ⟨v252, rfl, ho0, hb⟩
             have HS4_ := (hb.cell (World.block_lt_of_cell? _ _ (hHeld.2.2.2.2.1))).trans (hHeld.2.2.2.2.1)
             have HS5_ := (hb.cell (World.block_lt_of_cell? _ _ (hHeld.2.2.2.2.2.1))).trans (hHeld.2.2.2.2.2.1)
             have HS6_ := (hb.cell (World.block_lt_of_cell? _ _ (hHeld.2.2.2.2.2.2.1))).trans (hHeld.2.2.2.2.2.2.1)
             have HS7_ := (hb.cell (World.block_lt_of_cell? _ _ (hHeld.2.2.2.2.2.2.2))).trans (hHeld.2.2.2.2.2.2.2)
             refine ⟨_, rfl, ?_⟩
             have n0_ := Aside0.mk (Kd.V_elder' (by (with_reducible repeat (first | apply Kd.V_alloc | apply Kd.V_drewN | apply Kd.V_drew)); exact HO_1.out) (Kd.R_base ho0) hb)
             have n1_ := Aside0.mk (Kd.V_elder' (by (with_reducible repeat (first | apply Kd.V_alloc | apply Kd.V_drewN | apply Kd.V_drew)); exact HO_216003.out) (Kd.R_base ho0) hb)
             have n2_ := Aside0.mk (Kd.R_elder' (by (with_reducible repeat (first | apply Kd.R_alloc | apply Kd.R_drewN | apply Kd.R_drew)); exact HO_237003.out) (Kd.R_base ho0) hb)
             have n3_ := Aside0.mk (Kd.R_elder' (by (with_reducible repeat (first | apply Kd.R_alloc | apply Kd.R_drewN | apply Kd.R_drew)); exact HO_245003.out) (Kd.R_base ho0) hb)
             have n4_ := Aside0.mk (Kd.V_elder' (by (with_reducible repeat (first | apply Kd.V_alloc | apply Kd.V_drewN | apply Kd.V_drew)); exact HO_247003.out) (Kd.R_base ho0) hb)
             have n5_ := Aside0.mk (Kd.R_lower (Kd.R_new' (Kd.R_new' ho0 (Kd.R_lt (by (with_reducible repeat (first | apply Kd.R_alloc | apply Kd.R_drewN | apply Kd.R_drew)); exact HO_237003.out))) (Kd.R_lt (by (with_reducible repeat (first | apply Kd.R_alloc | apply Kd.R_drewN | apply Kd.R_drew)); exact HO_245003.out))) (below_size (by repeat (first | (with_reducible first | exact HB.out | apply below_alloc | apply pw_below_drewN | apply below_drew1 | refine below_set ?_ GE215.out | refine below_set ?_ GE236.out | refine below_set ?_ GE244.out | refine below_set ?_ GE246.out) | exact HB.out))))
             have n6_ := Aside0.mk (blk_below (g := gb215) (o := .cells #[.int .i64 t216, .int .i64 t217, .int .i64 t218, .slice Ao10 t219.length co10] 46 (0, 0)) (by (with_reducible repeat (first | refine blk_drewN ?_ _ | refine blk_drew ?_ | refine blk_alloc ?_ _)); exact BK215.out) hb)
             have n7_ := Aside0.mk (blk_below (g := gb236) (o := .cells #[.int .i64 t229, .int .i64 t230, .int .i64 t231, .slice Ao25 t232.length co25] 46 (0, 0)) (by (with_reducible repeat (first | refine blk_drewN ?_ _ | refine blk_drew ?_ | refine blk_alloc ?_ _)); exact BK236.out) hb)
             have n8_ := Aside0.mk (blk_below (g := gb244) (o := .cells #[.int .i64 t237, .int .i64 t238, .int .i64 t239, .slice Ao33 t240.length co33] 46 (0, 0)) (by (with_reducible repeat (first | refine blk_drewN ?_ _ | refine blk_drew ?_ | refine blk_alloc ?_ _)); exact BK244.out) hb)
             have n9_ := Aside0.mk (blk_below (g := gb246) (o := .cells #[.int .i64 x247000_3, .int .i64 x247001_3, .int .i64 x247002_3, .slice Ao57 x247003_3.length co57] 46 (0, 0)) (by (with_reducible repeat (first | refine blk_drewN ?_ _ | refine blk_drew ?_ | refine blk_alloc ?_ _)); exact BK246.out) hb)
             have n10_ := Aside0.mk (below_step (by repeat (first | (with_reducible first | exact HB.out | apply below_alloc | apply pw_below_drewN | apply below_drew1 | refine below_set ?_ GE215.out | refine below_set ?_ GE236.out | refine below_set ?_ GE244.out | refine below_set ?_ GE246.out) | exact HB.out)) hb)
             clear HO_1
             clear HO_216003
             clear HO_237003
             clear HO_245003
             clear HO_247003
             clear BK215
             clear BK236
             clear BK244
             clear BK246
             clear HB
             have HO_1 := n0_
             have HO_216003 := n1_
             have HO_237003 := n2_
             have HO_245003 := n3_
             have HO_247003 := n4_
             have HO253 := n5_
             have BK215 := n6_
             have BK236 := n7_
             have BK244 := n8_
             have BK246 := n9_
             have HB := n10_
             clear n0_ n1_ n2_ n3_ n4_ n5_ n6_ n7_ n8_ n9_ n10_
             (try clear hb)
             (try clear hb2)
             (try clear hk)
             (try clear hi)
             (try clear ho0)
             obtain ⟨Ao62, co62, eo62⟩ := Kd.R_slice HO253.out
             (first | subst eo62 | (injection eo62 with f1_ f2_ f3_; have f4_ := f1_.symm; have f5_ := f3_.symm; clear f1_ f2_ f3_; subst f4_; subst f5_))
             refine hK.out _ _ ⟨(blk_cell BK246.out 0).trans rfl, (blk_cell BK246.out 1).trans rfl, (blk_cell BK246.out 2).trans rfl, (blk_cell BK246.out 3).trans rfl, HS4_, HS5_, HS6_, HS7_⟩ (fun hHeld => ?_)
             clear hK K
             refine norm_ (a' := ?_) ?_ ?_
             rotate_left
             ·
              show Act.put _ (some 70) _ = _
              simp only [Act.put, sA, sB, sC, i64_w, i32_w]
              rfl
             refine pure_ (i := 6) (N := some 64) (v := ?_) (a' := ?_) (bA 11 127) rfl rfl (any_of HT_.out (by kernel_rfl)) (fun _ _ _ h => h) (Or.inl ⟨by rfl, ?_⟩) ?_ ?_
             rotate_left
             ·
              intro w'
              go_simp
              with_reducible rfl
             rotate_left
             ·
              simp only [Act.put, sA, sB, sC, i64_w, i32_w]
              rfl
             refine pure_ (i := 7) (N := some 71) (v := ?_) (a' := ?_) (bA 11 255) rfl rfl (any_of HT_.out (by kernel_rfl)) (fun _ _ _ h => h) (Or.inl ⟨by rfl, ?_⟩) ?_ ?_
             rotate_left
             ·
              intro w'
              go_simp
              with_reducible rfl
             rotate_left
             ·
              simp only [Act.put, sA, sB, sC, i64_w, i32_w]
              rfl
             refine pure_ (i := 8) (N := some 72) (v := ?_) (a' := ?_) (bA 11 511) rfl rfl (any_of HT_.out (by kernel_rfl)) (fun _ _ _ h => h) (Or.inl ⟨by rfl, ?_⟩) ?_ ?_
             rotate_left
             ·
              intro w'
              go_simp
              with_reducible rfl
             rotate_left
             ·
              simp only [Act.put, sA, sB, sC, i64_w, i32_w]
              rfl
             refine last_ (i := 9) (N := none) (bA 11 1023) rfl rfl (one_of HT_.out (by kernel_rfl)) (by decide) (fun K hK => ?_)
             have hs59 : w58.cell? ⟨gb246, 0, none⟩ = some (.int .i64 x247000_3) := (blk_cell BK246.out 0).trans rfl
             have hfs59 := blk_frozen BK246.out 0
             have hns59_0 := NB215_246.out
             have hns59_1 := NB236_246.out
             have hns59_2 := NB244_246.out
             have hms59_0 := NB246_215.out
             have hms59_1 := NB246_236.out
             have hms59_2 := NB246_244.out
             have hs60 : w58.cell? ⟨gb246, 1, none⟩ = some (.int .i64 x247001_3) := (blk_cell BK246.out 1).trans rfl
             have hfs60 := blk_frozen BK246.out 1
             have hns60_0 := NB215_246.out
             have hns60_1 := NB236_246.out
             have hns60_2 := NB244_246.out
             have hms60_0 := NB246_215.out
             have hms60_1 := NB246_236.out
             have hms60_2 := NB246_244.out
             have hs61 : w58.cell? ⟨gb246, 2, none⟩ = some (.int .i64 x247002_3) := (blk_cell BK246.out 2).trans rfl
             have hfs61 := blk_frozen BK246.out 2
             have hns61_0 := NB215_246.out
             have hns61_1 := NB236_246.out
             have hns61_2 := NB244_246.out
             have hms61_0 := NB246_215.out
             have hms61_1 := NB246_236.out
             have hms61_2 := NB246_244.out
             have hs63 : w58.cell? ⟨gb246, 3, none⟩ = some (.slice Ao57 x247003_3.length co57) := (blk_cell BK246.out 3).trans rfl
             have hfs63 := blk_frozen BK246.out 3
             have hns63_0 := NB215_246.out
             have hns63_1 := NB236_246.out
             have hns63_2 := NB244_246.out
             have hms63_0 := NB246_215.out
             have hms63_1 := NB246_236.out
             have hms63_2 := NB246_244.out
             refine skip_ (w1 := ?_) (by rfl) rfl ?_ ?_
             rotate_left
             ·
              go_simp
              rfl
             refine hK.out _ _ ?_
             clear hK K
             refine pure_ (i := 10) (N := some 12) (v := ?_) (a' := ?_) (bA 11 2047) rfl rfl (any_of HT_.out (by kernel_rfl)) (fun _ _ _ h => h) (Or.inl ⟨by rfl, ?_⟩) ?_ ?_
             rotate_left
             ·
              intro w'
              go_simp
              with_reducible rfl
             rotate_left
             ·
              simp only [Act.put, sA, sB, sC, i64_w, i32_w]
              rfl
             refine done_ (done_of HT_.out (by kernel_rfl)) ?_
             try go_wp2
             go_roundg k3
             case measure => have := HK1.out; have := HJ18.out; have := HK3.out; omega
             case rel => exact ⟨(t254), (wrap64 (x13_3 + 1)), (t248), (t249), (t250), (t251), (.slice Ao62 t251.length co62), (by first | rfl | (simp; done) | (simp [*]; done)), (by first | rfl | (simp; done) | (simp [*]; done)), H', ⟨by have := HK1.out; have := HJ18.out; have := HK3.out; omega⟩, ⟨by (with_reducible repeat (first | apply Kd.V_alloc | apply Kd.V_drewN | apply Kd.V_drew)); exact Kd.V_mono (Kd.V_far (p := ⟨gb246, 3, none⟩) (Kd.V_far (p := ⟨gb246, 2, none⟩) (Kd.V_far (p := ⟨gb246, 1, none⟩) (Kd.V_far (p := ⟨gb246, 0, none⟩) (Kd.V_mono HO_1.out (fun k_ hk => (⟨hk, hk.1.2.2.2.2.2⟩ : _ ∧ k_ ≠ gb246))) (fun _ hk => hk.2) (.int .i64 t248)) (fun _ hk => hk.2) (.int .i64 t249)) (fun _ hk => hk.2) (.int .i64 t250)) (fun _ hk => hk.2) (.slice Ao62 t251.length co62)) (fun _ hk => ⟨hk.1.1.1, ⟨hk.1.1.2.1, ⟨hk.1.1.2.2.1, ⟨hk.1.1.2.2.2.1, ⟨hk.1.1.2.2.2.2.1, hk.1.1.2.2.2.2.2⟩⟩⟩⟩⟩)⟩, ⟨by (with_reducible repeat (first | apply Kd.V_alloc | apply Kd.V_drewN | apply Kd.V_drew)); exact Kd.V_mono (Kd.V_far (p := ⟨gb246, 3, none⟩) (Kd.V_far (p := ⟨gb246, 2, none⟩) (Kd.V_far (p := ⟨gb246, 1, none⟩) (Kd.V_far (p := ⟨gb246, 0, none⟩) (Kd.V_mono HO_216003.out (fun k_ hk => (⟨hk, hk.1.2.2.2.2.2⟩ : _ ∧ k_ ≠ gb246))) (fun _ hk => hk.2) (.int .i64 t248)) (fun _ hk => hk.2) (.int .i64 t249)) (fun _ hk => hk.2) (.int .i64 t250)) (fun _ hk => hk.2) (.slice Ao62 t251.length co62)) (fun _ hk => ⟨hk.1.1.1, ⟨hk.1.1.2.1, ⟨hk.1.1.2.2.1, ⟨hk.1.1.2.2.2.1, ⟨hk.1.1.2.2.2.2.1, hk.1.1.2.2.2.2.2⟩⟩⟩⟩⟩)⟩, ⟨by (with_reducible repeat (first | apply Kd.R_alloc | apply Kd.R_drewN | apply Kd.R_drew)); exact Kd.R_mono (Kd.R_far (p := ⟨gb246, 3, none⟩) (Kd.R_far (p := ⟨gb246, 2, none⟩) (Kd.R_far (p := ⟨gb246, 1, none⟩) (Kd.R_far (p := ⟨gb246, 0, none⟩) (Kd.R_types HO_237003.out BK246.out (by decide)) (fun _ hk => hk.2) (.int .i64 t248)) (fun _ hk => hk.2) (.int .i64 t249)) (fun _ hk => hk.2) (.int .i64 t250)) (fun _ hk => hk.2) (.slice Ao62 t251.length co62)) (fun _ hk => hk.1.1)⟩, ⟨by (with_reducible repeat (first | apply Kd.R_alloc | apply Kd.R_drewN | apply Kd.R_drew)); exact Kd.R_mono (Kd.R_far (p := ⟨gb246, 3, none⟩) (Kd.R_far (p := ⟨gb246, 2, none⟩) (Kd.R_far (p := ⟨gb246, 1, none⟩) (Kd.R_far (p := ⟨gb246, 0, none⟩) (Kd.R_types HO_245003.out BK246.out (by decide)) (fun _ hk => hk.2) (.int .i64 t248)) (fun _ hk => hk.2) (.int .i64 t249)) (fun _ hk => hk.2) (.int .i64 t250)) (fun _ hk => hk.2) (.slice Ao62 t251.length co62)) (fun _ hk => hk.1.1)⟩, ⟨Kd.R_V (by (with_reducible repeat (first | apply Kd.R_alloc | apply Kd.R_drewN | apply Kd.R_drew)); exact Kd.R_mono (Kd.R_far (p := ⟨gb246, 3, none⟩) (Kd.R_far (p := ⟨gb246, 2, none⟩) (Kd.R_far (p := ⟨gb246, 1, none⟩) (Kd.R_far (p := ⟨gb246, 0, none⟩) (Kd.R_types (Kd.R_types (Kd.R_types (Kd.R_types (Kd.R_types HO253.out BK215.out (by decide)) BK236.out (by decide)) BK244.out (by decide)) BK246.out (by decide)) BK246.out (by decide)) (fun _ hk => hk.2) (.int .i64 t248)) (fun _ hk => hk.2) (.int .i64 t249)) (fun _ hk => hk.2) (.int .i64 t250)) (fun _ hk => hk.2) (.slice Ao62 t251.length co62)) (fun _ hk => ⟨hk.1.1.1.1.1.1.2, ⟨hk.1.1.1.1.1.2, ⟨hk.1.1.1.1.2, ⟨hk.1.1.1.2, ⟨hk.1.1.2, hk.1.2⟩⟩⟩⟩⟩))⟩, ⟨by (with_reducible repeat (first | refine blk_drewN ?_ _ | refine blk_drew ?_ | refine blk_alloc ?_ _)); refine blk_far ?_ NB215_246.out _; (with_reducible repeat (first | refine blk_drewN ?_ _ | refine blk_drew ?_ | refine blk_alloc ?_ _)); refine blk_far ?_ NB215_246.out _; (with_reducible repeat (first | refine blk_drewN ?_ _ | refine blk_drew ?_ | refine blk_alloc ?_ _)); refine blk_far ?_ NB215_246.out _; (with_reducible repeat (first | refine blk_drewN ?_ _ | refine blk_drew ?_ | refine blk_alloc ?_ _)); refine blk_far ?_ NB215_246.out _; (with_reducible repeat (first | refine blk_drewN ?_ _ | refine blk_drew ?_ | refine blk_alloc ?_ _)); exact BK215.out⟩, ⟨by (with_reducible repeat (first | refine blk_drewN ?_ _ | refine blk_drew ?_ | refine blk_alloc ?_ _)); refine blk_far ?_ NB236_246.out _; (with_reducible repeat (first | refine blk_drewN ?_ _ | refine blk_drew ?_ | refine blk_alloc ?_ _)); refine blk_far ?_ NB236_246.out _; (with_reducible repeat (first | refine blk_drewN ?_ _ | refine blk_drew ?_ | refine blk_alloc ?_ _)); refine blk_far ?_ NB236_246.out _; (with_reducible repeat (first | refine blk_drewN ?_ _ | refine blk_drew ?_ | refine blk_alloc ?_ _)); refine blk_far ?_ NB236_246.out _; (with_reducible repeat (first | refine blk_drewN ?_ _ | refine blk_drew ?_ | refine blk_alloc ?_ _)); exact BK236.out⟩, ⟨by (with_reducible repeat (first | refine blk_drewN ?_ _ | refine blk_drew ?_ | refine blk_alloc ?_ _)); refine blk_far ?_ NB244_246.out _; (with_reducible repeat (first | refine blk_drewN ?_ _ | refine blk_drew ?_ | refine blk_alloc ?_ _)); refine blk_far ?_ NB244_246.out _; (with_reducible repeat (first | refine blk_drewN ?_ _ | refine blk_drew ?_ | refine blk_alloc ?_ _)); refine blk_far ?_ NB244_246.out _; (with_reducible repeat (first | refine blk_drewN ?_ _ | refine blk_drew ?_ | refine blk_alloc ?_ _)); refine blk_far ?_ NB244_246.out _; (with_reducible repeat (first | refine blk_drewN ?_ _ | refine blk_drew ?_ | refine blk_alloc ?_ _)); exact BK244.out⟩, ⟨by (with_reducible repeat (first | refine blk_drewN ?_ _ | refine blk_drew ?_ | refine blk_alloc ?_ _)); refine blk_put (cs := #[.int .i64 t248, .int .i64 t249, .int .i64 t250, .slice Ao57 x247003_3.length co57]) ?_ 3 _ rfl; (with_reducible repeat (first | refine blk_drewN ?_ _ | refine blk_drew ?_ | refine blk_alloc ?_ _)); refine blk_put (cs := #[.int .i64 t248, .int .i64 t249, .int .i64 x247002_3, .slice Ao57 x247003_3.length co57]) ?_ 2 _ rfl; (with_reducible repeat (first | refine blk_drewN ?_ _ | refine blk_drew ?_ | refine blk_alloc ?_ _)); refine blk_put (cs := #[.int .i64 t248, .int .i64 x247001_3, .int .i64 x247002_3, .slice Ao57 x247003_3.length co57]) ?_ 1 _ rfl; (with_reducible repeat (first | refine blk_drewN ?_ _ | refine blk_drew ?_ | refine blk_alloc ?_ _)); refine blk_put (cs := #[.int .i64 x247000_3, .int .i64 x247001_3, .int .i64 x247002_3, .slice Ao57 x247003_3.length co57]) ?_ 0 _ rfl; (with_reducible repeat (first | refine blk_drewN ?_ _ | refine blk_drew ?_ | refine blk_alloc ?_ _)); exact BK246.out⟩, ⟨by repeat (first | (with_reducible first | exact HB.out | apply below_alloc | apply pw_below_drewN | apply below_drew1 | refine below_set ?_ GE215.out | refine below_set ?_ GE236.out | refine below_set ?_ GE244.out | refine below_set ?_ GE246.out) | exact HB.out)⟩⟩
            ·
             rw [if_neg c54] at H
             exact absurd H (by simp)
           ·
            rw [if_neg c53] at H
            have c53b0 : (x12_3 == 0) = false := beq_eq_false_iff_ne.mpr c53
            have c53b1 : (x12_3 != 0) = true := bne_iff_ne.mpr c53
            have H' := Aside0.mk H
            clear H
            go_wp2
            go_meet
            case rel => exact ⟨_, (x12_3), (x247000_3), (x247001_3), (x247002_3), (x247003_3), (u247003), (by first | rfl | (simp; done) | (simp [*]; done)), H', ⟨by have := HK1.out; have := HJ18.out; have := HK3.out; first | omega | exact Nat.le_refl _⟩, ⟨by (with_reducible repeat (first | apply Kd.V_alloc | apply Kd.V_drewN | apply Kd.V_drew)); exact HO_1.out⟩, ⟨by (with_reducible repeat (first | apply Kd.V_alloc | apply Kd.V_drewN | apply Kd.V_drew)); exact HO_216003.out⟩, ⟨by (with_reducible repeat (first | apply Kd.R_alloc | apply Kd.R_drewN | apply Kd.R_drew)); exact HO_237003.out⟩, ⟨by (with_reducible repeat (first | apply Kd.R_alloc | apply Kd.R_drewN | apply Kd.R_drew)); exact HO_245003.out⟩, ⟨by (with_reducible repeat (first | apply Kd.V_alloc | apply Kd.V_drewN | apply Kd.V_drew)); exact HO_247003.out⟩, ⟨by (with_reducible repeat (first | refine blk_drewN ?_ _ | refine blk_drew ?_ | refine blk_alloc ?_ _)); exact BK215.out⟩, ⟨by (with_reducible repeat (first | refine blk_drewN ?_ _ | refine blk_drew ?_ | refine blk_alloc ?_ _)); exact BK236.out⟩, ⟨by (with_reducible repeat (first | refine blk_drewN ?_ _ | refine blk_drew ?_ | refine blk_alloc ?_ _)); exact BK244.out⟩, ⟨by (with_reducible repeat (first | refine blk_drewN ?_ _ | refine blk_drew ?_ | refine blk_alloc ?_ _)); exact BK246.out⟩, ⟨by repeat (first | (with_reducible first | exact HB.out | apply below_alloc | apply pw_below_drewN | apply below_drew1 | refine below_set ?_ GE215.out | refine below_set ?_ GE236.out | refine below_set ?_ GE244.out | refine below_set ?_ GE246.out) | exact HB.out)⟩⟩
          ·
           rw [if_neg c52] at H
           have c52b0 : decide (x13_3 < (t222.length : Int)) = false := decide_eq_false c52
           clear c52
           (first | rw [c52b0] | (simp only [i64_w, i32_w]; rw [c52b0]) | skip)
           have H' := Aside0.mk H
           clear H
           go_wp2
           go_meet
           case rel => exact ⟨_, (x12_3), (x247000_3), (x247001_3), (x247002_3), (x247003_3), (u247003), (by first | rfl | (simp; done) | (simp [*]; done)), H', ⟨by have := HK1.out; have := HJ18.out; have := HK3.out; first | omega | exact Nat.le_refl _⟩, ⟨by (with_reducible repeat (first | apply Kd.V_alloc | apply Kd.V_drewN | apply Kd.V_drew)); exact HO_1.out⟩, ⟨by (with_reducible repeat (first | apply Kd.V_alloc | apply Kd.V_drewN | apply Kd.V_drew)); exact HO_216003.out⟩, ⟨by (with_reducible repeat (first | apply Kd.R_alloc | apply Kd.R_drewN | apply Kd.R_drew)); exact HO_237003.out⟩, ⟨by (with_reducible repeat (first | apply Kd.R_alloc | apply Kd.R_drewN | apply Kd.R_drew)); exact HO_245003.out⟩, ⟨by (with_reducible repeat (first | apply Kd.V_alloc | apply Kd.V_drewN | apply Kd.V_drew)); exact HO_247003.out⟩, ⟨by (with_reducible repeat (first | refine blk_drewN ?_ _ | refine blk_drew ?_ | refine blk_alloc ?_ _)); exact BK215.out⟩, ⟨by (with_reducible repeat (first | refine blk_drewN ?_ _ | refine blk_drew ?_ | refine blk_alloc ?_ _)); exact BK236.out⟩, ⟨by (with_reducible repeat (first | refine blk_drewN ?_ _ | refine blk_drew ?_ | refine blk_alloc ?_ _)); exact BK244.out⟩, ⟨by (with_reducible repeat (first | refine blk_drewN ?_ _ | refine blk_drew ?_ | refine blk_alloc ?_ _)); exact BK246.out⟩, ⟨by repeat (first | (with_reducible first | exact HB.out | apply below_alloc | apply pw_below_drewN | apply below_drew1 | refine below_set ?_ GE215.out | refine below_set ?_ GE236.out | refine below_set ?_ GE244.out | refine below_set ?_ GE246.out) | exact HB.out)⟩⟩
       case rest =>
        clear HC43
        try clear c1
        try clear c2
        try clear p2
        try clear q2
        try clear hx2
        try clear c3
        try clear c4
        try clear c5
        try clear p6
        try clear c12
        try clear c12b0
        try clear c13
        try clear c13b0
        try clear c14
        try clear c14b0
        try clear c15
        try clear p22
        try clear q22
        try clear hx22
        try clear c23
        try clear p24
        try clear q24
        try clear hx24
        try clear c26
        try clear c27
        try clear c30
        try clear c31
        try clear c34
        try clear c34b0
        try clear c34b1
        try clear c36
        try clear c37
        try clear c39
        try clear c42
        try clear c44
        try clear c45
        try clear c48
        try clear c49
        try clear c50
        try clear c52
        try clear c52b0
        try clear c53
        try clear c53b0
        try clear c53b1
        try clear c54
        try clear c54b0
        try clear hcz20_0
        try clear hcz20_1
        try clear hcz20_2
        try clear hcz20_3
        try clear hcz24_0
        try clear hcz24_1
        try clear hcz24_2
        try clear hcz24_3
        try clear hcz26_0
        try clear hcz26_1
        try clear hcz26_2
        try clear hcz26_3
        try clear hcz32_0
        try clear hcz32_1
        try clear hcz32_2
        try clear hcz32_3
        try clear hcz38_0
        try clear hcz38_1
        try clear hcz38_2
        try clear hcz38_3
        try clear hcz40_0
        try clear hcz40_1
        try clear hcz40_2
        try clear hcz40_3
        try clear hcz46_0
        try clear hcz46_1
        try clear hcz46_2
        try clear hcz46_3
        try clear hcz51_0
        try clear hcz51_1
        try clear hcz51_2
        try clear hcz51_3
        try clear hcz6_0
        try clear hcz6_1
        try clear hcz6_2
        try clear hcz6_3
        try clear hcz9_0
        try clear hcz9_1
        try clear hcz9_2
        try clear hcz9_3
        try clear hfz20_0
        try clear hfz20_1
        try clear hfz20_2
        try clear hfz20_3
        try clear hfz24_0
        try clear hfz24_1
        try clear hfz24_2
        try clear hfz24_3
        try clear hfz26_0
        try clear hfz26_1
        try clear hfz26_2
        try clear hfz26_3
        try clear hfz32_0
        try clear hfz32_1
        try clear hfz32_2
        try clear hfz32_3
        try clear hfz38_0
        try clear hfz38_1
        try clear hfz38_2
        try clear hfz38_3
        try clear hfz40_0
        try clear hfz40_1
        try clear hfz40_2
        try clear hfz40_3
        try clear hfz46_0
        try clear hfz46_1
        try clear hfz46_2
        try clear hfz46_3
        try clear hfz51_0
        try clear hfz51_1
        try clear hfz51_2
        try clear hfz51_3
        try clear hfz6_0
        try clear hfz6_1
        try clear hfz6_2
        try clear hfz6_3
        try clear hfz9_0
        try clear hfz9_1
        try clear hfz9_2
        try clear hfz9_3
        try clear hx225_0
        try clear hx225_1
        try clear hx225_2
        try clear hx225_3
        try clear hx247_0
        try clear hx247_1
        try clear hx247_2
        try clear hx247_3
        try clear p2
        try clear p22
        try clear p225
        try clear p247
        try clear p6
        try clear q2
        try clear q22
        try clear q225
        try clear q247
        obtain ⟨kq, x12_42, x247000_42, x247001_42, x247002_42, x247003_42, u247003, rfl, HA, HJ42, HO_1, HO_216003, HO_237003, HO_245003, HO_247003, BK215, BK236, BK244, BK246, HB⟩ := hcut
        cases kq with
        | zero => exact absurd HA.out (by simp [bivouaclaw09_CraterOrders.j3])
        | succ kj42 =>
         have H := HA.out
         clear HA
         simp only [bivouaclaw09_CraterOrders.j3] at H
         by_cases c64 : t235 = 0
         ·
          rw [if_pos c64] at H
          have c64b0 : (t235 == 0) = true := beq_iff_eq.mpr c64
          have c64b1 : (t235 != 0) = false := bne_eq_false_iff_eq.mpr c64
          clear c64
          by_cases c65 : x12_42 = 0
          ·
           rw [if_pos c65] at H
           have c65b0 : (x12_42 == 0) = true := beq_iff_eq.mpr c65
           have c65b1 : (x12_42 != 0) = false := bne_eq_false_iff_eq.mpr c65
           clear c65
           replace H := Option.bind_eq_some_iff.mp H
           obtain ⟨t255, A660, H⟩ := H
           replace H : (if t255 = true then ((bivouaclaw09_awake.f).bind fun t256 => (some t256)) else (if (t222.length : Int) = 0 then ((bivouaclaw09_awake.f).bind fun t257 => (some t257)) else (some false))) = some r := H
           have A66 := Aside0.mk A660
           clear A660
           by_cases c67 : t255 = true
           ·
            subst c67
            have H1 : ((bivouaclaw09_awake.f).bind fun t256 => (some t256)) = some r := by rw [if_pos rfl] at H; exact H
            clear H
            have H := H1
            clear H1
            replace H := Option.bind_eq_some_iff.mp H
            obtain ⟨t256, A680, H⟩ := H
            replace H : (some t256) = some r := H
            have A68 := Aside0.mk A680
            clear A680
            obtain rfl := Option.some.inj H
            have hnb69 := NB246_215.out
            have hnc69 := NB215_246.out
            have hnb70 := NB246_236.out
            have hnc70 := NB236_246.out
            have hnb71 := NB246_244.out
            have hnc71 := NB244_246.out
            have hcz72_0 : wc.cell? ⟨gb246, 0, none⟩ = some (.int .i64 x247000_42) := (blk_cell BK246.out 0).trans rfl
            have hcz72_1 : wc.cell? ⟨gb246, 1, none⟩ = some (.int .i64 x247001_42) := (blk_cell BK246.out 1).trans rfl
            have hcz72_2 : wc.cell? ⟨gb246, 2, none⟩ = some (.int .i64 x247002_42) := (blk_cell BK246.out 2).trans rfl
            have hcz72_3 : wc.cell? ⟨gb246, 3, none⟩ = some (u247003) := (blk_cell BK246.out 3).trans rfl
            have hfz72_0 := blk_frozen BK246.out 0
            have hfz72_1 := blk_frozen BK246.out 1
            have hfz72_2 := blk_frozen BK246.out 2
            have hfz72_3 := blk_frozen BK246.out 3
            have hnb73 := NB236_215.out
            have hnc73 := NB215_236.out
            have hnb74 := NB236_244.out
            have hnc74 := NB244_236.out
            have hcz75_0 : wc.cell? ⟨gb236, 0, none⟩ = some (.int .i64 t229) := (blk_cell BK236.out 0).trans rfl
            have hcz75_1 : wc.cell? ⟨gb236, 1, none⟩ = some (.int .i64 t230) := (blk_cell BK236.out 1).trans rfl
            have hcz75_2 : wc.cell? ⟨gb236, 2, none⟩ = some (.int .i64 t231) := (blk_cell BK236.out 2).trans rfl
            have hcz75_3 : wc.cell? ⟨gb236, 3, none⟩ = some (.slice Ao25 t232.length co25) := (blk_cell BK236.out 3).trans rfl
            have hfz75_0 := blk_frozen BK236.out 0
            have hfz75_1 := blk_frozen BK236.out 1
            have hfz75_2 := blk_frozen BK236.out 2
            have hfz75_3 := blk_frozen BK236.out 3
            obtain ⟨Ao76, co76, eo76⟩ := Kd.V_slice HO_247003.out
            subst eo76
            go_wp2_with (first | (go_at_call 28; (with_reducible refine (bivouacref06_Same.calls x247000_42 x247001_42 x247002_42 _ _ x247003_42 t229 t230 t231 _ _ t232 true _ ?side1 ?side2 ?side3 ?side4 A66.out).mono ?_); (case side1 => repeat (first | exact (Kd.V_reads' HO_247003.out).2.2 | (with_reducible refine Kd.C_alloc ?_ _) | (with_reducible refine Kd.C_drewN ?_ _) | (with_reducible refine Kd.C_drew ?_))); (case side2 => exact (Kd.V_reads' HO_247003.out).2.1); (case side3 => repeat (first | exact (Kd.R_reads' HO_237003.out).2.2 | (with_reducible refine Kd.C_alloc ?_ _) | (with_reducible refine Kd.C_drewN ?_ _) | (with_reducible refine Kd.C_drew ?_))); (case side4 => exact (Kd.R_reads' HO_237003.out).2.1); rintro e w77 ⟨rfl, hb⟩; have n0_ := Aside0.mk (Kd.V_below (by (with_reducible repeat (first | apply Kd.V_alloc | apply Kd.V_drewN | apply Kd.V_drew)); exact HO_1.out) hb); have n1_ := Aside0.mk (Kd.V_below (by (with_reducible repeat (first | apply Kd.V_alloc | apply Kd.V_drewN | apply Kd.V_drew)); exact HO_216003.out) hb); have n2_ := Aside0.mk (Kd.R_below (by (with_reducible repeat (first | apply Kd.R_alloc | apply Kd.R_drewN | apply Kd.R_drew)); exact HO_237003.out) hb); have n3_ := Aside0.mk (Kd.R_below (by (with_reducible repeat (first | apply Kd.R_alloc | apply Kd.R_drewN | apply Kd.R_drew)); exact HO_245003.out) hb); have n4_ := Aside0.mk (Kd.V_below (by (with_reducible repeat (first | apply Kd.V_alloc | apply Kd.V_drewN | apply Kd.V_drew)); exact HO_247003.out) hb); have n5_ := Aside0.mk (blk_below (g := gb215) (o := .cells #[.int .i64 t216, .int .i64 t217, .int .i64 t218, .slice Ao10 t219.length co10] 46 (0, 0)) (by (with_reducible repeat (first | refine blk_drewN ?_ _ | refine blk_drew ?_ | refine blk_alloc ?_ _)); exact BK215.out) hb); have n6_ := Aside0.mk (blk_below (g := gb236) (o := .cells #[.int .i64 t229, .int .i64 t230, .int .i64 t231, .slice Ao25 t232.length co25] 46 (0, 0)) (by (with_reducible repeat (first | refine blk_drewN ?_ _ | refine blk_drew ?_ | refine blk_alloc ?_ _)); exact BK236.out) hb); have n7_ := Aside0.mk (blk_below (g := gb244) (o := .cells #[.int .i64 t237, .int .i64 t238, .int .i64 t239, .slice Ao33 t240.length co33] 46 (0, 0)) (by (with_reducible repeat (first | refine blk_drewN ?_ _ | refine blk_drew ?_ | refine blk_alloc ?_ _)); exact BK244.out) hb); have n8_ := Aside0.mk (blk_below (g := gb246) (o := .cells #[.int .i64 x247000_42, .int .i64 x247001_42, .int .i64 x247002_42, .slice Ao76 x247003_42.length co76] 46 (0, 0)) (by (with_reducible repeat (first | refine blk_drewN ?_ _ | refine blk_drew ?_ | refine blk_alloc ?_ _)); exact BK246.out) hb); have n9_ := Aside0.mk (below_step (by repeat (first | (with_reducible first | exact HB.out | apply below_alloc | apply pw_below_drewN | apply below_drew1 | refine below_set ?_ GE215.out | refine below_set ?_ GE236.out | refine below_set ?_ GE244.out | refine below_set ?_ GE246.out) | exact HB.out)) hb); clear HO_1; clear HO_216003; clear HO_237003; clear HO_245003; clear HO_247003; clear BK215; clear BK236; clear BK244; clear BK246; clear HB; have HO_1 := n0_; have HO_216003 := n1_; have HO_237003 := n2_; have HO_245003 := n3_; have HO_247003 := n4_; have BK215 := n5_; have BK236 := n6_; have BK244 := n7_; have BK246 := n8_; have HB := n9_; clear n0_ n1_ n2_ n3_ n4_ n5_ n6_ n7_ n8_ n9_; (try clear hb); (try clear hb2); (try clear hk); (try clear hi)) | (go_at_call 17; (with_reducible refine (bivouaclaw09_awake.calls  t256 _ A68.out).mono ?_); rintro e w78 ⟨rfl, hb⟩; have n0_ := Aside0.mk (Kd.V_below (by (with_reducible repeat (first | apply Kd.V_alloc | apply Kd.V_drewN | apply Kd.V_drew)); exact HO_1.out) hb); have n1_ := Aside0.mk (Kd.V_below (by (with_reducible repeat (first | apply Kd.V_alloc | apply Kd.V_drewN | apply Kd.V_drew)); exact HO_216003.out) hb); have n2_ := Aside0.mk (Kd.R_below (by (with_reducible repeat (first | apply Kd.R_alloc | apply Kd.R_drewN | apply Kd.R_drew)); exact HO_237003.out) hb); have n3_ := Aside0.mk (Kd.R_below (by (with_reducible repeat (first | apply Kd.R_alloc | apply Kd.R_drewN | apply Kd.R_drew)); exact HO_245003.out) hb); have n4_ := Aside0.mk (Kd.V_below (by (with_reducible repeat (first | apply Kd.V_alloc | apply Kd.V_drewN | apply Kd.V_drew)); exact HO_247003.out) hb); have n5_ := Aside0.mk (blk_below (g := gb215) (o := .cells #[.int .i64 t216, .int .i64 t217, .int .i64 t218, .slice Ao10 t219.length co10] 46 (0, 0)) (by (with_reducible repeat (first | refine blk_drewN ?_ _ | refine blk_drew ?_ | refine blk_alloc ?_ _)); exact BK215.out) hb); have n6_ := Aside0.mk (blk_below (g := gb236) (o := .cells #[.int .i64 t229, .int .i64 t230, .int .i64 t231, .slice Ao25 t232.length co25] 46 (0, 0)) (by (with_reducible repeat (first | refine blk_drewN ?_ _ | refine blk_drew ?_ | refine blk_alloc ?_ _)); exact BK236.out) hb); have n7_ := Aside0.mk (blk_below (g := gb244) (o := .cells #[.int .i64 t237, .int .i64 t238, .int .i64 t239, .slice Ao33 t240.length co33] 46 (0, 0)) (by (with_reducible repeat (first | refine blk_drewN ?_ _ | refine blk_drew ?_ | refine blk_alloc ?_ _)); exact BK244.out) hb); have n8_ := Aside0.mk (blk_below (g := gb246) (o := .cells #[.int .i64 x247000_42, .int .i64 x247001_42, .int .i64 x247002_42, .slice Ao76 x247003_42.length co76] 46 (0, 0)) (by (with_reducible repeat (first | refine blk_drewN ?_ _ | refine blk_drew ?_ | refine blk_alloc ?_ _)); exact BK246.out) hb); have n9_ := Aside0.mk (below_step (by repeat (first | (with_reducible first | exact HB.out | apply below_alloc | apply pw_below_drewN | apply below_drew1 | refine below_set ?_ GE215.out | refine below_set ?_ GE236.out | refine below_set ?_ GE244.out | refine below_set ?_ GE246.out) | exact HB.out)) hb); clear HO_1; clear HO_216003; clear HO_237003; clear HO_245003; clear HO_247003; clear BK215; clear BK236; clear BK244; clear BK246; clear HB; have HO_1 := n0_; have HO_216003 := n1_; have HO_237003 := n2_; have HO_245003 := n3_; have HO_247003 := n4_; have BK215 := n5_; have BK236 := n6_; have BK244 := n7_; have BK246 := n8_; have HB := n9_; clear n0_ n1_ n2_ n3_ n4_ n5_ n6_ n7_ n8_ n9_; (try clear hb); (try clear hb2); (try clear hk); (try clear hi)))
            go_ret
            exact ⟨by first | rfl | (simp [errW_none, errW_some] <;> rfl) | (simp [*, errW_none, errW_some] <;> rfl) | (rw [Int.tdiv_eq_ediv_of_nonneg (by assumption)]; rfl), by repeat (first | (with_reducible first | exact HB.out | apply below_alloc | apply pw_below_drewN | apply below_drew1 | refine below_set ?_ GE215.out | refine below_set ?_ GE236.out | refine below_set ?_ GE244.out | refine below_set ?_ GE246.out) | exact HB.out)⟩
           ·
            replace c67 := Bool.eq_false_iff.mpr c67
            subst c67
            have H1 : (if (t222.length : Int) = 0 then ((bivouaclaw09_awake.f).bind fun t257 => (some t257)) else (some false)) = some r := by rw [if_neg (show ¬ (false = true) by decide)] at H; exact H
            clear H
            have H := H1
            clear H1
            by_cases c79 : (t222.length : Int) = 0
            ·
             rw [if_pos c79] at H
             have c79b0 : ((t222.length : Int) == 0) = true := beq_iff_eq.mpr c79
             have c79b1 : ((t222.length : Int) != 0) = false := bne_eq_false_iff_eq.mpr c79
             clear c79
             replace H := Option.bind_eq_some_iff.mp H
             obtain ⟨t257, A800, H⟩ := H
             replace H : (some t257) = some r := H
             have A80 := Aside0.mk A800
             clear A800
             obtain rfl := Option.some.inj H
             have hnb81 := NB246_215.out
             have hnc81 := NB215_246.out
             have hnb82 := NB246_236.out
             have hnc82 := NB236_246.out
             have hnb83 := NB246_244.out
             have hnc83 := NB244_246.out
             have hcz84_0 : wc.cell? ⟨gb246, 0, none⟩ = some (.int .i64 x247000_42) := (blk_cell BK246.out 0).trans rfl
             have hcz84_1 : wc.cell? ⟨gb246, 1, none⟩ = some (.int .i64 x247001_42) := (blk_cell BK246.out 1).trans rfl
             have hcz84_2 : wc.cell? ⟨gb246, 2, none⟩ = some (.int .i64 x247002_42) := (blk_cell BK246.out 2).trans rfl
             have hcz84_3 : wc.cell? ⟨gb246, 3, none⟩ = some (u247003) := (blk_cell BK246.out 3).trans rfl
             have hfz84_0 := blk_frozen BK246.out 0
             have hfz84_1 := blk_frozen BK246.out 1
             have hfz84_2 := blk_frozen BK246.out 2
             have hfz84_3 := blk_frozen BK246.out 3
             have hnb85 := NB236_215.out
             have hnc85 := NB215_236.out
             have hnb86 := NB236_244.out
             have hnc86 := NB244_236.out
             have hcz87_0 : wc.cell? ⟨gb236, 0, none⟩ = some (.int .i64 t229) := (blk_cell BK236.out 0).trans rfl
             have hcz87_1 : wc.cell? ⟨gb236, 1, none⟩ = some (.int .i64 t230) := (blk_cell BK236.out 1).trans rfl
             have hcz87_2 : wc.cell? ⟨gb236, 2, none⟩ = some (.int .i64 t231) := (blk_cell BK236.out 2).trans rfl
             have hcz87_3 : wc.cell? ⟨gb236, 3, none⟩ = some (.slice Ao25 t232.length co25) := (blk_cell BK236.out 3).trans rfl
             have hfz87_0 := blk_frozen BK236.out 0
             have hfz87_1 := blk_frozen BK236.out 1
             have hfz87_2 := blk_frozen BK236.out 2
             have hfz87_3 := blk_frozen BK236.out 3
             obtain ⟨Ao88, co88, eo88⟩ := Kd.V_slice HO_247003.out
             subst eo88
             go_wp2_with (first | (go_at_call 28; (with_reducible refine (bivouacref06_Same.calls x247000_42 x247001_42 x247002_42 _ _ x247003_42 t229 t230 t231 _ _ t232 false _ ?side1 ?side2 ?side3 ?side4 A66.out).mono ?_); (case side1 => repeat (first | exact (Kd.V_reads' HO_247003.out).2.2 | (with_reducible refine Kd.C_alloc ?_ _) | (with_reducible refine Kd.C_drewN ?_ _) | (with_reducible refine Kd.C_drew ?_))); (case side2 => exact (Kd.V_reads' HO_247003.out).2.1); (case side3 => repeat (first | exact (Kd.R_reads' HO_237003.out).2.2 | (with_reducible refine Kd.C_alloc ?_ _) | (with_reducible refine Kd.C_drewN ?_ _) | (with_reducible refine Kd.C_drew ?_))); (case side4 => exact (Kd.R_reads' HO_237003.out).2.1); rintro e w89 ⟨rfl, hb⟩; have n0_ := Aside0.mk (Kd.V_below (by (with_reducible repeat (first | apply Kd.V_alloc | apply Kd.V_drewN | apply Kd.V_drew)); exact HO_1.out) hb); have n1_ := Aside0.mk (Kd.V_below (by (with_reducible repeat (first | apply Kd.V_alloc | apply Kd.V_drewN | apply Kd.V_drew)); exact HO_216003.out) hb); have n2_ := Aside0.mk (Kd.R_below (by (with_reducible repeat (first | apply Kd.R_alloc | apply Kd.R_drewN | apply Kd.R_drew)); exact HO_237003.out) hb); have n3_ := Aside0.mk (Kd.R_below (by (with_reducible repeat (first | apply Kd.R_alloc | apply Kd.R_drewN | apply Kd.R_drew)); exact HO_245003.out) hb); have n4_ := Aside0.mk (Kd.V_below (by (with_reducible repeat (first | apply Kd.V_alloc | apply Kd.V_drewN | apply Kd.V_drew)); exact HO_247003.out) hb); have n5_ := Aside0.mk (blk_below (g := gb215) (o := .cells #[.int .i64 t216, .int .i64 t217, .int .i64 t218, .slice Ao10 t219.length co10] 46 (0, 0)) (by (with_reducible repeat (first | refine blk_drewN ?_ _ | refine blk_drew ?_ | refine blk_alloc ?_ _)); exact BK215.out) hb); have n6_ := Aside0.mk (blk_below (g := gb236) (o := .cells #[.int .i64 t229, .int .i64 t230, .int .i64 t231, .slice Ao25 t232.length co25] 46 (0, 0)) (by (with_reducible repeat (first | refine blk_drewN ?_ _ | refine blk_drew ?_ | refine blk_alloc ?_ _)); exact BK236.out) hb); have n7_ := Aside0.mk (blk_below (g := gb244) (o := .cells #[.int .i64 t237, .int .i64 t238, .int .i64 t239, .slice Ao33 t240.length co33] 46 (0, 0)) (by (with_reducible repeat (first | refine blk_drewN ?_ _ | refine blk_drew ?_ | refine blk_alloc ?_ _)); exact BK244.out) hb); have n8_ := Aside0.mk (blk_below (g := gb246) (o := .cells #[.int .i64 x247000_42, .int .i64 x247001_42, .int .i64 x247002_42, .slice Ao88 x247003_42.length co88] 46 (0, 0)) (by (with_reducible repeat (first | refine blk_drewN ?_ _ | refine blk_drew ?_ | refine blk_alloc ?_ _)); exact BK246.out) hb); have n9_ := Aside0.mk (below_step (by repeat (first | (with_reducible first | exact HB.out | apply below_alloc | apply pw_below_drewN | apply below_drew1 | refine below_set ?_ GE215.out | refine below_set ?_ GE236.out | refine below_set ?_ GE244.out | refine below_set ?_ GE246.out) | exact HB.out)) hb); clear HO_1; clear HO_216003; clear HO_237003; clear HO_245003; clear HO_247003; clear BK215; clear BK236; clear BK244; clear BK246; clear HB; have HO_1 := n0_; have HO_216003 := n1_; have HO_237003 := n2_; have HO_245003 := n3_; have HO_247003 := n4_; have BK215 := n5_; have BK236 := n6_; have BK244 := n7_; have BK246 := n8_; have HB := n9_; clear n0_ n1_ n2_ n3_ n4_ n5_ n6_ n7_ n8_ n9_; (try clear hb); (try clear hb2); (try clear hk); (try clear hi)) | (go_at_call 17; (with_reducible refine (bivouaclaw09_awake.calls  t257 _ A80.out).mono ?_); rintro e w90 ⟨rfl, hb⟩; have n0_ := Aside0.mk (Kd.V_below (by (with_reducible repeat (first | apply Kd.V_alloc | apply Kd.V_drewN | apply Kd.V_drew)); exact HO_1.out) hb); have n1_ := Aside0.mk (Kd.V_below (by (with_reducible repeat (first | apply Kd.V_alloc | apply Kd.V_drewN | apply Kd.V_drew)); exact HO_216003.out) hb); have n2_ := Aside0.mk (Kd.R_below (by (with_reducible repeat (first | apply Kd.R_alloc | apply Kd.R_drewN | apply Kd.R_drew)); exact HO_237003.out) hb); have n3_ := Aside0.mk (Kd.R_below (by (with_reducible repeat (first | apply Kd.R_alloc | apply Kd.R_drewN | apply Kd.R_drew)); exact HO_245003.out) hb); have n4_ := Aside0.mk (Kd.V_below (by (with_reducible repeat (first | apply Kd.V_alloc | apply Kd.V_drewN | apply Kd.V_drew)); exact HO_247003.out) hb); have n5_ := Aside0.mk (blk_below (g := gb215) (o := .cells #[.int .i64 t216, .int .i64 t217, .int .i64 t218, .slice Ao10 t219.length co10] 46 (0, 0)) (by (with_reducible repeat (first | refine blk_drewN ?_ _ | refine blk_drew ?_ | refine blk_alloc ?_ _)); exact BK215.out) hb); have n6_ := Aside0.mk (blk_below (g := gb236) (o := .cells #[.int .i64 t229, .int .i64 t230, .int .i64 t231, .slice Ao25 t232.length co25] 46 (0, 0)) (by (with_reducible repeat (first | refine blk_drewN ?_ _ | refine blk_drew ?_ | refine blk_alloc ?_ _)); exact BK236.out) hb); have n7_ := Aside0.mk (blk_below (g := gb244) (o := .cells #[.int .i64 t237, .int .i64 t238, .int .i64 t239, .slice Ao33 t240.length co33] 46 (0, 0)) (by (with_reducible repeat (first | refine blk_drewN ?_ _ | refine blk_drew ?_ | refine blk_alloc ?_ _)); exact BK244.out) hb); have n8_ := Aside0.mk (blk_below (g := gb246) (o := .cells #[.int .i64 x247000_42, .int .i64 x247001_42, .int .i64 x247002_42, .slice Ao88 x247003_42.length co88] 46 (0, 0)) (by (with_reducible repeat (first | refine blk_drewN ?_ _ | refine blk_drew ?_ | refine blk_alloc ?_ _)); exact BK246.out) hb); have n9_ := Aside0.mk (below_step (by repeat (first | (with_reducible first | exact HB.out | apply below_alloc | apply pw_below_drewN | apply below_drew1 | refine below_set ?_ GE215.out | refine below_set ?_ GE236.out | refine below_set ?_ GE244.out | refine below_set ?_ GE246.out) | exact HB.out)) hb); clear HO_1; clear HO_216003; clear HO_237003; clear HO_245003; clear HO_247003; clear BK215; clear BK236; clear BK244; clear BK246; clear HB; have HO_1 := n0_; have HO_216003 := n1_; have HO_237003 := n2_; have HO_245003 := n3_; have HO_247003 := n4_; have BK215 := n5_; have BK236 := n6_; have BK244 := n7_; have BK246 := n8_; have HB := n9_; clear n0_ n1_ n2_ n3_ n4_ n5_ n6_ n7_ n8_ n9_; (try clear hb); (try clear hb2); (try clear hk); (try clear hi)))
             go_ret
             exact ⟨by first | rfl | (simp [errW_none, errW_some] <;> rfl) | (simp [*, errW_none, errW_some] <;> rfl) | (rw [Int.tdiv_eq_ediv_of_nonneg (by assumption)]; rfl), by repeat (first | (with_reducible first | exact HB.out | apply below_alloc | apply pw_below_drewN | apply below_drew1 | refine below_set ?_ GE215.out | refine below_set ?_ GE236.out | refine below_set ?_ GE244.out | refine below_set ?_ GE246.out) | exact HB.out)⟩
            ·
             rw [if_neg c79] at H
             have c79b0 : ((t222.length : Int) == 0) = false := beq_eq_false_iff_ne.mpr c79
             have c79b1 : ((t222.length : Int) != 0) = true := bne_iff_ne.mpr c79
             have c79b2 : ¬ (t222 = []) := fun h_ => c79 (by rw [h_]; rfl)
             obtain rfl := Option.some.inj H
             have hnb91 := NB246_215.out
             have hnc91 := NB215_246.out
             have hnb92 := NB246_236.out
             have hnc92 := NB236_246.out
             have hnb93 := NB246_244.out
             have hnc93 := NB244_246.out
             have hcz94_0 : wc.cell? ⟨gb246, 0, none⟩ = some (.int .i64 x247000_42) := (blk_cell BK246.out 0).trans rfl
             have hcz94_1 : wc.cell? ⟨gb246, 1, none⟩ = some (.int .i64 x247001_42) := (blk_cell BK246.out 1).trans rfl
             have hcz94_2 : wc.cell? ⟨gb246, 2, none⟩ = some (.int .i64 x247002_42) := (blk_cell BK246.out 2).trans rfl
             have hcz94_3 : wc.cell? ⟨gb246, 3, none⟩ = some (u247003) := (blk_cell BK246.out 3).trans rfl
             have hfz94_0 := blk_frozen BK246.out 0
             have hfz94_1 := blk_frozen BK246.out 1
             have hfz94_2 := blk_frozen BK246.out 2
             have hfz94_3 := blk_frozen BK246.out 3
             have hnb95 := NB236_215.out
             have hnc95 := NB215_236.out
             have hnb96 := NB236_244.out
             have hnc96 := NB244_236.out
             have hcz97_0 : wc.cell? ⟨gb236, 0, none⟩ = some (.int .i64 t229) := (blk_cell BK236.out 0).trans rfl
             have hcz97_1 : wc.cell? ⟨gb236, 1, none⟩ = some (.int .i64 t230) := (blk_cell BK236.out 1).trans rfl
             have hcz97_2 : wc.cell? ⟨gb236, 2, none⟩ = some (.int .i64 t231) := (blk_cell BK236.out 2).trans rfl
             have hcz97_3 : wc.cell? ⟨gb236, 3, none⟩ = some (.slice Ao25 t232.length co25) := (blk_cell BK236.out 3).trans rfl
             have hfz97_0 := blk_frozen BK236.out 0
             have hfz97_1 := blk_frozen BK236.out 1
             have hfz97_2 := blk_frozen BK236.out 2
             have hfz97_3 := blk_frozen BK236.out 3
             obtain ⟨Ao98, co98, eo98⟩ := Kd.V_slice HO_247003.out
             subst eo98
             go_wp2_with (first | (go_at_call 28; (with_reducible refine (bivouacref06_Same.calls x247000_42 x247001_42 x247002_42 _ _ x247003_42 t229 t230 t231 _ _ t232 false _ ?side1 ?side2 ?side3 ?side4 A66.out).mono ?_); (case side1 => repeat (first | exact (Kd.V_reads' HO_247003.out).2.2 | (with_reducible refine Kd.C_alloc ?_ _) | (with_reducible refine Kd.C_drewN ?_ _) | (with_reducible refine Kd.C_drew ?_))); (case side2 => exact (Kd.V_reads' HO_247003.out).2.1); (case side3 => repeat (first | exact (Kd.R_reads' HO_237003.out).2.2 | (with_reducible refine Kd.C_alloc ?_ _) | (with_reducible refine Kd.C_drewN ?_ _) | (with_reducible refine Kd.C_drew ?_))); (case side4 => exact (Kd.R_reads' HO_237003.out).2.1); rintro e w99 ⟨rfl, hb⟩; have n0_ := Aside0.mk (Kd.V_below (by (with_reducible repeat (first | apply Kd.V_alloc | apply Kd.V_drewN | apply Kd.V_drew)); exact HO_1.out) hb); have n1_ := Aside0.mk (Kd.V_below (by (with_reducible repeat (first | apply Kd.V_alloc | apply Kd.V_drewN | apply Kd.V_drew)); exact HO_216003.out) hb); have n2_ := Aside0.mk (Kd.R_below (by (with_reducible repeat (first | apply Kd.R_alloc | apply Kd.R_drewN | apply Kd.R_drew)); exact HO_237003.out) hb); have n3_ := Aside0.mk (Kd.R_below (by (with_reducible repeat (first | apply Kd.R_alloc | apply Kd.R_drewN | apply Kd.R_drew)); exact HO_245003.out) hb); have n4_ := Aside0.mk (Kd.V_below (by (with_reducible repeat (first | apply Kd.V_alloc | apply Kd.V_drewN | apply Kd.V_drew)); exact HO_247003.out) hb); have n5_ := Aside0.mk (blk_below (g := gb215) (o := .cells #[.int .i64 t216, .int .i64 t217, .int .i64 t218, .slice Ao10 t219.length co10] 46 (0, 0)) (by (with_reducible repeat (first | refine blk_drewN ?_ _ | refine blk_drew ?_ | refine blk_alloc ?_ _)); exact BK215.out) hb); have n6_ := Aside0.mk (blk_below (g := gb236) (o := .cells #[.int .i64 t229, .int .i64 t230, .int .i64 t231, .slice Ao25 t232.length co25] 46 (0, 0)) (by (with_reducible repeat (first | refine blk_drewN ?_ _ | refine blk_drew ?_ | refine blk_alloc ?_ _)); exact BK236.out) hb); have n7_ := Aside0.mk (blk_below (g := gb244) (o := .cells #[.int .i64 t237, .int .i64 t238, .int .i64 t239, .slice Ao33 t240.length co33] 46 (0, 0)) (by (with_reducible repeat (first | refine blk_drewN ?_ _ | refine blk_drew ?_ | refine blk_alloc ?_ _)); exact BK244.out) hb); have n8_ := Aside0.mk (blk_below (g := gb246) (o := .cells #[.int .i64 x247000_42, .int .i64 x247001_42, .int .i64 x247002_42, .slice Ao98 x247003_42.length co98] 46 (0, 0)) (by (with_reducible repeat (first | refine blk_drewN ?_ _ | refine blk_drew ?_ | refine blk_alloc ?_ _)); exact BK246.out) hb); have n9_ := Aside0.mk (below_step (by repeat (first | (with_reducible first | exact HB.out | apply below_alloc | apply pw_below_drewN | apply below_drew1 | refine below_set ?_ GE215.out | refine below_set ?_ GE236.out | refine below_set ?_ GE244.out | refine below_set ?_ GE246.out) | exact HB.out)) hb); clear HO_1; clear HO_216003; clear HO_237003; clear HO_245003; clear HO_247003; clear BK215; clear BK236; clear BK244; clear BK246; clear HB; have HO_1 := n0_; have HO_216003 := n1_; have HO_237003 := n2_; have HO_245003 := n3_; have HO_247003 := n4_; have BK215 := n5_; have BK236 := n6_; have BK244 := n7_; have BK246 := n8_; have HB := n9_; clear n0_ n1_ n2_ n3_ n4_ n5_ n6_ n7_ n8_ n9_; (try clear hb); (try clear hb2); (try clear hk); (try clear hi)))
             go_ret
             exact ⟨by first | rfl | (simp [errW_none, errW_some] <;> rfl) | (simp [*, errW_none, errW_some] <;> rfl) | (rw [Int.tdiv_eq_ediv_of_nonneg (by assumption)]; rfl), by repeat (first | (with_reducible first | exact HB.out | apply below_alloc | apply pw_below_drewN | apply below_drew1 | refine below_set ?_ GE215.out | refine below_set ?_ GE236.out | refine below_set ?_ GE244.out | refine below_set ?_ GE246.out) | exact HB.out)⟩
          ·
           rw [if_neg c65] at H
           have c65b0 : (x12_42 == 0) = false := beq_eq_false_iff_ne.mpr c65
           have c65b1 : (x12_42 != 0) = true := bne_iff_ne.mpr c65
           obtain rfl := Option.some.inj H
           go_wp2
           go_ret
           exact ⟨by first | rfl | (simp [errW_none, errW_some] <;> rfl) | (simp [*, errW_none, errW_some] <;> rfl) | (rw [Int.tdiv_eq_ediv_of_nonneg (by assumption)]; rfl), by repeat (first | (with_reducible first | exact HB.out | apply below_alloc | apply pw_below_drewN | apply below_drew1 | refine below_set ?_ GE215.out | refine below_set ?_ GE236.out | refine below_set ?_ GE244.out | refine below_set ?_ GE246.out) | exact HB.out)⟩
         ·
          rw [if_neg c64] at H
          have c64b0 : (t235 == 0) = false := beq_eq_false_iff_ne.mpr c64
          have c64b1 : (t235 != 0) = true := bne_iff_ne.mpr c64
          by_cases c100 : x12_42 = 0
          ·
           rw [if_pos c100] at H
           have c100b0 : (x12_42 == 0) = true := beq_iff_eq.mpr c100
           have c100b1 : (x12_42 != 0) = false := bne_eq_false_iff_eq.mpr c100
           clear c100
           by_cases c101 : (t222.length : Int) = 0
           ·
            rw [if_pos c101] at H
            have c101b0 : ((t222.length : Int) == 0) = true := beq_iff_eq.mpr c101
            have c101b1 : ((t222.length : Int) != 0) = false := bne_eq_false_iff_eq.mpr c101
            clear c101
            replace H := Option.bind_eq_some_iff.mp H
            obtain ⟨t258, A1020, H⟩ := H
            replace H : (some t258) = some r := H
            have A102 := Aside0.mk A1020
            clear A1020
            obtain rfl := Option.some.inj H
            go_wp2_with (first | (go_at_call 17; (with_reducible refine (bivouaclaw09_awake.calls  t258 _ A102.out).mono ?_); rintro e w103 ⟨rfl, hb⟩; have n0_ := Aside0.mk (Kd.V_below (by (with_reducible repeat (first | apply Kd.V_alloc | apply Kd.V_drewN | apply Kd.V_drew)); exact HO_1.out) hb); have n1_ := Aside0.mk (Kd.V_below (by (with_reducible repeat (first | apply Kd.V_alloc | apply Kd.V_drewN | apply Kd.V_drew)); exact HO_216003.out) hb); have n2_ := Aside0.mk (Kd.R_below (by (with_reducible repeat (first | apply Kd.R_alloc | apply Kd.R_drewN | apply Kd.R_drew)); exact HO_237003.out) hb); have n3_ := Aside0.mk (Kd.R_below (by (with_reducible repeat (first | apply Kd.R_alloc | apply Kd.R_drewN | apply Kd.R_drew)); exact HO_245003.out) hb); have n4_ := Aside0.mk (Kd.V_below (by (with_reducible repeat (first | apply Kd.V_alloc | apply Kd.V_drewN | apply Kd.V_drew)); exact HO_247003.out) hb); have n5_ := Aside0.mk (blk_below (g := gb215) (o := .cells #[.int .i64 t216, .int .i64 t217, .int .i64 t218, .slice Ao10 t219.length co10] 46 (0, 0)) (by (with_reducible repeat (first | refine blk_drewN ?_ _ | refine blk_drew ?_ | refine blk_alloc ?_ _)); exact BK215.out) hb); have n6_ := Aside0.mk (blk_below (g := gb236) (o := .cells #[.int .i64 t229, .int .i64 t230, .int .i64 t231, .slice Ao25 t232.length co25] 46 (0, 0)) (by (with_reducible repeat (first | refine blk_drewN ?_ _ | refine blk_drew ?_ | refine blk_alloc ?_ _)); exact BK236.out) hb); have n7_ := Aside0.mk (blk_below (g := gb244) (o := .cells #[.int .i64 t237, .int .i64 t238, .int .i64 t239, .slice Ao33 t240.length co33] 46 (0, 0)) (by (with_reducible repeat (first | refine blk_drewN ?_ _ | refine blk_drew ?_ | refine blk_alloc ?_ _)); exact BK244.out) hb); have n8_ := Aside0.mk (blk_below (g := gb246) (o := .cells #[.int .i64 x247000_42, .int .i64 x247001_42, .int .i64 x247002_42, u247003] 46 (0, 0)) (by (with_reducible repeat (first | refine blk_drewN ?_ _ | refine blk_drew ?_ | refine blk_alloc ?_ _)); exact BK246.out) hb); have n9_ := Aside0.mk (below_step (by repeat (first | (with_reducible first | exact HB.out | apply below_alloc | apply pw_below_drewN | apply below_drew1 | refine below_set ?_ GE215.out | refine below_set ?_ GE236.out | refine below_set ?_ GE244.out | refine below_set ?_ GE246.out) | exact HB.out)) hb); clear HO_1; clear HO_216003; clear HO_237003; clear HO_245003; clear HO_247003; clear BK215; clear BK236; clear BK244; clear BK246; clear HB; have HO_1 := n0_; have HO_216003 := n1_; have HO_237003 := n2_; have HO_245003 := n3_; have HO_247003 := n4_; have BK215 := n5_; have BK236 := n6_; have BK244 := n7_; have BK246 := n8_; have HB := n9_; clear n0_ n1_ n2_ n3_ n4_ n5_ n6_ n7_ n8_ n9_; (try clear hb); (try clear hb2); (try clear hk); (try clear hi)))
            go_ret
            exact ⟨by first | rfl | (simp [errW_none, errW_some] <;> rfl) | (simp [*, errW_none, errW_some] <;> rfl) | (rw [Int.tdiv_eq_ediv_of_nonneg (by assumption)]; rfl), by repeat (first | (with_reducible first | exact HB.out | apply below_alloc | apply pw_below_drewN | apply below_drew1 | refine below_set ?_ GE215.out | refine below_set ?_ GE236.out | refine below_set ?_ GE244.out | refine below_set ?_ GE246.out) | exact HB.out)⟩
           ·
            rw [if_neg c101] at H
            have c101b0 : ((t222.length : Int) == 0) = false := beq_eq_false_iff_ne.mpr c101
            have c101b1 : ((t222.length : Int) != 0) = true := bne_iff_ne.mpr c101
            have c101b2 : ¬ (t222 = []) := fun h_ => c101 (by rw [h_]; rfl)
            obtain rfl := Option.some.inj H
            go_wp2
            go_ret
            exact ⟨by first | rfl | (simp [errW_none, errW_some] <;> rfl) | (simp [*, errW_none, errW_some] <;> rfl) | (rw [Int.tdiv_eq_ediv_of_nonneg (by assumption)]; rfl), by repeat (first | (with_reducible first | exact HB.out | apply below_alloc | apply pw_below_drewN | apply below_drew1 | refine below_set ?_ GE215.out | refine below_set ?_ GE236.out | refine below_set ?_ GE244.out | refine below_set ?_ GE246.out) | exact HB.out)⟩
          ·
           rw [if_neg c100] at H
           have c100b0 : (x12_42 == 0) = false := beq_eq_false_iff_ne.mpr c100
           have c100b1 : (x12_42 != 0) = true := bne_iff_ne.mpr c100
           replace H := Option.bind_eq_some_iff.mp H
           obtain ⟨t259, A1040, H⟩ := H
           replace H : (some t259) = some r := H
           have A104 := Aside0.mk A1040
           clear A1040
           obtain rfl := Option.some.inj H
           go_wp2_with (first | (go_at_call 17; (with_reducible refine (bivouaclaw09_awake.calls  t259 _ A104.out).mono ?_); rintro e w105 ⟨rfl, hb⟩; have n0_ := Aside0.mk (Kd.V_below (by (with_reducible repeat (first | apply Kd.V_alloc | apply Kd.V_drewN | apply Kd.V_drew)); exact HO_1.out) hb); have n1_ := Aside0.mk (Kd.V_below (by (with_reducible repeat (first | apply Kd.V_alloc | apply Kd.V_drewN | apply Kd.V_drew)); exact HO_216003.out) hb); have n2_ := Aside0.mk (Kd.R_below (by (with_reducible repeat (first | apply Kd.R_alloc | apply Kd.R_drewN | apply Kd.R_drew)); exact HO_237003.out) hb); have n3_ := Aside0.mk (Kd.R_below (by (with_reducible repeat (first | apply Kd.R_alloc | apply Kd.R_drewN | apply Kd.R_drew)); exact HO_245003.out) hb); have n4_ := Aside0.mk (Kd.V_below (by (with_reducible repeat (first | apply Kd.V_alloc | apply Kd.V_drewN | apply Kd.V_drew)); exact HO_247003.out) hb); have n5_ := Aside0.mk (blk_below (g := gb215) (o := .cells #[.int .i64 t216, .int .i64 t217, .int .i64 t218, .slice Ao10 t219.length co10] 46 (0, 0)) (by (with_reducible repeat (first | refine blk_drewN ?_ _ | refine blk_drew ?_ | refine blk_alloc ?_ _)); exact BK215.out) hb); have n6_ := Aside0.mk (blk_below (g := gb236) (o := .cells #[.int .i64 t229, .int .i64 t230, .int .i64 t231, .slice Ao25 t232.length co25] 46 (0, 0)) (by (with_reducible repeat (first | refine blk_drewN ?_ _ | refine blk_drew ?_ | refine blk_alloc ?_ _)); exact BK236.out) hb); have n7_ := Aside0.mk (blk_below (g := gb244) (o := .cells #[.int .i64 t237, .int .i64 t238, .int .i64 t239, .slice Ao33 t240.length co33] 46 (0, 0)) (by (with_reducible repeat (first | refine blk_drewN ?_ _ | refine blk_drew ?_ | refine blk_alloc ?_ _)); exact BK244.out) hb); have n8_ := Aside0.mk (blk_below (g := gb246) (o := .cells #[.int .i64 x247000_42, .int .i64 x247001_42, .int .i64 x247002_42, u247003] 46 (0, 0)) (by (with_reducible repeat (first | refine blk_drewN ?_ _ | refine blk_drew ?_ | refine blk_alloc ?_ _)); exact BK246.out) hb); have n9_ := Aside0.mk (below_step (by repeat (first | (with_reducible first | exact HB.out | apply below_alloc | apply pw_below_drewN | apply below_drew1 | refine below_set ?_ GE215.out | refine below_set ?_ GE236.out | refine below_set ?_ GE244.out | refine below_set ?_ GE246.out) | exact HB.out)) hb); clear HO_1; clear HO_216003; clear HO_237003; clear HO_245003; clear HO_247003; clear BK215; clear BK236; clear BK244; clear BK246; clear HB; have HO_1 := n0_; have HO_216003 := n1_; have HO_237003 := n2_; have HO_245003 := n3_; have HO_247003 := n4_; have BK215 := n5_; have BK236 := n6_; have BK244 := n7_; have BK246 := n8_; have HB := n9_; clear n0_ n1_ n2_ n3_ n4_ n5_ n6_ n7_ n8_ n9_; (try clear hb); (try clear hb2); (try clear hk); (try clear hi)))
           go_ret
           exact ⟨by first | rfl | (simp [errW_none, errW_some] <;> rfl) | (simp [*, errW_none, errW_some] <;> rfl) | (rw [Int.tdiv_eq_ediv_of_nonneg (by assumption)]; rfl), by repeat (first | (with_reducible first | exact HB.out | apply below_alloc | apply pw_below_drewN | apply below_drew1 | refine below_set ?_ GE215.out | refine below_set ?_ GE236.out | refine below_set ?_ GE244.out | refine below_set ?_ GE246.out) | exact HB.out)⟩

/-- THE ONE PURE STATEMENT of bivouaclaw09_CraterOrders. -/
def bivouaclaw09_CraterOrders.Pure : Prop := ∀ (a0_0 : Int) (a0_1 : Int) (a0_2 : Int) (l0_3 : List Int) (l1 : List (S23)), (Lit.int .i64 a0_0).wf = true → (Lit.int .i64 a0_1).wf = true → (Lit.int .i64 a0_2).wf = true → l0_3.length ≤ maxLen → (∀ x ∈ l0_3, (Lit.int .u8 x).wf = true) → l1.length ≤ maxLen → (∀ x ∈ l1, (Lit.int .i64 x.f0).wf = true ∧ (Lit.int .i64 x.f1).wf = true ∧ (Lit.int .i64 x.f2).wf = true ∧ (Lit.int .i64 x.f3).wf = true) → ∃ k, bivouaclaw09_CraterOrders.f k a0_0 a0_1 a0_2 l0_3 l1 = some true
theorem bivouaclaw09_CraterOrders.walked : True := trivial

end Go.Proofs.Ytlhcakepaaeaoaa.PCr
