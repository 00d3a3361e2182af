-- WRITTEN BY A PROGRAM OF THIS SESSION (a turned copy of the kit's printer), for this claim. Nothing here is trusted: Lean checks it.
import Derived.Test.YteihieihoeijdaaPAx0
import Derived.Test.YteihieihoeijdaaPAx10
namespace Go.Proofs.Yteihieihoeijdaa.PA
open Go.RowKit Go.Proofs.YteihieihoeijdaaW.PrintWords Go.Proofs.YteihieihoeijdaaW.PrintLast Go.Proofs.YteihieihoeijdaaW.PrintMore
attribute [local go_sem] max2_int min2_int max_two min_two max_three min_three max_four min_four   -- for this text's walks alone
set_option linter.unusedVariables false
set_option linter.unusedSimpArgs false

/-! ### ray_Top: function 52 -/
def ray_Top.f (k : Nat) (a0_0 : Int) (a0_1 : Int) (a0_2 : Int) (l0_3 : List Int) (a1 : Int) (a2 : Int) : Option (Int × Int) := (ray_ends.f k a0_0 a0_1 a0_2 l0_3 a1 a2).bind fun bt164 => (some (bt164.2.1, bt164.2.2))
theorem ray_Top.mono : ∀ a0 a1 a2 a3 a4 a5 k, LeO (ray_Top.f k a0 a1 a2 a3 a4 a5) (ray_Top.f (k + 1) a0 a1 a2 a3 a4 a5) := by
 intro a0 a1 a2 a3 a4 a5 k
 unfold ray_Top.f
 repeat' first
   | (with_reducible exact ray_ends.mono _ _ _ _ _ _ _)
   | (with_reducible exact LeO.refl _)
   | (with_reducible exact LeO.none _)
   | (with_reducible refine LeO.ite ?_ ?_)
   | (with_reducible refine LeO.bind ?_ (fun _ => ?_))
   | exact ray_ends.mono _ _ _ _ _ _ _
   | exact LeO.none _
   | refine LeO.ite ?_ ?_
   | refine LeO.bind ?_ (fun _ => ?_)
set_option maxHeartbeats 8000000 in
set_option maxRecDepth 100000 in
theorem ray_Top.calls (k : Nat) (a0_0 : Int) (a0_1 : Int) (a0_2 : Int) (A0_3 : Option Addr) (c0_3 : Nat) (l0_3 : List Int) (a1 : Int) (a2 : Int) (r1 : Int) (r2 : Int) (w : World) (hr0_3 : Kd.C (Kd.int .u8) w A0_3 l0_3.length l0_3) (hc0_3 : l0_3.length ≤ c0_3) (h : ray_Top.f k a0_0 a0_1 a0_2 l0_3 a1 a2 = some (r1, r2)) :
  Calls Try.prog 52 #[.agg #[.int .i64 a0_0, .int .i64 a0_1, .int .i64 a0_2, .slice A0_3 l0_3.length c0_3], .int .i64 a1, .int .i64 a2] w fun e w' => e = .returned (.tuple #[.int .i64 r1, .int .i64 r2]) ∧ Below w.heap.size w w' := by
 have hu24 := Try.underlying24
 have HR0_3 := zA hr0_3
 have HC0_3 := zA hc0_3
 clear hr0_3 hc0_3
 have HB := zA (Below.refl w.heap.size w)
 have H : ((ray_ends.f k a0_0 a0_1 a0_2 l0_3 a1 a2).bind fun bt164 => (some (bt164.2.1, bt164.2.2))) = some (r1, r2) := h
 clear h
 replace H := Option.bind_eq_some_iff.mp H
 obtain ⟨⟨t164, t165, t166⟩, A40, H⟩ := H
 replace H : (some (t165, t166)) = some (r1, r2) := H
 have A4 := zA A40
 clear A40
 simp only [Option.some.injEq, Prod.mk.injEq] at H
 obtain ⟨rfl, rfl⟩ := H
 go_enter Try.func52, Try.ntmps52
 go_wp2_with (first | ((with_reducible refine gate_dst (N := 3) rfl ?_); refine box_event ?hg (N := 3) ?hd (cs := #[.int .i64 a0_0, .int .i64 a0_1, .int .i64 a0_2, .slice A0_3 l0_3.length c0_3]) (t := 24) ?hr ?_; (case hd => rfl); (case hg => rfl); (case hr => first | (go_simp; done) | (go_simp; rfl)); intro gb163 hg w5 hbox hb; have n0_ := zA (zJ (by repeat (first | (with_reducible first | exact HB.out | apply zF | apply zB | apply zE) | exact HB.out)) hb); have n1_ := zA (hbox); have n2_ := zA ((by rw [hg]; exact (zK (by repeat (first | (with_reducible first | exact HB.out | apply zF | apply zB | apply zE) | exact HB.out))) : w.heap.size ≤ gb163)); have n3_ := zA ((by rw [hg]; exact (zK (by repeat (first | (with_reducible first | exact HB.out | apply zF | apply zB | apply zE) | exact HB.out))) : w.heap.size ≤ gb163)); clear HB; have HB := n0_; have BK163 := n1_; have GW163 := n2_; have GE163 := n3_; clear n0_ n1_ n2_ n3_; clear hb hbox hg; have hcz6_0 : w5.cell? ⟨gb163, 0, none⟩ = some (.int .i64 a0_0) := (zD BK163.out 0).trans rfl; have hcz6_1 : w5.cell? ⟨gb163, 1, none⟩ = some (.int .i64 a0_1) := (zD BK163.out 1).trans rfl; have hcz6_2 : w5.cell? ⟨gb163, 2, none⟩ = some (.int .i64 a0_2) := (zD BK163.out 2).trans rfl; have hcz6_3 : w5.cell? ⟨gb163, 3, none⟩ = some (.slice A0_3 l0_3.length c0_3) := (zD BK163.out 3).trans rfl; have hfz6_0 := zG BK163.out 0; have hfz6_1 := zG BK163.out 1; have hfz6_2 := zG BK163.out 2; have hfz6_3 := zG BK163.out 3) | ((with_reducible refine gate_callee (f := 49) rfl ?_); refine goesL_ (some 15) rfl rfl Try.func49 (by kernel_rfl) rfl #[.agg #[.int .i64 a0_0, .int .i64 a0_1, .int .i64 a0_2, .slice A0_3 l0_3.length c0_3], .int .i64 a1, .int .i64 a2] rfl (by (try simp only [List.map_toArray, List.map_cons, List.map_nil]); first | done | rfl | (simp only [List.length_drop, List.length_take]; rfl)) ?_; (with_reducible refine (ray_ends.calls k a0_0 a0_1 a0_2 _ _ l0_3 a1 a2 t164 t165 t166 _ ?side1 ?side2 A4.out).mono ?_); (case side1 => repeat (first | exact (Kd.C_below HR0_3.out HB.out) | (with_reducible refine Kd.C_alloc ?_ _) | (with_reducible refine Kd.C_drewN ?_ _) | (with_reducible refine Kd.C_drew ?_))); (case side2 => exact HC0_3.out); rintro e w7 ⟨rfl, hb⟩; refine ⟨_, rfl, ?_⟩; have n0_ := zA (zI (g := gb163) (o := .cells #[.int .i64 a0_0, .int .i64 a0_1, .int .i64 a0_2, .slice A0_3 l0_3.length c0_3] 24 (0, 0)) (by (with_reducible repeat (first | refine zN ?_ _ | refine zO ?_ | refine zM ?_ _)); exact BK163.out) hb); have n1_ := zA (zJ (by repeat (first | (with_reducible first | exact HB.out | apply zF | apply zB | apply zE | refine zC ?_ GE163.out) | exact HB.out)) hb); clear BK163; clear HB; have BK163 := n0_; have HB := n1_; clear n0_ n1_; (try clear hb); (try clear hb2); (try clear hk); (try clear hi)))
 go_ret2
 exact ⟨by first | rfl | (simp [zU, zT] <;> rfl) | (simp [*, zU, zT] <;> rfl) | (rw [zW (by assumption)]; rfl), by repeat (first | (with_reducible first | exact HB.out | apply zF | apply zB | apply zE | refine zC ?_ GE163.out) | exact HB.out)⟩

end Go.Proofs.Yteihieihoeijdaa.PA
