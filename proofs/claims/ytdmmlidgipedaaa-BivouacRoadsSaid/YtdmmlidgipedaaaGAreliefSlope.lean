/- The contract of relief_Slope: what its call comes to, for every argument, in any memory. -/
import Derived.Test.YtdmmlidgipedaaaPAx0
import Derived.Test.YtdmmlidgipedaaaPAx4
import Derived.Test.YtdmmlidgipedaaaPAx5
import Derived.Test.YtdmmlidgipedaaaPAx7
import Derived.Deep.RegionWith
import Derived.Test.YtdmmlidgipedaaaRd
namespace Go.Proofs.Ytdmmlidgipedaaa.PA
open Go.RowKit Go.Proofs.YtdmmlidgipedaaaW.PrintWords Go.Proofs.YtdmmlidgipedaaaW.PrintLast Go.Proofs.YtdmmlidgipedaaaW.PrintMore
set_option linter.unusedVariables false
set_option linter.unusedSimpArgs false

--import Derived.Test.YtdmmlidgipedaaaRd
--import Derived.Deep.RegionWith
def relief_Slope.f (k : Nat) (a0_0 : Int) (a0_1 : Int) (a0_2 : Int) (l0_3 : List Int) (a1 : Int) (a2 : Int) : Option (Int × Int) := (relief_cell.f k a0_0 a0_1 a0_2 l0_3 a1 a2).bind fun t => some (wrap64 (mx (mx (mx (mx t.1 t.1) t.2.1) t.2.2.1) t.2.2.2.1 - mn (mn (mn (mn t.1 t.1) t.2.1) t.2.2.1) t.2.2.2.1), t.2.2.2.2)
theorem relief_Slope.mono : ∀ a0 a1 a2 a3 a4 a5 k, LeO (relief_Slope.f k a0 a1 a2 a3 a4 a5) (relief_Slope.f (k + 1) a0 a1 a2 a3 a4 a5) := by
  intro a0 a1 a2 a3 a4 a5 k
  exact LeO.bind (relief_cell.mono _ _ _ _ _ _ _) (fun _ => LeO.refl _)
theorem relief_least4 (a b c d : Int) : relief_least.f 9 [a, b, c, d] = some (mn (mn (mn (mn a a) b) c) d) := by
  simp [relief_least.f, relief_least.l0, rd, wrap64]
theorem relief_greatest4 (a b c d : Int) : relief_greatest.f 9 [a, b, c, d] = some (mx (mx (mx (mx a a) b) c) d) := by
  simp [relief_greatest.f, relief_greatest.l0, rd, wrap64]
set_option maxHeartbeats 1000000 in
set_option maxRecDepth 100000 in
theorem relief_Slope.calls (k : Nat) (a0_0 : Int) (a0_1 : Int) (a0_2 : Int) (A0_3 : Option Addr) (c0_3 : Nat) (l0_3 : List Int) (a1 : Int) (a2 : Int) (r1 : Int) (r2 : Int) (w : World) (hr0_3 : Kd.C (Kd.int .u8) w A0_3 l0_3.length l0_3) (hc0_3 : l0_3.length ≤ c0_3) (h : relief_Slope.f k a0_0 a0_1 a0_2 l0_3 a1 a2 = some (r1, r2)) :
    Calls Try.prog 15 #[.agg #[.int .i64 a0_0, .int .i64 a0_1, .int .i64 a0_2, .slice A0_3 l0_3.length c0_3], .int .i64 a1, .int .i64 a2] w fun e w' => e = .returned (.tuple #[.int .i64 r1, .int .i64 r2]) ∧ Below w.heap.size w w' := by
  obtain ⟨⟨t1, t2, t3, t4, t5⟩, ht, h⟩ := Option.bind_eq_some_iff.1 h
  simp only [Option.some.injEq, Prod.mk.injEq] at h
  obtain ⟨rfl, rfl⟩ := h
  have hr1 : Kd.C (Kd.int .u8) (w.alloc (.cells #[.int .i64 a0_0, .int .i64 a0_1, .int .i64 a0_2, .slice A0_3 l0_3.length c0_3] 24)) A0_3 l0_3.length l0_3 := Kd.C_below hr0_3 (below_alloc (Below.refl _ _) _)
  have Ht := Aside0.mk ht
  clear ht
  have Hr := Aside0.mk hr1
  clear hr1 hr0_3
  go_enter Try.func15, Try.ntmps15
  go_wp2_with fail
  refine (relief_cell.calls k a0_0 a0_1 a0_2 _ _ l0_3 a1 a2 t1 t2 t3 t4 t5 _ Hr.out hc0_3 Ht.out).mono ?_
  rintro e w1 ⟨rfl, hb⟩
  have hz : w.heap.size + 1 ≤ w1.heap.size := by have := hb.size; simp at this; omega
  have HB := Aside0.mk hb
  clear hb
  go_wp2_with fail
  have hC : ∀ W : World, Below (w1.heap.size + 1) (w1.alloc (.cells #[.int .i64 t1, .int .i64 t2, .int .i64 t3, .int .i64 t4] 70)) W → Kd.C (Kd.int .i64) W (some ⟨w1.heap.size, 0, none⟩) [t1, t2, t3, t4].length [t1, t2, t3, t4] := fun W hW => Rd.C_new (xs := [t1, t2, t3, t4]) (by simp) hW
  have HC := Aside0.mk hC
  clear hC
  go_region_with (first | (go_at_call 27; refine (relief_greatest.calls 9 _ _ [t1, t2, t3, t4] _ _ (HC.out _ (by exact below_drew (Below.refl _ _))) (Nat.le_refl _) (relief_greatest4 t1 t2 t3 t4)).mono ?_; rintro e w2 ⟨rfl, hb2⟩; have HB2 := Aside0.mk hb2; clear hb2) | (go_at_call 28; refine (relief_least.calls 9 _ _ [t1, t2, t3, t4] _ _ (HC.out _ (by exact ⟨HB2.out.os, HB2.out.tape, HB2.out.output, HB2.out.size, fun i hi => HB2.out.block i (by simpa using hi)⟩)) (Nat.le_refl _) (relief_least4 t1 t2 t3 t4)).mono ?_; rintro e w3 ⟨rfl, hb3⟩; have HB3 := Aside0.mk hb3; clear hb3))
  all_goals
    go_wp2
    go_ret2
    have b1 : Below w.heap.size w w1 := below_then (below_alloc (Below.refl _ _) _) (by simp) HB.out
    have b2 := below_drew (below_alloc b1 (.cells #[.int .i64 t1, .int .i64 t2, .int .i64 t3, .int .i64 t4] 70))
    have b3 := below_then b2 b2.size HB2.out
    refine ⟨?_, below_then b3 b3.size HB3.out⟩
    simp [Act.put, i64_w]

end Go.Proofs.Ytdmmlidgipedaaa.PA
