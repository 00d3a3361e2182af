/- The contract of relief_Depth: what its call comes to, for every argument, in any memory. -/
import Derived.Test.YtdmmlidgipedaaaPAx0
import Derived.Test.YtdmmlidgipedaaaPAx5
import Derived.Test.YtdmmlidgipedaaaPAx7
import Derived.Test.YtdmmlidgipedaaaGAreliefSlope
import Derived.Deep.RegionWith
import Derived.Test.YtdmmlidgipedaaaRd
namespace Go.Proofs.Ytdmmlidgipedaaa.PA
open Go.RowKit Go.Proofs.YtdmmlidgipedaaaW.PrintWords Go.Proofs.YtdmmlidgipedaaaW.PrintLast Go.Proofs.YtdmmlidgipedaaaW.PrintMore
set_option linter.unusedVariables false
set_option linter.unusedSimpArgs false

--import Derived.Test.YtdmmlidgipedaaaRd
--import Derived.Deep.RegionWith
def relief_Depth.f (k : Nat) (a0_0 : Int) (a0_1 : Int) (a0_2 : Int) (l0_3 : List Int) (a1 : Int) (a2 : Int) : Option (Int × Int) := (relief_cell.f k a0_0 a0_1 a0_2 l0_3 a1 a2).bind fun t => if t.2.2.2.2 = 0 then some (mx 0 (wrap64 (a0_2 - mn (mn (mn (mn t.1 t.1) t.2.1) t.2.2.1) t.2.2.2.1)), 0) else some (0, t.2.2.2.2)
theorem relief_Depth.mono : ∀ a0 a1 a2 a3 a4 a5 k, LeO (relief_Depth.f k a0 a1 a2 a3 a4 a5) (relief_Depth.f (k + 1) a0 a1 a2 a3 a4 a5) := by
  intro a0 a1 a2 a3 a4 a5 k
  exact LeO.bind (relief_cell.mono _ _ _ _ _ _ _) (fun _ => LeO.refl _)
theorem relief_least4d (a b c d : Int) : relief_least.f 9 [a, b, c, d] = some (mn (mn (mn (mn a a) b) c) d) := by
  simp [relief_least.f, relief_least.l0, rd, wrap64]
set_option maxHeartbeats 1000000 in
set_option maxRecDepth 100000 in
theorem relief_Depth.calls (k : Nat) (a0_0 : Int) (a0_1 : Int) (a0_2 : Int) (A0_3 : Option Addr) (c0_3 : Nat) (l0_3 : List Int) (a1 : Int) (a2 : Int) (r1 : Int) (r2 : Int) (w : World) (hr0_3 : Kd.C (Kd.int .u8) w A0_3 l0_3.length l0_3) (hc0_3 : l0_3.length ≤ c0_3) (h : relief_Depth.f k a0_0 a0_1 a0_2 l0_3 a1 a2 = some (r1, r2)) :
    Calls Try.prog 16 #[.agg #[.int .i64 a0_0, .int .i64 a0_1, .int .i64 a0_2, .slice A0_3 l0_3.length c0_3], .int .i64 a1, .int .i64 a2] w fun e w' => e = .returned (.tuple #[.int .i64 r1, .int .i64 r2]) ∧ Below w.heap.size w w' := by
  obtain ⟨⟨t1, t2, t3, t4, t5⟩, ht, h⟩ := Option.bind_eq_some_iff.1 h
  have hr1 : Kd.C (Kd.int .u8) (w.alloc (.cells #[.int .i64 a0_0, .int .i64 a0_1, .int .i64 a0_2, .slice A0_3 l0_3.length c0_3] 24)) A0_3 l0_3.length l0_3 := Kd.C_below hr0_3 (below_alloc (Below.refl _ _) _)
  have Ht := Aside0.mk ht
  clear ht
  have Hr := Aside0.mk hr1
  clear hr1 hr0_3
  by_cases h5 : t5 = 0
  · rw [if_pos h5] at h
    subst h5
    simp only [Option.some.injEq, Prod.mk.injEq] at h
    obtain ⟨rfl, rfl⟩ := h
    go_enter Try.func16, Try.ntmps16
    go_wp2_with fail
    refine (relief_cell.calls k a0_0 a0_1 a0_2 _ _ l0_3 a1 a2 t1 t2 t3 t4 0 _ Hr.out hc0_3 Ht.out).mono ?_
    rintro e w1 ⟨rfl, hb⟩
    have hz : w.heap.size + 1 ≤ w1.heap.size := by have := hb.size; simp at this; omega
    have hcell : w1.cell? ⟨w.heap.size, 2, none⟩ = some (.int .i64 a0_2) := by
      rw [hb.cell (p := ⟨w.heap.size, 2, none⟩) (by simp)]
      simp
    have hlt : w.heap.size < w1.heap.size := by omega
    have hne : ¬ w.heap.size = w1.heap.size := by omega
    have HB := Aside0.mk hb
    clear hb
    go_wp2_with fail
    have hcell1 : (w1.alloc (.cells #[.int .i64 t1, .int .i64 t2, .int .i64 t3, .int .i64 t4] 70)).cell? ⟨w.heap.size, 2, none⟩ = some (.int .i64 a0_2) := by
      rw [World.cell?_alloc_old _ _ _ (by simpa using hne)]
      exact hcell
    have hC : ∀ W : World, Below (w1.heap.size + 1) (w1.alloc (.cells #[.int .i64 t1, .int .i64 t2, .int .i64 t3, .int .i64 t4] 70)) W → Kd.C (Kd.int .i64) W (some ⟨w1.heap.size, 0, none⟩) [t1, t2, t3, t4].length [t1, t2, t3, t4] := fun W hW => Rd.C_new (xs := [t1, t2, t3, t4]) (by simp) hW
    have HC := Aside0.mk hC
    clear hC
    go_region_with (first | (go_at_call 28; refine (relief_least.calls 9 _ _ [t1, t2, t3, t4] _ _ (HC.out _ (by first | exact below_drew (Below.refl _ _) | exact Below.refl _ _)) (Nat.le_refl _) (relief_least4d t1 t2 t3 t4)).mono ?_; rintro e w2 ⟨rfl, hb2⟩; have hcell2 : w2.cell? ⟨w.heap.size, 2, none⟩ = some (.int .i64 a0_2) := (by rw [hb2.cell (p := ⟨w.heap.size, 2, none⟩) (by simp; omega)]; go_simp); have HB2 := Aside0.mk hb2; clear hb2))
    all_goals go_wp2
    all_goals
      go_ret2
      have b1 : Below w.heap.size w w1 := below_then (below_alloc (Below.refl _ _) _) (by simp) HB.out
      have b2 := below_drew (below_alloc b1 (.cells #[.int .i64 t1, .int .i64 t2, .int .i64 t3, .int .i64 t4] 70))
      refine ⟨?_, below_then b2 b2.size HB2.out⟩
      simp [Act.put]
      simp only [i64_w] at *
      unfold mx
      split <;> omega
  · rw [if_neg h5] at h
    simp only [Option.some.injEq, Prod.mk.injEq] at h
    obtain ⟨rfl, rfl⟩ := h
    have h5b : (t5 != 0) = true := bne_iff_ne.mpr h5
    go_enter Try.func16, Try.ntmps16
    go_wp2_with fail
    refine (relief_cell.calls k a0_0 a0_1 a0_2 _ _ l0_3 a1 a2 t1 t2 t3 t4 t5 _ Hr.out hc0_3 Ht.out).mono ?_
    rintro e w1 ⟨rfl, hb⟩
    have hz : w.heap.size + 1 ≤ w1.heap.size := by have := hb.size; simp at this; omega
    have HB := Aside0.mk hb
    clear hb
    go_wp2_with fail
    go_ret2
    have b1 : Below w.heap.size w w1 := below_then (below_alloc (Below.refl _ _) _) (by simp) HB.out
    exact ⟨rfl, below_alloc b1 _⟩

end Go.Proofs.Ytdmmlidgipedaaa.PA
