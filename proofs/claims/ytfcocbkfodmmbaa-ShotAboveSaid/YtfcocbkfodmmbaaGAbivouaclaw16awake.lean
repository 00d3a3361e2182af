/- The contract of bivouaclaw16_awake: what its call comes to, for every argument, in any memory. -/
import Derived.Test.YtfcocbkfodmmbaaPAx0
import Derived.Test.YtfcocbkfodmmbaaPAx4
import Derived.Test.YtfcocbkfodmmbaaPAx12
import Derived.Test.YtfcocbkfodmmbaaPAx13
import Derived.Outline
import Derived.Test.YtfcocbkfodmmbaaRd
namespace Go.Proofs.Ytfcocbkfodmmbaa.PA
open Go.RowKit Go.Proofs.YtfcocbkfodmmbaaW.PrintWords Go.Proofs.YtfcocbkfodmmbaaW.PrintLast Go.Proofs.YtfcocbkfodmmbaaW.PrintMore
set_option linter.unusedVariables false
set_option linter.unusedSimpArgs false

--import Derived.Outline
--import Derived.Test.YtfcocbkfodmmbaaRd
def bivouaclaw16_awake.f  : Option (Bool) := some true
theorem bivouaclaw16_awake.at : shot_At.f 20 0 0 65536 65536 0 0 3 = some (196608, 0, 62464, 65536, 0, -3072, 0) := by kernel_rfl
theorem bivouaclaw16_awake.fly1 : shot_Fly.f 60 9 9 0 (List.replicate 100 0) 0 0 65536 65536 0 0 1024 = some (9, 3, 589824, 0, 28672, 65536, 0, -9216, 0) := by kernel_rfl
theorem bivouaclaw16_awake.fly2 : shot_Fly.f 60 9 9 0 (List.replicate 100 0) 0 0 1024 0 0 0 9 = some (2, 1, 0, 0, 0, 0, 0, -2048, 0) := by kernel_rfl
set_option maxHeartbeats 4000000 in
set_option maxRecDepth 100000 in
theorem bivouaclaw16_awake.calls  (r : Bool) (w : World) (h : bivouaclaw16_awake.f  = some r) :
    Calls Try.prog 10 #[] w fun e w' => e = .returned (.bool r) ∧ Below w.heap.size w w' := by
  obtain rfl : true = r := Option.some.inj h
  clear h
  go_enter Try.func10, Try.ntmps10
  go_wp2_with fail
  refine (bivouaclaw16_Flat.calls 9 9 0 (List.replicate 100 0) _ rfl).mono ?_
  rintro e w1 ⟨v3, rfl, hR, hb⟩
  obtain ⟨g, c, e3, -, -, -, -⟩ := Kd.R_form hR (by decide)
  subst e3
  have hC := (Kd.R_reads' hR).2.2
  have hc := (Kd.R_reads' hR).2.1
  have HB := Aside0.mk hb
  have HC := Aside0.mk hC
  have HCc := Aside0.mk hc
  clear hb hC hR hc
  go_wp2_with fail
  refine (shot_At.calls 20 0 0 65536 65536 0 0 3 196608 0 62464 65536 0 (-3072) 0 _ bivouaclaw16_awake.at).mono ?_
  rintro e w2 ⟨rfl, hb2⟩
  have hz2 : w1.heap.size < w2.heap.size := by have := hb2.size; simp at this; omega
  have hn2 : ¬ w1.heap.size = w2.heap.size := by omega
  have HC2 := Aside0.mk (Kd.C_below (Kd.C_below HC.out (below_alloc (Below.refl _ _) _)) hb2)
  have n12 := Rd.below_new hb2
  have ha2_0 : w2.cell? ⟨w1.heap.size, 0, none⟩ = some (.int .i64 9) := Rd.cell_new n12 0 rfl
  have ha2_1 : w2.cell? ⟨w1.heap.size, 1, none⟩ = some (.int .i64 9) := Rd.cell_new n12 1 rfl
  have ha2_2 : w2.cell? ⟨w1.heap.size, 2, none⟩ = some (.int .i64 0) := Rd.cell_new n12 2 rfl
  have ha2_3 : w2.cell? ⟨w1.heap.size, 3, none⟩ = some (.slice (some ⟨g, 0, none⟩) 100 c) := Rd.cell_new n12 3 rfl
  have HB2 := Aside0.mk hb2
  have N12 := Aside0.mk n12
  clear n12
  clear hb2
  go_wp2_with fail
  refine (shot_Fly.calls 60 9 9 0 _ _ (List.replicate 100 0) 0 0 65536 65536 0 0 1024 9 3 589824 0 28672 65536 0 (-9216) 0 _ (Kd.C_below HC2.out (below_alloc (Below.refl _ _) _)) HCc.out bivouaclaw16_awake.fly1).mono ?_
  rintro e w3 ⟨rfl, hb3⟩
  have hz3 : w2.heap.size < w3.heap.size := by have := hb3.size; simp at this; omega
  have hn3 : ¬ w2.heap.size = w3.heap.size := by omega
  have hz31 : w1.heap.size < w3.heap.size := by omega
  have HC3 := Aside0.mk (Kd.C_below (Kd.C_below HC2.out (below_alloc (Below.refl _ _) _)) hb3)
  have n13 := Rd.chain N12.out (by omega) _ hb3
  have n23 := Rd.below_new hb3
  have ha3_0 : w3.cell? ⟨w1.heap.size, 0, none⟩ = some (.int .i64 9) := Rd.cell_new n13 0 rfl
  have ha3_1 : w3.cell? ⟨w1.heap.size, 1, none⟩ = some (.int .i64 9) := Rd.cell_new n13 1 rfl
  have ha3_2 : w3.cell? ⟨w1.heap.size, 2, none⟩ = some (.int .i64 0) := Rd.cell_new n13 2 rfl
  have ha3_3 : w3.cell? ⟨w1.heap.size, 3, none⟩ = some (.slice (some ⟨g, 0, none⟩) 100 c) := Rd.cell_new n13 3 rfl
  have hb3_0 : w3.cell? ⟨w2.heap.size, 0, none⟩ = some (.int .i64 196608) := Rd.cell_new n23 0 rfl
  have hb3_1 : w3.cell? ⟨w2.heap.size, 1, none⟩ = some (.int .i64 0) := Rd.cell_new n23 1 rfl
  have hb3_2 : w3.cell? ⟨w2.heap.size, 2, none⟩ = some (.int .i64 62464) := Rd.cell_new n23 2 rfl
  have hb3_3 : w3.cell? ⟨w2.heap.size, 3, none⟩ = some (.int .i64 65536) := Rd.cell_new n23 3 rfl
  have hb3_4 : w3.cell? ⟨w2.heap.size, 4, none⟩ = some (.int .i64 0) := Rd.cell_new n23 4 rfl
  have hb3_5 : w3.cell? ⟨w2.heap.size, 5, none⟩ = some (.int .i64 (-3072)) := Rd.cell_new n23 5 rfl
  have HB3 := Aside0.mk hb3
  have N13 := Aside0.mk n13
  have N23 := Aside0.mk n23
  clear n13 n23
  clear hb3
  go_wp2_with fail
  refine (shot_Fly.calls 60 9 9 0 _ _ (List.replicate 100 0) 0 0 1024 0 0 0 9 2 1 0 0 0 0 0 (-2048) 0 _ (Kd.C_below HC3.out (below_alloc (Below.refl _ _) _)) HCc.out bivouaclaw16_awake.fly2).mono ?_
  rintro e w4 ⟨rfl, hb4⟩
  have hz4 : w3.heap.size < w4.heap.size := by have := hb4.size; simp at this; omega
  have hn4 : ¬ w3.heap.size = w4.heap.size := by omega
  have hz42 : w2.heap.size < w4.heap.size := by omega
  have hz41 : w1.heap.size < w4.heap.size := by omega
  have n24 := Rd.chain N23.out (by omega) _ hb4
  have n34 := Rd.below_new hb4
  have hb4_0 : w4.cell? ⟨w2.heap.size, 0, none⟩ = some (.int .i64 196608) := Rd.cell_new n24 0 rfl
  have hb4_1 : w4.cell? ⟨w2.heap.size, 1, none⟩ = some (.int .i64 0) := Rd.cell_new n24 1 rfl
  have hb4_2 : w4.cell? ⟨w2.heap.size, 2, none⟩ = some (.int .i64 62464) := Rd.cell_new n24 2 rfl
  have hb4_3 : w4.cell? ⟨w2.heap.size, 3, none⟩ = some (.int .i64 65536) := Rd.cell_new n24 3 rfl
  have hb4_4 : w4.cell? ⟨w2.heap.size, 4, none⟩ = some (.int .i64 0) := Rd.cell_new n24 4 rfl
  have hb4_5 : w4.cell? ⟨w2.heap.size, 5, none⟩ = some (.int .i64 (-3072)) := Rd.cell_new n24 5 rfl
  have hc4_0 : w4.cell? ⟨w3.heap.size, 0, none⟩ = some (.int .i64 9) := Rd.cell_new n34 0 rfl
  have hc4_1 : w4.cell? ⟨w3.heap.size, 1, none⟩ = some (.int .i64 3) := Rd.cell_new n34 1 rfl
  have hc4_2 : w4.cell? ⟨w3.heap.size, 2, none⟩ = some (.int .i64 589824) := Rd.cell_new n34 2 rfl
  have hc4_3 : w4.cell? ⟨w3.heap.size, 3, none⟩ = some (.int .i64 0) := Rd.cell_new n34 3 rfl
  have hc4_4 : w4.cell? ⟨w3.heap.size, 4, none⟩ = some (.int .i64 28672) := Rd.cell_new n34 4 rfl
  have hc4_5 : w4.cell? ⟨w3.heap.size, 5, none⟩ = some (.int .i64 65536) := Rd.cell_new n34 5 rfl
  have hc4_6 : w4.cell? ⟨w3.heap.size, 6, none⟩ = some (.int .i64 0) := Rd.cell_new n34 6 rfl
  have hc4_7 : w4.cell? ⟨w3.heap.size, 7, none⟩ = some (.int .i64 (-9216)) := Rd.cell_new n34 7 rfl
  have HB4 := Aside0.mk hb4
  clear n24 n34
  clear hb4
  have heq : ∀ W : World, (binOp .eql 27 (.agg #[.int .i64 196608, .int .i64 0, .int .i64 62464, .int .i64 65536, .int .i64 0, .int .i64 (-3072)]) (.agg #[.int .i64 196608, .int .i64 0, .int .i64 62464, .int .i64 65536, .int .i64 0, .int .i64 (-3072)])).run Try.prog W = .ok (.bool true) W := fun W => by kernel_rfl
  go_wp2_with fail
  go_ret
  exact ⟨rfl, by
    have e0 := below_alloc HB.out (.cells #[.int .i64 9, .int .i64 9, .int .i64 0, .slice (some ⟨g, 0, none⟩) 100 c] 25)
    have e1 := below_then e0 e0.size HB2.out
    have e2 := below_alloc e1 (.cells #[.int .i64 196608, .int .i64 0, .int .i64 62464, .int .i64 65536, .int .i64 0, .int .i64 (-3072)] 27)
    have e3 := below_then e2 e2.size HB3.out
    have e4 := below_alloc e3 (.cells #[.int .i64 9, .int .i64 3, .int .i64 589824, .int .i64 0, .int .i64 28672, .int .i64 65536, .int .i64 0, .int .i64 (-9216)] 38)
    have e5 := below_then e4 e4.size HB4.out
    exact below_alloc e5 _⟩

end Go.Proofs.Ytfcocbkfodmmbaa.PA
