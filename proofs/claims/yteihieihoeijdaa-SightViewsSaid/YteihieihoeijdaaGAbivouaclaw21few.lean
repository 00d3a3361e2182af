/- The contract of bivouaclaw21_few: what its call comes to, for every argument, in any memory. -/
import Derived.Test.YteihieihoeijdaaPAx0
import Derived.Test.YteihieihoeijdaaRd
namespace Go.Proofs.Yteihieihoeijdaa.PA
open Go.RowKit Go.Proofs.YteihieihoeijdaaW.PrintWords Go.Proofs.YteihieihoeijdaaW.PrintLast Go.Proofs.YteihieihoeijdaaW.PrintMore
set_option linter.unusedVariables false
set_option linter.unusedSimpArgs false

--import Derived.Test.YteihieihoeijdaaRd
def bivouaclaw21_few.f (a0_0 : Int) (a0_1 : Int) (a0_2 : Int) (l0_3 : List Int) (l0_4 : List (S27)) (a0_5 : Int) (a0_6 : Int) (a0_7 : Int) (a0_8 : Int) (a0_9 : Int) (a0_10 : Int) (a0_11 : Int) (a0_12 : Int) (a0_13 : Int) (a0_14 : Int) : Option (Int × Int × Int × List Int × (List (S27)) × Int × Int × Int × Int × Int × Int × Int × Int × Int × Int) := some (a0_0, a0_1, a0_2, l0_3.take 4300, l0_4.take 66, a0_5, a0_6, a0_7, a0_8, a0_9, a0_10, a0_11, a0_12, a0_13, a0_14)
theorem blk_all15 {w : World} {g t : Nat} {c0 c1 c2 c3 c4 c5 c6 c7 c8 c9 c10 c11 c12 c13 c14 v0 v1 v2 v3 v4 v5 v6 v7 v8 v9 v10 v11 v12 v13 v14 : Value} (h : w.heap[g]? = some (.cells #[c0, c1, c2, c3, c4, c5, c6, c7, c8, c9, c10, c11, c12, c13, c14] t (0, 0))) : (((((((((((((((w.setCell ⟨g, 0, none⟩ v0).setCell ⟨g, 1, none⟩ v1).setCell ⟨g, 2, none⟩ v2).setCell ⟨g, 3, none⟩ v3).setCell ⟨g, 4, none⟩ v4).setCell ⟨g, 5, none⟩ v5).setCell ⟨g, 6, none⟩ v6).setCell ⟨g, 7, none⟩ v7).setCell ⟨g, 8, none⟩ v8).setCell ⟨g, 9, none⟩ v9).setCell ⟨g, 10, none⟩ v10).setCell ⟨g, 11, none⟩ v11).setCell ⟨g, 12, none⟩ v12).setCell ⟨g, 13, none⟩ v13).setCell ⟨g, 14, none⟩ v14).heap[g]? = some (.cells #[v0, v1, v2, v3, v4, v5, v6, v7, v8, v9, v10, v11, v12, v13, v14] t (0, 0)) := by
  have h0 : (w.setCell ⟨g, 0, none⟩ v0).heap[g]? = some (.cells #[v0, c1, c2, c3, c4, c5, c6, c7, c8, c9, c10, c11, c12, c13, c14] t (0, 0)) := zZ h 0 _ rfl
  have h1 : ((w.setCell ⟨g, 0, none⟩ v0).setCell ⟨g, 1, none⟩ v1).heap[g]? = some (.cells #[v0, v1, c2, c3, c4, c5, c6, c7, c8, c9, c10, c11, c12, c13, c14] t (0, 0)) := zZ h0 1 _ rfl
  have h2 : (((w.setCell ⟨g, 0, none⟩ v0).setCell ⟨g, 1, none⟩ v1).setCell ⟨g, 2, none⟩ v2).heap[g]? = some (.cells #[v0, v1, v2, c3, c4, c5, c6, c7, c8, c9, c10, c11, c12, c13, c14] t (0, 0)) := zZ h1 2 _ rfl
  have h3 : ((((w.setCell ⟨g, 0, none⟩ v0).setCell ⟨g, 1, none⟩ v1).setCell ⟨g, 2, none⟩ v2).setCell ⟨g, 3, none⟩ v3).heap[g]? = some (.cells #[v0, v1, v2, v3, c4, c5, c6, c7, c8, c9, c10, c11, c12, c13, c14] t (0, 0)) := zZ h2 3 _ rfl
  have h4 : (((((w.setCell ⟨g, 0, none⟩ v0).setCell ⟨g, 1, none⟩ v1).setCell ⟨g, 2, none⟩ v2).setCell ⟨g, 3, none⟩ v3).setCell ⟨g, 4, none⟩ v4).heap[g]? = some (.cells #[v0, v1, v2, v3, v4, c5, c6, c7, c8, c9, c10, c11, c12, c13, c14] t (0, 0)) := zZ h3 4 _ rfl
  have h5 : ((((((w.setCell ⟨g, 0, none⟩ v0).setCell ⟨g, 1, none⟩ v1).setCell ⟨g, 2, none⟩ v2).setCell ⟨g, 3, none⟩ v3).setCell ⟨g, 4, none⟩ v4).setCell ⟨g, 5, none⟩ v5).heap[g]? = some (.cells #[v0, v1, v2, v3, v4, v5, c6, c7, c8, c9, c10, c11, c12, c13, c14] t (0, 0)) := zZ h4 5 _ rfl
  have h6 : (((((((w.setCell ⟨g, 0, none⟩ v0).setCell ⟨g, 1, none⟩ v1).setCell ⟨g, 2, none⟩ v2).setCell ⟨g, 3, none⟩ v3).setCell ⟨g, 4, none⟩ v4).setCell ⟨g, 5, none⟩ v5).setCell ⟨g, 6, none⟩ v6).heap[g]? = some (.cells #[v0, v1, v2, v3, v4, v5, v6, c7, c8, c9, c10, c11, c12, c13, c14] t (0, 0)) := zZ h5 6 _ rfl
  have h7 : ((((((((w.setCell ⟨g, 0, none⟩ v0).setCell ⟨g, 1, none⟩ v1).setCell ⟨g, 2, none⟩ v2).setCell ⟨g, 3, none⟩ v3).setCell ⟨g, 4, none⟩ v4).setCell ⟨g, 5, none⟩ v5).setCell ⟨g, 6, none⟩ v6).setCell ⟨g, 7, none⟩ v7).heap[g]? = some (.cells #[v0, v1, v2, v3, v4, v5, v6, v7, c8, c9, c10, c11, c12, c13, c14] t (0, 0)) := zZ h6 7 _ rfl
  have h8 : (((((((((w.setCell ⟨g, 0, none⟩ v0).setCell ⟨g, 1, none⟩ v1).setCell ⟨g, 2, none⟩ v2).setCell ⟨g, 3, none⟩ v3).setCell ⟨g, 4, none⟩ v4).setCell ⟨g, 5, none⟩ v5).setCell ⟨g, 6, none⟩ v6).setCell ⟨g, 7, none⟩ v7).setCell ⟨g, 8, none⟩ v8).heap[g]? = some (.cells #[v0, v1, v2, v3, v4, v5, v6, v7, v8, c9, c10, c11, c12, c13, c14] t (0, 0)) := zZ h7 8 _ rfl
  have h9 : ((((((((((w.setCell ⟨g, 0, none⟩ v0).setCell ⟨g, 1, none⟩ v1).setCell ⟨g, 2, none⟩ v2).setCell ⟨g, 3, none⟩ v3).setCell ⟨g, 4, none⟩ v4).setCell ⟨g, 5, none⟩ v5).setCell ⟨g, 6, none⟩ v6).setCell ⟨g, 7, none⟩ v7).setCell ⟨g, 8, none⟩ v8).setCell ⟨g, 9, none⟩ v9).heap[g]? = some (.cells #[v0, v1, v2, v3, v4, v5, v6, v7, v8, v9, c10, c11, c12, c13, c14] t (0, 0)) := zZ h8 9 _ rfl
  have h10 : (((((((((((w.setCell ⟨g, 0, none⟩ v0).setCell ⟨g, 1, none⟩ v1).setCell ⟨g, 2, none⟩ v2).setCell ⟨g, 3, none⟩ v3).setCell ⟨g, 4, none⟩ v4).setCell ⟨g, 5, none⟩ v5).setCell ⟨g, 6, none⟩ v6).setCell ⟨g, 7, none⟩ v7).setCell ⟨g, 8, none⟩ v8).setCell ⟨g, 9, none⟩ v9).setCell ⟨g, 10, none⟩ v10).heap[g]? = some (.cells #[v0, v1, v2, v3, v4, v5, v6, v7, v8, v9, v10, c11, c12, c13, c14] t (0, 0)) := zZ h9 10 _ rfl
  have h11 : ((((((((((((w.setCell ⟨g, 0, none⟩ v0).setCell ⟨g, 1, none⟩ v1).setCell ⟨g, 2, none⟩ v2).setCell ⟨g, 3, none⟩ v3).setCell ⟨g, 4, none⟩ v4).setCell ⟨g, 5, none⟩ v5).setCell ⟨g, 6, none⟩ v6).setCell ⟨g, 7, none⟩ v7).setCell ⟨g, 8, none⟩ v8).setCell ⟨g, 9, none⟩ v9).setCell ⟨g, 10, none⟩ v10).setCell ⟨g, 11, none⟩ v11).heap[g]? = some (.cells #[v0, v1, v2, v3, v4, v5, v6, v7, v8, v9, v10, v11, c12, c13, c14] t (0, 0)) := zZ h10 11 _ rfl
  have h12 : (((((((((((((w.setCell ⟨g, 0, none⟩ v0).setCell ⟨g, 1, none⟩ v1).setCell ⟨g, 2, none⟩ v2).setCell ⟨g, 3, none⟩ v3).setCell ⟨g, 4, none⟩ v4).setCell ⟨g, 5, none⟩ v5).setCell ⟨g, 6, none⟩ v6).setCell ⟨g, 7, none⟩ v7).setCell ⟨g, 8, none⟩ v8).setCell ⟨g, 9, none⟩ v9).setCell ⟨g, 10, none⟩ v10).setCell ⟨g, 11, none⟩ v11).setCell ⟨g, 12, none⟩ v12).heap[g]? = some (.cells #[v0, v1, v2, v3, v4, v5, v6, v7, v8, v9, v10, v11, v12, c13, c14] t (0, 0)) := zZ h11 12 _ rfl
  have h13 : ((((((((((((((w.setCell ⟨g, 0, none⟩ v0).setCell ⟨g, 1, none⟩ v1).setCell ⟨g, 2, none⟩ v2).setCell ⟨g, 3, none⟩ v3).setCell ⟨g, 4, none⟩ v4).setCell ⟨g, 5, none⟩ v5).setCell ⟨g, 6, none⟩ v6).setCell ⟨g, 7, none⟩ v7).setCell ⟨g, 8, none⟩ v8).setCell ⟨g, 9, none⟩ v9).setCell ⟨g, 10, none⟩ v10).setCell ⟨g, 11, none⟩ v11).setCell ⟨g, 12, none⟩ v12).setCell ⟨g, 13, none⟩ v13).heap[g]? = some (.cells #[v0, v1, v2, v3, v4, v5, v6, v7, v8, v9, v10, v11, v12, v13, c14] t (0, 0)) := zZ h12 13 _ rfl
  have h14 : (((((((((((((((w.setCell ⟨g, 0, none⟩ v0).setCell ⟨g, 1, none⟩ v1).setCell ⟨g, 2, none⟩ v2).setCell ⟨g, 3, none⟩ v3).setCell ⟨g, 4, none⟩ v4).setCell ⟨g, 5, none⟩ v5).setCell ⟨g, 6, none⟩ v6).setCell ⟨g, 7, none⟩ v7).setCell ⟨g, 8, none⟩ v8).setCell ⟨g, 9, none⟩ v9).setCell ⟨g, 10, none⟩ v10).setCell ⟨g, 11, none⟩ v11).setCell ⟨g, 12, none⟩ v12).setCell ⟨g, 13, none⟩ v13).setCell ⟨g, 14, none⟩ v14).heap[g]? = some (.cells #[v0, v1, v2, v3, v4, v5, v6, v7, v8, v9, v10, v11, v12, v13, v14] t (0, 0)) := zZ h13 14 _ rfl
  exact h14
theorem bivouaclaw21_few.cut {α : Type} {d : Kd α} {e : Nat} {W : World} {base : Nat} {ok : Nat → Prop} {A : Option Addr} {c : Nat} {xs : List α} (h : Kd.V d e W base ok (.slice A xs.length c) xs) (m : Nat) : Kd.V d e W base ok (.slice A (xs.take m).length c) (xs.take m) := by
  rcases Nat.le_total m xs.length with hm | hm
  · exact Kd.V_mk (by rw [List.length_take]; have := (Kd.V_reads' h).2.1; omega) (Kd.F_take (Kd.V_F h) hm)
  · rw [List.take_of_length_le hm]; exact h
set_option maxHeartbeats 8000000 in
set_option maxRecDepth 100000 in
theorem bivouaclaw21_few.calls (a0_0 : Int) (a0_1 : Int) (a0_2 : Int) (P0_3_ : Nat → Prop) (A0_3 : Option Addr) (c0_3 : Nat) (l0_3 : List Int) (P0_4_ : Nat → Prop) (A0_4 : Option Addr) (c0_4 : Nat) (l0_4 : List (S27)) (a0_5 : Int) (a0_6 : Int) (a0_7 : Int) (a0_8 : Int) (a0_9 : Int) (a0_10 : Int) (a0_11 : Int) (a0_12 : Int) (a0_13 : Int) (a0_14 : Int) (r1 : Int) (r2 : Int) (r3 : Int) (r4 : List Int) (r5 : List (S27)) (r6 : Int) (r7 : Int) (r8 : Int) (r9 : Int) (r10 : Int) (r11 : Int) (r12 : Int) (r13 : Int) (r14 : Int) (r15 : Int) (w : World) (hs0_3 : Kd.V (Kd.int .u8) 5 w w.heap.size (fun k_ => P0_3_ k_) (.slice A0_3 l0_3.length c0_3) l0_3) (hs0_4 : Kd.V k27 27 w w.heap.size (fun k_ => P0_4_ k_) (.slice A0_4 l0_4.length c0_4) l0_4) (h : bivouaclaw21_few.f a0_0 a0_1 a0_2 l0_3 l0_4 a0_5 a0_6 a0_7 a0_8 a0_9 a0_10 a0_11 a0_12 a0_13 a0_14 = some (r1, r2, r3, r4, r5, r6, r7, r8, r9, r10, r11, r12, r13, r14, r15)) :
    Calls Try.prog 8 #[.agg #[.int .i64 a0_0, .int .i64 a0_1, .int .i64 a0_2, .slice A0_3 l0_3.length c0_3, .slice A0_4 l0_4.length c0_4, .int .i64 a0_5, .int .i64 a0_6, .int .i64 a0_7, .int .i64 a0_8, .int .i64 a0_9, .int .i64 a0_10, .int .i64 a0_11, .int .i64 a0_12, .int .i64 a0_13, .int .i64 a0_14]] w fun e w' => ∃ v3_ v4_ : Value, e = .returned (.agg #[.int .i64 r1, .int .i64 r2, .int .i64 r3, v3_, v4_, .int .i64 r6, .int .i64 r7, .int .i64 r8, .int .i64 r9, .int .i64 r10, .int .i64 r11, .int .i64 r12, .int .i64 r13, .int .i64 r14, .int .i64 r15]) ∧ Kd.V (Kd.int .u8) 5 w' w.heap.size (fun k_ => ((P0_3_ k_ ∨ P0_4_ k_) ∨ w.heap.size ≤ k_)) v3_ r4 ∧ Kd.V k27 27 w' w.heap.size (fun k_ => ((P0_3_ k_ ∨ P0_4_ k_) ∨ w.heap.size ≤ k_)) v4_ r5 ∧ Below w.heap.size w w' := by
  unfold bivouaclaw21_few.f at h
  simp only [Option.some.injEq, Prod.mk.injEq] at h
  obtain ⟨rfl, rfl, rfl, rfl, rfl, rfl, rfl, rfl, rfl, rfl, rfl, rfl, rfl, rfl, rfl⟩ := h
  have HV3 := zA hs0_3
  have HV4 := zA hs0_4
  have hc3 := (Kd.V_reads' hs0_3).2.1
  have hc4 := (Kd.V_reads' hs0_4).2.1
  clear hs0_3 hs0_4
  have HB := zA (Below.refl w.heap.size w)
  obtain ⟨i3, hi3, _⟩ := info_parts info5
  obtain ⟨i4, hi4, _⟩ := info_parts info27
  go_enter Try.func8, Try.ntmps8
  go_upto_if 7 with (first | ((with_reducible refine gate_dst (N := 1) rfl ?_); refine box_event ?hg (N := 1) ?hd (cs := #[.int .i64 a0_0, .int .i64 a0_1, .int .i64 a0_2, .slice A0_3 l0_3.length c0_3, .slice A0_4 l0_4.length c0_4, .int .i64 a0_5, .int .i64 a0_6, .int .i64 a0_7, .int .i64 a0_8, .int .i64 a0_9, .int .i64 a0_10, .int .i64 a0_11, .int .i64 a0_12, .int .i64 a0_13, .int .i64 a0_14]) (t := 29) ?hr ?_; (case hd => rfl); (case hg => rfl); (case hr => first | (go_simp; done) | (go_simp; rfl)); intro gx hg ww1 hbox hb; have Gx : Aside0 (w.heap.size ≤ gx) := ⟨by have := HB.out.size; omega⟩; have Kx := zA hbox; have KK := zA (zJ HB.out hb); clear HB; have HB := KK; clear KK; clear hb hbox hg; have zx_0 : ww1.cell? ⟨gx, 0, none⟩ = some (.int .i64 a0_0) := (zD Kx.out 0).trans rfl; have fx_0 := zG Kx.out 0; have zx_1 : ww1.cell? ⟨gx, 1, none⟩ = some (.int .i64 a0_1) := (zD Kx.out 1).trans rfl; have fx_1 := zG Kx.out 1; have zx_2 : ww1.cell? ⟨gx, 2, none⟩ = some (.int .i64 a0_2) := (zD Kx.out 2).trans rfl; have fx_2 := zG Kx.out 2; have zx_3 : ww1.cell? ⟨gx, 3, none⟩ = some (.slice A0_3 l0_3.length c0_3) := (zD Kx.out 3).trans rfl; have fx_3 := zG Kx.out 3; have zx_4 : ww1.cell? ⟨gx, 4, none⟩ = some (.slice A0_4 l0_4.length c0_4) := (zD Kx.out 4).trans rfl; have fx_4 := zG Kx.out 4; have zx_5 : ww1.cell? ⟨gx, 5, none⟩ = some (.int .i64 a0_5) := (zD Kx.out 5).trans rfl; have fx_5 := zG Kx.out 5; have zx_6 : ww1.cell? ⟨gx, 6, none⟩ = some (.int .i64 a0_6) := (zD Kx.out 6).trans rfl; have fx_6 := zG Kx.out 6; have zx_7 : ww1.cell? ⟨gx, 7, none⟩ = some (.int .i64 a0_7) := (zD Kx.out 7).trans rfl; have fx_7 := zG Kx.out 7; have zx_8 : ww1.cell? ⟨gx, 8, none⟩ = some (.int .i64 a0_8) := (zD Kx.out 8).trans rfl; have fx_8 := zG Kx.out 8; have zx_9 : ww1.cell? ⟨gx, 9, none⟩ = some (.int .i64 a0_9) := (zD Kx.out 9).trans rfl; have fx_9 := zG Kx.out 9; have zx_10 : ww1.cell? ⟨gx, 10, none⟩ = some (.int .i64 a0_10) := (zD Kx.out 10).trans rfl; have fx_10 := zG Kx.out 10; have zx_11 : ww1.cell? ⟨gx, 11, none⟩ = some (.int .i64 a0_11) := (zD Kx.out 11).trans rfl; have fx_11 := zG Kx.out 11; have zx_12 : ww1.cell? ⟨gx, 12, none⟩ = some (.int .i64 a0_12) := (zD Kx.out 12).trans rfl; have fx_12 := zG Kx.out 12; have zx_13 : ww1.cell? ⟨gx, 13, none⟩ = some (.int .i64 a0_13) := (zD Kx.out 13).trans rfl; have fx_13 := zG Kx.out 13; have zx_14 : ww1.cell? ⟨gx, 14, none⟩ = some (.int .i64 a0_14) := (zD Kx.out 14).trans rfl; have fx_14 := zG Kx.out 14) | ((with_reducible refine gate_dst (N := 2) rfl ?_); refine box_event ?hg (N := 2) ?hd (cs := #[.int .i64 0, .int .i64 0, .int .i64 0, .slice none 0 0, .slice none 0 0, .int .i64 0, .int .i64 0, .int .i64 0, .int .i64 0, .int .i64 0, .int .i64 0, .int .i64 0, .int .i64 0, .int .i64 0, .int .i64 0]) (t := 29) ?hr ?_; (case hd => rfl); (case hg => rfl); (case hr => first | (go_simp; done) | (go_simp; rfl)); intro gy hg ww2 hbox hb; have Nx_y : Aside0 (gx ≠ gy) := ⟨by have := blk_lt Kx.out; omega⟩; have KK := zA (zI Kx.out hb); clear Kx; have Kx := KK; clear KK; have Gy : Aside0 (w.heap.size ≤ gy) := ⟨by have := HB.out.size; omega⟩; have Ky := zA hbox; have KK := zA (zJ HB.out hb); clear HB; have HB := KK; clear KK; clear hb hbox hg; clear zx_0 fx_0 zx_1 fx_1 zx_2 fx_2 zx_3 fx_3 zx_4 fx_4 zx_5 fx_5 zx_6 fx_6 zx_7 fx_7 zx_8 fx_8 zx_9 fx_9 zx_10 fx_10 zx_11 fx_11 zx_12 fx_12 zx_13 fx_13 zx_14 fx_14; have zx_0 : ww2.cell? ⟨gx, 0, none⟩ = some (.int .i64 a0_0) := (zD Kx.out 0).trans rfl; have zx_1 : ww2.cell? ⟨gx, 1, none⟩ = some (.int .i64 a0_1) := (zD Kx.out 1).trans rfl; have zx_2 : ww2.cell? ⟨gx, 2, none⟩ = some (.int .i64 a0_2) := (zD Kx.out 2).trans rfl; have zx_3 : ww2.cell? ⟨gx, 3, none⟩ = some (.slice A0_3 l0_3.length c0_3) := (zD Kx.out 3).trans rfl; have zx_4 : ww2.cell? ⟨gx, 4, none⟩ = some (.slice A0_4 l0_4.length c0_4) := (zD Kx.out 4).trans rfl; have zx_5 : ww2.cell? ⟨gx, 5, none⟩ = some (.int .i64 a0_5) := (zD Kx.out 5).trans rfl; have zx_6 : ww2.cell? ⟨gx, 6, none⟩ = some (.int .i64 a0_6) := (zD Kx.out 6).trans rfl; have zx_7 : ww2.cell? ⟨gx, 7, none⟩ = some (.int .i64 a0_7) := (zD Kx.out 7).trans rfl; have zx_8 : ww2.cell? ⟨gx, 8, none⟩ = some (.int .i64 a0_8) := (zD Kx.out 8).trans rfl; have zx_9 : ww2.cell? ⟨gx, 9, none⟩ = some (.int .i64 a0_9) := (zD Kx.out 9).trans rfl; have zx_10 : ww2.cell? ⟨gx, 10, none⟩ = some (.int .i64 a0_10) := (zD Kx.out 10).trans rfl; have zx_11 : ww2.cell? ⟨gx, 11, none⟩ = some (.int .i64 a0_11) := (zD Kx.out 11).trans rfl; have zx_12 : ww2.cell? ⟨gx, 12, none⟩ = some (.int .i64 a0_12) := (zD Kx.out 12).trans rfl; have zx_13 : ww2.cell? ⟨gx, 13, none⟩ = some (.int .i64 a0_13) := (zD Kx.out 13).trans rfl; have zx_14 : ww2.cell? ⟨gx, 14, none⟩ = some (.int .i64 a0_14) := (zD Kx.out 14).trans rfl))
  go_cut [] (fun wc => Aside0 (wc.heap[gx]? = some (.cells #[.int .i64 a0_0, .int .i64 a0_1, .int .i64 a0_2, .slice A0_3 (l0_3.take 4300).length c0_3, .slice A0_4 l0_4.length c0_4, .int .i64 a0_5, .int .i64 a0_6, .int .i64 a0_7, .int .i64 a0_8, .int .i64 a0_9, .int .i64 a0_10, .int .i64 a0_11, .int .i64 a0_12, .int .i64 a0_13, .int .i64 a0_14] 29 (0, 0))) ∧ Aside0 (wc.heap[gy]? = some (.cells #[.int .i64 0, .int .i64 0, .int .i64 0, .slice none 0 0, .slice none 0 0, .int .i64 0, .int .i64 0, .int .i64 0, .int .i64 0, .int .i64 0, .int .i64 0, .int .i64 0, .int .i64 0, .int .i64 0, .int .i64 0] 29 (0, 0))) ∧ Aside0 (Below w.heap.size w wc))
  case first =>
    by_cases h3 : 4300 < l0_3.length
    · have d : decide (4300 < (l0_3.length : Int)) = true := decide_eq_true (by omega)
      have d2 : decide (4300 < l0_3.length) = true := decide_eq_true h3
      have hcut := cut_to (P := Try.prog) 22 5 .i64 Try.underlying22 hi3 A0_3 l0_3.length c0_3 4300 (by omega) (by omega) hc3
      have e : (l0_3.take 4300).length = 4300 := by rw [List.length_take]; omega
      have E := zA e
      have fx_s := zG Kx.out 3
      clear h3 e hc3 hc4 hi3 hi4
      rw [d]
      go_wp2_with (first | ((with_reducible refine gate_store (t := 22) (p := 13) rfl ?_); refine store_event (t := 22) (p := 13) (v := ?vo_ww3_2) (w1 := (ww2.setCell ⟨gx, 3, none⟩ (.slice A0_3 4300 c0_3))) ?hg ?ho ?hn ?hr ?_; (case ho => rfl); (case hg => rfl); (case hn => rfl); (case hr => first | (go_simp; done) | (go_simp; rfl)); intro ww3 hw; have ney : gy ≠ gx := fun h => Nx_y.out h.symm; have hb : Below w.heap.size w ww3 := (by subst hw; exact zC HB.out Gx.out); have KK := zA (show ww3.heap[gx]? = some (.cells #[.int .i64 a0_0, .int .i64 a0_1, .int .i64 a0_2, .slice A0_3 4300 c0_3, .slice A0_4 l0_4.length c0_4, .int .i64 a0_5, .int .i64 a0_6, .int .i64 a0_7, .int .i64 a0_8, .int .i64 a0_9, .int .i64 a0_10, .int .i64 a0_11, .int .i64 a0_12, .int .i64 a0_13, .int .i64 a0_14] 29 (0, 0)) by subst hw; exact zZ Kx.out 3 _ rfl); clear Kx; have Kx := KK; clear KK; have KK := zA (show ww3.heap[gy]? = some (.cells #[.int .i64 0, .int .i64 0, .int .i64 0, .slice none 0 0, .slice none 0 0, .int .i64 0, .int .i64 0, .int .i64 0, .int .i64 0, .int .i64 0, .int .i64 0, .int .i64 0, .int .i64 0, .int .i64 0, .int .i64 0] 29 (0, 0)) by subst hw; exact zL Ky.out ney _); clear Ky; have Ky := KK; clear KK; clear HB; have HB := zA hb; clear hb hw ney; clear zx_0 zx_1 zx_2 zx_3 zx_4 zx_5 zx_6 zx_7 zx_8 zx_9 zx_10 zx_11 zx_12 zx_13 zx_14))
      go_meet
      case rel => rw [E.out]; exact ⟨Kx, Ky, HB⟩
    · have d : decide (4300 < (l0_3.length : Int)) = false := decide_eq_false (by omega)
      have d2 : decide (4300 < l0_3.length) = false := decide_eq_false h3
      have e : (l0_3.take 4300).length = l0_3.length := by rw [List.length_take]; omega
      have E := zA e
      clear h3 e hc3 hc4 hi3 hi4
      rw [d]
      go_wp2
      go_meet
      case rel => rw [E.out]; exact ⟨Kx, Ky, HB⟩
  case rest =>
    obtain ⟨K1, K2, K3⟩ := hcut
    clear Kx Ky HB zx_0 zx_1 zx_2 zx_3 zx_4 zx_5 zx_6 zx_7 zx_8 zx_9 zx_10 zx_11 zx_12 zx_13 zx_14
    have Kx := K1
    have Ky := K2
    have HB := K3
    clear K1 K2 K3
    have zx_0 : wc.cell? ⟨gx, 0, none⟩ = some (.int .i64 a0_0) := (zD Kx.out 0).trans rfl
    have zx_1 : wc.cell? ⟨gx, 1, none⟩ = some (.int .i64 a0_1) := (zD Kx.out 1).trans rfl
    have zx_2 : wc.cell? ⟨gx, 2, none⟩ = some (.int .i64 a0_2) := (zD Kx.out 2).trans rfl
    have zx_3 : wc.cell? ⟨gx, 3, none⟩ = some (.slice A0_3 (l0_3.take 4300).length c0_3) := (zD Kx.out 3).trans rfl
    have zx_4 : wc.cell? ⟨gx, 4, none⟩ = some (.slice A0_4 l0_4.length c0_4) := (zD Kx.out 4).trans rfl
    have zx_5 : wc.cell? ⟨gx, 5, none⟩ = some (.int .i64 a0_5) := (zD Kx.out 5).trans rfl
    have zx_6 : wc.cell? ⟨gx, 6, none⟩ = some (.int .i64 a0_6) := (zD Kx.out 6).trans rfl
    have zx_7 : wc.cell? ⟨gx, 7, none⟩ = some (.int .i64 a0_7) := (zD Kx.out 7).trans rfl
    have zx_8 : wc.cell? ⟨gx, 8, none⟩ = some (.int .i64 a0_8) := (zD Kx.out 8).trans rfl
    have zx_9 : wc.cell? ⟨gx, 9, none⟩ = some (.int .i64 a0_9) := (zD Kx.out 9).trans rfl
    have zx_10 : wc.cell? ⟨gx, 10, none⟩ = some (.int .i64 a0_10) := (zD Kx.out 10).trans rfl
    have zx_11 : wc.cell? ⟨gx, 11, none⟩ = some (.int .i64 a0_11) := (zD Kx.out 11).trans rfl
    have zx_12 : wc.cell? ⟨gx, 12, none⟩ = some (.int .i64 a0_12) := (zD Kx.out 12).trans rfl
    have zx_13 : wc.cell? ⟨gx, 13, none⟩ = some (.int .i64 a0_13) := (zD Kx.out 13).trans rfl
    have zx_14 : wc.cell? ⟨gx, 14, none⟩ = some (.int .i64 a0_14) := (zD Kx.out 14).trans rfl
    go_upto_if 17 with (fail)
    obtain ⟨wo, hwo⟩ : ∃ wo : World, wo = wc := ⟨_, rfl⟩
    clear hwo wo
    go_cut [] (fun wc => Aside0 (wc.heap[gx]? = some (.cells #[.int .i64 a0_0, .int .i64 a0_1, .int .i64 a0_2, .slice A0_3 (l0_3.take 4300).length c0_3, .slice A0_4 (l0_4.take 66).length c0_4, .int .i64 a0_5, .int .i64 a0_6, .int .i64 a0_7, .int .i64 a0_8, .int .i64 a0_9, .int .i64 a0_10, .int .i64 a0_11, .int .i64 a0_12, .int .i64 a0_13, .int .i64 a0_14] 29 (0, 0))) ∧ Aside0 (wc.heap[gy]? = some (.cells #[.int .i64 0, .int .i64 0, .int .i64 0, .slice none 0 0, .slice none 0 0, .int .i64 0, .int .i64 0, .int .i64 0, .int .i64 0, .int .i64 0, .int .i64 0, .int .i64 0, .int .i64 0, .int .i64 0, .int .i64 0] 29 (0, 0))) ∧ Aside0 (Below w.heap.size w wc))
    case first =>
      by_cases h4 : 66 < l0_4.length
      · have d : decide (66 < (l0_4.length : Int)) = true := decide_eq_true (by omega)
        have d2 : decide (66 < l0_4.length) = true := decide_eq_true h4
        have hcut := cut_to (P := Try.prog) 25 27 .i64 Try.underlying25 hi4 A0_4 l0_4.length c0_4 66 (by omega) (by omega) hc4
        have e : (l0_4.take 66).length = 66 := by rw [List.length_take]; omega
        have E := zA e
        have fx_s := zG Kx.out 4
        clear h4 e hc3 hc4 hi3 hi4
        rw [d]
        go_wp2_with (first | ((with_reducible refine gate_store (t := 25) (p := 21) rfl ?_); refine store_event (t := 25) (p := 21) (v := ?vo_ww51_3) (w1 := (wc.setCell ⟨gx, 4, none⟩ (.slice A0_4 66 c0_4))) ?hg ?ho ?hn ?hr ?_; (case ho => rfl); (case hg => rfl); (case hn => rfl); (case hr => first | (go_simp; done) | (go_simp; rfl)); intro ww51 hw; have ney : gy ≠ gx := fun h => Nx_y.out h.symm; have hb : Below w.heap.size w ww51 := (by subst hw; exact zC HB.out Gx.out); have KK := zA (show ww51.heap[gx]? = some (.cells #[.int .i64 a0_0, .int .i64 a0_1, .int .i64 a0_2, .slice A0_3 (l0_3.take 4300).length c0_3, .slice A0_4 66 c0_4, .int .i64 a0_5, .int .i64 a0_6, .int .i64 a0_7, .int .i64 a0_8, .int .i64 a0_9, .int .i64 a0_10, .int .i64 a0_11, .int .i64 a0_12, .int .i64 a0_13, .int .i64 a0_14] 29 (0, 0)) by subst hw; exact zZ Kx.out 4 _ rfl); clear Kx; have Kx := KK; clear KK; have KK := zA (show ww51.heap[gy]? = some (.cells #[.int .i64 0, .int .i64 0, .int .i64 0, .slice none 0 0, .slice none 0 0, .int .i64 0, .int .i64 0, .int .i64 0, .int .i64 0, .int .i64 0, .int .i64 0, .int .i64 0, .int .i64 0, .int .i64 0, .int .i64 0] 29 (0, 0)) by subst hw; exact zL Ky.out ney _); clear Ky; have Ky := KK; clear KK; clear HB; have HB := zA hb; clear hb hw ney; clear zx_0 zx_1 zx_2 zx_3 zx_4 zx_5 zx_6 zx_7 zx_8 zx_9 zx_10 zx_11 zx_12 zx_13 zx_14))
        go_meet
        case rel => rw [E.out]; exact ⟨Kx, Ky, HB⟩
      · have d : decide (66 < (l0_4.length : Int)) = false := decide_eq_false (by omega)
        have d2 : decide (66 < l0_4.length) = false := decide_eq_false h4
        have e : (l0_4.take 66).length = l0_4.length := by rw [List.length_take]; omega
        have E := zA e
        clear h4 e hc3 hc4 hi3 hi4
        rw [d]
        go_wp2
        go_meet
        case rel => rw [E.out]; exact ⟨Kx, Ky, HB⟩
    case rest =>
      obtain ⟨K1, K2, K3⟩ := hcut
      clear Kx Ky HB zx_0 zx_1 zx_2 zx_3 zx_4 zx_5 zx_6 zx_7 zx_8 zx_9 zx_10 zx_11 zx_12 zx_13 zx_14
      have Kx := K1
      have Ky := K2
      have HB := K3
      clear K1 K2 K3
      have zx_0 : wc.cell? ⟨gx, 0, none⟩ = some (.int .i64 a0_0) := (zD Kx.out 0).trans rfl
      have zx_1 : wc.cell? ⟨gx, 1, none⟩ = some (.int .i64 a0_1) := (zD Kx.out 1).trans rfl
      have zx_2 : wc.cell? ⟨gx, 2, none⟩ = some (.int .i64 a0_2) := (zD Kx.out 2).trans rfl
      have zx_3 : wc.cell? ⟨gx, 3, none⟩ = some (.slice A0_3 (l0_3.take 4300).length c0_3) := (zD Kx.out 3).trans rfl
      have zx_4 : wc.cell? ⟨gx, 4, none⟩ = some (.slice A0_4 (l0_4.take 66).length c0_4) := (zD Kx.out 4).trans rfl
      have zx_5 : wc.cell? ⟨gx, 5, none⟩ = some (.int .i64 a0_5) := (zD Kx.out 5).trans rfl
      have zx_6 : wc.cell? ⟨gx, 6, none⟩ = some (.int .i64 a0_6) := (zD Kx.out 6).trans rfl
      have zx_7 : wc.cell? ⟨gx, 7, none⟩ = some (.int .i64 a0_7) := (zD Kx.out 7).trans rfl
      have zx_8 : wc.cell? ⟨gx, 8, none⟩ = some (.int .i64 a0_8) := (zD Kx.out 8).trans rfl
      have zx_9 : wc.cell? ⟨gx, 9, none⟩ = some (.int .i64 a0_9) := (zD Kx.out 9).trans rfl
      have zx_10 : wc.cell? ⟨gx, 10, none⟩ = some (.int .i64 a0_10) := (zD Kx.out 10).trans rfl
      have zx_11 : wc.cell? ⟨gx, 11, none⟩ = some (.int .i64 a0_11) := (zD Kx.out 11).trans rfl
      have zx_12 : wc.cell? ⟨gx, 12, none⟩ = some (.int .i64 a0_12) := (zD Kx.out 12).trans rfl
      have zx_13 : wc.cell? ⟨gx, 13, none⟩ = some (.int .i64 a0_13) := (zD Kx.out 13).trans rfl
      have zx_14 : wc.cell? ⟨gx, 14, none⟩ = some (.int .i64 a0_14) := (zD Kx.out 14).trans rfl
      have zy_0 : wc.cell? ⟨gy, 0, none⟩ = some (.int .i64 0) := (zD Ky.out 0).trans rfl
      have fy_0 := zG Ky.out 0
      have zy_1 : wc.cell? ⟨gy, 1, none⟩ = some (.int .i64 0) := (zD Ky.out 1).trans rfl
      have fy_1 := zG Ky.out 1
      have zy_2 : wc.cell? ⟨gy, 2, none⟩ = some (.int .i64 0) := (zD Ky.out 2).trans rfl
      have fy_2 := zG Ky.out 2
      have zy_3 : wc.cell? ⟨gy, 3, none⟩ = some (.slice none 0 0) := (zD Ky.out 3).trans rfl
      have fy_3 := zG Ky.out 3
      have zy_4 : wc.cell? ⟨gy, 4, none⟩ = some (.slice none 0 0) := (zD Ky.out 4).trans rfl
      have fy_4 := zG Ky.out 4
      have zy_5 : wc.cell? ⟨gy, 5, none⟩ = some (.int .i64 0) := (zD Ky.out 5).trans rfl
      have fy_5 := zG Ky.out 5
      have zy_6 : wc.cell? ⟨gy, 6, none⟩ = some (.int .i64 0) := (zD Ky.out 6).trans rfl
      have fy_6 := zG Ky.out 6
      have zy_7 : wc.cell? ⟨gy, 7, none⟩ = some (.int .i64 0) := (zD Ky.out 7).trans rfl
      have fy_7 := zG Ky.out 7
      have zy_8 : wc.cell? ⟨gy, 8, none⟩ = some (.int .i64 0) := (zD Ky.out 8).trans rfl
      have fy_8 := zG Ky.out 8
      have zy_9 : wc.cell? ⟨gy, 9, none⟩ = some (.int .i64 0) := (zD Ky.out 9).trans rfl
      have fy_9 := zG Ky.out 9
      have zy_10 : wc.cell? ⟨gy, 10, none⟩ = some (.int .i64 0) := (zD Ky.out 10).trans rfl
      have fy_10 := zG Ky.out 10
      have zy_11 : wc.cell? ⟨gy, 11, none⟩ = some (.int .i64 0) := (zD Ky.out 11).trans rfl
      have fy_11 := zG Ky.out 11
      have zy_12 : wc.cell? ⟨gy, 12, none⟩ = some (.int .i64 0) := (zD Ky.out 12).trans rfl
      have fy_12 := zG Ky.out 12
      have zy_13 : wc.cell? ⟨gy, 13, none⟩ = some (.int .i64 0) := (zD Ky.out 13).trans rfl
      have fy_13 := zG Ky.out 13
      have zy_14 : wc.cell? ⟨gy, 14, none⟩ = some (.int .i64 0) := (zD Ky.out 14).trans rfl
      have fy_14 := zG Ky.out 14
      go_wp2_with (first | ((with_reducible refine gate_store (t := 29) (p := 2) rfl ?_); refine store_event (t := 29) (p := 2) (v := ?vo_ww81_4) (w1 := (((((((((((((((wc.setCell ⟨gy, 0, none⟩ (.int .i64 a0_0)).setCell ⟨gy, 1, none⟩ (.int .i64 a0_1)).setCell ⟨gy, 2, none⟩ (.int .i64 a0_2)).setCell ⟨gy, 3, none⟩ (.slice A0_3 (l0_3.take 4300).length c0_3)).setCell ⟨gy, 4, none⟩ (.slice A0_4 (l0_4.take 66).length c0_4)).setCell ⟨gy, 5, none⟩ (.int .i64 a0_5)).setCell ⟨gy, 6, none⟩ (.int .i64 a0_6)).setCell ⟨gy, 7, none⟩ (.int .i64 a0_7)).setCell ⟨gy, 8, none⟩ (.int .i64 a0_8)).setCell ⟨gy, 9, none⟩ (.int .i64 a0_9)).setCell ⟨gy, 10, none⟩ (.int .i64 a0_10)).setCell ⟨gy, 11, none⟩ (.int .i64 a0_11)).setCell ⟨gy, 12, none⟩ (.int .i64 a0_12)).setCell ⟨gy, 13, none⟩ (.int .i64 a0_13)).setCell ⟨gy, 14, none⟩ (.int .i64 a0_14))) ?hg ?ho ?hn ?hr ?_; (case ho => rfl); (case hg => rfl); (case hn => rfl); (case hr => first | (go_simp; done) | (go_simp; rfl)); intro ww81 hw; have nex : gx ≠ gy := Nx_y.out; have hb : Below w.heap.size w ww81 := (by subst hw; exact (zC (zC (zC (zC (zC (zC (zC (zC (zC (zC (zC (zC (zC (zC (zC HB.out Gy.out) Gy.out) Gy.out) Gy.out) Gy.out) Gy.out) Gy.out) Gy.out) Gy.out) Gy.out) Gy.out) Gy.out) Gy.out) Gy.out) Gy.out)); have KK := zA (show ww81.heap[gy]? = some (.cells #[.int .i64 a0_0, .int .i64 a0_1, .int .i64 a0_2, .slice A0_3 (l0_3.take 4300).length c0_3, .slice A0_4 (l0_4.take 66).length c0_4, .int .i64 a0_5, .int .i64 a0_6, .int .i64 a0_7, .int .i64 a0_8, .int .i64 a0_9, .int .i64 a0_10, .int .i64 a0_11, .int .i64 a0_12, .int .i64 a0_13, .int .i64 a0_14] 29 (0, 0)) by subst hw; exact (blk_all15 Ky.out)); clear Ky; have Ky := KK; clear KK; have KK := zA (show ww81.heap[gx]? = some (.cells #[.int .i64 a0_0, .int .i64 a0_1, .int .i64 a0_2, .slice A0_3 (l0_3.take 4300).length c0_3, .slice A0_4 (l0_4.take 66).length c0_4, .int .i64 a0_5, .int .i64 a0_6, .int .i64 a0_7, .int .i64 a0_8, .int .i64 a0_9, .int .i64 a0_10, .int .i64 a0_11, .int .i64 a0_12, .int .i64 a0_13, .int .i64 a0_14] 29 (0, 0)) by subst hw; exact (zL (zL (zL (zL (zL (zL (zL (zL (zL (zL (zL (zL (zL (zL (zL Kx.out nex _) nex _) nex _) nex _) nex _) nex _) nex _) nex _) nex _) nex _) nex _) nex _) nex _) nex _) nex _)); clear Kx; have Kx := KK; clear KK; clear HB; have HB := zA hb; clear hb hw nex; clear zx_0 zx_1 zx_2 zx_3 zx_4 zx_5 zx_6 zx_7 zx_8 zx_9 zx_10 zx_11 zx_12 zx_13 zx_14 zy_0 fy_0 zy_1 fy_1 zy_2 fy_2 zy_3 fy_3 zy_4 fy_4 zy_5 fy_5 zy_6 fy_6 zy_7 fy_7 zy_8 fy_8 zy_9 fy_9 zy_10 fy_10 zy_11 fy_11 zy_12 fy_12 zy_13 fy_13 zy_14 fy_14))
      refine bodyPost_ret (results_cell_row rfl _ _ gy 29 #[.int .i64 a0_0, .int .i64 a0_1, .int .i64 a0_2, .slice A0_3 (l0_3.take 4300).length c0_3, .slice A0_4 (l0_4.take 66).length c0_4, .int .i64 a0_5, .int .i64 a0_6, .int .i64 a0_7, .int .i64 a0_8, .int .i64 a0_9, .int .i64 a0_10, .int .i64 a0_11, .int .i64 a0_12, .int .i64 a0_13, .int .i64 a0_14] (0, 0) _ rfl Ky.out Try.underlying29 rfl (by kernel_rfl)) rfl ⟨.slice A0_3 (l0_3.take 4300).length c0_3, .slice A0_4 (l0_4.take 66).length c0_4, rfl, ?_, ?_, HB.out⟩
      · exact Kd.V_mono (bivouaclaw21_few.cut (Kd.V_below HV3.out HB.out) 4300) (fun k hk => .inl (.inl hk))
      · exact Kd.V_mono (bivouaclaw21_few.cut (Kd.V_below HV4.out HB.out) 66) (fun k hk => .inl (.inr hk))

end Go.Proofs.Yteihieihoeijdaa.PA
