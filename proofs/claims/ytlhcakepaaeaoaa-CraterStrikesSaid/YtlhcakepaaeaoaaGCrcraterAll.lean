/- The contract of crater_All: what its call comes to, for every argument, in any memory. -/
import Derived.Test.YtlhcakepaaeaoaaPCrx0
import Derived.Test.YtlhcakepaaeaoaaPCrx1
import Derived.Test.YtlhcakepaaeaoaaPCrx2
import Derived.Test.YtlhcakepaaeaoaaPCrx3
import Derived.Test.YtlhcakepaaeaoaaPCrx4
import Derived.Test.YtlhcakepaaeaoaaPCrx5
import Derived.Test.YtlhcakepaaeaoaaPCrx6
import Derived.Test.YtlhcakepaaeaoaaPCrx7
import Derived.Test.YtlhcakepaaeaoaaPCrx8
import Derived.Test.YtlhcakepaaeaoaaPCrx9
import Derived.Test.YtlhcakepaaeaoaaPCrx10
import Derived.Test.YtlhcakepaaeaoaaPCrx11
import Derived.Test.YtlhcakepaaeaoaaPCrx13
import Derived.Test.YtlhcakepaaeaoaaPCrx14
import Derived.Test.YtlhcakepaaeaoaaPCrx16
import Derived.Test.YtlhcakepaaeaoaaGCrcraterStrike
namespace Go.Proofs.Ytlhcakepaaeaoaa.PCr
open Go.RowKit Go.Proofs.YtlhcakepaaeaoaaW.PrintWords Go.Proofs.YtlhcakepaaeaoaaW.PrintLast Go.Proofs.YtlhcakepaaeaoaaW.PrintMore
set_option linter.unusedVariables false
set_option linter.unusedSimpArgs false

-- behind 27
def crater_All.f (k : Nat) (a0_0 : Int) (a0_1 : Int) (a0_2 : Int) (l0_3 : List Int) (l1 : List (S23)) : Option (Int × Int × Int × List Int × Int) := crater_strikes.f k a0_0 a0_1 a0_2 l0_3 l1
theorem crater_All.mono : ∀ y0 y1 y2 y3 y4 k, LeO (crater_All.f k y0 y1 y2 y3 y4) (crater_All.f (k + 1) y0 y1 y2 y3 y4) := by
  intros
  exact crater_strikes.mono _ _ _ _ _ _
theorem crater_All.res (tmps : Array Value) (W : World) (gr : Nat) (x0 x1 x2 x3 y : Value) (h4 : tmps[4]? = some (.pointer (some ⟨gr, 0, none⟩))) (h5 : tmps[5]? = some y) (hr : W.heap[gr]? = some (.cells #[x0, x1, x2, x3] 46 (0, 0))) :
    (results Try.f31 tmps).run Try.prog W = .ok (.tuple #[.agg #[x0, x1, x2, x3], y]) W := by
  have z0 := blk_cell hr 0
  have z1 := blk_cell hr 1
  have z2 := blk_cell hr 2
  have z3 := blk_cell hr 3
  simp only [List.getElem?_toArray, List.getElem?_cons_zero, List.getElem?_cons_succ] at z0 z1 z2 z3
  simp [results, Try.f31, go_sem, h4, h5, z0, z1, z2, z3]
set_option maxHeartbeats 4000000 in
set_option maxRecDepth 100000 in
theorem crater_All.calls (k : Nat) (a0_0 : Int) (a0_1 : Int) (a0_2 : Int) (A0_3 : Option Addr) (c0_3 : Nat) (l0_3 : List Int) (A1 : Option Addr) (c1 : Nat) (l1 : List (S23)) (r1 : Int) (r2 : Int) (r3 : Int) (r4 : List Int) (r5 : Int) (w : World) (hr0_3 : Kd.C (Kd.int .u8) w A0_3 l0_3.length l0_3) (hc0_3 : l0_3.length ≤ c0_3) (hr1 : Kd.C k23 w A1 l1.length l1) (hc1 : l1.length ≤ c1) (h : crater_All.f k a0_0 a0_1 a0_2 l0_3 l1 = some (r1, r2, r3, r4, r5)) :
    Calls Try.prog 31 #[.agg #[.int .i64 a0_0, .int .i64 a0_1, .int .i64 a0_2, .slice A0_3 l0_3.length c0_3], .slice A1 l1.length c1] w fun e w' => ∃ v3_ : Value, e = .returned (.tuple #[.agg #[.int .i64 r1, .int .i64 r2, .int .i64 r3, v3_], .int .i64 r5]) ∧ Kd.R (Kd.int .u8) 5 w' w.heap.size (fun _ => True) v3_ r4 ∧ Below w.heap.size w w' := by
  have HR := Aside0.mk hr0_3
  have H := Aside0.mk (show crater_strikes.f k a0_0 a0_1 a0_2 l0_3 l1 = _ from h)
  clear hr0_3 h
  have HR1 := Aside0.mk hr1
  clear hr1
  have HB := Aside0.mk (Below.refl w.heap.size w)
  go_enter Try.func31, Try.ntmps31
  go_upto_region 1 with (first | ((with_reducible refine gate_dst (N := 2) rfl ?_); refine box_event ?hg (N := 2) ?hd (cs := #[.int .i64 a0_0, .int .i64 a0_1, .int .i64 a0_2, .slice A0_3 l0_3.length c0_3]) (t := 46) ?hr ?_; (case hd => rfl); (case hg => rfl); (case hr => first | (go_simp; done) | (go_simp; rfl)); intro gm hg ww1 hbox hb; have Gm : Aside0 (w.heap.size ≤ gm) := ⟨by have := HB.out.size; omega⟩; have Km := Aside0.mk hbox; have KK := Aside0.mk (below_step HB.out hb); clear HB; have HB := KK; clear KK; clear hb hbox hg; have zm_0 : ww1.cell? ⟨gm, 0, none⟩ = some (.int .i64 a0_0) := (blk_cell Km.out 0).trans rfl; have fm_0 := blk_frozen Km.out 0; have zm_1 : ww1.cell? ⟨gm, 1, none⟩ = some (.int .i64 a0_1) := (blk_cell Km.out 1).trans rfl; have fm_1 := blk_frozen Km.out 1; have zm_2 : ww1.cell? ⟨gm, 2, none⟩ = some (.int .i64 a0_2) := (blk_cell Km.out 2).trans rfl; have fm_2 := blk_frozen Km.out 2; have zm_3 : ww1.cell? ⟨gm, 3, none⟩ = some (.slice A0_3 l0_3.length c0_3) := (blk_cell Km.out 3).trans rfl; have fm_3 := blk_frozen Km.out 3) | ((with_reducible refine gate_dst (N := 4) rfl ?_); refine box_event ?hg (N := 4) ?hd (cs := #[.int .i64 0, .int .i64 0, .int .i64 0, .slice none 0 0]) (t := 46) ?hr ?_; (case hd => rfl); (case hg => rfl); (case hr => first | (go_simp; done) | (go_simp; rfl)); intro gr hg ww2 hbox hb; have Nm_r : Aside0 (gm ≠ gr) := ⟨by have := blk_lt Km.out; omega⟩; have KK := Aside0.mk (blk_below Km.out hb); clear Km; have Km := KK; clear KK; have Gr : Aside0 (w.heap.size ≤ gr) := ⟨by have := HB.out.size; omega⟩; have Kr := Aside0.mk hbox; have KK := Aside0.mk (below_step HB.out hb); clear HB; have HB := KK; clear KK; clear hb hbox hg; clear zm_0 fm_0 zm_1 fm_1 zm_2 fm_2 zm_3 fm_3; have zm_0 : ww2.cell? ⟨gm, 0, none⟩ = some (.int .i64 a0_0) := (blk_cell Km.out 0).trans rfl; have zm_1 : ww2.cell? ⟨gm, 1, none⟩ = some (.int .i64 a0_1) := (blk_cell Km.out 1).trans rfl; have zm_2 : ww2.cell? ⟨gm, 2, none⟩ = some (.int .i64 a0_2) := (blk_cell Km.out 2).trans rfl; have zm_3 : ww2.cell? ⟨gm, 3, none⟩ = some (.slice A0_3 l0_3.length c0_3) := (blk_cell Km.out 3).trans rfl; have zr_0 : ww2.cell? ⟨gr, 0, none⟩ = some (.int .i64 0) := (blk_cell Kr.out 0).trans rfl; have fr_0 := blk_frozen Kr.out 0; have zr_1 : ww2.cell? ⟨gr, 1, none⟩ = some (.int .i64 0) := (blk_cell Kr.out 1).trans rfl; have fr_1 := blk_frozen Kr.out 1; have zr_2 : ww2.cell? ⟨gr, 2, none⟩ = some (.int .i64 0) := (blk_cell Kr.out 2).trans rfl; have fr_2 := blk_frozen Kr.out 2; have zr_3 : ww2.cell? ⟨gr, 3, none⟩ = some (.slice none 0 0) := (blk_cell Kr.out 3).trans rfl; have fr_3 := blk_frozen Kr.out 3))
  go_region_held3 (fun W => W.cell? ⟨gm, 0, none⟩ = some (.int .i64 a0_0) ∧ W.cell? ⟨gm, 1, none⟩ = some (.int .i64 a0_1) ∧ W.cell? ⟨gm, 2, none⟩ = some (.int .i64 a0_2) ∧ W.cell? ⟨gm, 3, none⟩ = some (.slice A0_3 l0_3.length c0_3)) (first | go_keep | exact ⟨(blk_cell (far4 Km.out Nm_r.out) 0).trans rfl, (blk_cell (far4 Km.out Nm_r.out) 1).trans rfl, (blk_cell (far4 Km.out Nm_r.out) 2).trans rfl, (blk_cell (far4 Km.out Nm_r.out) 3).trans rfl⟩) (first | (go_at_call 40; refine (crater_values.calls A1 l1.length c1 _).mono ?_; rintro e w4 ⟨g4, rfl, hbx, hb⟩; have hb0 : Below ww2.heap.size ww2 w4 := below_then (below_drew (Below.refl _ ww2)) (by simp) hb; have HBX := Aside0.mk hbx; have HB4 := Aside0.mk (below_step HB.out hb0); have HCS := Aside0.mk (Kd.C_below HR1.out HB4.out); have KK := Aside0.mk (blk_below Km.out hb0); clear Km; have Km := KK; clear KK; have KK := Aside0.mk (blk_below Kr.out hb0); clear Kr; have Kr := KK; clear KK; clear zm_0 zm_1 zm_2 zm_3 zr_0 fr_0 zr_1 fr_1 zr_2 fr_2 zr_3 fr_3; have zm_0 : w4.cell? ⟨gm, 0, none⟩ = some (.int .i64 a0_0) := (blk_cell Km.out 0).trans rfl; have zm_1 : w4.cell? ⟨gm, 1, none⟩ = some (.int .i64 a0_1) := (blk_cell Km.out 1).trans rfl; have zm_2 : w4.cell? ⟨gm, 2, none⟩ = some (.int .i64 a0_2) := (blk_cell Km.out 2).trans rfl; have zm_3 : w4.cell? ⟨gm, 3, none⟩ = some (.slice A0_3 l0_3.length c0_3) := (blk_cell Km.out 3).trans rfl; clear hb hbx hb0) | (go_at_call 39; refine (crater_strikes.calls k a0_0 a0_1 a0_2 _ _ l0_3 g4 A1 c1 l1 r1 r2 r3 r4 r5 w4 (Kd.C_below HR.out HB4.out) hc0_3 HBX.out HCS.out H.out).mono ?_; rintro e w5 ⟨v5, rfl, hv, hb5⟩; obtain ⟨A5, c5, rfl⟩ := Kd.R_slice hv; have HV5 := Aside0.mk hv; have HB5 := Aside0.mk hb5; have Lr := Aside0.mk (blk_lt Kr.out); have KK := Aside0.mk (blk_below Km.out hb5); clear Km; have Km := KK; clear KK; have KK := Aside0.mk (blk_below Kr.out hb5); clear Kr; have Kr := KK; clear KK; clear zm_0 zm_1 zm_2 zm_3; have zm_0 : w5.cell? ⟨gm, 0, none⟩ = some (.int .i64 a0_0) := (blk_cell Km.out 0).trans rfl; have zm_1 : w5.cell? ⟨gm, 1, none⟩ = some (.int .i64 a0_1) := (blk_cell Km.out 1).trans rfl; have zm_2 : w5.cell? ⟨gm, 2, none⟩ = some (.int .i64 a0_2) := (blk_cell Km.out 2).trans rfl; have zm_3 : w5.cell? ⟨gm, 3, none⟩ = some (.slice A0_3 l0_3.length c0_3) := (blk_cell Km.out 3).trans rfl; have ye0 := blk_frozen Kr.out 0; have ye1 := blk_frozen Kr.out 1; have ye2 := blk_frozen Kr.out 2; have ye3 := blk_frozen Kr.out 3; have yc0 : w5.cell? ⟨gr, 0, none⟩ = some (.int .i64 0) := (blk_cell Kr.out 0).trans rfl; have yc1 : w5.cell? ⟨gr, 1, none⟩ = some (.int .i64 0) := (blk_cell Kr.out 1).trans rfl; have yc2 : w5.cell? ⟨gr, 2, none⟩ = some (.int .i64 0) := (blk_cell Kr.out 2).trans rfl; have yc3 : w5.cell? ⟨gr, 3, none⟩ = some (.slice none 0 0) := (blk_cell Kr.out 3).trans rfl; have ne1 : gm ≠ gr := Nm_r.out; clear hv hb5))
  all_goals
    go_wp2
    refine bodyPost_ret (crater_All.res _ _ gr _ _ _ _ _ (by rfl) (by rfl) (put4 Kr.out)) rfl ?_
    have b4 := below_step HB4.out HB5.out
    refine ⟨_, rfl, Kd.R_mono (Kd.R_lower (Kd.R_far (Kd.R_far (Kd.R_far (Kd.R_far (Kd.R_mono (Kd.R_bound HV5.out) (fun k hk => show k ≠ gr from by have := hk.2.1; have := Lr.out; omega)) (fun _ h => h) _) (fun _ h => h) _) (fun _ h => h) _) (fun _ h => h) _) HB4.out.size) (fun _ _ => trivial), below_set (below_set (below_set (below_set b4 Gr.out) Gr.out) Gr.out) Gr.out⟩

end Go.Proofs.Ytlhcakepaaeaoaa.PCr
