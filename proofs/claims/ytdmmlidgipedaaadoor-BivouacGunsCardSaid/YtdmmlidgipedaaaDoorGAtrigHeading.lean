/- The contract of trig_Heading: what its call comes to, for every argument, in any memory. -/
import Derived.Test.YtdmmlidgipedaaaDoorPAx0
import Derived.Test.YtdmmlidgipedaaaDoorPAx9
import Derived.Test.YtdmmlidgipedaaaDoorGAtrigSin
namespace Go.Proofs.YtdmmlidgipedaaaDoor.PA
open Go.RowKit Go.Proofs.YtdmmlidgipedaaaDoorW.PrintWords Go.Proofs.YtdmmlidgipedaaaDoorW.PrintLast Go.Proofs.YtdmmlidgipedaaaDoorW.PrintMore
set_option linter.unusedVariables false
set_option linter.unusedSimpArgs false

set_option maxHeartbeats 8000000 in
set_option maxRecDepth 100000 in
theorem headTry_calls (x y d c s best most : Int) (gx gy gm gb : Nat) (w0 w : World) (d0 : 0 ≤ d) (d1 : d ≤ 256) (hT : TB w0) (hC : trig_Cos.f (256 * d) = some c) (hS : trig_Sin.f (256 * d) = some s)
    (hb : Below w0.heap.size w0 w) (Gm : w0.heap.size ≤ gm) (Gb : w0.heap.size ≤ gb) (nxm : gx ≠ gm) (nxb : gx ≠ gb) (nym : gy ≠ gm) (nyb : gy ≠ gb) (nmb : gm ≠ gb)
    (kx : w.heap[gx]? = some (.cells #[.int .i64 x] 2 (0, 0))) (ky : w.heap[gy]? = some (.cells #[.int .i64 y] 2 (0, 0))) (km : w.heap[gm]? = some (.cells #[.int .i64 most] 2 (0, 0))) (kb : w.heap[gb]? = some (.cells #[.int .i64 best] 2 (0, 0))) :
    Calls Tryd.prog 26 #[.int .i64 d, .pointer (some ⟨gx, 0, none⟩), .pointer (some ⟨gy, 0, none⟩), .pointer (some ⟨gm, 0, none⟩), .pointer (some ⟨gb, 0, none⟩)] w fun e w' => (∃ u, e = .returned u) ∧
      w'.heap[gx]? = some (.cells #[.int .i64 x] 2 (0, 0)) ∧ w'.heap[gy]? = some (.cells #[.int .i64 y] 2 (0, 0)) ∧ w'.heap[gm]? = some (.cells #[.int .i64 (if (wrap64 (wrap64 (x * c) + wrap64 (y * s))) > most then (wrap64 (wrap64 (x * c) + wrap64 (y * s))) else most)] 2 (0, 0)) ∧ w'.heap[gb]? = some (.cells #[.int .i64 (if (wrap64 (wrap64 (x * c) + wrap64 (y * s))) > most then d else best)] 2 (0, 0)) ∧ Below w0.heap.size w0 w' := by
  have HT := Aside0.mk (hT.below hb)
  have HC := Aside0.mk hC
  have HS := Aside0.mk hS
  have HB := Aside0.mk hb
  have Kx := Aside0.mk kx
  have Ky := Aside0.mk ky
  have Km := Aside0.mk km
  have Kb := Aside0.mk kb
  clear hT hC hS hb kx ky km kb
  have zx : w.cell? ⟨gx, 0, none⟩ = some (.int .i64 x) := (blk_cell Kx.out 0).trans rfl
  have zy : w.cell? ⟨gy, 0, none⟩ = some (.int .i64 y) := (blk_cell Ky.out 0).trans rfl
  have hw : IntKind.i64.wrap (256 * d) = 256 * d := by rw [i64_w]; exact sw64 (by omega) (by omega)
  obtain ⟨m2, hm2⟩ : ∃ m2, (if (wrap64 (wrap64 (x * c) + wrap64 (y * s))) > most then (wrap64 (wrap64 (x * c) + wrap64 (y * s))) else most) = m2 := ⟨_, rfl⟩
  obtain ⟨b2, hb2⟩ : ∃ b2, (if (wrap64 (wrap64 (x * c) + wrap64 (y * s))) > most then d else best) = b2 := ⟨_, rfl⟩
  rw [hm2, hb2]
  have HM := Aside0.mk hm2
  have HD := Aside0.mk hb2
  clear hm2 hb2
  go_enter Tryd.func26, Tryd.ntmps26
  go_upto_region 0 with fail
  go_cut [6] from 7 (fun v6 wc => v6 = .int .i64 (wrap64 (wrap64 (x * c) + wrap64 (y * s))) ∧ ∃ n, wc = w.drewN n)
  case first =>
    go_region_with (first | (go_at_call 27; refine (trig_Cos.calls (256 * d) c _ (HT.out.below (by repeat (first | exact Below.refl _ _ | apply pw_below_drewN | apply below_drew1))) HC.out).mono ?_; rintro e w' ⟨rfl, ⟨nd, rfl⟩⟩) | (go_at_call 28; refine (trig_Sin.calls (256 * d) s _ (HT.out.below (by repeat (first | exact Below.refl _ _ | apply pw_below_drewN | apply below_drew1))) HS.out).mono ?_; rintro e w' ⟨rfl, ⟨nd, rfl⟩⟩))
    all_goals (go_wp2; go_meet; case rel => exact ⟨by simp only [i64_w], _, rfl⟩)
  case rest =>
    obtain ⟨rfl, n, rfl⟩ := hcut
    clear zx zy
    have zm : (w.drewN n).cell? ⟨gm, 0, none⟩ = some (.int .i64 most) := (blk_cell (blk_drewN Km.out n) 0).trans rfl
    have zb : (w.drewN n).cell? ⟨gb, 0, none⟩ = some (.int .i64 best) := (blk_cell (blk_drewN Kb.out n) 0).trans rfl
    have fm := blk_frozen (blk_drewN Km.out n) 0
    have fb := blk_frozen (blk_drewN Kb.out n) 0
    generalize (wrap64 (wrap64 (x * c) + wrap64 (y * s))) = v at HM HD ⊢
    by_cases cv : v > most
    · have e1 := HM.out; have e2 := HD.out; rw [if_pos cv] at e1 e2; subst e1; subst e2; clear HM HD
      have cv1 : decide (most < v) = true := decide_eq_true cv
      clear cv
      go_wp2
      go_end0
      exact ⟨⟨_, rfl⟩, blk_far (blk_far (blk_drewN Kx.out _) nxb _) nxm _, blk_far (blk_far (blk_drewN Ky.out _) nyb _) nym _, blk_put (blk_far (blk_drewN Km.out _) nmb _) 0 _ rfl, blk_far (blk_put (blk_drewN Kb.out _) 0 _ rfl) nmb.symm _, below_set (below_set (pw_below_drewN HB.out _) Gb) Gm⟩
    · have e1 := HM.out; have e2 := HD.out; rw [if_neg cv] at e1 e2; subst e1; subst e2; clear HM HD
      have cv1 : decide (most < v) = false := decide_eq_false cv
      clear cv
      go_wp2
      go_end0
      exact ⟨⟨_, rfl⟩, blk_drewN Kx.out _, blk_drewN Ky.out _, blk_drewN Km.out _, blk_drewN Kb.out _, pw_below_drewN HB.out _⟩
/-- What a wind comes to, and the best one so far. -/
def headC (d : Int) : Int := (trig_Cos.f (256 * d)).getD 0
def headS (d : Int) : Int := (trig_Sin.f (256 * d)).getD 0
def headV (x y d : Int) : Int := wrap64 (wrap64 (x * headC d) + wrap64 (y * headS d))
def headStep (x y : Int) (st : Int × Int) (d : Int) : Int × Int := (if headV x y d > st.2 then d else st.1, if headV x y d > st.2 then headV x y d else st.2)
def headLoop (x y : Int) : Nat → Int → Int × Int → Int × Int
  | 0, _, st => st
  | n + 1, d, st => headLoop x y n (d + 1) (headStep x y st d)
def headFrom (x y : Int) : Int := if x < 0 ∧ 0 ≤ y then 64 else if x ≤ 0 ∧ y < 0 then 128 else if y < 0 then 192 else 0
def headInit (x y : Int) : Int × Int := if headFrom x y = 192 then headStep x y (0, -9223372036854775808) 0 else (0, -9223372036854775808)
def headN (fr : Int) : Nat := if fr = 192 then 64 else 65
def headBest (x y : Int) : Int := (headLoop x y (headN (headFrom x y)) (headFrom x y) (headInit x y)).1
theorem headC_eq (d : Int) : trig_Cos.f (256 * d) = some (headC d) := rfl
theorem headS_eq (d : Int) : trig_Sin.f (256 * d) = some (headS d) := rfl
def trig_Heading.f (a0 : Int) (a1 : Int) : Option (Int × Int) := (trig_far.f a0).bind fun t => if t = true then some (0, 8) else (trig_far.f a1).bind fun u => if u = true then some (0, 8) else some (headBest a0 a1, 0)
set_option maxHeartbeats 8000000 in
set_option maxRecDepth 100000 in
theorem trig_Heading.calls (a0 : Int) (a1 : Int) (r1 : Int) (r2 : Int) (w : World) (hT : TB w) (h : trig_Heading.f a0 a1 = some (r1, r2)) :
    Calls Tryd.prog 21 #[.int .i64 a0, .int .i64 a1] w fun e w' => e = .returned (.tuple #[.int .i64 r1, .int .i64 r2]) ∧ Below w.heap.size w w' := by
  have hmf : ∀ (fn : Fn) (first cap : Array Value) (w : World), (Instr.makeFunc fn first cap).run Tryd.prog w = .ok (.func fn first cap) w := fun _ _ _ _ => rfl
  have HB := Aside0.mk (Below.refl w.heap.size w)
  have HT := Aside0.mk hT
  clear hT
  unfold trig_Heading.f at h
  replace h := Option.bind_eq_some_iff.1 h
  obtain ⟨t, ht, h⟩ := h
  have HT1 := Aside0.mk ht
  clear ht
  cases t
  rotate_left
  · rw [if_pos rfl] at h
    simp only [Option.some.injEq, Prod.mk.injEq] at h
    obtain ⟨rfl, rfl⟩ := h
    go_enter Tryd.func21, Tryd.ntmps21
    go_wp2_with (first | ((with_reducible refine gate_dst (N := 2) rfl ?_); refine box_event ?hg (N := 2) ?hd (cs := #[.int .i64 a0]) (t := 2) ?hr ?_; (case hd => rfl); (case hg => rfl); (case hr => first | (go_simp; done) | (go_simp; rfl)); intro gx hg ww1 hbox hb; have Gx : Aside0 (w.heap.size ≤ gx) := ⟨by have := HB.out.size; omega⟩; have Kx := Aside0.mk hbox; have KK := Aside0.mk (below_step HB.out hb); clear HB; have HB := KK; clear KK; clear hb hbox hg; have zx_0 : ww1.cell? ⟨gx, 0, none⟩ = some (.int .i64 a0) := (blk_cell Kx.out 0).trans rfl; have fx_0 := blk_frozen Kx.out 0) | ((with_reducible refine gate_dst (N := 3) rfl ?_); refine box_event ?hg (N := 3) ?hd (cs := #[.int .i64 a1]) (t := 2) ?hr ?_; (case hd => rfl); (case hg => rfl); (case hr => first | (go_simp; done) | (go_simp; rfl)); intro gy hg ww2 hbox hb; have Nx_y : Aside0 (gx ≠ gy) := ⟨by have := blk_lt Kx.out; omega⟩; have KK := Aside0.mk (blk_below Kx.out hb); clear Kx; have Kx := KK; clear KK; have Gy : Aside0 (w.heap.size ≤ gy) := ⟨by have := HB.out.size; omega⟩; have Ky := Aside0.mk hbox; have KK := Aside0.mk (below_step HB.out hb); clear HB; have HB := KK; clear KK; clear hb hbox hg; clear zx_0 fx_0; have zx_0 : ww2.cell? ⟨gx, 0, none⟩ = some (.int .i64 a0) := (blk_cell Kx.out 0).trans rfl; have zy_0 : ww2.cell? ⟨gy, 0, none⟩ = some (.int .i64 a1) := (blk_cell Ky.out 0).trans rfl; have fy_0 := blk_frozen Ky.out 0) | (go_at_call_of 25 (Value.int .i64 a0); refine (trig_far.calls a0 true _ HT1.out).mono ?_; rintro e ww3 ⟨rfl, hd⟩; have hb := hd.below; clear hd; have KK := Aside0.mk (blk_below Kx.out hb); clear Kx; have Kx := KK; clear KK; have KK := Aside0.mk (blk_below Ky.out hb); clear Ky; have Ky := KK; clear KK; have KK := Aside0.mk (below_step HB.out hb); clear HB; have HB := KK; clear KK; clear hb; clear zx_0 zy_0 fy_0; have zx_0 : ww3.cell? ⟨gx, 0, none⟩ = some (.int .i64 a0) := (blk_cell Kx.out 0).trans rfl; have zy_0 : ww3.cell? ⟨gy, 0, none⟩ = some (.int .i64 a1) := (blk_cell Ky.out 0).trans rfl))
    go_ret2
    exact ⟨rfl, HB.out⟩
  rw [if_neg (by simp)] at h
  replace h := Option.bind_eq_some_iff.1 h
  obtain ⟨t, ht, h⟩ := h
  have HT2 := Aside0.mk ht
  clear ht
  cases t
  rotate_left
  · rw [if_pos rfl] at h
    simp only [Option.some.injEq, Prod.mk.injEq] at h
    obtain ⟨rfl, rfl⟩ := h
    go_enter Tryd.func21, Tryd.ntmps21
    go_wp2_with (first | ((with_reducible refine gate_dst (N := 2) rfl ?_); refine box_event ?hg (N := 2) ?hd (cs := #[.int .i64 a0]) (t := 2) ?hr ?_; (case hd => rfl); (case hg => rfl); (case hr => first | (go_simp; done) | (go_simp; rfl)); intro gx hg ww1 hbox hb; have Gx : Aside0 (w.heap.size ≤ gx) := ⟨by have := HB.out.size; omega⟩; have Kx := Aside0.mk hbox; have KK := Aside0.mk (below_step HB.out hb); clear HB; have HB := KK; clear KK; clear hb hbox hg; have zx_0 : ww1.cell? ⟨gx, 0, none⟩ = some (.int .i64 a0) := (blk_cell Kx.out 0).trans rfl; have fx_0 := blk_frozen Kx.out 0) | ((with_reducible refine gate_dst (N := 3) rfl ?_); refine box_event ?hg (N := 3) ?hd (cs := #[.int .i64 a1]) (t := 2) ?hr ?_; (case hd => rfl); (case hg => rfl); (case hr => first | (go_simp; done) | (go_simp; rfl)); intro gy hg ww2 hbox hb; have Nx_y : Aside0 (gx ≠ gy) := ⟨by have := blk_lt Kx.out; omega⟩; have KK := Aside0.mk (blk_below Kx.out hb); clear Kx; have Kx := KK; clear KK; have Gy : Aside0 (w.heap.size ≤ gy) := ⟨by have := HB.out.size; omega⟩; have Ky := Aside0.mk hbox; have KK := Aside0.mk (below_step HB.out hb); clear HB; have HB := KK; clear KK; clear hb hbox hg; clear zx_0 fx_0; have zx_0 : ww2.cell? ⟨gx, 0, none⟩ = some (.int .i64 a0) := (blk_cell Kx.out 0).trans rfl; have zy_0 : ww2.cell? ⟨gy, 0, none⟩ = some (.int .i64 a1) := (blk_cell Ky.out 0).trans rfl; have fy_0 := blk_frozen Ky.out 0) | (go_at_call_of 25 (Value.int .i64 a0); refine (trig_far.calls a0 false _ HT1.out).mono ?_; rintro e ww3 ⟨rfl, hd⟩; have hb := hd.below; clear hd; have KK := Aside0.mk (blk_below Kx.out hb); clear Kx; have Kx := KK; clear KK; have KK := Aside0.mk (blk_below Ky.out hb); clear Ky; have Ky := KK; clear KK; have KK := Aside0.mk (below_step HB.out hb); clear HB; have HB := KK; clear KK; clear hb; clear zx_0 zy_0 fy_0; have zx_0 : ww3.cell? ⟨gx, 0, none⟩ = some (.int .i64 a0) := (blk_cell Kx.out 0).trans rfl; have zy_0 : ww3.cell? ⟨gy, 0, none⟩ = some (.int .i64 a1) := (blk_cell Ky.out 0).trans rfl) | (go_at_call_of 25 (Value.int .i64 a1); refine (trig_far.calls a1 true _ HT2.out).mono ?_; rintro e ww4 ⟨rfl, hd⟩; have hb := hd.below; clear hd; have KK := Aside0.mk (blk_below Kx.out hb); clear Kx; have Kx := KK; clear KK; have KK := Aside0.mk (blk_below Ky.out hb); clear Ky; have Ky := KK; clear KK; have KK := Aside0.mk (below_step HB.out hb); clear HB; have HB := KK; clear KK; clear hb; clear zx_0 zy_0; have zx_0 : ww4.cell? ⟨gx, 0, none⟩ = some (.int .i64 a0) := (blk_cell Kx.out 0).trans rfl; have zy_0 : ww4.cell? ⟨gy, 0, none⟩ = some (.int .i64 a1) := (blk_cell Ky.out 0).trans rfl))
    go_ret2
    exact ⟨rfl, HB.out⟩
  rw [if_neg (by simp)] at h
  simp only [Option.some.injEq, Prod.mk.injEq] at h
  obtain ⟨hr1, rfl⟩ := h
  have HR1 := Aside0.mk hr1
  clear hr1
  by_cases cA : a0 < 0 ∧ 0 ≤ a1
  ·  obtain ⟨cA1, cA2⟩ := cA
     have d1 : decide (a0 < 0) = true := decide_eq_true (by omega)
     have d2 : decide (0 ≤ a1) = true := decide_eq_true (by omega)
     have d3 : decide (a0 ≤ 0) = true := decide_eq_true (by omega)
     have d4 : decide (a1 < 0) = false := decide_eq_false (by omega)
     have hf : headFrom a0 a1 = 64 := by unfold headFrom; rw [if_pos (by omega)]
     have HL : Aside0 ((headLoop a0 a1 65 64 (0, (-9223372036854775808))).1 = r1) := ⟨by have h := HR1.out; unfold headBest headInit headN at h; rw [hf] at h; exact h⟩
     clear hf HR1
     try clear cF
     try clear cE
     try clear cD2
     try clear cD
     try clear cC2
     try clear cC1
     try clear cC
     try clear cB2
     try clear cB
     try clear cA2
     try clear cA1
     try clear cA
     go_enter Tryd.func21, Tryd.ntmps21
     go_wp2_with (first | ((with_reducible refine gate_dst (N := 2) rfl ?_); refine box_event ?hg (N := 2) ?hd (cs := #[.int .i64 a0]) (t := 2) ?hr ?_; (case hd => rfl); (case hg => rfl); (case hr => first | (go_simp; done) | (go_simp; rfl)); intro gx hg ww1 hbox hb; have Gx : Aside0 (w.heap.size ≤ gx) := ⟨by have := HB.out.size; omega⟩; have Kx := Aside0.mk hbox; have KK := Aside0.mk (below_step HB.out hb); clear HB; have HB := KK; clear KK; clear hb hbox hg; have zx_0 : ww1.cell? ⟨gx, 0, none⟩ = some (.int .i64 a0) := (blk_cell Kx.out 0).trans rfl; have fx_0 := blk_frozen Kx.out 0) | ((with_reducible refine gate_dst (N := 3) rfl ?_); refine box_event ?hg (N := 3) ?hd (cs := #[.int .i64 a1]) (t := 2) ?hr ?_; (case hd => rfl); (case hg => rfl); (case hr => first | (go_simp; done) | (go_simp; rfl)); intro gy hg ww2 hbox hb; have Nx_y : Aside0 (gx ≠ gy) := ⟨by have := blk_lt Kx.out; omega⟩; have KK := Aside0.mk (blk_below Kx.out hb); clear Kx; have Kx := KK; clear KK; have Gy : Aside0 (w.heap.size ≤ gy) := ⟨by have := HB.out.size; omega⟩; have Ky := Aside0.mk hbox; have KK := Aside0.mk (below_step HB.out hb); clear HB; have HB := KK; clear KK; clear hb hbox hg; clear zx_0 fx_0; have zx_0 : ww2.cell? ⟨gx, 0, none⟩ = some (.int .i64 a0) := (blk_cell Kx.out 0).trans rfl; have zy_0 : ww2.cell? ⟨gy, 0, none⟩ = some (.int .i64 a1) := (blk_cell Ky.out 0).trans rfl; have fy_0 := blk_frozen Ky.out 0) | (go_at_call_of 25 (Value.int .i64 a0); refine (trig_far.calls a0 false _ HT1.out).mono ?_; rintro e ww3 ⟨rfl, hd⟩; have hb := hd.below; clear hd; have KK := Aside0.mk (blk_below Kx.out hb); clear Kx; have Kx := KK; clear KK; have KK := Aside0.mk (blk_below Ky.out hb); clear Ky; have Ky := KK; clear KK; have KK := Aside0.mk (below_step HB.out hb); clear HB; have HB := KK; clear KK; clear hb; clear zx_0 zy_0 fy_0; have zx_0 : ww3.cell? ⟨gx, 0, none⟩ = some (.int .i64 a0) := (blk_cell Kx.out 0).trans rfl; have zy_0 : ww3.cell? ⟨gy, 0, none⟩ = some (.int .i64 a1) := (blk_cell Ky.out 0).trans rfl) | (go_at_call_of 25 (Value.int .i64 a1); refine (trig_far.calls a1 false _ HT2.out).mono ?_; rintro e ww4 ⟨rfl, hd⟩; have hb := hd.below; clear hd; have KK := Aside0.mk (blk_below Kx.out hb); clear Kx; have Kx := KK; clear KK; have KK := Aside0.mk (blk_below Ky.out hb); clear Ky; have Ky := KK; clear KK; have KK := Aside0.mk (below_step HB.out hb); clear HB; have HB := KK; clear KK; clear hb; clear zx_0 zy_0; have zx_0 : ww4.cell? ⟨gx, 0, none⟩ = some (.int .i64 a0) := (blk_cell Kx.out 0).trans rfl; have zy_0 : ww4.cell? ⟨gy, 0, none⟩ = some (.int .i64 a1) := (blk_cell Ky.out 0).trans rfl) | ((with_reducible refine gate_dst (N := 6) rfl ?_); refine box_event ?hg (N := 6) ?hd (cs := #[.int .i64 0]) (t := 2) ?hr ?_; (case hd => rfl); (case hg => rfl); (case hr => first | (go_simp; done) | (go_simp; rfl)); intro gb hg ww5 hbox hb; have Nx_b : Aside0 (gx ≠ gb) := ⟨by have := blk_lt Kx.out; omega⟩; have Ny_b : Aside0 (gy ≠ gb) := ⟨by have := blk_lt Ky.out; omega⟩; have KK := Aside0.mk (blk_below Kx.out hb); clear Kx; have Kx := KK; clear KK; have KK := Aside0.mk (blk_below Ky.out hb); clear Ky; have Ky := KK; clear KK; have Gb : Aside0 (w.heap.size ≤ gb) := ⟨by have := HB.out.size; omega⟩; have Kb := Aside0.mk hbox; have KK := Aside0.mk (below_step HB.out hb); clear HB; have HB := KK; clear KK; clear hb hbox hg; clear zx_0 zy_0; have zx_0 : ww5.cell? ⟨gx, 0, none⟩ = some (.int .i64 a0) := (blk_cell Kx.out 0).trans rfl; have zy_0 : ww5.cell? ⟨gy, 0, none⟩ = some (.int .i64 a1) := (blk_cell Ky.out 0).trans rfl; have zb_0 : ww5.cell? ⟨gb, 0, none⟩ = some (.int .i64 0) := (blk_cell Kb.out 0).trans rfl; have fb_0 := blk_frozen Kb.out 0) | ((with_reducible refine gate_dst (N := 7) rfl ?_); refine box_event ?hg (N := 7) ?hd (cs := #[.int .i64 0]) (t := 2) ?hr ?_; (case hd => rfl); (case hg => rfl); (case hr => first | (go_simp; done) | (go_simp; rfl)); intro gm hg ww6 hbox hb; have Nx_m : Aside0 (gx ≠ gm) := ⟨by have := blk_lt Kx.out; omega⟩; have Ny_m : Aside0 (gy ≠ gm) := ⟨by have := blk_lt Ky.out; omega⟩; have Nb_m : Aside0 (gb ≠ gm) := ⟨by have := blk_lt Kb.out; omega⟩; have KK := Aside0.mk (blk_below Kx.out hb); clear Kx; have Kx := KK; clear KK; have KK := Aside0.mk (blk_below Ky.out hb); clear Ky; have Ky := KK; clear KK; have KK := Aside0.mk (blk_below Kb.out hb); clear Kb; have Kb := KK; clear KK; have Gm : Aside0 (w.heap.size ≤ gm) := ⟨by have := HB.out.size; omega⟩; have Km := Aside0.mk hbox; have KK := Aside0.mk (below_step HB.out hb); clear HB; have HB := KK; clear KK; clear hb hbox hg; clear zx_0 zy_0 zb_0 fb_0; have zx_0 : ww6.cell? ⟨gx, 0, none⟩ = some (.int .i64 a0) := (blk_cell Kx.out 0).trans rfl; have zy_0 : ww6.cell? ⟨gy, 0, none⟩ = some (.int .i64 a1) := (blk_cell Ky.out 0).trans rfl; have zb_0 : ww6.cell? ⟨gb, 0, none⟩ = some (.int .i64 0) := (blk_cell Kb.out 0).trans rfl; have fb_0 := blk_frozen Kb.out 0; have zm_0 : ww6.cell? ⟨gm, 0, none⟩ = some (.int .i64 0) := (blk_cell Km.out 0).trans rfl; have fm_0 := blk_frozen Km.out 0) | ((with_reducible refine gate_store (t := 2) (p := 6) rfl ?_); refine store_event (t := 2) (p := 6) (v := ?vo_ww7_3) (w1 := (ww6.setCell ⟨gb, 0, none⟩ (.int .i64 0))) ?hg ?ho ?hn ?hr ?_; (case ho => rfl); (case hg => rfl); (case hn => rfl); (case hr => first | (go_simp; done) | (go_simp; rfl)); intro ww7 hw; have nex : gx ≠ gb := Nx_b.out; have ney : gy ≠ gb := Ny_b.out; have nem : gm ≠ gb := fun h => Nb_m.out h.symm; have hb : Below w.heap.size w ww7 := (by subst hw; exact below_set HB.out Gb.out); have KK := Aside0.mk (show ww7.heap[gx]? = some (.cells #[.int .i64 a0] 2 (0, 0)) by subst hw; exact blk_far Kx.out nex _); clear Kx; have Kx := KK; clear KK; have KK := Aside0.mk (show ww7.heap[gy]? = some (.cells #[.int .i64 a1] 2 (0, 0)) by subst hw; exact blk_far Ky.out ney _); clear Ky; have Ky := KK; clear KK; have KK := Aside0.mk (show ww7.heap[gb]? = some (.cells #[.int .i64 0] 2 (0, 0)) by subst hw; exact blk_put Kb.out 0 _ rfl); clear Kb; have Kb := KK; clear KK; have KK := Aside0.mk (show ww7.heap[gm]? = some (.cells #[.int .i64 0] 2 (0, 0)) by subst hw; exact blk_far Km.out nem _); clear Km; have Km := KK; clear KK; clear HB; have HB := Aside0.mk hb; clear hb hw nex ney nem; clear zx_0 zy_0 zb_0 fb_0 zm_0 fm_0; have zx_0 : ww7.cell? ⟨gx, 0, none⟩ = some (.int .i64 a0) := (blk_cell Kx.out 0).trans rfl; have zy_0 : ww7.cell? ⟨gy, 0, none⟩ = some (.int .i64 a1) := (blk_cell Ky.out 0).trans rfl; have zm_0 : ww7.cell? ⟨gm, 0, none⟩ = some (.int .i64 0) := (blk_cell Km.out 0).trans rfl; have fm_0 := blk_frozen Km.out 0) | ((with_reducible refine gate_store (t := 2) (p := 7) rfl ?_); refine store_event (t := 2) (p := 7) (v := ?vo_ww8_3) (w1 := (ww7.setCell ⟨gm, 0, none⟩ (.int .i64 (-9223372036854775808)))) ?hg ?ho ?hn ?hr ?_; (case ho => rfl); (case hg => rfl); (case hn => rfl); (case hr => first | (go_simp; done) | (go_simp; rfl)); intro ww8 hw; have nex : gx ≠ gm := Nx_m.out; have ney : gy ≠ gm := Ny_m.out; have neb : gb ≠ gm := Nb_m.out; have hb : Below w.heap.size w ww8 := (by subst hw; exact below_set HB.out Gm.out); have KK := Aside0.mk (show ww8.heap[gx]? = some (.cells #[.int .i64 a0] 2 (0, 0)) by subst hw; exact blk_far Kx.out nex _); clear Kx; have Kx := KK; clear KK; have KK := Aside0.mk (show ww8.heap[gy]? = some (.cells #[.int .i64 a1] 2 (0, 0)) by subst hw; exact blk_far Ky.out ney _); clear Ky; have Ky := KK; clear KK; have KK := Aside0.mk (show ww8.heap[gb]? = some (.cells #[.int .i64 0] 2 (0, 0)) by subst hw; exact blk_far Kb.out neb _); clear Kb; have Kb := KK; clear KK; have KK := Aside0.mk (show ww8.heap[gm]? = some (.cells #[.int .i64 (-9223372036854775808)] 2 (0, 0)) by subst hw; exact blk_put Km.out 0 _ rfl); clear Km; have Km := KK; clear KK; clear HB; have HB := Aside0.mk hb; clear hb hw nex ney neb; clear zx_0 zy_0 zm_0 fm_0; have zx_0 : ww8.cell? ⟨gx, 0, none⟩ = some (.int .i64 a0) := (blk_cell Kx.out 0).trans rfl; have zy_0 : ww8.cell? ⟨gy, 0, none⟩ = some (.int .i64 a1) := (blk_cell Ky.out 0).trans rfl))
     go_loopg [10] 65 (fun kq v10 w' => ∃ (d best most : Int), v10 = .int .i64 d ∧ Aside0 (64 ≤ d ∧ d + (kq : Int) = 129) ∧ Aside0 ((headLoop a0 a1 kq d (best, most)).1 = r1) ∧ Aside0 (w'.heap[gx]? = some (.cells #[.int .i64 a0] 2 (0, 0))) ∧ Aside0 (w'.heap[gy]? = some (.cells #[.int .i64 a1] 2 (0, 0))) ∧ Aside0 (w'.heap[gb]? = some (.cells #[.int .i64 best] 2 (0, 0))) ∧ Aside0 (w'.heap[gm]? = some (.cells #[.int .i64 most] 2 (0, 0))) ∧ Aside0 (Below w.heap.size w w'))
     case atStart => exact ⟨64, 0, (-9223372036854775808), rfl, ⟨by omega, by omega⟩, HL, Kx, Ky, Kb, Km, HB⟩
     case round =>
       clear Kx Ky Kb Km HB HL
       obtain ⟨d, best, most, rfl, HD, HL, Kx, Ky, Kb, Km, HB⟩ := hrel
       obtain ⟨hd0, hd1⟩ := HD.out
       cases gk with
       | zero =>
         obtain rfl : d = 129 := by omega
         clear HD hd0 hd1
         obtain rfl : best = r1 := HL.out
         have zb_0 : wr.cell? ⟨gb, 0, none⟩ = some (.int .i64 best) := (blk_cell Kb.out 0).trans rfl
         go_wp2
         go_ret2
         exact ⟨rfl, HB.out⟩
       | succ n =>
         have e1 : d ≤ 128 := by omega
         have e2 : d < 256 := by omega
         have e3 : 0 ≤ d := by omega
         have c1 : decide (d ≤ 128) = true := decide_eq_true e1
         have c2 : decide (d < 256) = true := decide_eq_true e2
         clear hd0 hd1
         have HL2 : Aside0 ((headLoop a0 a1 n (d + 1) (headStep a0 a1 (best, most) d)).1 = r1) := HL
         clear HL
         have w1_ : wrap64 (d + 1) = d + 1 := sw64 (by omega) (by omega)
         go_wp2_with (first | (go_at_call 26; refine (headTry_calls a0 a1 d (headC d) (headS d) best most gx gy gm gb w _ (by omega) (by omega) HT.out (headC_eq _) (headS_eq _) HB.out Gm.out Gb.out Nx_m.out Nx_b.out Ny_m.out Ny_b.out (fun h => Nb_m.out h.symm) Kx.out Ky.out Km.out Kb.out).mono ?_; rintro e w9 ⟨⟨u, rfl⟩, kx, ky, km, kb, hb⟩; clear Kx Ky Km Kb HB; have Kx := Aside0.mk kx; have Ky := Aside0.mk ky; have Km := Aside0.mk km; have Kb := Aside0.mk kb; have HB := Aside0.mk hb; clear kx ky km kb hb))
         go_roundg n
         case measure => exact Nat.lt_succ_self n
         case rel => exact ⟨d + 1, _, _, by first | rfl | (simp; done), ⟨by have h := HD.out; omega⟩, HL2, Kx, Ky, Kb, Km, HB⟩
  by_cases cB : a0 < 0
  ·  have cB2 : a1 < 0 := by omega
     have d1 : decide (a0 < 0) = true := decide_eq_true (by omega)
     have d2 : decide (0 ≤ a1) = false := decide_eq_false (by omega)
     have d3 : decide (a0 ≤ 0) = true := decide_eq_true (by omega)
     have d4 : decide (a1 < 0) = true := decide_eq_true (by omega)
     have hf : headFrom a0 a1 = 128 := by unfold headFrom; rw [if_neg (by omega), if_pos (by omega)]
     have HL : Aside0 ((headLoop a0 a1 65 128 (0, (-9223372036854775808))).1 = r1) := ⟨by have h := HR1.out; unfold headBest headInit headN at h; rw [hf] at h; exact h⟩
     clear hf HR1
     try clear cF
     try clear cE
     try clear cD2
     try clear cD
     try clear cC2
     try clear cC1
     try clear cC
     try clear cB2
     try clear cB
     try clear cA2
     try clear cA1
     try clear cA
     go_enter Tryd.func21, Tryd.ntmps21
     go_wp2_with (first | ((with_reducible refine gate_dst (N := 2) rfl ?_); refine box_event ?hg (N := 2) ?hd (cs := #[.int .i64 a0]) (t := 2) ?hr ?_; (case hd => rfl); (case hg => rfl); (case hr => first | (go_simp; done) | (go_simp; rfl)); intro gx hg ww1 hbox hb; have Gx : Aside0 (w.heap.size ≤ gx) := ⟨by have := HB.out.size; omega⟩; have Kx := Aside0.mk hbox; have KK := Aside0.mk (below_step HB.out hb); clear HB; have HB := KK; clear KK; clear hb hbox hg; have zx_0 : ww1.cell? ⟨gx, 0, none⟩ = some (.int .i64 a0) := (blk_cell Kx.out 0).trans rfl; have fx_0 := blk_frozen Kx.out 0) | ((with_reducible refine gate_dst (N := 3) rfl ?_); refine box_event ?hg (N := 3) ?hd (cs := #[.int .i64 a1]) (t := 2) ?hr ?_; (case hd => rfl); (case hg => rfl); (case hr => first | (go_simp; done) | (go_simp; rfl)); intro gy hg ww2 hbox hb; have Nx_y : Aside0 (gx ≠ gy) := ⟨by have := blk_lt Kx.out; omega⟩; have KK := Aside0.mk (blk_below Kx.out hb); clear Kx; have Kx := KK; clear KK; have Gy : Aside0 (w.heap.size ≤ gy) := ⟨by have := HB.out.size; omega⟩; have Ky := Aside0.mk hbox; have KK := Aside0.mk (below_step HB.out hb); clear HB; have HB := KK; clear KK; clear hb hbox hg; clear zx_0 fx_0; have zx_0 : ww2.cell? ⟨gx, 0, none⟩ = some (.int .i64 a0) := (blk_cell Kx.out 0).trans rfl; have zy_0 : ww2.cell? ⟨gy, 0, none⟩ = some (.int .i64 a1) := (blk_cell Ky.out 0).trans rfl; have fy_0 := blk_frozen Ky.out 0) | (go_at_call_of 25 (Value.int .i64 a0); refine (trig_far.calls a0 false _ HT1.out).mono ?_; rintro e ww3 ⟨rfl, hd⟩; have hb := hd.below; clear hd; have KK := Aside0.mk (blk_below Kx.out hb); clear Kx; have Kx := KK; clear KK; have KK := Aside0.mk (blk_below Ky.out hb); clear Ky; have Ky := KK; clear KK; have KK := Aside0.mk (below_step HB.out hb); clear HB; have HB := KK; clear KK; clear hb; clear zx_0 zy_0 fy_0; have zx_0 : ww3.cell? ⟨gx, 0, none⟩ = some (.int .i64 a0) := (blk_cell Kx.out 0).trans rfl; have zy_0 : ww3.cell? ⟨gy, 0, none⟩ = some (.int .i64 a1) := (blk_cell Ky.out 0).trans rfl) | (go_at_call_of 25 (Value.int .i64 a1); refine (trig_far.calls a1 false _ HT2.out).mono ?_; rintro e ww4 ⟨rfl, hd⟩; have hb := hd.below; clear hd; have KK := Aside0.mk (blk_below Kx.out hb); clear Kx; have Kx := KK; clear KK; have KK := Aside0.mk (blk_below Ky.out hb); clear Ky; have Ky := KK; clear KK; have KK := Aside0.mk (below_step HB.out hb); clear HB; have HB := KK; clear KK; clear hb; clear zx_0 zy_0; have zx_0 : ww4.cell? ⟨gx, 0, none⟩ = some (.int .i64 a0) := (blk_cell Kx.out 0).trans rfl; have zy_0 : ww4.cell? ⟨gy, 0, none⟩ = some (.int .i64 a1) := (blk_cell Ky.out 0).trans rfl) | ((with_reducible refine gate_dst (N := 6) rfl ?_); refine box_event ?hg (N := 6) ?hd (cs := #[.int .i64 0]) (t := 2) ?hr ?_; (case hd => rfl); (case hg => rfl); (case hr => first | (go_simp; done) | (go_simp; rfl)); intro gb hg ww5 hbox hb; have Nx_b : Aside0 (gx ≠ gb) := ⟨by have := blk_lt Kx.out; omega⟩; have Ny_b : Aside0 (gy ≠ gb) := ⟨by have := blk_lt Ky.out; omega⟩; have KK := Aside0.mk (blk_below Kx.out hb); clear Kx; have Kx := KK; clear KK; have KK := Aside0.mk (blk_below Ky.out hb); clear Ky; have Ky := KK; clear KK; have Gb : Aside0 (w.heap.size ≤ gb) := ⟨by have := HB.out.size; omega⟩; have Kb := Aside0.mk hbox; have KK := Aside0.mk (below_step HB.out hb); clear HB; have HB := KK; clear KK; clear hb hbox hg; clear zx_0 zy_0; have zx_0 : ww5.cell? ⟨gx, 0, none⟩ = some (.int .i64 a0) := (blk_cell Kx.out 0).trans rfl; have zy_0 : ww5.cell? ⟨gy, 0, none⟩ = some (.int .i64 a1) := (blk_cell Ky.out 0).trans rfl; have zb_0 : ww5.cell? ⟨gb, 0, none⟩ = some (.int .i64 0) := (blk_cell Kb.out 0).trans rfl; have fb_0 := blk_frozen Kb.out 0) | ((with_reducible refine gate_dst (N := 7) rfl ?_); refine box_event ?hg (N := 7) ?hd (cs := #[.int .i64 0]) (t := 2) ?hr ?_; (case hd => rfl); (case hg => rfl); (case hr => first | (go_simp; done) | (go_simp; rfl)); intro gm hg ww6 hbox hb; have Nx_m : Aside0 (gx ≠ gm) := ⟨by have := blk_lt Kx.out; omega⟩; have Ny_m : Aside0 (gy ≠ gm) := ⟨by have := blk_lt Ky.out; omega⟩; have Nb_m : Aside0 (gb ≠ gm) := ⟨by have := blk_lt Kb.out; omega⟩; have KK := Aside0.mk (blk_below Kx.out hb); clear Kx; have Kx := KK; clear KK; have KK := Aside0.mk (blk_below Ky.out hb); clear Ky; have Ky := KK; clear KK; have KK := Aside0.mk (blk_below Kb.out hb); clear Kb; have Kb := KK; clear KK; have Gm : Aside0 (w.heap.size ≤ gm) := ⟨by have := HB.out.size; omega⟩; have Km := Aside0.mk hbox; have KK := Aside0.mk (below_step HB.out hb); clear HB; have HB := KK; clear KK; clear hb hbox hg; clear zx_0 zy_0 zb_0 fb_0; have zx_0 : ww6.cell? ⟨gx, 0, none⟩ = some (.int .i64 a0) := (blk_cell Kx.out 0).trans rfl; have zy_0 : ww6.cell? ⟨gy, 0, none⟩ = some (.int .i64 a1) := (blk_cell Ky.out 0).trans rfl; have zb_0 : ww6.cell? ⟨gb, 0, none⟩ = some (.int .i64 0) := (blk_cell Kb.out 0).trans rfl; have fb_0 := blk_frozen Kb.out 0; have zm_0 : ww6.cell? ⟨gm, 0, none⟩ = some (.int .i64 0) := (blk_cell Km.out 0).trans rfl; have fm_0 := blk_frozen Km.out 0) | ((with_reducible refine gate_store (t := 2) (p := 6) rfl ?_); refine store_event (t := 2) (p := 6) (v := ?vo_ww7_3) (w1 := (ww6.setCell ⟨gb, 0, none⟩ (.int .i64 0))) ?hg ?ho ?hn ?hr ?_; (case ho => rfl); (case hg => rfl); (case hn => rfl); (case hr => first | (go_simp; done) | (go_simp; rfl)); intro ww7 hw; have nex : gx ≠ gb := Nx_b.out; have ney : gy ≠ gb := Ny_b.out; have nem : gm ≠ gb := fun h => Nb_m.out h.symm; have hb : Below w.heap.size w ww7 := (by subst hw; exact below_set HB.out Gb.out); have KK := Aside0.mk (show ww7.heap[gx]? = some (.cells #[.int .i64 a0] 2 (0, 0)) by subst hw; exact blk_far Kx.out nex _); clear Kx; have Kx := KK; clear KK; have KK := Aside0.mk (show ww7.heap[gy]? = some (.cells #[.int .i64 a1] 2 (0, 0)) by subst hw; exact blk_far Ky.out ney _); clear Ky; have Ky := KK; clear KK; have KK := Aside0.mk (show ww7.heap[gb]? = some (.cells #[.int .i64 0] 2 (0, 0)) by subst hw; exact blk_put Kb.out 0 _ rfl); clear Kb; have Kb := KK; clear KK; have KK := Aside0.mk (show ww7.heap[gm]? = some (.cells #[.int .i64 0] 2 (0, 0)) by subst hw; exact blk_far Km.out nem _); clear Km; have Km := KK; clear KK; clear HB; have HB := Aside0.mk hb; clear hb hw nex ney nem; clear zx_0 zy_0 zb_0 fb_0 zm_0 fm_0; have zx_0 : ww7.cell? ⟨gx, 0, none⟩ = some (.int .i64 a0) := (blk_cell Kx.out 0).trans rfl; have zy_0 : ww7.cell? ⟨gy, 0, none⟩ = some (.int .i64 a1) := (blk_cell Ky.out 0).trans rfl; have zm_0 : ww7.cell? ⟨gm, 0, none⟩ = some (.int .i64 0) := (blk_cell Km.out 0).trans rfl; have fm_0 := blk_frozen Km.out 0) | ((with_reducible refine gate_store (t := 2) (p := 7) rfl ?_); refine store_event (t := 2) (p := 7) (v := ?vo_ww8_3) (w1 := (ww7.setCell ⟨gm, 0, none⟩ (.int .i64 (-9223372036854775808)))) ?hg ?ho ?hn ?hr ?_; (case ho => rfl); (case hg => rfl); (case hn => rfl); (case hr => first | (go_simp; done) | (go_simp; rfl)); intro ww8 hw; have nex : gx ≠ gm := Nx_m.out; have ney : gy ≠ gm := Ny_m.out; have neb : gb ≠ gm := Nb_m.out; have hb : Below w.heap.size w ww8 := (by subst hw; exact below_set HB.out Gm.out); have KK := Aside0.mk (show ww8.heap[gx]? = some (.cells #[.int .i64 a0] 2 (0, 0)) by subst hw; exact blk_far Kx.out nex _); clear Kx; have Kx := KK; clear KK; have KK := Aside0.mk (show ww8.heap[gy]? = some (.cells #[.int .i64 a1] 2 (0, 0)) by subst hw; exact blk_far Ky.out ney _); clear Ky; have Ky := KK; clear KK; have KK := Aside0.mk (show ww8.heap[gb]? = some (.cells #[.int .i64 0] 2 (0, 0)) by subst hw; exact blk_far Kb.out neb _); clear Kb; have Kb := KK; clear KK; have KK := Aside0.mk (show ww8.heap[gm]? = some (.cells #[.int .i64 (-9223372036854775808)] 2 (0, 0)) by subst hw; exact blk_put Km.out 0 _ rfl); clear Km; have Km := KK; clear KK; clear HB; have HB := Aside0.mk hb; clear hb hw nex ney neb; clear zx_0 zy_0 zm_0 fm_0; have zx_0 : ww8.cell? ⟨gx, 0, none⟩ = some (.int .i64 a0) := (blk_cell Kx.out 0).trans rfl; have zy_0 : ww8.cell? ⟨gy, 0, none⟩ = some (.int .i64 a1) := (blk_cell Ky.out 0).trans rfl))
     go_loopg [10] 65 (fun kq v10 w' => ∃ (d best most : Int), v10 = .int .i64 d ∧ Aside0 (128 ≤ d ∧ d + (kq : Int) = 193) ∧ Aside0 ((headLoop a0 a1 kq d (best, most)).1 = r1) ∧ Aside0 (w'.heap[gx]? = some (.cells #[.int .i64 a0] 2 (0, 0))) ∧ Aside0 (w'.heap[gy]? = some (.cells #[.int .i64 a1] 2 (0, 0))) ∧ Aside0 (w'.heap[gb]? = some (.cells #[.int .i64 best] 2 (0, 0))) ∧ Aside0 (w'.heap[gm]? = some (.cells #[.int .i64 most] 2 (0, 0))) ∧ Aside0 (Below w.heap.size w w'))
     case atStart => exact ⟨128, 0, (-9223372036854775808), rfl, ⟨by omega, by omega⟩, HL, Kx, Ky, Kb, Km, HB⟩
     case round =>
       clear Kx Ky Kb Km HB HL
       obtain ⟨d, best, most, rfl, HD, HL, Kx, Ky, Kb, Km, HB⟩ := hrel
       obtain ⟨hd0, hd1⟩ := HD.out
       cases gk with
       | zero =>
         obtain rfl : d = 193 := by omega
         clear HD hd0 hd1
         obtain rfl : best = r1 := HL.out
         have zb_0 : wr.cell? ⟨gb, 0, none⟩ = some (.int .i64 best) := (blk_cell Kb.out 0).trans rfl
         go_wp2
         go_ret2
         exact ⟨rfl, HB.out⟩
       | succ n =>
         have e1 : d ≤ 192 := by omega
         have e2 : d < 256 := by omega
         have e3 : 0 ≤ d := by omega
         have c1 : decide (d ≤ 192) = true := decide_eq_true e1
         have c2 : decide (d < 256) = true := decide_eq_true e2
         clear hd0 hd1
         have HL2 : Aside0 ((headLoop a0 a1 n (d + 1) (headStep a0 a1 (best, most) d)).1 = r1) := HL
         clear HL
         have w1_ : wrap64 (d + 1) = d + 1 := sw64 (by omega) (by omega)
         go_wp2_with (first | (go_at_call 26; refine (headTry_calls a0 a1 d (headC d) (headS d) best most gx gy gm gb w _ (by omega) (by omega) HT.out (headC_eq _) (headS_eq _) HB.out Gm.out Gb.out Nx_m.out Nx_b.out Ny_m.out Ny_b.out (fun h => Nb_m.out h.symm) Kx.out Ky.out Km.out Kb.out).mono ?_; rintro e w9 ⟨⟨u, rfl⟩, kx, ky, km, kb, hb⟩; clear Kx Ky Km Kb HB; have Kx := Aside0.mk kx; have Ky := Aside0.mk ky; have Km := Aside0.mk km; have Kb := Aside0.mk kb; have HB := Aside0.mk hb; clear kx ky km kb hb))
         go_roundg n
         case measure => exact Nat.lt_succ_self n
         case rel => exact ⟨d + 1, _, _, by first | rfl | (simp; done), ⟨by have h := HD.out; omega⟩, HL2, Kx, Ky, Kb, Km, HB⟩
  by_cases cC : a0 = 0 ∧ a1 < 0
  ·  obtain ⟨cC1, cC2⟩ := cC
     have d1 : decide (a0 < 0) = false := decide_eq_false (by omega)
     have d2 : decide (0 ≤ a1) = false := decide_eq_false (by omega)
     have d3 : decide (a0 ≤ 0) = true := decide_eq_true (by omega)
     have d4 : decide (a1 < 0) = true := decide_eq_true (by omega)
     have hf : headFrom a0 a1 = 128 := by unfold headFrom; rw [if_neg (by omega), if_pos (by omega)]
     have HL : Aside0 ((headLoop a0 a1 65 128 (0, (-9223372036854775808))).1 = r1) := ⟨by have h := HR1.out; unfold headBest headInit headN at h; rw [hf] at h; exact h⟩
     clear hf HR1
     try clear cF
     try clear cE
     try clear cD2
     try clear cD
     try clear cC2
     try clear cC1
     try clear cC
     try clear cB2
     try clear cB
     try clear cA2
     try clear cA1
     try clear cA
     go_enter Tryd.func21, Tryd.ntmps21
     go_wp2_with (first | ((with_reducible refine gate_dst (N := 2) rfl ?_); refine box_event ?hg (N := 2) ?hd (cs := #[.int .i64 a0]) (t := 2) ?hr ?_; (case hd => rfl); (case hg => rfl); (case hr => first | (go_simp; done) | (go_simp; rfl)); intro gx hg ww1 hbox hb; have Gx : Aside0 (w.heap.size ≤ gx) := ⟨by have := HB.out.size; omega⟩; have Kx := Aside0.mk hbox; have KK := Aside0.mk (below_step HB.out hb); clear HB; have HB := KK; clear KK; clear hb hbox hg; have zx_0 : ww1.cell? ⟨gx, 0, none⟩ = some (.int .i64 a0) := (blk_cell Kx.out 0).trans rfl; have fx_0 := blk_frozen Kx.out 0) | ((with_reducible refine gate_dst (N := 3) rfl ?_); refine box_event ?hg (N := 3) ?hd (cs := #[.int .i64 a1]) (t := 2) ?hr ?_; (case hd => rfl); (case hg => rfl); (case hr => first | (go_simp; done) | (go_simp; rfl)); intro gy hg ww2 hbox hb; have Nx_y : Aside0 (gx ≠ gy) := ⟨by have := blk_lt Kx.out; omega⟩; have KK := Aside0.mk (blk_below Kx.out hb); clear Kx; have Kx := KK; clear KK; have Gy : Aside0 (w.heap.size ≤ gy) := ⟨by have := HB.out.size; omega⟩; have Ky := Aside0.mk hbox; have KK := Aside0.mk (below_step HB.out hb); clear HB; have HB := KK; clear KK; clear hb hbox hg; clear zx_0 fx_0; have zx_0 : ww2.cell? ⟨gx, 0, none⟩ = some (.int .i64 a0) := (blk_cell Kx.out 0).trans rfl; have zy_0 : ww2.cell? ⟨gy, 0, none⟩ = some (.int .i64 a1) := (blk_cell Ky.out 0).trans rfl; have fy_0 := blk_frozen Ky.out 0) | (go_at_call_of 25 (Value.int .i64 a0); refine (trig_far.calls a0 false _ HT1.out).mono ?_; rintro e ww3 ⟨rfl, hd⟩; have hb := hd.below; clear hd; have KK := Aside0.mk (blk_below Kx.out hb); clear Kx; have Kx := KK; clear KK; have KK := Aside0.mk (blk_below Ky.out hb); clear Ky; have Ky := KK; clear KK; have KK := Aside0.mk (below_step HB.out hb); clear HB; have HB := KK; clear KK; clear hb; clear zx_0 zy_0 fy_0; have zx_0 : ww3.cell? ⟨gx, 0, none⟩ = some (.int .i64 a0) := (blk_cell Kx.out 0).trans rfl; have zy_0 : ww3.cell? ⟨gy, 0, none⟩ = some (.int .i64 a1) := (blk_cell Ky.out 0).trans rfl) | (go_at_call_of 25 (Value.int .i64 a1); refine (trig_far.calls a1 false _ HT2.out).mono ?_; rintro e ww4 ⟨rfl, hd⟩; have hb := hd.below; clear hd; have KK := Aside0.mk (blk_below Kx.out hb); clear Kx; have Kx := KK; clear KK; have KK := Aside0.mk (blk_below Ky.out hb); clear Ky; have Ky := KK; clear KK; have KK := Aside0.mk (below_step HB.out hb); clear HB; have HB := KK; clear KK; clear hb; clear zx_0 zy_0; have zx_0 : ww4.cell? ⟨gx, 0, none⟩ = some (.int .i64 a0) := (blk_cell Kx.out 0).trans rfl; have zy_0 : ww4.cell? ⟨gy, 0, none⟩ = some (.int .i64 a1) := (blk_cell Ky.out 0).trans rfl) | ((with_reducible refine gate_dst (N := 6) rfl ?_); refine box_event ?hg (N := 6) ?hd (cs := #[.int .i64 0]) (t := 2) ?hr ?_; (case hd => rfl); (case hg => rfl); (case hr => first | (go_simp; done) | (go_simp; rfl)); intro gb hg ww5 hbox hb; have Nx_b : Aside0 (gx ≠ gb) := ⟨by have := blk_lt Kx.out; omega⟩; have Ny_b : Aside0 (gy ≠ gb) := ⟨by have := blk_lt Ky.out; omega⟩; have KK := Aside0.mk (blk_below Kx.out hb); clear Kx; have Kx := KK; clear KK; have KK := Aside0.mk (blk_below Ky.out hb); clear Ky; have Ky := KK; clear KK; have Gb : Aside0 (w.heap.size ≤ gb) := ⟨by have := HB.out.size; omega⟩; have Kb := Aside0.mk hbox; have KK := Aside0.mk (below_step HB.out hb); clear HB; have HB := KK; clear KK; clear hb hbox hg; clear zx_0 zy_0; have zx_0 : ww5.cell? ⟨gx, 0, none⟩ = some (.int .i64 a0) := (blk_cell Kx.out 0).trans rfl; have zy_0 : ww5.cell? ⟨gy, 0, none⟩ = some (.int .i64 a1) := (blk_cell Ky.out 0).trans rfl; have zb_0 : ww5.cell? ⟨gb, 0, none⟩ = some (.int .i64 0) := (blk_cell Kb.out 0).trans rfl; have fb_0 := blk_frozen Kb.out 0) | ((with_reducible refine gate_dst (N := 7) rfl ?_); refine box_event ?hg (N := 7) ?hd (cs := #[.int .i64 0]) (t := 2) ?hr ?_; (case hd => rfl); (case hg => rfl); (case hr => first | (go_simp; done) | (go_simp; rfl)); intro gm hg ww6 hbox hb; have Nx_m : Aside0 (gx ≠ gm) := ⟨by have := blk_lt Kx.out; omega⟩; have Ny_m : Aside0 (gy ≠ gm) := ⟨by have := blk_lt Ky.out; omega⟩; have Nb_m : Aside0 (gb ≠ gm) := ⟨by have := blk_lt Kb.out; omega⟩; have KK := Aside0.mk (blk_below Kx.out hb); clear Kx; have Kx := KK; clear KK; have KK := Aside0.mk (blk_below Ky.out hb); clear Ky; have Ky := KK; clear KK; have KK := Aside0.mk (blk_below Kb.out hb); clear Kb; have Kb := KK; clear KK; have Gm : Aside0 (w.heap.size ≤ gm) := ⟨by have := HB.out.size; omega⟩; have Km := Aside0.mk hbox; have KK := Aside0.mk (below_step HB.out hb); clear HB; have HB := KK; clear KK; clear hb hbox hg; clear zx_0 zy_0 zb_0 fb_0; have zx_0 : ww6.cell? ⟨gx, 0, none⟩ = some (.int .i64 a0) := (blk_cell Kx.out 0).trans rfl; have zy_0 : ww6.cell? ⟨gy, 0, none⟩ = some (.int .i64 a1) := (blk_cell Ky.out 0).trans rfl; have zb_0 : ww6.cell? ⟨gb, 0, none⟩ = some (.int .i64 0) := (blk_cell Kb.out 0).trans rfl; have fb_0 := blk_frozen Kb.out 0; have zm_0 : ww6.cell? ⟨gm, 0, none⟩ = some (.int .i64 0) := (blk_cell Km.out 0).trans rfl; have fm_0 := blk_frozen Km.out 0) | ((with_reducible refine gate_store (t := 2) (p := 6) rfl ?_); refine store_event (t := 2) (p := 6) (v := ?vo_ww7_3) (w1 := (ww6.setCell ⟨gb, 0, none⟩ (.int .i64 0))) ?hg ?ho ?hn ?hr ?_; (case ho => rfl); (case hg => rfl); (case hn => rfl); (case hr => first | (go_simp; done) | (go_simp; rfl)); intro ww7 hw; have nex : gx ≠ gb := Nx_b.out; have ney : gy ≠ gb := Ny_b.out; have nem : gm ≠ gb := fun h => Nb_m.out h.symm; have hb : Below w.heap.size w ww7 := (by subst hw; exact below_set HB.out Gb.out); have KK := Aside0.mk (show ww7.heap[gx]? = some (.cells #[.int .i64 a0] 2 (0, 0)) by subst hw; exact blk_far Kx.out nex _); clear Kx; have Kx := KK; clear KK; have KK := Aside0.mk (show ww7.heap[gy]? = some (.cells #[.int .i64 a1] 2 (0, 0)) by subst hw; exact blk_far Ky.out ney _); clear Ky; have Ky := KK; clear KK; have KK := Aside0.mk (show ww7.heap[gb]? = some (.cells #[.int .i64 0] 2 (0, 0)) by subst hw; exact blk_put Kb.out 0 _ rfl); clear Kb; have Kb := KK; clear KK; have KK := Aside0.mk (show ww7.heap[gm]? = some (.cells #[.int .i64 0] 2 (0, 0)) by subst hw; exact blk_far Km.out nem _); clear Km; have Km := KK; clear KK; clear HB; have HB := Aside0.mk hb; clear hb hw nex ney nem; clear zx_0 zy_0 zb_0 fb_0 zm_0 fm_0; have zx_0 : ww7.cell? ⟨gx, 0, none⟩ = some (.int .i64 a0) := (blk_cell Kx.out 0).trans rfl; have zy_0 : ww7.cell? ⟨gy, 0, none⟩ = some (.int .i64 a1) := (blk_cell Ky.out 0).trans rfl; have zm_0 : ww7.cell? ⟨gm, 0, none⟩ = some (.int .i64 0) := (blk_cell Km.out 0).trans rfl; have fm_0 := blk_frozen Km.out 0) | ((with_reducible refine gate_store (t := 2) (p := 7) rfl ?_); refine store_event (t := 2) (p := 7) (v := ?vo_ww8_3) (w1 := (ww7.setCell ⟨gm, 0, none⟩ (.int .i64 (-9223372036854775808)))) ?hg ?ho ?hn ?hr ?_; (case ho => rfl); (case hg => rfl); (case hn => rfl); (case hr => first | (go_simp; done) | (go_simp; rfl)); intro ww8 hw; have nex : gx ≠ gm := Nx_m.out; have ney : gy ≠ gm := Ny_m.out; have neb : gb ≠ gm := Nb_m.out; have hb : Below w.heap.size w ww8 := (by subst hw; exact below_set HB.out Gm.out); have KK := Aside0.mk (show ww8.heap[gx]? = some (.cells #[.int .i64 a0] 2 (0, 0)) by subst hw; exact blk_far Kx.out nex _); clear Kx; have Kx := KK; clear KK; have KK := Aside0.mk (show ww8.heap[gy]? = some (.cells #[.int .i64 a1] 2 (0, 0)) by subst hw; exact blk_far Ky.out ney _); clear Ky; have Ky := KK; clear KK; have KK := Aside0.mk (show ww8.heap[gb]? = some (.cells #[.int .i64 0] 2 (0, 0)) by subst hw; exact blk_far Kb.out neb _); clear Kb; have Kb := KK; clear KK; have KK := Aside0.mk (show ww8.heap[gm]? = some (.cells #[.int .i64 (-9223372036854775808)] 2 (0, 0)) by subst hw; exact blk_put Km.out 0 _ rfl); clear Km; have Km := KK; clear KK; clear HB; have HB := Aside0.mk hb; clear hb hw nex ney neb; clear zx_0 zy_0 zm_0 fm_0; have zx_0 : ww8.cell? ⟨gx, 0, none⟩ = some (.int .i64 a0) := (blk_cell Kx.out 0).trans rfl; have zy_0 : ww8.cell? ⟨gy, 0, none⟩ = some (.int .i64 a1) := (blk_cell Ky.out 0).trans rfl))
     go_loopg [10] 65 (fun kq v10 w' => ∃ (d best most : Int), v10 = .int .i64 d ∧ Aside0 (128 ≤ d ∧ d + (kq : Int) = 193) ∧ Aside0 ((headLoop a0 a1 kq d (best, most)).1 = r1) ∧ Aside0 (w'.heap[gx]? = some (.cells #[.int .i64 a0] 2 (0, 0))) ∧ Aside0 (w'.heap[gy]? = some (.cells #[.int .i64 a1] 2 (0, 0))) ∧ Aside0 (w'.heap[gb]? = some (.cells #[.int .i64 best] 2 (0, 0))) ∧ Aside0 (w'.heap[gm]? = some (.cells #[.int .i64 most] 2 (0, 0))) ∧ Aside0 (Below w.heap.size w w'))
     case atStart => exact ⟨128, 0, (-9223372036854775808), rfl, ⟨by omega, by omega⟩, HL, Kx, Ky, Kb, Km, HB⟩
     case round =>
       clear Kx Ky Kb Km HB HL
       obtain ⟨d, best, most, rfl, HD, HL, Kx, Ky, Kb, Km, HB⟩ := hrel
       obtain ⟨hd0, hd1⟩ := HD.out
       cases gk with
       | zero =>
         obtain rfl : d = 193 := by omega
         clear HD hd0 hd1
         obtain rfl : best = r1 := HL.out
         have zb_0 : wr.cell? ⟨gb, 0, none⟩ = some (.int .i64 best) := (blk_cell Kb.out 0).trans rfl
         go_wp2
         go_ret2
         exact ⟨rfl, HB.out⟩
       | succ n =>
         have e1 : d ≤ 192 := by omega
         have e2 : d < 256 := by omega
         have e3 : 0 ≤ d := by omega
         have c1 : decide (d ≤ 192) = true := decide_eq_true e1
         have c2 : decide (d < 256) = true := decide_eq_true e2
         clear hd0 hd1
         have HL2 : Aside0 ((headLoop a0 a1 n (d + 1) (headStep a0 a1 (best, most) d)).1 = r1) := HL
         clear HL
         have w1_ : wrap64 (d + 1) = d + 1 := sw64 (by omega) (by omega)
         go_wp2_with (first | (go_at_call 26; refine (headTry_calls a0 a1 d (headC d) (headS d) best most gx gy gm gb w _ (by omega) (by omega) HT.out (headC_eq _) (headS_eq _) HB.out Gm.out Gb.out Nx_m.out Nx_b.out Ny_m.out Ny_b.out (fun h => Nb_m.out h.symm) Kx.out Ky.out Km.out Kb.out).mono ?_; rintro e w9 ⟨⟨u, rfl⟩, kx, ky, km, kb, hb⟩; clear Kx Ky Km Kb HB; have Kx := Aside0.mk kx; have Ky := Aside0.mk ky; have Km := Aside0.mk km; have Kb := Aside0.mk kb; have HB := Aside0.mk hb; clear kx ky km kb hb))
         go_roundg n
         case measure => exact Nat.lt_succ_self n
         case rel => exact ⟨d + 1, _, _, by first | rfl | (simp; done), ⟨by have h := HD.out; omega⟩, HL2, Kx, Ky, Kb, Km, HB⟩
  by_cases cD : a1 < 0
  ·  have cD2 : 0 < a0 := by omega
     have d1 : decide (a0 < 0) = false := decide_eq_false (by omega)
     have d2 : decide (0 ≤ a1) = false := decide_eq_false (by omega)
     have d3 : decide (a0 ≤ 0) = false := decide_eq_false (by omega)
     have d4 : decide (a1 < 0) = true := decide_eq_true (by omega)
     have hf : headFrom a0 a1 = 192 := by unfold headFrom; rw [if_neg (by omega), if_neg (by omega), if_pos (by omega)]
     have HL : Aside0 ((headLoop a0 a1 64 192 (headStep a0 a1 (0, (-9223372036854775808)) 0)).1 = r1) := ⟨by have h := HR1.out; unfold headBest headInit headN at h; rw [hf] at h; exact h⟩
     clear hf HR1
     try clear cF
     try clear cE
     try clear cD2
     try clear cD
     try clear cC2
     try clear cC1
     try clear cC
     try clear cB2
     try clear cB
     try clear cA2
     try clear cA1
     try clear cA
     go_enter Tryd.func21, Tryd.ntmps21
     go_wp2_with (first | ((with_reducible refine gate_dst (N := 2) rfl ?_); refine box_event ?hg (N := 2) ?hd (cs := #[.int .i64 a0]) (t := 2) ?hr ?_; (case hd => rfl); (case hg => rfl); (case hr => first | (go_simp; done) | (go_simp; rfl)); intro gx hg ww1 hbox hb; have Gx : Aside0 (w.heap.size ≤ gx) := ⟨by have := HB.out.size; omega⟩; have Kx := Aside0.mk hbox; have KK := Aside0.mk (below_step HB.out hb); clear HB; have HB := KK; clear KK; clear hb hbox hg; have zx_0 : ww1.cell? ⟨gx, 0, none⟩ = some (.int .i64 a0) := (blk_cell Kx.out 0).trans rfl; have fx_0 := blk_frozen Kx.out 0) | ((with_reducible refine gate_dst (N := 3) rfl ?_); refine box_event ?hg (N := 3) ?hd (cs := #[.int .i64 a1]) (t := 2) ?hr ?_; (case hd => rfl); (case hg => rfl); (case hr => first | (go_simp; done) | (go_simp; rfl)); intro gy hg ww2 hbox hb; have Nx_y : Aside0 (gx ≠ gy) := ⟨by have := blk_lt Kx.out; omega⟩; have KK := Aside0.mk (blk_below Kx.out hb); clear Kx; have Kx := KK; clear KK; have Gy : Aside0 (w.heap.size ≤ gy) := ⟨by have := HB.out.size; omega⟩; have Ky := Aside0.mk hbox; have KK := Aside0.mk (below_step HB.out hb); clear HB; have HB := KK; clear KK; clear hb hbox hg; clear zx_0 fx_0; have zx_0 : ww2.cell? ⟨gx, 0, none⟩ = some (.int .i64 a0) := (blk_cell Kx.out 0).trans rfl; have zy_0 : ww2.cell? ⟨gy, 0, none⟩ = some (.int .i64 a1) := (blk_cell Ky.out 0).trans rfl; have fy_0 := blk_frozen Ky.out 0) | (go_at_call_of 25 (Value.int .i64 a0); refine (trig_far.calls a0 false _ HT1.out).mono ?_; rintro e ww3 ⟨rfl, hd⟩; have hb := hd.below; clear hd; have KK := Aside0.mk (blk_below Kx.out hb); clear Kx; have Kx := KK; clear KK; have KK := Aside0.mk (blk_below Ky.out hb); clear Ky; have Ky := KK; clear KK; have KK := Aside0.mk (below_step HB.out hb); clear HB; have HB := KK; clear KK; clear hb; clear zx_0 zy_0 fy_0; have zx_0 : ww3.cell? ⟨gx, 0, none⟩ = some (.int .i64 a0) := (blk_cell Kx.out 0).trans rfl; have zy_0 : ww3.cell? ⟨gy, 0, none⟩ = some (.int .i64 a1) := (blk_cell Ky.out 0).trans rfl) | (go_at_call_of 25 (Value.int .i64 a1); refine (trig_far.calls a1 false _ HT2.out).mono ?_; rintro e ww4 ⟨rfl, hd⟩; have hb := hd.below; clear hd; have KK := Aside0.mk (blk_below Kx.out hb); clear Kx; have Kx := KK; clear KK; have KK := Aside0.mk (blk_below Ky.out hb); clear Ky; have Ky := KK; clear KK; have KK := Aside0.mk (below_step HB.out hb); clear HB; have HB := KK; clear KK; clear hb; clear zx_0 zy_0; have zx_0 : ww4.cell? ⟨gx, 0, none⟩ = some (.int .i64 a0) := (blk_cell Kx.out 0).trans rfl; have zy_0 : ww4.cell? ⟨gy, 0, none⟩ = some (.int .i64 a1) := (blk_cell Ky.out 0).trans rfl) | ((with_reducible refine gate_dst (N := 6) rfl ?_); refine box_event ?hg (N := 6) ?hd (cs := #[.int .i64 0]) (t := 2) ?hr ?_; (case hd => rfl); (case hg => rfl); (case hr => first | (go_simp; done) | (go_simp; rfl)); intro gb hg ww5 hbox hb; have Nx_b : Aside0 (gx ≠ gb) := ⟨by have := blk_lt Kx.out; omega⟩; have Ny_b : Aside0 (gy ≠ gb) := ⟨by have := blk_lt Ky.out; omega⟩; have KK := Aside0.mk (blk_below Kx.out hb); clear Kx; have Kx := KK; clear KK; have KK := Aside0.mk (blk_below Ky.out hb); clear Ky; have Ky := KK; clear KK; have Gb : Aside0 (w.heap.size ≤ gb) := ⟨by have := HB.out.size; omega⟩; have Kb := Aside0.mk hbox; have KK := Aside0.mk (below_step HB.out hb); clear HB; have HB := KK; clear KK; clear hb hbox hg; clear zx_0 zy_0; have zx_0 : ww5.cell? ⟨gx, 0, none⟩ = some (.int .i64 a0) := (blk_cell Kx.out 0).trans rfl; have zy_0 : ww5.cell? ⟨gy, 0, none⟩ = some (.int .i64 a1) := (blk_cell Ky.out 0).trans rfl; have zb_0 : ww5.cell? ⟨gb, 0, none⟩ = some (.int .i64 0) := (blk_cell Kb.out 0).trans rfl; have fb_0 := blk_frozen Kb.out 0) | ((with_reducible refine gate_dst (N := 7) rfl ?_); refine box_event ?hg (N := 7) ?hd (cs := #[.int .i64 0]) (t := 2) ?hr ?_; (case hd => rfl); (case hg => rfl); (case hr => first | (go_simp; done) | (go_simp; rfl)); intro gm hg ww6 hbox hb; have Nx_m : Aside0 (gx ≠ gm) := ⟨by have := blk_lt Kx.out; omega⟩; have Ny_m : Aside0 (gy ≠ gm) := ⟨by have := blk_lt Ky.out; omega⟩; have Nb_m : Aside0 (gb ≠ gm) := ⟨by have := blk_lt Kb.out; omega⟩; have KK := Aside0.mk (blk_below Kx.out hb); clear Kx; have Kx := KK; clear KK; have KK := Aside0.mk (blk_below Ky.out hb); clear Ky; have Ky := KK; clear KK; have KK := Aside0.mk (blk_below Kb.out hb); clear Kb; have Kb := KK; clear KK; have Gm : Aside0 (w.heap.size ≤ gm) := ⟨by have := HB.out.size; omega⟩; have Km := Aside0.mk hbox; have KK := Aside0.mk (below_step HB.out hb); clear HB; have HB := KK; clear KK; clear hb hbox hg; clear zx_0 zy_0 zb_0 fb_0; have zx_0 : ww6.cell? ⟨gx, 0, none⟩ = some (.int .i64 a0) := (blk_cell Kx.out 0).trans rfl; have zy_0 : ww6.cell? ⟨gy, 0, none⟩ = some (.int .i64 a1) := (blk_cell Ky.out 0).trans rfl; have zb_0 : ww6.cell? ⟨gb, 0, none⟩ = some (.int .i64 0) := (blk_cell Kb.out 0).trans rfl; have fb_0 := blk_frozen Kb.out 0; have zm_0 : ww6.cell? ⟨gm, 0, none⟩ = some (.int .i64 0) := (blk_cell Km.out 0).trans rfl; have fm_0 := blk_frozen Km.out 0) | ((with_reducible refine gate_store (t := 2) (p := 6) rfl ?_); refine store_event (t := 2) (p := 6) (v := ?vo_ww7_3) (w1 := (ww6.setCell ⟨gb, 0, none⟩ (.int .i64 0))) ?hg ?ho ?hn ?hr ?_; (case ho => rfl); (case hg => rfl); (case hn => rfl); (case hr => first | (go_simp; done) | (go_simp; rfl)); intro ww7 hw; have nex : gx ≠ gb := Nx_b.out; have ney : gy ≠ gb := Ny_b.out; have nem : gm ≠ gb := fun h => Nb_m.out h.symm; have hb : Below w.heap.size w ww7 := (by subst hw; exact below_set HB.out Gb.out); have KK := Aside0.mk (show ww7.heap[gx]? = some (.cells #[.int .i64 a0] 2 (0, 0)) by subst hw; exact blk_far Kx.out nex _); clear Kx; have Kx := KK; clear KK; have KK := Aside0.mk (show ww7.heap[gy]? = some (.cells #[.int .i64 a1] 2 (0, 0)) by subst hw; exact blk_far Ky.out ney _); clear Ky; have Ky := KK; clear KK; have KK := Aside0.mk (show ww7.heap[gb]? = some (.cells #[.int .i64 0] 2 (0, 0)) by subst hw; exact blk_put Kb.out 0 _ rfl); clear Kb; have Kb := KK; clear KK; have KK := Aside0.mk (show ww7.heap[gm]? = some (.cells #[.int .i64 0] 2 (0, 0)) by subst hw; exact blk_far Km.out nem _); clear Km; have Km := KK; clear KK; clear HB; have HB := Aside0.mk hb; clear hb hw nex ney nem; clear zx_0 zy_0 zb_0 fb_0 zm_0 fm_0; have zx_0 : ww7.cell? ⟨gx, 0, none⟩ = some (.int .i64 a0) := (blk_cell Kx.out 0).trans rfl; have zy_0 : ww7.cell? ⟨gy, 0, none⟩ = some (.int .i64 a1) := (blk_cell Ky.out 0).trans rfl; have zm_0 : ww7.cell? ⟨gm, 0, none⟩ = some (.int .i64 0) := (blk_cell Km.out 0).trans rfl; have fm_0 := blk_frozen Km.out 0) | ((with_reducible refine gate_store (t := 2) (p := 7) rfl ?_); refine store_event (t := 2) (p := 7) (v := ?vo_ww8_3) (w1 := (ww7.setCell ⟨gm, 0, none⟩ (.int .i64 (-9223372036854775808)))) ?hg ?ho ?hn ?hr ?_; (case ho => rfl); (case hg => rfl); (case hn => rfl); (case hr => first | (go_simp; done) | (go_simp; rfl)); intro ww8 hw; have nex : gx ≠ gm := Nx_m.out; have ney : gy ≠ gm := Ny_m.out; have neb : gb ≠ gm := Nb_m.out; have hb : Below w.heap.size w ww8 := (by subst hw; exact below_set HB.out Gm.out); have KK := Aside0.mk (show ww8.heap[gx]? = some (.cells #[.int .i64 a0] 2 (0, 0)) by subst hw; exact blk_far Kx.out nex _); clear Kx; have Kx := KK; clear KK; have KK := Aside0.mk (show ww8.heap[gy]? = some (.cells #[.int .i64 a1] 2 (0, 0)) by subst hw; exact blk_far Ky.out ney _); clear Ky; have Ky := KK; clear KK; have KK := Aside0.mk (show ww8.heap[gb]? = some (.cells #[.int .i64 0] 2 (0, 0)) by subst hw; exact blk_far Kb.out neb _); clear Kb; have Kb := KK; clear KK; have KK := Aside0.mk (show ww8.heap[gm]? = some (.cells #[.int .i64 (-9223372036854775808)] 2 (0, 0)) by subst hw; exact blk_put Km.out 0 _ rfl); clear Km; have Km := KK; clear KK; clear HB; have HB := Aside0.mk hb; clear hb hw nex ney neb; clear zx_0 zy_0 zm_0 fm_0; have zx_0 : ww8.cell? ⟨gx, 0, none⟩ = some (.int .i64 a0) := (blk_cell Kx.out 0).trans rfl; have zy_0 : ww8.cell? ⟨gy, 0, none⟩ = some (.int .i64 a1) := (blk_cell Ky.out 0).trans rfl) | (go_at_call 26; refine (headTry_calls a0 a1 0 (headC 0) (headS 0) 0 (-9223372036854775808) gx gy gm gb w _ (by omega) (by omega) HT.out (headC_eq _) (headS_eq _) HB.out Gm.out Gb.out Nx_m.out Nx_b.out Ny_m.out Ny_b.out (fun h => Nb_m.out h.symm) Kx.out Ky.out Km.out Kb.out).mono ?_; rintro e w9 ⟨⟨u, rfl⟩, kx, ky, km, kb, hb⟩; clear Kx Ky Km Kb HB; have Kx := Aside0.mk kx; have Ky := Aside0.mk ky; have Km := Aside0.mk km; have Kb := Aside0.mk kb; have HB := Aside0.mk hb; clear kx ky km kb hb))
     go_loopg [10] 64 (fun kq v10 w' => ∃ (d best most : Int), v10 = .int .i64 d ∧ Aside0 (192 ≤ d ∧ d + (kq : Int) = 256) ∧ Aside0 ((headLoop a0 a1 kq d (best, most)).1 = r1) ∧ Aside0 (w'.heap[gx]? = some (.cells #[.int .i64 a0] 2 (0, 0))) ∧ Aside0 (w'.heap[gy]? = some (.cells #[.int .i64 a1] 2 (0, 0))) ∧ Aside0 (w'.heap[gb]? = some (.cells #[.int .i64 best] 2 (0, 0))) ∧ Aside0 (w'.heap[gm]? = some (.cells #[.int .i64 most] 2 (0, 0))) ∧ Aside0 (Below w.heap.size w w'))
     case atStart => exact ⟨192, _, _, rfl, ⟨by omega, by omega⟩, HL, Kx, Ky, Kb, Km, HB⟩
     case round =>
       clear Kx Ky Kb Km HB HL
       obtain ⟨d, best, most, rfl, HD, HL, Kx, Ky, Kb, Km, HB⟩ := hrel
       obtain ⟨hd0, hd1⟩ := HD.out
       cases gk with
       | zero =>
         obtain rfl : d = 256 := by omega
         clear HD hd0 hd1
         obtain rfl : best = r1 := HL.out
         have zb_0 : wr.cell? ⟨gb, 0, none⟩ = some (.int .i64 best) := (blk_cell Kb.out 0).trans rfl
         go_wp2
         go_ret2
         exact ⟨rfl, HB.out⟩
       | succ n =>
         have e1 : d ≤ 256 := by omega
         have e2 : d < 256 := by omega
         have e3 : 0 ≤ d := by omega
         have c1 : decide (d ≤ 256) = true := decide_eq_true e1
         have c2 : decide (d < 256) = true := decide_eq_true e2
         clear hd0 hd1
         have HL2 : Aside0 ((headLoop a0 a1 n (d + 1) (headStep a0 a1 (best, most) d)).1 = r1) := HL
         clear HL
         have w1_ : wrap64 (d + 1) = d + 1 := sw64 (by omega) (by omega)
         go_wp2_with (first | (go_at_call 26; refine (headTry_calls a0 a1 d (headC d) (headS d) best most gx gy gm gb w _ (by omega) (by omega) HT.out (headC_eq _) (headS_eq _) HB.out Gm.out Gb.out Nx_m.out Nx_b.out Ny_m.out Ny_b.out (fun h => Nb_m.out h.symm) Kx.out Ky.out Km.out Kb.out).mono ?_; rintro e w9 ⟨⟨u, rfl⟩, kx, ky, km, kb, hb⟩; clear Kx Ky Km Kb HB; have Kx := Aside0.mk kx; have Ky := Aside0.mk ky; have Km := Aside0.mk km; have Kb := Aside0.mk kb; have HB := Aside0.mk hb; clear kx ky km kb hb))
         go_roundg n
         case measure => exact Nat.lt_succ_self n
         case rel => exact ⟨d + 1, _, _, by first | rfl | (simp; done), ⟨by have h := HD.out; omega⟩, HL2, Kx, Ky, Kb, Km, HB⟩
  by_cases cE : a0 = 0
  ·  skip
     have d1 : decide (a0 < 0) = false := decide_eq_false (by omega)
     have d2 : decide (0 ≤ a1) = true := decide_eq_true (by omega)
     have d3 : decide (a0 ≤ 0) = true := decide_eq_true (by omega)
     have d4 : decide (a1 < 0) = false := decide_eq_false (by omega)
     have hf : headFrom a0 a1 = 0 := by unfold headFrom; rw [if_neg (by omega), if_neg (by omega), if_neg (by omega)]
     have HL : Aside0 ((headLoop a0 a1 65 0 (0, (-9223372036854775808))).1 = r1) := ⟨by have h := HR1.out; unfold headBest headInit headN at h; rw [hf] at h; exact h⟩
     clear hf HR1
     try clear cF
     try clear cE
     try clear cD2
     try clear cD
     try clear cC2
     try clear cC1
     try clear cC
     try clear cB2
     try clear cB
     try clear cA2
     try clear cA1
     try clear cA
     go_enter Tryd.func21, Tryd.ntmps21
     go_wp2_with (first | ((with_reducible refine gate_dst (N := 2) rfl ?_); refine box_event ?hg (N := 2) ?hd (cs := #[.int .i64 a0]) (t := 2) ?hr ?_; (case hd => rfl); (case hg => rfl); (case hr => first | (go_simp; done) | (go_simp; rfl)); intro gx hg ww1 hbox hb; have Gx : Aside0 (w.heap.size ≤ gx) := ⟨by have := HB.out.size; omega⟩; have Kx := Aside0.mk hbox; have KK := Aside0.mk (below_step HB.out hb); clear HB; have HB := KK; clear KK; clear hb hbox hg; have zx_0 : ww1.cell? ⟨gx, 0, none⟩ = some (.int .i64 a0) := (blk_cell Kx.out 0).trans rfl; have fx_0 := blk_frozen Kx.out 0) | ((with_reducible refine gate_dst (N := 3) rfl ?_); refine box_event ?hg (N := 3) ?hd (cs := #[.int .i64 a1]) (t := 2) ?hr ?_; (case hd => rfl); (case hg => rfl); (case hr => first | (go_simp; done) | (go_simp; rfl)); intro gy hg ww2 hbox hb; have Nx_y : Aside0 (gx ≠ gy) := ⟨by have := blk_lt Kx.out; omega⟩; have KK := Aside0.mk (blk_below Kx.out hb); clear Kx; have Kx := KK; clear KK; have Gy : Aside0 (w.heap.size ≤ gy) := ⟨by have := HB.out.size; omega⟩; have Ky := Aside0.mk hbox; have KK := Aside0.mk (below_step HB.out hb); clear HB; have HB := KK; clear KK; clear hb hbox hg; clear zx_0 fx_0; have zx_0 : ww2.cell? ⟨gx, 0, none⟩ = some (.int .i64 a0) := (blk_cell Kx.out 0).trans rfl; have zy_0 : ww2.cell? ⟨gy, 0, none⟩ = some (.int .i64 a1) := (blk_cell Ky.out 0).trans rfl; have fy_0 := blk_frozen Ky.out 0) | (go_at_call_of 25 (Value.int .i64 a0); refine (trig_far.calls a0 false _ HT1.out).mono ?_; rintro e ww3 ⟨rfl, hd⟩; have hb := hd.below; clear hd; have KK := Aside0.mk (blk_below Kx.out hb); clear Kx; have Kx := KK; clear KK; have KK := Aside0.mk (blk_below Ky.out hb); clear Ky; have Ky := KK; clear KK; have KK := Aside0.mk (below_step HB.out hb); clear HB; have HB := KK; clear KK; clear hb; clear zx_0 zy_0 fy_0; have zx_0 : ww3.cell? ⟨gx, 0, none⟩ = some (.int .i64 a0) := (blk_cell Kx.out 0).trans rfl; have zy_0 : ww3.cell? ⟨gy, 0, none⟩ = some (.int .i64 a1) := (blk_cell Ky.out 0).trans rfl) | (go_at_call_of 25 (Value.int .i64 a1); refine (trig_far.calls a1 false _ HT2.out).mono ?_; rintro e ww4 ⟨rfl, hd⟩; have hb := hd.below; clear hd; have KK := Aside0.mk (blk_below Kx.out hb); clear Kx; have Kx := KK; clear KK; have KK := Aside0.mk (blk_below Ky.out hb); clear Ky; have Ky := KK; clear KK; have KK := Aside0.mk (below_step HB.out hb); clear HB; have HB := KK; clear KK; clear hb; clear zx_0 zy_0; have zx_0 : ww4.cell? ⟨gx, 0, none⟩ = some (.int .i64 a0) := (blk_cell Kx.out 0).trans rfl; have zy_0 : ww4.cell? ⟨gy, 0, none⟩ = some (.int .i64 a1) := (blk_cell Ky.out 0).trans rfl) | ((with_reducible refine gate_dst (N := 6) rfl ?_); refine box_event ?hg (N := 6) ?hd (cs := #[.int .i64 0]) (t := 2) ?hr ?_; (case hd => rfl); (case hg => rfl); (case hr => first | (go_simp; done) | (go_simp; rfl)); intro gb hg ww5 hbox hb; have Nx_b : Aside0 (gx ≠ gb) := ⟨by have := blk_lt Kx.out; omega⟩; have Ny_b : Aside0 (gy ≠ gb) := ⟨by have := blk_lt Ky.out; omega⟩; have KK := Aside0.mk (blk_below Kx.out hb); clear Kx; have Kx := KK; clear KK; have KK := Aside0.mk (blk_below Ky.out hb); clear Ky; have Ky := KK; clear KK; have Gb : Aside0 (w.heap.size ≤ gb) := ⟨by have := HB.out.size; omega⟩; have Kb := Aside0.mk hbox; have KK := Aside0.mk (below_step HB.out hb); clear HB; have HB := KK; clear KK; clear hb hbox hg; clear zx_0 zy_0; have zx_0 : ww5.cell? ⟨gx, 0, none⟩ = some (.int .i64 a0) := (blk_cell Kx.out 0).trans rfl; have zy_0 : ww5.cell? ⟨gy, 0, none⟩ = some (.int .i64 a1) := (blk_cell Ky.out 0).trans rfl; have zb_0 : ww5.cell? ⟨gb, 0, none⟩ = some (.int .i64 0) := (blk_cell Kb.out 0).trans rfl; have fb_0 := blk_frozen Kb.out 0) | ((with_reducible refine gate_dst (N := 7) rfl ?_); refine box_event ?hg (N := 7) ?hd (cs := #[.int .i64 0]) (t := 2) ?hr ?_; (case hd => rfl); (case hg => rfl); (case hr => first | (go_simp; done) | (go_simp; rfl)); intro gm hg ww6 hbox hb; have Nx_m : Aside0 (gx ≠ gm) := ⟨by have := blk_lt Kx.out; omega⟩; have Ny_m : Aside0 (gy ≠ gm) := ⟨by have := blk_lt Ky.out; omega⟩; have Nb_m : Aside0 (gb ≠ gm) := ⟨by have := blk_lt Kb.out; omega⟩; have KK := Aside0.mk (blk_below Kx.out hb); clear Kx; have Kx := KK; clear KK; have KK := Aside0.mk (blk_below Ky.out hb); clear Ky; have Ky := KK; clear KK; have KK := Aside0.mk (blk_below Kb.out hb); clear Kb; have Kb := KK; clear KK; have Gm : Aside0 (w.heap.size ≤ gm) := ⟨by have := HB.out.size; omega⟩; have Km := Aside0.mk hbox; have KK := Aside0.mk (below_step HB.out hb); clear HB; have HB := KK; clear KK; clear hb hbox hg; clear zx_0 zy_0 zb_0 fb_0; have zx_0 : ww6.cell? ⟨gx, 0, none⟩ = some (.int .i64 a0) := (blk_cell Kx.out 0).trans rfl; have zy_0 : ww6.cell? ⟨gy, 0, none⟩ = some (.int .i64 a1) := (blk_cell Ky.out 0).trans rfl; have zb_0 : ww6.cell? ⟨gb, 0, none⟩ = some (.int .i64 0) := (blk_cell Kb.out 0).trans rfl; have fb_0 := blk_frozen Kb.out 0; have zm_0 : ww6.cell? ⟨gm, 0, none⟩ = some (.int .i64 0) := (blk_cell Km.out 0).trans rfl; have fm_0 := blk_frozen Km.out 0) | ((with_reducible refine gate_store (t := 2) (p := 6) rfl ?_); refine store_event (t := 2) (p := 6) (v := ?vo_ww7_3) (w1 := (ww6.setCell ⟨gb, 0, none⟩ (.int .i64 0))) ?hg ?ho ?hn ?hr ?_; (case ho => rfl); (case hg => rfl); (case hn => rfl); (case hr => first | (go_simp; done) | (go_simp; rfl)); intro ww7 hw; have nex : gx ≠ gb := Nx_b.out; have ney : gy ≠ gb := Ny_b.out; have nem : gm ≠ gb := fun h => Nb_m.out h.symm; have hb : Below w.heap.size w ww7 := (by subst hw; exact below_set HB.out Gb.out); have KK := Aside0.mk (show ww7.heap[gx]? = some (.cells #[.int .i64 a0] 2 (0, 0)) by subst hw; exact blk_far Kx.out nex _); clear Kx; have Kx := KK; clear KK; have KK := Aside0.mk (show ww7.heap[gy]? = some (.cells #[.int .i64 a1] 2 (0, 0)) by subst hw; exact blk_far Ky.out ney _); clear Ky; have Ky := KK; clear KK; have KK := Aside0.mk (show ww7.heap[gb]? = some (.cells #[.int .i64 0] 2 (0, 0)) by subst hw; exact blk_put Kb.out 0 _ rfl); clear Kb; have Kb := KK; clear KK; have KK := Aside0.mk (show ww7.heap[gm]? = some (.cells #[.int .i64 0] 2 (0, 0)) by subst hw; exact blk_far Km.out nem _); clear Km; have Km := KK; clear KK; clear HB; have HB := Aside0.mk hb; clear hb hw nex ney nem; clear zx_0 zy_0 zb_0 fb_0 zm_0 fm_0; have zx_0 : ww7.cell? ⟨gx, 0, none⟩ = some (.int .i64 a0) := (blk_cell Kx.out 0).trans rfl; have zy_0 : ww7.cell? ⟨gy, 0, none⟩ = some (.int .i64 a1) := (blk_cell Ky.out 0).trans rfl; have zm_0 : ww7.cell? ⟨gm, 0, none⟩ = some (.int .i64 0) := (blk_cell Km.out 0).trans rfl; have fm_0 := blk_frozen Km.out 0) | ((with_reducible refine gate_store (t := 2) (p := 7) rfl ?_); refine store_event (t := 2) (p := 7) (v := ?vo_ww8_3) (w1 := (ww7.setCell ⟨gm, 0, none⟩ (.int .i64 (-9223372036854775808)))) ?hg ?ho ?hn ?hr ?_; (case ho => rfl); (case hg => rfl); (case hn => rfl); (case hr => first | (go_simp; done) | (go_simp; rfl)); intro ww8 hw; have nex : gx ≠ gm := Nx_m.out; have ney : gy ≠ gm := Ny_m.out; have neb : gb ≠ gm := Nb_m.out; have hb : Below w.heap.size w ww8 := (by subst hw; exact below_set HB.out Gm.out); have KK := Aside0.mk (show ww8.heap[gx]? = some (.cells #[.int .i64 a0] 2 (0, 0)) by subst hw; exact blk_far Kx.out nex _); clear Kx; have Kx := KK; clear KK; have KK := Aside0.mk (show ww8.heap[gy]? = some (.cells #[.int .i64 a1] 2 (0, 0)) by subst hw; exact blk_far Ky.out ney _); clear Ky; have Ky := KK; clear KK; have KK := Aside0.mk (show ww8.heap[gb]? = some (.cells #[.int .i64 0] 2 (0, 0)) by subst hw; exact blk_far Kb.out neb _); clear Kb; have Kb := KK; clear KK; have KK := Aside0.mk (show ww8.heap[gm]? = some (.cells #[.int .i64 (-9223372036854775808)] 2 (0, 0)) by subst hw; exact blk_put Km.out 0 _ rfl); clear Km; have Km := KK; clear KK; clear HB; have HB := Aside0.mk hb; clear hb hw nex ney neb; clear zx_0 zy_0 zm_0 fm_0; have zx_0 : ww8.cell? ⟨gx, 0, none⟩ = some (.int .i64 a0) := (blk_cell Kx.out 0).trans rfl; have zy_0 : ww8.cell? ⟨gy, 0, none⟩ = some (.int .i64 a1) := (blk_cell Ky.out 0).trans rfl))
     go_loopg [10] 65 (fun kq v10 w' => ∃ (d best most : Int), v10 = .int .i64 d ∧ Aside0 (0 ≤ d ∧ d + (kq : Int) = 65) ∧ Aside0 ((headLoop a0 a1 kq d (best, most)).1 = r1) ∧ Aside0 (w'.heap[gx]? = some (.cells #[.int .i64 a0] 2 (0, 0))) ∧ Aside0 (w'.heap[gy]? = some (.cells #[.int .i64 a1] 2 (0, 0))) ∧ Aside0 (w'.heap[gb]? = some (.cells #[.int .i64 best] 2 (0, 0))) ∧ Aside0 (w'.heap[gm]? = some (.cells #[.int .i64 most] 2 (0, 0))) ∧ Aside0 (Below w.heap.size w w'))
     case atStart => exact ⟨0, 0, (-9223372036854775808), rfl, ⟨by omega, by omega⟩, HL, Kx, Ky, Kb, Km, HB⟩
     case round =>
       clear Kx Ky Kb Km HB HL
       obtain ⟨d, best, most, rfl, HD, HL, Kx, Ky, Kb, Km, HB⟩ := hrel
       obtain ⟨hd0, hd1⟩ := HD.out
       cases gk with
       | zero =>
         obtain rfl : d = 65 := by omega
         clear HD hd0 hd1
         obtain rfl : best = r1 := HL.out
         have zb_0 : wr.cell? ⟨gb, 0, none⟩ = some (.int .i64 best) := (blk_cell Kb.out 0).trans rfl
         go_wp2
         go_ret2
         exact ⟨rfl, HB.out⟩
       | succ n =>
         have e1 : d ≤ 64 := by omega
         have e2 : d < 256 := by omega
         have e3 : 0 ≤ d := by omega
         have c1 : decide (d ≤ 64) = true := decide_eq_true e1
         have c2 : decide (d < 256) = true := decide_eq_true e2
         clear hd0 hd1
         have HL2 : Aside0 ((headLoop a0 a1 n (d + 1) (headStep a0 a1 (best, most) d)).1 = r1) := HL
         clear HL
         have w1_ : wrap64 (d + 1) = d + 1 := sw64 (by omega) (by omega)
         go_wp2_with (first | (go_at_call 26; refine (headTry_calls a0 a1 d (headC d) (headS d) best most gx gy gm gb w _ (by omega) (by omega) HT.out (headC_eq _) (headS_eq _) HB.out Gm.out Gb.out Nx_m.out Nx_b.out Ny_m.out Ny_b.out (fun h => Nb_m.out h.symm) Kx.out Ky.out Km.out Kb.out).mono ?_; rintro e w9 ⟨⟨u, rfl⟩, kx, ky, km, kb, hb⟩; clear Kx Ky Km Kb HB; have Kx := Aside0.mk kx; have Ky := Aside0.mk ky; have Km := Aside0.mk km; have Kb := Aside0.mk kb; have HB := Aside0.mk hb; clear kx ky km kb hb))
         go_roundg n
         case measure => exact Nat.lt_succ_self n
         case rel => exact ⟨d + 1, _, _, by first | rfl | (simp; done), ⟨by have h := HD.out; omega⟩, HL2, Kx, Ky, Kb, Km, HB⟩
  ·  have cF : 0 < a0 := by omega
     have d1 : decide (a0 < 0) = false := decide_eq_false (by omega)
     have d2 : decide (0 ≤ a1) = true := decide_eq_true (by omega)
     have d3 : decide (a0 ≤ 0) = false := decide_eq_false (by omega)
     have d4 : decide (a1 < 0) = false := decide_eq_false (by omega)
     have hf : headFrom a0 a1 = 0 := by unfold headFrom; rw [if_neg (by omega), if_neg (by omega), if_neg (by omega)]
     have HL : Aside0 ((headLoop a0 a1 65 0 (0, (-9223372036854775808))).1 = r1) := ⟨by have h := HR1.out; unfold headBest headInit headN at h; rw [hf] at h; exact h⟩
     clear hf HR1
     try clear cF
     try clear cE
     try clear cD2
     try clear cD
     try clear cC2
     try clear cC1
     try clear cC
     try clear cB2
     try clear cB
     try clear cA2
     try clear cA1
     try clear cA
     go_enter Tryd.func21, Tryd.ntmps21
     go_wp2_with (first | ((with_reducible refine gate_dst (N := 2) rfl ?_); refine box_event ?hg (N := 2) ?hd (cs := #[.int .i64 a0]) (t := 2) ?hr ?_; (case hd => rfl); (case hg => rfl); (case hr => first | (go_simp; done) | (go_simp; rfl)); intro gx hg ww1 hbox hb; have Gx : Aside0 (w.heap.size ≤ gx) := ⟨by have := HB.out.size; omega⟩; have Kx := Aside0.mk hbox; have KK := Aside0.mk (below_step HB.out hb); clear HB; have HB := KK; clear KK; clear hb hbox hg; have zx_0 : ww1.cell? ⟨gx, 0, none⟩ = some (.int .i64 a0) := (blk_cell Kx.out 0).trans rfl; have fx_0 := blk_frozen Kx.out 0) | ((with_reducible refine gate_dst (N := 3) rfl ?_); refine box_event ?hg (N := 3) ?hd (cs := #[.int .i64 a1]) (t := 2) ?hr ?_; (case hd => rfl); (case hg => rfl); (case hr => first | (go_simp; done) | (go_simp; rfl)); intro gy hg ww2 hbox hb; have Nx_y : Aside0 (gx ≠ gy) := ⟨by have := blk_lt Kx.out; omega⟩; have KK := Aside0.mk (blk_below Kx.out hb); clear Kx; have Kx := KK; clear KK; have Gy : Aside0 (w.heap.size ≤ gy) := ⟨by have := HB.out.size; omega⟩; have Ky := Aside0.mk hbox; have KK := Aside0.mk (below_step HB.out hb); clear HB; have HB := KK; clear KK; clear hb hbox hg; clear zx_0 fx_0; have zx_0 : ww2.cell? ⟨gx, 0, none⟩ = some (.int .i64 a0) := (blk_cell Kx.out 0).trans rfl; have zy_0 : ww2.cell? ⟨gy, 0, none⟩ = some (.int .i64 a1) := (blk_cell Ky.out 0).trans rfl; have fy_0 := blk_frozen Ky.out 0) | (go_at_call_of 25 (Value.int .i64 a0); refine (trig_far.calls a0 false _ HT1.out).mono ?_; rintro e ww3 ⟨rfl, hd⟩; have hb := hd.below; clear hd; have KK := Aside0.mk (blk_below Kx.out hb); clear Kx; have Kx := KK; clear KK; have KK := Aside0.mk (blk_below Ky.out hb); clear Ky; have Ky := KK; clear KK; have KK := Aside0.mk (below_step HB.out hb); clear HB; have HB := KK; clear KK; clear hb; clear zx_0 zy_0 fy_0; have zx_0 : ww3.cell? ⟨gx, 0, none⟩ = some (.int .i64 a0) := (blk_cell Kx.out 0).trans rfl; have zy_0 : ww3.cell? ⟨gy, 0, none⟩ = some (.int .i64 a1) := (blk_cell Ky.out 0).trans rfl) | (go_at_call_of 25 (Value.int .i64 a1); refine (trig_far.calls a1 false _ HT2.out).mono ?_; rintro e ww4 ⟨rfl, hd⟩; have hb := hd.below; clear hd; have KK := Aside0.mk (blk_below Kx.out hb); clear Kx; have Kx := KK; clear KK; have KK := Aside0.mk (blk_below Ky.out hb); clear Ky; have Ky := KK; clear KK; have KK := Aside0.mk (below_step HB.out hb); clear HB; have HB := KK; clear KK; clear hb; clear zx_0 zy_0; have zx_0 : ww4.cell? ⟨gx, 0, none⟩ = some (.int .i64 a0) := (blk_cell Kx.out 0).trans rfl; have zy_0 : ww4.cell? ⟨gy, 0, none⟩ = some (.int .i64 a1) := (blk_cell Ky.out 0).trans rfl) | ((with_reducible refine gate_dst (N := 6) rfl ?_); refine box_event ?hg (N := 6) ?hd (cs := #[.int .i64 0]) (t := 2) ?hr ?_; (case hd => rfl); (case hg => rfl); (case hr => first | (go_simp; done) | (go_simp; rfl)); intro gb hg ww5 hbox hb; have Nx_b : Aside0 (gx ≠ gb) := ⟨by have := blk_lt Kx.out; omega⟩; have Ny_b : Aside0 (gy ≠ gb) := ⟨by have := blk_lt Ky.out; omega⟩; have KK := Aside0.mk (blk_below Kx.out hb); clear Kx; have Kx := KK; clear KK; have KK := Aside0.mk (blk_below Ky.out hb); clear Ky; have Ky := KK; clear KK; have Gb : Aside0 (w.heap.size ≤ gb) := ⟨by have := HB.out.size; omega⟩; have Kb := Aside0.mk hbox; have KK := Aside0.mk (below_step HB.out hb); clear HB; have HB := KK; clear KK; clear hb hbox hg; clear zx_0 zy_0; have zx_0 : ww5.cell? ⟨gx, 0, none⟩ = some (.int .i64 a0) := (blk_cell Kx.out 0).trans rfl; have zy_0 : ww5.cell? ⟨gy, 0, none⟩ = some (.int .i64 a1) := (blk_cell Ky.out 0).trans rfl; have zb_0 : ww5.cell? ⟨gb, 0, none⟩ = some (.int .i64 0) := (blk_cell Kb.out 0).trans rfl; have fb_0 := blk_frozen Kb.out 0) | ((with_reducible refine gate_dst (N := 7) rfl ?_); refine box_event ?hg (N := 7) ?hd (cs := #[.int .i64 0]) (t := 2) ?hr ?_; (case hd => rfl); (case hg => rfl); (case hr => first | (go_simp; done) | (go_simp; rfl)); intro gm hg ww6 hbox hb; have Nx_m : Aside0 (gx ≠ gm) := ⟨by have := blk_lt Kx.out; omega⟩; have Ny_m : Aside0 (gy ≠ gm) := ⟨by have := blk_lt Ky.out; omega⟩; have Nb_m : Aside0 (gb ≠ gm) := ⟨by have := blk_lt Kb.out; omega⟩; have KK := Aside0.mk (blk_below Kx.out hb); clear Kx; have Kx := KK; clear KK; have KK := Aside0.mk (blk_below Ky.out hb); clear Ky; have Ky := KK; clear KK; have KK := Aside0.mk (blk_below Kb.out hb); clear Kb; have Kb := KK; clear KK; have Gm : Aside0 (w.heap.size ≤ gm) := ⟨by have := HB.out.size; omega⟩; have Km := Aside0.mk hbox; have KK := Aside0.mk (below_step HB.out hb); clear HB; have HB := KK; clear KK; clear hb hbox hg; clear zx_0 zy_0 zb_0 fb_0; have zx_0 : ww6.cell? ⟨gx, 0, none⟩ = some (.int .i64 a0) := (blk_cell Kx.out 0).trans rfl; have zy_0 : ww6.cell? ⟨gy, 0, none⟩ = some (.int .i64 a1) := (blk_cell Ky.out 0).trans rfl; have zb_0 : ww6.cell? ⟨gb, 0, none⟩ = some (.int .i64 0) := (blk_cell Kb.out 0).trans rfl; have fb_0 := blk_frozen Kb.out 0; have zm_0 : ww6.cell? ⟨gm, 0, none⟩ = some (.int .i64 0) := (blk_cell Km.out 0).trans rfl; have fm_0 := blk_frozen Km.out 0) | ((with_reducible refine gate_store (t := 2) (p := 6) rfl ?_); refine store_event (t := 2) (p := 6) (v := ?vo_ww7_3) (w1 := (ww6.setCell ⟨gb, 0, none⟩ (.int .i64 0))) ?hg ?ho ?hn ?hr ?_; (case ho => rfl); (case hg => rfl); (case hn => rfl); (case hr => first | (go_simp; done) | (go_simp; rfl)); intro ww7 hw; have nex : gx ≠ gb := Nx_b.out; have ney : gy ≠ gb := Ny_b.out; have nem : gm ≠ gb := fun h => Nb_m.out h.symm; have hb : Below w.heap.size w ww7 := (by subst hw; exact below_set HB.out Gb.out); have KK := Aside0.mk (show ww7.heap[gx]? = some (.cells #[.int .i64 a0] 2 (0, 0)) by subst hw; exact blk_far Kx.out nex _); clear Kx; have Kx := KK; clear KK; have KK := Aside0.mk (show ww7.heap[gy]? = some (.cells #[.int .i64 a1] 2 (0, 0)) by subst hw; exact blk_far Ky.out ney _); clear Ky; have Ky := KK; clear KK; have KK := Aside0.mk (show ww7.heap[gb]? = some (.cells #[.int .i64 0] 2 (0, 0)) by subst hw; exact blk_put Kb.out 0 _ rfl); clear Kb; have Kb := KK; clear KK; have KK := Aside0.mk (show ww7.heap[gm]? = some (.cells #[.int .i64 0] 2 (0, 0)) by subst hw; exact blk_far Km.out nem _); clear Km; have Km := KK; clear KK; clear HB; have HB := Aside0.mk hb; clear hb hw nex ney nem; clear zx_0 zy_0 zb_0 fb_0 zm_0 fm_0; have zx_0 : ww7.cell? ⟨gx, 0, none⟩ = some (.int .i64 a0) := (blk_cell Kx.out 0).trans rfl; have zy_0 : ww7.cell? ⟨gy, 0, none⟩ = some (.int .i64 a1) := (blk_cell Ky.out 0).trans rfl; have zm_0 : ww7.cell? ⟨gm, 0, none⟩ = some (.int .i64 0) := (blk_cell Km.out 0).trans rfl; have fm_0 := blk_frozen Km.out 0) | ((with_reducible refine gate_store (t := 2) (p := 7) rfl ?_); refine store_event (t := 2) (p := 7) (v := ?vo_ww8_3) (w1 := (ww7.setCell ⟨gm, 0, none⟩ (.int .i64 (-9223372036854775808)))) ?hg ?ho ?hn ?hr ?_; (case ho => rfl); (case hg => rfl); (case hn => rfl); (case hr => first | (go_simp; done) | (go_simp; rfl)); intro ww8 hw; have nex : gx ≠ gm := Nx_m.out; have ney : gy ≠ gm := Ny_m.out; have neb : gb ≠ gm := Nb_m.out; have hb : Below w.heap.size w ww8 := (by subst hw; exact below_set HB.out Gm.out); have KK := Aside0.mk (show ww8.heap[gx]? = some (.cells #[.int .i64 a0] 2 (0, 0)) by subst hw; exact blk_far Kx.out nex _); clear Kx; have Kx := KK; clear KK; have KK := Aside0.mk (show ww8.heap[gy]? = some (.cells #[.int .i64 a1] 2 (0, 0)) by subst hw; exact blk_far Ky.out ney _); clear Ky; have Ky := KK; clear KK; have KK := Aside0.mk (show ww8.heap[gb]? = some (.cells #[.int .i64 0] 2 (0, 0)) by subst hw; exact blk_far Kb.out neb _); clear Kb; have Kb := KK; clear KK; have KK := Aside0.mk (show ww8.heap[gm]? = some (.cells #[.int .i64 (-9223372036854775808)] 2 (0, 0)) by subst hw; exact blk_put Km.out 0 _ rfl); clear Km; have Km := KK; clear KK; clear HB; have HB := Aside0.mk hb; clear hb hw nex ney neb; clear zx_0 zy_0 zm_0 fm_0; have zx_0 : ww8.cell? ⟨gx, 0, none⟩ = some (.int .i64 a0) := (blk_cell Kx.out 0).trans rfl; have zy_0 : ww8.cell? ⟨gy, 0, none⟩ = some (.int .i64 a1) := (blk_cell Ky.out 0).trans rfl))
     go_loopg [10] 65 (fun kq v10 w' => ∃ (d best most : Int), v10 = .int .i64 d ∧ Aside0 (0 ≤ d ∧ d + (kq : Int) = 65) ∧ Aside0 ((headLoop a0 a1 kq d (best, most)).1 = r1) ∧ Aside0 (w'.heap[gx]? = some (.cells #[.int .i64 a0] 2 (0, 0))) ∧ Aside0 (w'.heap[gy]? = some (.cells #[.int .i64 a1] 2 (0, 0))) ∧ Aside0 (w'.heap[gb]? = some (.cells #[.int .i64 best] 2 (0, 0))) ∧ Aside0 (w'.heap[gm]? = some (.cells #[.int .i64 most] 2 (0, 0))) ∧ Aside0 (Below w.heap.size w w'))
     case atStart => exact ⟨0, 0, (-9223372036854775808), rfl, ⟨by omega, by omega⟩, HL, Kx, Ky, Kb, Km, HB⟩
     case round =>
       clear Kx Ky Kb Km HB HL
       obtain ⟨d, best, most, rfl, HD, HL, Kx, Ky, Kb, Km, HB⟩ := hrel
       obtain ⟨hd0, hd1⟩ := HD.out
       cases gk with
       | zero =>
         obtain rfl : d = 65 := by omega
         clear HD hd0 hd1
         obtain rfl : best = r1 := HL.out
         have zb_0 : wr.cell? ⟨gb, 0, none⟩ = some (.int .i64 best) := (blk_cell Kb.out 0).trans rfl
         go_wp2
         go_ret2
         exact ⟨rfl, HB.out⟩
       | succ n =>
         have e1 : d ≤ 64 := by omega
         have e2 : d < 256 := by omega
         have e3 : 0 ≤ d := by omega
         have c1 : decide (d ≤ 64) = true := decide_eq_true e1
         have c2 : decide (d < 256) = true := decide_eq_true e2
         clear hd0 hd1
         have HL2 : Aside0 ((headLoop a0 a1 n (d + 1) (headStep a0 a1 (best, most) d)).1 = r1) := HL
         clear HL
         have w1_ : wrap64 (d + 1) = d + 1 := sw64 (by omega) (by omega)
         go_wp2_with (first | (go_at_call 26; refine (headTry_calls a0 a1 d (headC d) (headS d) best most gx gy gm gb w _ (by omega) (by omega) HT.out (headC_eq _) (headS_eq _) HB.out Gm.out Gb.out Nx_m.out Nx_b.out Ny_m.out Ny_b.out (fun h => Nb_m.out h.symm) Kx.out Ky.out Km.out Kb.out).mono ?_; rintro e w9 ⟨⟨u, rfl⟩, kx, ky, km, kb, hb⟩; clear Kx Ky Km Kb HB; have Kx := Aside0.mk kx; have Ky := Aside0.mk ky; have Km := Aside0.mk km; have Kb := Aside0.mk kb; have HB := Aside0.mk hb; clear kx ky km kb hb))
         go_roundg n
         case measure => exact Nat.lt_succ_self n
         case rel => exact ⟨d + 1, _, _, by first | rfl | (simp; done), ⟨by have h := HD.out; omega⟩, HL2, Kx, Ky, Kb, Km, HB⟩

end Go.Proofs.YtdmmlidgipedaaaDoor.PA
