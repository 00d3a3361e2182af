/- The contract of ray_Sees: what its call comes to, for every argument, in any memory. -/
import Derived.Test.YteihieihoeijdaaPAx0
import Derived.Test.YteihieihoeijdaaPAxS
import Derived.Test.YteihieihoeijdaaPAx11
import Derived.Test.YteihieihoeijdaaPAx14
import Derived.Test.YteihieihoeijdaaPAx15
import Derived.Test.YteihieihoeijdaaGAbivouaclaw21few
import Derived.Test.YteihieihoeijdaaGAreliefSlope
import Derived.Deep.CutRange
import Derived.Deep.DeepCutAuto
import Derived.Deep.RegionHeld3
import Derived.Deep.RegionWith
import Derived.Test.YteihieihoeijdaaRd
namespace Go.Proofs.Yteihieihoeijdaa.PA
open Go.RowKit Go.Proofs.YteihieihoeijdaaW.PrintWords Go.Proofs.YteihieihoeijdaaW.PrintLast Go.Proofs.YteihieihoeijdaaW.PrintMore
set_option linter.unusedVariables false
set_option linter.unusedSimpArgs false

--import Derived.Test.YteihieihoeijdaaRd
--import Derived.Deep.RegionWith
--import Derived.Deep.RegionHeld3
--import Derived.Deep.DeepCutAuto
--import Derived.Deep.CutRange
def ray_Sees.b (k : Nat) (m0 m1 m2 : Int) (m3 : List Int) (l : List S57) (n a up b low q : Int) : Option Bool := if 0 ≤ q then (if q < (l.length : Int) then (ray_Top.f k m0 m1 m2 m3 (rd_T57 l q).f0 (rd_T57 l q).f1).bind fun t => some (decide (wrap64 (t.1 * n) > wrap64 (wrap64 (wrap64 (a + up) * wrap64 (n - q)) + wrap64 (wrap64 (b + low) * q)))) else none) else none
def ray_Sees.l0 : Nat → Int → Int → Int → List Int → List S57 → Int → Int → Int → Int → Int → Int → Option Bool
  | 0, _, _, _, _, _, _, _, _, _, _, _ => none
  | k + 1, m0, m1, m2, m3, l, n, a, up, b, low, q => if q < n then (ray_Sees.b k m0 m1 m2 m3 l n a up b low q).bind fun t => (if t = true then some false else ray_Sees.l0 k m0 m1 m2 m3 l n a up b low (wrap64 (q + 1))) else some true
def ray_Sees.f (k : Nat) (a0_0 : Int) (a0_1 : Int) (a0_2 : Int) (l0_3 : List Int) (a1_0 : Int) (a1_1 : Int) (a2_0 : Int) (a2_1 : Int) (a3 : Int) (a4 : Int) : Option (Bool × Int) := (relief_Check.f k a0_0 a0_1 a0_2 l0_3).bind fun c => if c = 0 then ((ray_high.f a3).bind fun u => if u = true then ((ray_high.f a4).bind fun v => if v = true then ((ray_Floor.f k a0_0 a0_1 a0_2 l0_3 a1_0 a1_1).bind fun a => (ray_Floor.f k a0_0 a0_1 a0_2 l0_3 a2_0 a2_1).bind fun b => if a.2 = 0 then (if b.2 = 0 then ((ray_Line.f k a1_0 a1_1 a2_0 a2_1).bind fun l => (ray_Sees.l0 k a0_0 a0_1 a0_2 l0_3 l.1 (wrap64 ((l.1.length : Int) - 1)) a.1 a3 b.1 a4 1).bind fun r => some (r, 0)) else some (false, 4)) else some (false, 4)) else some (false, 1)) else some (false, 1)) else some (false, 1)
theorem ray_Sees.b_mono (k : Nat) (m0 m1 m2 : Int) (m3 : List Int) (l : List S57) (n a up b low q : Int) : LeO (ray_Sees.b k m0 m1 m2 m3 l n a up b low q) (ray_Sees.b (k + 1) m0 m1 m2 m3 l n a up b low q) := by
  unfold ray_Sees.b
  exact LeO.ite (LeO.ite (LeO.bind (ray_Top.mono _ _ _ _ _ _ _) (fun _ => LeO.refl _)) (LeO.refl _)) (LeO.refl _)
theorem ray_Sees.l0_mono : ∀ (k : Nat) (m0 m1 m2 : Int) (m3 : List Int) (l : List S57) (n a up b low q : Int), LeO (ray_Sees.l0 k m0 m1 m2 m3 l n a up b low q) (ray_Sees.l0 (k + 1) m0 m1 m2 m3 l n a up b low q)
  | 0, _, _, _, _, _, _, _, _, _, _, _ => LeO.none _
  | k + 1, _, _, _, _, _, _, _, _, _, _, _ => LeO.ite (LeO.bind (ray_Sees.b_mono _ _ _ _ _ _ _ _ _ _ _ _) (fun _ => LeO.ite (LeO.refl _) (ray_Sees.l0_mono _ _ _ _ _ _ _ _ _ _ _ _))) (LeO.refl _)
theorem ray_Sees.mono : ∀ a0 a1 a2 a3 a4 a5 a6 a7 a8 a9 k, LeO (ray_Sees.f k a0 a1 a2 a3 a4 a5 a6 a7 a8 a9) (ray_Sees.f (k + 1) a0 a1 a2 a3 a4 a5 a6 a7 a8 a9) := by
  intro a0 a1 a2 a3 a4 a5 a6 a7 a8 a9 k
  exact LeO.bind (relief_Check.mono _ _ _ _ _) (fun _ => LeO.ite (LeO.bind (LeO.refl _) (fun _ => LeO.ite (LeO.bind (LeO.refl _) (fun _ => LeO.ite (LeO.bind (ray_Floor.mono _ _ _ _ _ _ _) (fun _ => LeO.bind (ray_Floor.mono _ _ _ _ _ _ _) (fun _ => LeO.ite (LeO.ite (LeO.bind (ray_Line.mono _ _ _ _ _) (fun _ => LeO.bind (ray_Sees.l0_mono _ _ _ _ _ _ _ _ _ _ _ _) (fun _ => LeO.refl _))) (LeO.refl _)) (LeO.refl _)))) (LeO.refl _))) (LeO.refl _))) (LeO.refl _))
set_option maxHeartbeats 4000000 in
set_option maxRecDepth 100000 in
theorem ray_Sees.blocks (k : Nat) (m0 m1 m2 : Int) (A : Option Addr) (c : Nat) (m3 : List Int) (Al : Option Addr) (cl : Nat) (l : List S57) (n a up b low q : Int) (r : Bool) (w : World) (g0 g1 g2 g3 g4 g5 g6 : Nat)
    (h0 : w.heap[g0]? = some (.cells #[.int .i64 m0, .int .i64 m1, .int .i64 m2, .slice A m3.length c] 24 (0, 0)))
    (h1 : w.heap[g1]? = some (.cells #[.slice Al l.length cl] 80 (0, 0)))
    (h2 : w.heap[g2]? = some (.cells #[.int .i64 n] 3 (0, 0)))
    (h3 : w.heap[g3]? = some (.cells #[.int .i64 a] 3 (0, 0)))
    (h4 : w.heap[g4]? = some (.cells #[.int .i64 up] 3 (0, 0)))
    (h5 : w.heap[g5]? = some (.cells #[.int .i64 b] 3 (0, 0)))
    (h6 : w.heap[g6]? = some (.cells #[.int .i64 low] 3 (0, 0)))
    (hr : Kd.C (Kd.int .u8) w A m3.length m3) (hc : m3.length ≤ c) (hl : Kd.C k57 w Al l.length l)
    (h : ray_Sees.b k m0 m1 m2 m3 l n a up b low q = some r) :
    Calls Try.prog 51 #[.int .i64 q, .pointer (some ⟨g0, 0, none⟩), .pointer (some ⟨g1, 0, none⟩), .pointer (some ⟨g2, 0, none⟩), .pointer (some ⟨g3, 0, none⟩), .pointer (some ⟨g4, 0, none⟩), .pointer (some ⟨g5, 0, none⟩), .pointer (some ⟨g6, 0, none⟩)] w fun e w' => e = .returned (.bool r) ∧ Below w.heap.size w w' := by
  unfold ray_Sees.b at h
  by_cases q0 : 0 ≤ q
  case neg => rw [if_neg q0] at h; exact absurd h (by simp)
  rw [if_pos q0] at h
  by_cases q1 : q < (l.length : Int)
  case neg => rw [if_neg q1] at h; exact absurd h (by simp)
  rw [if_pos q1] at h
  obtain ⟨⟨t1, t2⟩, ht, h⟩ := Option.bind_eq_some_iff.1 h
  obtain rfl := Option.some.inj h
  clear h
  obtain ⟨ad, rfl, hc0, hc1⟩ := at_T57 hl q q0 q1
  have z0 := zD h0 0
  have z1 := zD h0 1
  have z2 := zD h0 2
  have z3 := zD h0 3
  have z4 := zD h1 0
  have z5 := zD h2 0
  have z6 := zD h3 0
  have z7 := zD h4 0
  have z8 := zD h5 0
  have z9 := zD h6 0
  simp only [List.getElem?_toArray, List.getElem?_cons_zero, List.getElem?_cons_succ] at z0 z1 z2 z3 z4 z5 z6 z7 z8 z9
  have H0 := zA h0
  have H1 := zA h1
  have H2 := zA h2
  have H3 := zA h3
  have H4 := zA h4
  have H5 := zA h5
  have H6 := zA h6
  have HT := zA ht
  have HR := zA hr
  have HL := zA hl
  clear h0 h1 h2 h3 h4 h5 h6 ht hr hl
  go_enter Try.func51, Try.ntmps51
  go_wp2_with fail
  go_region_held3 (fun W => W.cell? ⟨g0, 0, none⟩ = some (.int .i64 m0) ∧ W.cell? ⟨g0, 1, none⟩ = some (.int .i64 m1) ∧ W.cell? ⟨g0, 2, none⟩ = some (.int .i64 m2) ∧ W.cell? ⟨g0, 3, none⟩ = some (.slice A m3.length c) ∧ W.cell? ⟨g1, 0, none⟩ = some (.slice (some ad) l.length cl) ∧ W.cell? (ad.add (q.toNat * 2)) = some (.int .i64 (rd_T57 l q).f0) ∧ W.cell? ⟨(ad.add (q.toNat * 2)).block, (ad.add (q.toNat * 2)).off + 1, none⟩ = some (.int .i64 (rd_T57 l q).f1)) (go_keep)
    (first | (go_at_call 52; refine (ray_Top.calls k m0 m1 m2 _ _ m3 _ _ t1 t2 w.drew (Kd.C_below HR.out (below_drew (Below.refl _ _))) hc HT.out).mono ?_; rintro e w1 ⟨rfl, hb⟩; have x0 := pw_cell_below hb z0; have x1 := pw_cell_below hb z1; have x2 := pw_cell_below hb z2; have x3 := pw_cell_below hb z3; have x4 := pw_cell_below hb z4; have x5 := pw_cell_below hb z5; have x6 := pw_cell_below hb z6; have x7 := pw_cell_below hb z7; have x8 := pw_cell_below hb z8; have x9 := pw_cell_below hb z9; have xa := pw_cell_below hb hc0; have xb := pw_cell_below hb hc1; have HB := zA hb; clear hb))
  all_goals
    go_wp2
    go_ret
    exact ⟨rfl, zJ (below_drew (Below.refl _ _)) HB.out⟩
-- WALK
set_option maxHeartbeats 8000000 in
set_option maxRecDepth 100000 in
theorem ray_Sees.calls (k : Nat) (a0_0 : Int) (a0_1 : Int) (a0_2 : Int) (A0_3 : Option Addr) (c0_3 : Nat) (l0_3 : List Int) (a1_0 : Int) (a1_1 : Int) (a2_0 : Int) (a2_1 : Int) (a3 : Int) (a4 : Int) (r1 : Bool) (r2 : Int) (w : World) (hr0_3 : Kd.C (Kd.int .u8) w A0_3 l0_3.length l0_3) (hc0_3 : l0_3.length ≤ c0_3) (h : ray_Sees.f k a0_0 a0_1 a0_2 l0_3 a1_0 a1_1 a2_0 a2_1 a3 a4 = some (r1, r2)) :
    Calls Try.prog 40 #[.agg #[.int .i64 a0_0, .int .i64 a0_1, .int .i64 a0_2, .slice A0_3 l0_3.length c0_3], .agg #[.int .i64 a1_0, .int .i64 a1_1], .agg #[.int .i64 a2_0, .int .i64 a2_1], .int .i64 a3, .int .i64 a4] w fun e w' => e = .returned (.tuple #[.bool r1, .int .i64 r2]) ∧ Below w.heap.size w w' := by
  have HR := zA hr0_3
  clear hr0_3
  have HB := zA (Below.refl w.heap.size w)
  unfold ray_Sees.f at h
  replace h := Option.bind_eq_some_iff.1 h
  obtain ⟨cc, hC, h⟩ := h
  have HC := zA hC
  clear hC
  have h0 := zA h
  clear h
  go_enter Try.func40, Try.ntmps40
  go_upto_region 1 with (first | ((with_reducible refine gate_dst (N := 5) rfl ?_); refine box_event ?hg (N := 5) ?hd (cs := #[.int .i64 a0_0, .int .i64 a0_1, .int .i64 a0_2, .slice A0_3 l0_3.length c0_3]) (t := 24) ?hr ?_; (case hd => rfl); (case hg => rfl); (case hr => first | (go_simp; done) | (go_simp; rfl)); intro gm hg ww1 hbox hb; have Gm : Aside0 (w.heap.size ≤ gm) := ⟨by have := HB.out.size; omega⟩; have Km := zA hbox; have KK := zA (zJ HB.out hb); clear HB; have HB := KK; clear KK; clear hb hbox hg) | ((with_reducible refine gate_dst (N := 6) rfl ?_); refine box_event ?hg (N := 6) ?hd (cs := #[.int .i64 a1_0, .int .i64 a1_1]) (t := 57) ?hr ?_; (case hd => rfl); (case hg => rfl); (case hr => first | (go_simp; done) | (go_simp; rfl)); intro gf hg ww2 hbox hb; have Nm_f : Aside0 (gm ≠ gf) := ⟨by have := blk_lt Km.out; omega⟩; have KK := zA (zI Km.out hb); clear Km; have Km := KK; clear KK; have Gf : Aside0 (w.heap.size ≤ gf) := ⟨by have := HB.out.size; omega⟩; have Kf := zA hbox; have KK := zA (zJ HB.out hb); clear HB; have HB := KK; clear KK; clear hb hbox hg) | ((with_reducible refine gate_dst (N := 7) rfl ?_); refine box_event ?hg (N := 7) ?hd (cs := #[.int .i64 a2_0, .int .i64 a2_1]) (t := 57) ?hr ?_; (case hd => rfl); (case hg => rfl); (case hr => first | (go_simp; done) | (go_simp; rfl)); intro gt hg ww3 hbox hb; have Nm_t : Aside0 (gm ≠ gt) := ⟨by have := blk_lt Km.out; omega⟩; have Nf_t : Aside0 (gf ≠ gt) := ⟨by have := blk_lt Kf.out; omega⟩; have KK := zA (zI Km.out hb); clear Km; have Km := KK; clear KK; have KK := zA (zI Kf.out hb); clear Kf; have Kf := KK; clear KK; have Gt : Aside0 (w.heap.size ≤ gt) := ⟨by have := HB.out.size; omega⟩; have Kt := zA hbox; have KK := zA (zJ HB.out hb); clear HB; have HB := KK; clear KK; clear hb hbox hg) | ((with_reducible refine gate_dst (N := 8) rfl ?_); refine box_event ?hg (N := 8) ?hd (cs := #[.int .i64 a3]) (t := 3) ?hr ?_; (case hd => rfl); (case hg => rfl); (case hr => first | (go_simp; done) | (go_simp; rfl)); intro gu hg ww4 hbox hb; have Nm_u : Aside0 (gm ≠ gu) := ⟨by have := blk_lt Km.out; omega⟩; have Nf_u : Aside0 (gf ≠ gu) := ⟨by have := blk_lt Kf.out; omega⟩; have Nt_u : Aside0 (gt ≠ gu) := ⟨by have := blk_lt Kt.out; omega⟩; have KK := zA (zI Km.out hb); clear Km; have Km := KK; clear KK; have KK := zA (zI Kf.out hb); clear Kf; have Kf := KK; clear KK; have KK := zA (zI Kt.out hb); clear Kt; have Kt := KK; clear KK; have Gu : Aside0 (w.heap.size ≤ gu) := ⟨by have := HB.out.size; omega⟩; have Ku := zA hbox; have KK := zA (zJ HB.out hb); clear HB; have HB := KK; clear KK; clear hb hbox hg) | ((with_reducible refine gate_dst (N := 9) rfl ?_); refine box_event ?hg (N := 9) ?hd (cs := #[.int .i64 a4]) (t := 3) ?hr ?_; (case hd => rfl); (case hg => rfl); (case hr => first | (go_simp; done) | (go_simp; rfl)); intro gv hg ww5 hbox hb; have Nm_v : Aside0 (gm ≠ gv) := ⟨by have := blk_lt Km.out; omega⟩; have Nf_v : Aside0 (gf ≠ gv) := ⟨by have := blk_lt Kf.out; omega⟩; have Nt_v : Aside0 (gt ≠ gv) := ⟨by have := blk_lt Kt.out; omega⟩; have Nu_v : Aside0 (gu ≠ gv) := ⟨by have := blk_lt Ku.out; omega⟩; have KK := zA (zI Km.out hb); clear Km; have Km := KK; clear KK; have KK := zA (zI Kf.out hb); clear Kf; have Kf := KK; clear KK; have KK := zA (zI Kt.out hb); clear Kt; have Kt := KK; clear KK; have KK := zA (zI Ku.out hb); clear Ku; have Ku := KK; clear KK; have Gv : Aside0 (w.heap.size ≤ gv) := ⟨by have := HB.out.size; omega⟩; have Kv := zA hbox; have KK := zA (zJ HB.out hb); clear HB; have HB := KK; clear KK; clear hb hbox hg; have zm_0 : ww5.cell? ⟨gm, 0, none⟩ = some (.int .i64 a0_0) := (zD Km.out 0).trans rfl; have zm_1 : ww5.cell? ⟨gm, 1, none⟩ = some (.int .i64 a0_1) := (zD Km.out 1).trans rfl; have zm_2 : ww5.cell? ⟨gm, 2, none⟩ = some (.int .i64 a0_2) := (zD Km.out 2).trans rfl; have zm_3 : ww5.cell? ⟨gm, 3, none⟩ = some (.slice A0_3 l0_3.length c0_3) := (zD Km.out 3).trans rfl))
  have h := h0.out
  clear h0
  by_cases c0 : cc = 0
  case neg =>
    rw [if_neg c0] at h
    have c1 : (cc == 0) = false := beq_eq_false_iff_ne.mpr c0
    have c2 : (cc != 0) = true := bne_iff_ne.mpr c0
    clear c0
    simp only [Option.some.injEq, Prod.mk.injEq] at h
    obtain ⟨rfl, rfl⟩ := h
    go_wp2_with (first | (go_at_call 29; refine (relief_Check.calls k a0_0 a0_1 a0_2 _ _ l0_3 cc _ (Kd.C_below HR.out HB.out) hc0_3 HC.out).mono ?_; rintro e ww6 ⟨rfl, hb⟩; have KK := zA (zI Km.out hb); clear Km; have Km := KK; clear KK; have KK := zA (zI Kf.out hb); clear Kf; have Kf := KK; clear KK; have KK := zA (zI Kt.out hb); clear Kt; have Kt := KK; clear KK; have KK := zA (zI Ku.out hb); clear Ku; have Ku := KK; clear KK; have KK := zA (zI Kv.out hb); clear Kv; have Kv := KK; clear KK; have KK := zA (zJ HB.out hb); clear HB; have HB := KK; clear KK; clear hb; clear zm_0 zm_1 zm_2 zm_3; have zu_0 : ww6.cell? ⟨gu, 0, none⟩ = some (.int .i64 a3) := (zD Ku.out 0).trans rfl))
    go_ret2
    exact ⟨rfl, HB.out⟩
  rw [if_pos c0] at h
  subst c0
  replace h := Option.bind_eq_some_iff.1 h
  obtain ⟨uu, hu, h⟩ := h
  have HU := zA hu
  clear hu
  cases uu
  case false =>
    rw [if_neg (by simp)] at h
    simp only [Option.some.injEq, Prod.mk.injEq] at h
    obtain ⟨rfl, rfl⟩ := h
    go_wp2_with (first | (go_at_call 29; refine (relief_Check.calls k a0_0 a0_1 a0_2 _ _ l0_3 0 _ (Kd.C_below HR.out HB.out) hc0_3 HC.out).mono ?_; rintro e ww6 ⟨rfl, hb⟩; have KK := zA (zI Km.out hb); clear Km; have Km := KK; clear KK; have KK := zA (zI Kf.out hb); clear Kf; have Kf := KK; clear KK; have KK := zA (zI Kt.out hb); clear Kt; have Kt := KK; clear KK; have KK := zA (zI Ku.out hb); clear Ku; have Ku := KK; clear KK; have KK := zA (zI Kv.out hb); clear Kv; have Kv := KK; clear KK; have KK := zA (zJ HB.out hb); clear HB; have HB := KK; clear KK; clear hb; clear zm_0 zm_1 zm_2 zm_3; have zu_0 : ww6.cell? ⟨gu, 0, none⟩ = some (.int .i64 a3) := (zD Ku.out 0).trans rfl) | (go_at_call_of 38 (Value.int .i64 a3); refine (ray_high.calls a3 _ _ HU.out).mono ?_; rintro e ww7 ⟨rfl, hd⟩; have hb := hd.below; clear hd; have KK := zA (zI Km.out hb); clear Km; have Km := KK; clear KK; have KK := zA (zI Kf.out hb); clear Kf; have Kf := KK; clear KK; have KK := zA (zI Kt.out hb); clear Kt; have Kt := KK; clear KK; have KK := zA (zI Ku.out hb); clear Ku; have Ku := KK; clear KK; have KK := zA (zI Kv.out hb); clear Kv; have Kv := KK; clear KK; have KK := zA (zJ HB.out hb); clear HB; have HB := KK; clear KK; clear hb; clear zu_0; have zv_0 : ww7.cell? ⟨gv, 0, none⟩ = some (.int .i64 a4) := (zD Kv.out 0).trans rfl))
    go_ret2
    exact ⟨rfl, HB.out⟩
  rw [if_pos rfl] at h
  replace h := Option.bind_eq_some_iff.1 h
  obtain ⟨vv, hu, h⟩ := h
  have HV := zA hu
  clear hu
  cases vv
  case false =>
    rw [if_neg (by simp)] at h
    simp only [Option.some.injEq, Prod.mk.injEq] at h
    obtain ⟨rfl, rfl⟩ := h
    go_wp2_with (first | (go_at_call 29; refine (relief_Check.calls k a0_0 a0_1 a0_2 _ _ l0_3 0 _ (Kd.C_below HR.out HB.out) hc0_3 HC.out).mono ?_; rintro e ww6 ⟨rfl, hb⟩; have KK := zA (zI Km.out hb); clear Km; have Km := KK; clear KK; have KK := zA (zI Kf.out hb); clear Kf; have Kf := KK; clear KK; have KK := zA (zI Kt.out hb); clear Kt; have Kt := KK; clear KK; have KK := zA (zI Ku.out hb); clear Ku; have Ku := KK; clear KK; have KK := zA (zI Kv.out hb); clear Kv; have Kv := KK; clear KK; have KK := zA (zJ HB.out hb); clear HB; have HB := KK; clear KK; clear hb; clear zm_0 zm_1 zm_2 zm_3; have zu_0 : ww6.cell? ⟨gu, 0, none⟩ = some (.int .i64 a3) := (zD Ku.out 0).trans rfl) | (go_at_call_of 38 (Value.int .i64 a3); refine (ray_high.calls a3 _ _ HU.out).mono ?_; rintro e ww7 ⟨rfl, hd⟩; have hb := hd.below; clear hd; have KK := zA (zI Km.out hb); clear Km; have Km := KK; clear KK; have KK := zA (zI Kf.out hb); clear Kf; have Kf := KK; clear KK; have KK := zA (zI Kt.out hb); clear Kt; have Kt := KK; clear KK; have KK := zA (zI Ku.out hb); clear Ku; have Ku := KK; clear KK; have KK := zA (zI Kv.out hb); clear Kv; have Kv := KK; clear KK; have KK := zA (zJ HB.out hb); clear HB; have HB := KK; clear KK; clear hb; clear zu_0; have zv_0 : ww7.cell? ⟨gv, 0, none⟩ = some (.int .i64 a4) := (zD Kv.out 0).trans rfl) | (go_at_call_of 38 (Value.int .i64 a4); refine (ray_high.calls a4 _ _ HV.out).mono ?_; rintro e ww8 ⟨rfl, hd⟩; have hb := hd.below; clear hd; have KK := zA (zI Km.out hb); clear Km; have Km := KK; clear KK; have KK := zA (zI Kf.out hb); clear Kf; have Kf := KK; clear KK; have KK := zA (zI Kt.out hb); clear Kt; have Kt := KK; clear KK; have KK := zA (zI Ku.out hb); clear Ku; have Ku := KK; clear KK; have KK := zA (zI Kv.out hb); clear Kv; have Kv := KK; clear KK; have KK := zA (zJ HB.out hb); clear HB; have HB := KK; clear KK; clear hb; clear zv_0; have zm_0 : ww8.cell? ⟨gm, 0, none⟩ = some (.int .i64 a0_0) := (zD Km.out 0).trans rfl; have zm_1 : ww8.cell? ⟨gm, 1, none⟩ = some (.int .i64 a0_1) := (zD Km.out 1).trans rfl; have zm_2 : ww8.cell? ⟨gm, 2, none⟩ = some (.int .i64 a0_2) := (zD Km.out 2).trans rfl; have zm_3 : ww8.cell? ⟨gm, 3, none⟩ = some (.slice A0_3 l0_3.length c0_3) := (zD Km.out 3).trans rfl; have zf_0 : ww8.cell? ⟨gf, 0, none⟩ = some (.int .i64 a1_0) := (zD Kf.out 0).trans rfl; have zf_1 : ww8.cell? ⟨gf, 1, none⟩ = some (.int .i64 a1_1) := (zD Kf.out 1).trans rfl))
    go_ret2
    exact ⟨rfl, HB.out⟩
  rw [if_pos rfl] at h
  replace h := Option.bind_eq_some_iff.1 h
  obtain ⟨fa, hfa, h⟩ := h
  have HFa := zA hfa
  clear hfa
  replace h := Option.bind_eq_some_iff.1 h
  obtain ⟨fb, hfb, h⟩ := h
  have HFb := zA hfb
  clear hfb
  obtain ⟨fa1, fa2⟩ := fa
  obtain ⟨fb1, fb2⟩ := fb
  dsimp only at h
  have h0 := zA h
  clear h
  go_upto_region 3 with (first | (go_at_call 29; refine (relief_Check.calls k a0_0 a0_1 a0_2 _ _ l0_3 0 _ (Kd.C_below HR.out HB.out) hc0_3 HC.out).mono ?_; rintro e ww6 ⟨rfl, hb⟩; have KK := zA (zI Km.out hb); clear Km; have Km := KK; clear KK; have KK := zA (zI Kf.out hb); clear Kf; have Kf := KK; clear KK; have KK := zA (zI Kt.out hb); clear Kt; have Kt := KK; clear KK; have KK := zA (zI Ku.out hb); clear Ku; have Ku := KK; clear KK; have KK := zA (zI Kv.out hb); clear Kv; have Kv := KK; clear KK; have KK := zA (zJ HB.out hb); clear HB; have HB := KK; clear KK; clear hb; clear zm_0 zm_1 zm_2 zm_3; have zu_0 : ww6.cell? ⟨gu, 0, none⟩ = some (.int .i64 a3) := (zD Ku.out 0).trans rfl) | (go_at_call_of 38 (Value.int .i64 a3); refine (ray_high.calls a3 _ _ HU.out).mono ?_; rintro e ww7 ⟨rfl, hd⟩; have hb := hd.below; clear hd; have KK := zA (zI Km.out hb); clear Km; have Km := KK; clear KK; have KK := zA (zI Kf.out hb); clear Kf; have Kf := KK; clear KK; have KK := zA (zI Kt.out hb); clear Kt; have Kt := KK; clear KK; have KK := zA (zI Ku.out hb); clear Ku; have Ku := KK; clear KK; have KK := zA (zI Kv.out hb); clear Kv; have Kv := KK; clear KK; have KK := zA (zJ HB.out hb); clear HB; have HB := KK; clear KK; clear hb; clear zu_0; have zv_0 : ww7.cell? ⟨gv, 0, none⟩ = some (.int .i64 a4) := (zD Kv.out 0).trans rfl) | (go_at_call_of 38 (Value.int .i64 a4); refine (ray_high.calls a4 _ _ HV.out).mono ?_; rintro e ww8 ⟨rfl, hd⟩; have hb := hd.below; clear hd; have KK := zA (zI Km.out hb); clear Km; have Km := KK; clear KK; have KK := zA (zI Kf.out hb); clear Kf; have Kf := KK; clear KK; have KK := zA (zI Kt.out hb); clear Kt; have Kt := KK; clear KK; have KK := zA (zI Ku.out hb); clear Ku; have Ku := KK; clear KK; have KK := zA (zI Kv.out hb); clear Kv; have Kv := KK; clear KK; have KK := zA (zJ HB.out hb); clear HB; have HB := KK; clear KK; clear hb; clear zv_0; have zm_0 : ww8.cell? ⟨gm, 0, none⟩ = some (.int .i64 a0_0) := (zD Km.out 0).trans rfl; have zm_1 : ww8.cell? ⟨gm, 1, none⟩ = some (.int .i64 a0_1) := (zD Km.out 1).trans rfl; have zm_2 : ww8.cell? ⟨gm, 2, none⟩ = some (.int .i64 a0_2) := (zD Km.out 2).trans rfl; have zm_3 : ww8.cell? ⟨gm, 3, none⟩ = some (.slice A0_3 l0_3.length c0_3) := (zD Km.out 3).trans rfl; have zf_0 : ww8.cell? ⟨gf, 0, none⟩ = some (.int .i64 a1_0) := (zD Kf.out 0).trans rfl; have zf_1 : ww8.cell? ⟨gf, 1, none⟩ = some (.int .i64 a1_1) := (zD Kf.out 1).trans rfl))
  go_upto_region 5 with (first | (go_at_call_of 39 (Value.int .i64 a1_0); refine (ray_Floor.calls k a0_0 a0_1 a0_2 _ _ l0_3 a1_0 a1_1 fa1 fa2 _ (Kd.C_below HR.out HB.out) hc0_3 HFa.out).mono ?_; rintro e ww9 ⟨rfl, hb⟩; have KK := zA (zI Km.out hb); clear Km; have Km := KK; clear KK; have KK := zA (zI Kf.out hb); clear Kf; have Kf := KK; clear KK; have KK := zA (zI Kt.out hb); clear Kt; have Kt := KK; clear KK; have KK := zA (zI Ku.out hb); clear Ku; have Ku := KK; clear KK; have KK := zA (zI Kv.out hb); clear Kv; have Kv := KK; clear KK; have KK := zA (zJ HB.out hb); clear HB; have HB := KK; clear KK; clear hb; clear zm_0 zm_1 zm_2 zm_3 zf_0 zf_1) | ((with_reducible refine gate_dst (N := 12) rfl ?_); refine box_event ?hg (N := 12) ?hd (cs := #[.int .i64 0]) (t := 3) ?hr ?_; (case hd => rfl); (case hg => rfl); (case hr => first | (go_simp; done) | (go_simp; rfl)); intro ga hg ww10 hbox hb; have Nm_a : Aside0 (gm ≠ ga) := ⟨by have := blk_lt Km.out; omega⟩; have Nf_a : Aside0 (gf ≠ ga) := ⟨by have := blk_lt Kf.out; omega⟩; have Nt_a : Aside0 (gt ≠ ga) := ⟨by have := blk_lt Kt.out; omega⟩; have Nu_a : Aside0 (gu ≠ ga) := ⟨by have := blk_lt Ku.out; omega⟩; have Nv_a : Aside0 (gv ≠ ga) := ⟨by have := blk_lt Kv.out; omega⟩; have KK := zA (zI Km.out hb); clear Km; have Km := KK; clear KK; have KK := zA (zI Kf.out hb); clear Kf; have Kf := KK; clear KK; have KK := zA (zI Kt.out hb); clear Kt; have Kt := KK; clear KK; have KK := zA (zI Ku.out hb); clear Ku; have Ku := KK; clear KK; have KK := zA (zI Kv.out hb); clear Kv; have Kv := KK; clear KK; have Ga : Aside0 (w.heap.size ≤ ga) := ⟨by have := HB.out.size; omega⟩; have Ka := zA hbox; have KK := zA (zJ HB.out hb); clear HB; have HB := KK; clear KK; clear hb hbox hg; have za_0 : ww10.cell? ⟨ga, 0, none⟩ = some (.int .i64 0) := (zD Ka.out 0).trans rfl; have fa_0 := zG Ka.out 0) | ((with_reducible refine gate_store (t := 3) (p := 12) rfl ?_); refine store_event (t := 3) (p := 12) (v := ?vo_ww11) (w1 := (ww10.setCell ⟨ga, 0, none⟩ (.int .i64 fa1))) ?hg ?ho ?hn ?hr ?_; (case ho => rfl); (case hg => rfl); (case hn => rfl); (case hr => first | (go_simp; done) | (go_simp; rfl)); intro ww11 hw; have nem : gm ≠ ga := Nm_a.out; have nef : gf ≠ ga := Nf_a.out; have net : gt ≠ ga := Nt_a.out; have neu : gu ≠ ga := Nu_a.out; have nev : gv ≠ ga := Nv_a.out; have hb : Below w.heap.size w ww11 := (by subst hw; exact zC HB.out Ga.out); have KK := zA (show ww11.heap[gm]? = some (.cells #[.int .i64 a0_0, .int .i64 a0_1, .int .i64 a0_2, .slice A0_3 l0_3.length c0_3] 24 (0, 0)) by subst hw; exact zL Km.out nem _); clear Km; have Km := KK; clear KK; have KK := zA (show ww11.heap[gf]? = some (.cells #[.int .i64 a1_0, .int .i64 a1_1] 57 (0, 0)) by subst hw; exact zL Kf.out nef _); clear Kf; have Kf := KK; clear KK; have KK := zA (show ww11.heap[gt]? = some (.cells #[.int .i64 a2_0, .int .i64 a2_1] 57 (0, 0)) by subst hw; exact zL Kt.out net _); clear Kt; have Kt := KK; clear KK; have KK := zA (show ww11.heap[gu]? = some (.cells #[.int .i64 a3] 3 (0, 0)) by subst hw; exact zL Ku.out neu _); clear Ku; have Ku := KK; clear KK; have KK := zA (show ww11.heap[gv]? = some (.cells #[.int .i64 a4] 3 (0, 0)) by subst hw; exact zL Kv.out nev _); clear Kv; have Kv := KK; clear KK; have KK := zA (show ww11.heap[ga]? = some (.cells #[.int .i64 fa1] 3 (0, 0)) by subst hw; exact zZ Ka.out 0 _ rfl); clear Ka; have Ka := KK; clear KK; clear HB; have HB := zA hb; clear hb hw nem nef net neu nev; clear za_0 fa_0; have zm_0 : ww11.cell? ⟨gm, 0, none⟩ = some (.int .i64 a0_0) := (zD Km.out 0).trans rfl; have zm_1 : ww11.cell? ⟨gm, 1, none⟩ = some (.int .i64 a0_1) := (zD Km.out 1).trans rfl; have zm_2 : ww11.cell? ⟨gm, 2, none⟩ = some (.int .i64 a0_2) := (zD Km.out 2).trans rfl; have zm_3 : ww11.cell? ⟨gm, 3, none⟩ = some (.slice A0_3 l0_3.length c0_3) := (zD Km.out 3).trans rfl; have zt_0 : ww11.cell? ⟨gt, 0, none⟩ = some (.int .i64 a2_0) := (zD Kt.out 0).trans rfl; have zt_1 : ww11.cell? ⟨gt, 1, none⟩ = some (.int .i64 a2_1) := (zD Kt.out 1).trans rfl) | (go_at_call_of 39 (Value.int .i64 a2_0); refine (ray_Floor.calls k a0_0 a0_1 a0_2 _ _ l0_3 a2_0 a2_1 fb1 fb2 _ (Kd.C_below HR.out HB.out) hc0_3 HFb.out).mono ?_; rintro e ww12 ⟨rfl, hb⟩; have KK := zA (zI Km.out hb); clear Km; have Km := KK; clear KK; have KK := zA (zI Kf.out hb); clear Kf; have Kf := KK; clear KK; have KK := zA (zI Kt.out hb); clear Kt; have Kt := KK; clear KK; have KK := zA (zI Ku.out hb); clear Ku; have Ku := KK; clear KK; have KK := zA (zI Kv.out hb); clear Kv; have Kv := KK; clear KK; have KK := zA (zI Ka.out hb); clear Ka; have Ka := KK; clear KK; have KK := zA (zJ HB.out hb); clear HB; have HB := KK; clear KK; clear hb; clear zm_0 zm_1 zm_2 zm_3 zt_0 zt_1) | ((with_reducible refine gate_dst (N := 14) rfl ?_); refine box_event ?hg (N := 14) ?hd (cs := #[.int .i64 0]) (t := 3) ?hr ?_; (case hd => rfl); (case hg => rfl); (case hr => first | (go_simp; done) | (go_simp; rfl)); intro gb hg ww13 hbox hb; have Nm_b : Aside0 (gm ≠ gb) := ⟨by have := blk_lt Km.out; omega⟩; have Nf_b : Aside0 (gf ≠ gb) := ⟨by have := blk_lt Kf.out; omega⟩; have Nt_b : Aside0 (gt ≠ gb) := ⟨by have := blk_lt Kt.out; omega⟩; have Nu_b : Aside0 (gu ≠ gb) := ⟨by have := blk_lt Ku.out; omega⟩; have Nv_b : Aside0 (gv ≠ gb) := ⟨by have := blk_lt Kv.out; omega⟩; have Na_b : Aside0 (ga ≠ gb) := ⟨by have := blk_lt Ka.out; omega⟩; have KK := zA (zI Km.out hb); clear Km; have Km := KK; clear KK; have KK := zA (zI Kf.out hb); clear Kf; have Kf := KK; clear KK; have KK := zA (zI Kt.out hb); clear Kt; have Kt := KK; clear KK; have KK := zA (zI Ku.out hb); clear Ku; have Ku := KK; clear KK; have KK := zA (zI Kv.out hb); clear Kv; have Kv := KK; clear KK; have KK := zA (zI Ka.out hb); clear Ka; have Ka := KK; clear KK; have Gb : Aside0 (w.heap.size ≤ gb) := ⟨by have := HB.out.size; omega⟩; have Kb := zA hbox; have KK := zA (zJ HB.out hb); clear HB; have HB := KK; clear KK; clear hb hbox hg; have zb_0 : ww13.cell? ⟨gb, 0, none⟩ = some (.int .i64 0) := (zD Kb.out 0).trans rfl; have fb_0 := zG Kb.out 0) | ((with_reducible refine gate_store (t := 3) (p := 14) rfl ?_); refine store_event (t := 3) (p := 14) (v := ?vo_ww14) (w1 := (ww13.setCell ⟨gb, 0, none⟩ (.int .i64 fb1))) ?hg ?ho ?hn ?hr ?_; (case ho => rfl); (case hg => rfl); (case hn => rfl); (case hr => first | (go_simp; done) | (go_simp; rfl)); intro ww14 hw; have nem : gm ≠ gb := Nm_b.out; have nef : gf ≠ gb := Nf_b.out; have net : gt ≠ gb := Nt_b.out; have neu : gu ≠ gb := Nu_b.out; have nev : gv ≠ gb := Nv_b.out; have nea : ga ≠ gb := Na_b.out; have hb : Below w.heap.size w ww14 := (by subst hw; exact zC HB.out Gb.out); have KK := zA (show ww14.heap[gm]? = some (.cells #[.int .i64 a0_0, .int .i64 a0_1, .int .i64 a0_2, .slice A0_3 l0_3.length c0_3] 24 (0, 0)) by subst hw; exact zL Km.out nem _); clear Km; have Km := KK; clear KK; have KK := zA (show ww14.heap[gf]? = some (.cells #[.int .i64 a1_0, .int .i64 a1_1] 57 (0, 0)) by subst hw; exact zL Kf.out nef _); clear Kf; have Kf := KK; clear KK; have KK := zA (show ww14.heap[gt]? = some (.cells #[.int .i64 a2_0, .int .i64 a2_1] 57 (0, 0)) by subst hw; exact zL Kt.out net _); clear Kt; have Kt := KK; clear KK; have KK := zA (show ww14.heap[gu]? = some (.cells #[.int .i64 a3] 3 (0, 0)) by subst hw; exact zL Ku.out neu _); clear Ku; have Ku := KK; clear KK; have KK := zA (show ww14.heap[gv]? = some (.cells #[.int .i64 a4] 3 (0, 0)) by subst hw; exact zL Kv.out nev _); clear Kv; have Kv := KK; clear KK; have KK := zA (show ww14.heap[ga]? = some (.cells #[.int .i64 fa1] 3 (0, 0)) by subst hw; exact zL Ka.out nea _); clear Ka; have Ka := KK; clear KK; have KK := zA (show ww14.heap[gb]? = some (.cells #[.int .i64 fb1] 3 (0, 0)) by subst hw; exact zZ Kb.out 0 _ rfl); clear Kb; have Kb := KK; clear KK; clear HB; have HB := zA hb; clear hb hw nem nef net neu nev nea; clear zb_0 fb_0; have zf_0 : ww14.cell? ⟨gf, 0, none⟩ = some (.int .i64 a1_0) := (zD Kf.out 0).trans rfl; have zf_1 : ww14.cell? ⟨gf, 1, none⟩ = some (.int .i64 a1_1) := (zD Kf.out 1).trans rfl; have zt_0 : ww14.cell? ⟨gt, 0, none⟩ = some (.int .i64 a2_0) := (zD Kt.out 0).trans rfl; have zt_1 : ww14.cell? ⟨gt, 1, none⟩ = some (.int .i64 a2_1) := (zD Kt.out 1).trans rfl))
  have h := h0.out
  clear h0
  by_cases ca : fa2 = 0
  case neg =>
    rw [if_neg ca] at h
    have da : (fa2 == 0) = false := beq_eq_false_iff_ne.mpr ca
    have ea : (fa2 != 0) = true := bne_iff_ne.mpr ca
    clear ca
    simp only [Option.some.injEq, Prod.mk.injEq] at h
    obtain ⟨rfl, rfl⟩ := h
    go_wp2
    go_ret2
    exact ⟨rfl, HB.out⟩
  rw [if_pos ca] at h
  subst ca
  by_cases cb : fb2 = 0
  case neg =>
    rw [if_neg cb] at h
    have db : (fb2 == 0) = false := beq_eq_false_iff_ne.mpr cb
    have eb : (fb2 != 0) = true := bne_iff_ne.mpr cb
    clear cb
    simp only [Option.some.injEq, Prod.mk.injEq] at h
    obtain ⟨rfl, rfl⟩ := h
    go_wp2
    go_ret2
    exact ⟨rfl, HB.out⟩
  rw [if_pos cb] at h
  subst cb
  replace h := Option.bind_eq_some_iff.1 h
  obtain ⟨⟨ll1, ll2⟩, hll, h⟩ := h
  have HL := zA hll
  clear hll
  dsimp only at h
  replace h := Option.bind_eq_some_iff.1 h
  obtain ⟨rr, hrr, h⟩ := h
  simp only [Option.some.injEq, Prod.mk.injEq] at h
  obtain ⟨rfl, rfl⟩ := h
  have HL0 := zA hrr
  clear hrr
  go_wp2_with (first | (go_at_call 50; refine (ray_Line.calls k a1_0 a1_1 a2_0 a2_1 ll1 ll2 _ HL.out).mono ?_; rintro e ww15 ⟨vl, rfl, hl, hb⟩; have KK := zA (zI Km.out hb); clear Km; have Km := KK; clear KK; have KK := zA (zI Kf.out hb); clear Kf; have Kf := KK; clear KK; have KK := zA (zI Kt.out hb); clear Kt; have Kt := KK; clear KK; have KK := zA (zI Ku.out hb); clear Ku; have Ku := KK; clear KK; have KK := zA (zI Kv.out hb); clear Kv; have Kv := KK; clear KK; have KK := zA (zI Ka.out hb); clear Ka; have Ka := KK; clear KK; have KK := zA (zI Kb.out hb); clear Kb; have Kb := KK; clear KK; have KK := zA (zJ HB.out hb); clear HB; have HB := KK; clear KK; clear hb; obtain ⟨Al, cl, el⟩ := Kd.R_slice hl; subst el; have HQ := zA (Kd.R_reads' hl).2.2; clear hl; clear zf_0 zf_1 zt_0 zt_1) | ((with_reducible refine gate_dst (N := 16) rfl ?_); refine box_event ?hg (N := 16) ?hd (cs := #[.slice none 0 0]) (t := 80) ?hr ?_; (case hd => rfl); (case hg => rfl); (case hr => first | (go_simp; done) | (go_simp; rfl)); intro gl hg ww16 hbox hb; have P_l := zA hb; have PG_l : Aside0 (_ ≤ gl) := ⟨Nat.le_of_eq hg.symm⟩; have P_l_HQ := HQ; have Nm_l : Aside0 (gm ≠ gl) := ⟨by have := blk_lt Km.out; omega⟩; have Nf_l : Aside0 (gf ≠ gl) := ⟨by have := blk_lt Kf.out; omega⟩; have Nt_l : Aside0 (gt ≠ gl) := ⟨by have := blk_lt Kt.out; omega⟩; have Nu_l : Aside0 (gu ≠ gl) := ⟨by have := blk_lt Ku.out; omega⟩; have Nv_l : Aside0 (gv ≠ gl) := ⟨by have := blk_lt Kv.out; omega⟩; have Na_l : Aside0 (ga ≠ gl) := ⟨by have := blk_lt Ka.out; omega⟩; have Nb_l : Aside0 (gb ≠ gl) := ⟨by have := blk_lt Kb.out; omega⟩; have KK := zA (zI Km.out hb); clear Km; have Km := KK; clear KK; have KK := zA (zI Kf.out hb); clear Kf; have Kf := KK; clear KK; have KK := zA (zI Kt.out hb); clear Kt; have Kt := KK; clear KK; have KK := zA (zI Ku.out hb); clear Ku; have Ku := KK; clear KK; have KK := zA (zI Kv.out hb); clear Kv; have Kv := KK; clear KK; have KK := zA (zI Ka.out hb); clear Ka; have Ka := KK; clear KK; have KK := zA (zI Kb.out hb); clear Kb; have Kb := KK; clear KK; have KK := zA (Kd.C_below HQ.out hb); clear HQ; have HQ := KK; clear KK; have Gl : Aside0 (w.heap.size ≤ gl) := ⟨by have := HB.out.size; omega⟩; have Kl := zA hbox; have KK := zA (zJ HB.out hb); clear HB; have HB := KK; clear KK; clear hb hbox hg; have zl_0 : ww16.cell? ⟨gl, 0, none⟩ = some (.slice none 0 0) := (zD Kl.out 0).trans rfl; have fl_0 := zG Kl.out 0) | ((with_reducible refine gate_store (t := 80) (p := 16) rfl ?_); refine store_event (t := 80) (p := 16) (v := ?vo_ww17) (w1 := (ww16.setCell ⟨gl, 0, none⟩ (.slice Al ll1.length cl))) ?hg ?ho ?hn ?hr ?_; (case ho => rfl); (case hg => rfl); (case hn => rfl); (case hr => first | (go_simp; done) | (go_simp; rfl)); intro ww17 hw; have nem : gm ≠ gl := Nm_l.out; have nef : gf ≠ gl := Nf_l.out; have net : gt ≠ gl := Nt_l.out; have neu : gu ≠ gl := Nu_l.out; have nev : gv ≠ gl := Nv_l.out; have nea : ga ≠ gl := Na_l.out; have neb : gb ≠ gl := Nb_l.out; have hb : Below w.heap.size w ww17 := (by subst hw; exact zC HB.out Gl.out); have KK := zA (show ww17.heap[gm]? = some (.cells #[.int .i64 a0_0, .int .i64 a0_1, .int .i64 a0_2, .slice A0_3 l0_3.length c0_3] 24 (0, 0)) by subst hw; exact zL Km.out nem _); clear Km; have Km := KK; clear KK; have KK := zA (show ww17.heap[gf]? = some (.cells #[.int .i64 a1_0, .int .i64 a1_1] 57 (0, 0)) by subst hw; exact zL Kf.out nef _); clear Kf; have Kf := KK; clear KK; have KK := zA (show ww17.heap[gt]? = some (.cells #[.int .i64 a2_0, .int .i64 a2_1] 57 (0, 0)) by subst hw; exact zL Kt.out net _); clear Kt; have Kt := KK; clear KK; have KK := zA (show ww17.heap[gu]? = some (.cells #[.int .i64 a3] 3 (0, 0)) by subst hw; exact zL Ku.out neu _); clear Ku; have Ku := KK; clear KK; have KK := zA (show ww17.heap[gv]? = some (.cells #[.int .i64 a4] 3 (0, 0)) by subst hw; exact zL Kv.out nev _); clear Kv; have Kv := KK; clear KK; have KK := zA (show ww17.heap[ga]? = some (.cells #[.int .i64 fa1] 3 (0, 0)) by subst hw; exact zL Ka.out nea _); clear Ka; have Ka := KK; clear KK; have KK := zA (show ww17.heap[gb]? = some (.cells #[.int .i64 fb1] 3 (0, 0)) by subst hw; exact zL Kb.out neb _); clear Kb; have Kb := KK; clear KK; have KK := zA (show ww17.heap[gl]? = some (.cells #[.slice Al ll1.length cl] 80 (0, 0)) by subst hw; exact zZ Kl.out 0 _ rfl); clear Kl; have Kl := KK; clear KK; have KK := zA (Kd.C_below P_l_HQ.out (show Below _ _ ww17 from (by subst hw; exact zC P_l.out PG_l.out))); clear HQ P_l_HQ; have HQ := KK; clear KK; clear HB; have HB := zA hb; clear hb hw nem nef net neu nev nea neb; clear zl_0 fl_0; have zl_0 : ww17.cell? ⟨gl, 0, none⟩ = some (.slice Al ll1.length cl) := (zD Kl.out 0).trans rfl) | ((with_reducible refine gate_dst (N := 18) rfl ?_); refine box_event ?hg (N := 18) ?hd (cs := #[.int .i64 0]) (t := 3) ?hr ?_; (case hd => rfl); (case hg => rfl); (case hr => first | (go_simp; done) | (go_simp; rfl)); intro gn hg ww18 hbox hb; have P_n := zA hb; have PG_n : Aside0 (_ ≤ gn) := ⟨Nat.le_of_eq hg.symm⟩; have P_n_HQ := HQ; have Nm_n : Aside0 (gm ≠ gn) := ⟨by have := blk_lt Km.out; omega⟩; have Nf_n : Aside0 (gf ≠ gn) := ⟨by have := blk_lt Kf.out; omega⟩; have Nt_n : Aside0 (gt ≠ gn) := ⟨by have := blk_lt Kt.out; omega⟩; have Nu_n : Aside0 (gu ≠ gn) := ⟨by have := blk_lt Ku.out; omega⟩; have Nv_n : Aside0 (gv ≠ gn) := ⟨by have := blk_lt Kv.out; omega⟩; have Na_n : Aside0 (ga ≠ gn) := ⟨by have := blk_lt Ka.out; omega⟩; have Nb_n : Aside0 (gb ≠ gn) := ⟨by have := blk_lt Kb.out; omega⟩; have Nl_n : Aside0 (gl ≠ gn) := ⟨by have := blk_lt Kl.out; omega⟩; have KK := zA (zI Km.out hb); clear Km; have Km := KK; clear KK; have KK := zA (zI Kf.out hb); clear Kf; have Kf := KK; clear KK; have KK := zA (zI Kt.out hb); clear Kt; have Kt := KK; clear KK; have KK := zA (zI Ku.out hb); clear Ku; have Ku := KK; clear KK; have KK := zA (zI Kv.out hb); clear Kv; have Kv := KK; clear KK; have KK := zA (zI Ka.out hb); clear Ka; have Ka := KK; clear KK; have KK := zA (zI Kb.out hb); clear Kb; have Kb := KK; clear KK; have KK := zA (zI Kl.out hb); clear Kl; have Kl := KK; clear KK; have KK := zA (Kd.C_below HQ.out hb); clear HQ; have HQ := KK; clear KK; have Gn : Aside0 (w.heap.size ≤ gn) := ⟨by have := HB.out.size; omega⟩; have Kn := zA hbox; have KK := zA (zJ HB.out hb); clear HB; have HB := KK; clear KK; clear hb hbox hg; clear zl_0; have zl_0 : ww18.cell? ⟨gl, 0, none⟩ = some (.slice Al ll1.length cl) := (zD Kl.out 0).trans rfl; have zn_0 : ww18.cell? ⟨gn, 0, none⟩ = some (.int .i64 0) := (zD Kn.out 0).trans rfl; have fn_0 := zG Kn.out 0) | ((with_reducible refine gate_store (t := 3) (p := 18) rfl ?_); refine store_event (t := 3) (p := 18) (v := ?vo_ww19) (w1 := (ww18.setCell ⟨gn, 0, none⟩ (.int .i64 (wrap64 ((ll1.length : Int) - 1))))) ?hg ?ho ?hn ?hr ?_; (case ho => rfl); (case hg => rfl); (case hn => rfl); (case hr => first | (go_simp; done) | (go_simp; rfl)); intro ww19 hw; have nem : gm ≠ gn := Nm_n.out; have nef : gf ≠ gn := Nf_n.out; have net : gt ≠ gn := Nt_n.out; have neu : gu ≠ gn := Nu_n.out; have nev : gv ≠ gn := Nv_n.out; have nea : ga ≠ gn := Na_n.out; have neb : gb ≠ gn := Nb_n.out; have nel : gl ≠ gn := Nl_n.out; have hb : Below w.heap.size w ww19 := (by subst hw; exact zC HB.out Gn.out); have KK := zA (show ww19.heap[gm]? = some (.cells #[.int .i64 a0_0, .int .i64 a0_1, .int .i64 a0_2, .slice A0_3 l0_3.length c0_3] 24 (0, 0)) by subst hw; exact zL Km.out nem _); clear Km; have Km := KK; clear KK; have KK := zA (show ww19.heap[gf]? = some (.cells #[.int .i64 a1_0, .int .i64 a1_1] 57 (0, 0)) by subst hw; exact zL Kf.out nef _); clear Kf; have Kf := KK; clear KK; have KK := zA (show ww19.heap[gt]? = some (.cells #[.int .i64 a2_0, .int .i64 a2_1] 57 (0, 0)) by subst hw; exact zL Kt.out net _); clear Kt; have Kt := KK; clear KK; have KK := zA (show ww19.heap[gu]? = some (.cells #[.int .i64 a3] 3 (0, 0)) by subst hw; exact zL Ku.out neu _); clear Ku; have Ku := KK; clear KK; have KK := zA (show ww19.heap[gv]? = some (.cells #[.int .i64 a4] 3 (0, 0)) by subst hw; exact zL Kv.out nev _); clear Kv; have Kv := KK; clear KK; have KK := zA (show ww19.heap[ga]? = some (.cells #[.int .i64 fa1] 3 (0, 0)) by subst hw; exact zL Ka.out nea _); clear Ka; have Ka := KK; clear KK; have KK := zA (show ww19.heap[gb]? = some (.cells #[.int .i64 fb1] 3 (0, 0)) by subst hw; exact zL Kb.out neb _); clear Kb; have Kb := KK; clear KK; have KK := zA (show ww19.heap[gl]? = some (.cells #[.slice Al ll1.length cl] 80 (0, 0)) by subst hw; exact zL Kl.out nel _); clear Kl; have Kl := KK; clear KK; have KK := zA (show ww19.heap[gn]? = some (.cells #[.int .i64 (wrap64 ((ll1.length : Int) - 1))] 3 (0, 0)) by subst hw; exact zZ Kn.out 0 _ rfl); clear Kn; have Kn := KK; clear KK; have KK := zA (Kd.C_below P_n_HQ.out (show Below _ _ ww19 from (by subst hw; exact zC P_n.out PG_n.out))); clear HQ P_n_HQ; have HQ := KK; clear KK; clear HB; have HB := zA hb; clear hb hw nem nef net neu nev nea neb nel; clear zl_0 zn_0 fn_0))
  go_loopg [20] k (fun kq v20 w' => ∃ (xq : Int), v20 = .int .i64 xq ∧ Aside0 (ray_Sees.l0 kq a0_0 a0_1 a0_2 l0_3 ll1 (wrap64 ((ll1.length : Int) - 1)) fa1 a3 fb1 a4 xq = some rr) ∧ Aside0 (kq ≤ k) ∧ Aside0 (w'.heap[gm]? = some (.cells #[.int .i64 a0_0, .int .i64 a0_1, .int .i64 a0_2, .slice A0_3 l0_3.length c0_3] 24 (0, 0))) ∧ Aside0 (w'.heap[gf]? = some (.cells #[.int .i64 a1_0, .int .i64 a1_1] 57 (0, 0))) ∧ Aside0 (w'.heap[gt]? = some (.cells #[.int .i64 a2_0, .int .i64 a2_1] 57 (0, 0))) ∧ Aside0 (w'.heap[gu]? = some (.cells #[.int .i64 a3] 3 (0, 0))) ∧ Aside0 (w'.heap[gv]? = some (.cells #[.int .i64 a4] 3 (0, 0))) ∧ Aside0 (w'.heap[ga]? = some (.cells #[.int .i64 fa1] 3 (0, 0))) ∧ Aside0 (w'.heap[gb]? = some (.cells #[.int .i64 fb1] 3 (0, 0))) ∧ Aside0 (w'.heap[gl]? = some (.cells #[.slice Al ll1.length cl] 80 (0, 0))) ∧ Aside0 (w'.heap[gn]? = some (.cells #[.int .i64 (wrap64 ((ll1.length : Int) - 1))] 3 (0, 0))) ∧ Aside0 (Kd.C k57 w' Al ll1.length ll1) ∧ Aside0 (Below w.heap.size w w'))
  case atStart => exact ⟨1, rfl, HL0, ⟨Nat.le_refl _⟩, Km, Kf, Kt, Ku, Kv, Ka, Kb, Kl, Kn, HQ, HB⟩
  case round =>
    clear HL0 Km Kf Kt Ku Kv Ka Kb Kl Kn HQ HB
    obtain ⟨xq, rfl, HA, HK, Km, Kf, Kt, Ku, Kv, Ka, Kb, Kl, Kn, HQ, HB⟩ := hrel
    cases gk with
    | zero => exact absurd HA.out (by simp [ray_Sees.l0])
    | succ k1 =>
      have H := HA.out
      clear HA
      simp only [ray_Sees.l0] at H
      have zn : wr.cell? ⟨gn, 0, none⟩ = some (.int .i64 (wrap64 ((ll1.length : Int) - 1))) := (zD Kn.out 0).trans rfl
      by_cases cq : xq < wrap64 ((ll1.length : Int) - 1)
      · rw [if_pos cq] at H
        have cq0 : decide (xq < wrap64 ((ll1.length : Int) - 1)) = true := decide_eq_true cq
        clear cq
        replace H := Option.bind_eq_some_iff.mp H
        obtain ⟨tt, hT, H⟩ := H
        have HT := zA hT
        clear hT
        cases tt
        · rw [if_neg (by simp)] at H
          have H' := zA H
          clear H
          go_wp2_with (first | (go_at_call 51; refine (ray_Sees.blocks k1 a0_0 a0_1 a0_2 _ _ l0_3 _ _ ll1 (wrap64 ((ll1.length : Int) - 1)) fa1 a3 fb1 a4 xq false _ gm gl gn ga gu gb gv Km.out Kl.out Kn.out Ka.out Ku.out Kb.out Kv.out (Kd.C_below HR.out HB.out) hc0_3 HQ.out HT.out).mono ?_; rintro e ww1 ⟨rfl, hb⟩; have KK := zA (zI Km.out hb); clear Km; have Km := KK; clear KK; have KK := zA (zI Kf.out hb); clear Kf; have Kf := KK; clear KK; have KK := zA (zI Kt.out hb); clear Kt; have Kt := KK; clear KK; have KK := zA (zI Ku.out hb); clear Ku; have Ku := KK; clear KK; have KK := zA (zI Kv.out hb); clear Kv; have Kv := KK; clear KK; have KK := zA (zI Ka.out hb); clear Ka; have Ka := KK; clear KK; have KK := zA (zI Kb.out hb); clear Kb; have Kb := KK; clear KK; have KK := zA (zI Kl.out hb); clear Kl; have Kl := KK; clear KK; have KK := zA (zI Kn.out hb); clear Kn; have Kn := KK; clear KK; have KK := zA (Kd.C_below HQ.out hb); clear HQ; have HQ := KK; clear KK; have KK := zA (zJ HB.out hb); clear HB; have HB := KK; clear KK; clear hb))
          go_roundg k1
          case measure => have := HK.out; omega
          case rel => exact ⟨_, rfl, H', ⟨by have := HK.out; omega⟩, Km, Kf, Kt, Ku, Kv, Ka, Kb, Kl, Kn, HQ, HB⟩
        · rw [if_pos rfl] at H
          obtain rfl := Option.some.inj H
          clear H
          go_wp2_with (first | (go_at_call 51; refine (ray_Sees.blocks k1 a0_0 a0_1 a0_2 _ _ l0_3 _ _ ll1 (wrap64 ((ll1.length : Int) - 1)) fa1 a3 fb1 a4 xq true _ gm gl gn ga gu gb gv Km.out Kl.out Kn.out Ka.out Ku.out Kb.out Kv.out (Kd.C_below HR.out HB.out) hc0_3 HQ.out HT.out).mono ?_; rintro e ww1 ⟨rfl, hb⟩; have KK := zA (zI Km.out hb); clear Km; have Km := KK; clear KK; have KK := zA (zI Kf.out hb); clear Kf; have Kf := KK; clear KK; have KK := zA (zI Kt.out hb); clear Kt; have Kt := KK; clear KK; have KK := zA (zI Ku.out hb); clear Ku; have Ku := KK; clear KK; have KK := zA (zI Kv.out hb); clear Kv; have Kv := KK; clear KK; have KK := zA (zI Ka.out hb); clear Ka; have Ka := KK; clear KK; have KK := zA (zI Kb.out hb); clear Kb; have Kb := KK; clear KK; have KK := zA (zI Kl.out hb); clear Kl; have Kl := KK; clear KK; have KK := zA (zI Kn.out hb); clear Kn; have Kn := KK; clear KK; have KK := zA (Kd.C_below HQ.out hb); clear HQ; have HQ := KK; clear KK; have KK := zA (zJ HB.out hb); clear HB; have HB := KK; clear KK; clear hb))
          go_ret2
          exact ⟨rfl, HB.out⟩
      · rw [if_neg cq] at H
        have cq0 : decide (xq < wrap64 ((ll1.length : Int) - 1)) = false := decide_eq_false cq
        clear cq
        obtain rfl := Option.some.inj H
        clear H
        go_wp2
        go_ret2
        exact ⟨rfl, HB.out⟩

end Go.Proofs.Yteihieihoeijdaa.PA
