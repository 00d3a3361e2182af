/- The contract of sight_View: what its call comes to, for every argument, in any memory. -/
import Derived.Test.YteihieihoeijdaaPAx0
import Derived.Test.YteihieihoeijdaaPAx17
import Derived.Test.YteihieihoeijdaaPAxS
import Derived.Test.YteihieihoeijdaaPAx22
import Derived.Test.YteihieihoeijdaaGAbivouaclaw21few
import Derived.Test.YteihieihoeijdaaGAraySees
import Derived.Test.YteihieihoeijdaaGAreliefDepth
import Derived.Test.YteihieihoeijdaaGAreliefSlope
import Derived.Deep.RegionHeld3
namespace Go.Proofs.Yteihieihoeijdaa.PA
open Go.RowKit Go.Proofs.YteihieihoeijdaaW.PrintWords Go.Proofs.YteihieihoeijdaaW.PrintLast Go.Proofs.YteihieihoeijdaaW.PrintMore
set_option linter.unusedVariables false
set_option linter.unusedSimpArgs false

--import Derived.Deep.RegionHeld3
def sight_View.ech (k : Nat) (m0 m1 m2 : Int) (ml : List Int) (x : S27) (c : Int) : Option Bool :=
  (sight_near.f m0 m1 m2 ml x.f0 x.f1 x.f2 x.f3 x.f4 x.f5 x.f6 x.f7 c x.f5).bind fun a => if a = true then some true else (relief_Depth.f k m0 m1 m2 ml (c % m0) (c / m0)).bind fun d => if 0 < d.1 then sight_near.f m0 m1 m2 ml x.f0 x.f1 x.f2 x.f3 x.f4 x.f5 x.f6 x.f7 c x.f6 else some false
def sight_View.rse (h : Int → Option Bool) (u : Int) : Nat → Int → List Int → Option (List Int)
  | 0, _, o => some o
  | d + 1, i, o => if rd o i < u then (h i).bind fun b => sight_View.rse h u d (i + 1) (if b = true then o.set i.toNat u else o) else sight_View.rse h u d (i + 1) o
def sight_View.p1 (k : Nat) (m0 m1 m2 : Int) (ml : List Int) (t : Int) : List S27 → List Int → Option (List Int)
  | [], o => some o
  | x :: l, o => if x.f0 = t then (sight_View.rse (sight_View.ech k m0 m1 m2 ml x) 1 o.length 0 o).bind fun o2 => sight_View.p1 k m0 m1 m2 ml t l o2 else sight_View.p1 k m0 m1 m2 ml t l o
def sight_View.jam (m0 m1 m2 : Int) (ml : List Int) (t c : Int) : List S27 → List Int → Option (List Int)
  | [], o => some o
  | x :: l, o => if x.f0 ≠ t ∧ 0 < x.f7 then (sight_near.f m0 m1 m2 ml x.f0 x.f1 x.f2 x.f3 x.f4 x.f5 x.f6 x.f7 c x.f7).bind fun b => sight_View.jam m0 m1 m2 ml t c l (if b = true then o.set c.toNat 0 else o) else sight_View.jam m0 m1 m2 ml t c l o
def sight_View.p2 (m0 m1 m2 : Int) (ml : List Int) (t : Int) (l : List S27) : Nat → Int → List Int → Option (List Int)
  | 0, _, o => some o
  | d + 1, i, o => (sight_View.jam m0 m1 m2 ml t i l o).bind fun o2 => sight_View.p2 m0 m1 m2 ml t l d (i + 1) o2
def sight_View.p3 (k : Nat) (m0 m1 m2 : Int) (ml : List Int) (t : Int) : List S27 → List Int → Option (List Int)
  | [], o => some o
  | x :: l, o => if x.f0 = t then (ray_Seen.f k m0 m1 m2 ml x.f1 x.f2 x.f3 x.f4).bind fun s => if s.1.length = o.length then (sight_View.rse (fun c => some (rdOf false s.1 c)) 2 o.length 0 o).bind fun o2 => sight_View.p3 k m0 m1 m2 ml t l o2 else none else sight_View.p3 k m0 m1 m2 ml t l o
def sight_View.f (k : Nat) (a0_0 : Int) (a0_1 : Int) (a0_2 : Int) (l0_3 : List Int) (l1 : List (S27)) (a2 : Int) : Option (List Int × Int) := (sight_May.f k a0_0 a0_1 a0_2 l0_3 l1).bind fun t => if t = true ∧ 0 ≤ a2 ∧ a2 ≤ 7 then (if 1 ≤ a0_0 ∧ a0_0 ≤ 64 ∧ 1 ≤ a0_1 ∧ a0_1 ≤ 64 ∧ l1.length ≤ 64 then
  (sight_View.p1 k a0_0 a0_1 a0_2 l0_3 a2 l1 (List.replicate (a0_0 * a0_1).toNat 0)).bind fun o1 => (sight_View.p2 a0_0 a0_1 a0_2 l0_3 a2 l1 o1.length 0 o1).bind fun o2 => (sight_View.p3 k a0_0 a0_1 a0_2 l0_3 a2 l1 o2).bind fun o3 => some (o3, 0) else none) else some ([], 1)
theorem blk_all8 {w : World} {g t : Nat} {c0 c1 c2 c3 c4 c5 c6 c7 v0 v1 v2 v3 v4 v5 v6 v7 : Value} (h : w.heap[g]? = some (.cells #[c0, c1, c2, c3, c4, c5, c6, c7] t (0, 0))) : ((((((((w.setCell ⟨g, 0, none⟩ v0).setCell ⟨g, 1, none⟩ v1).setCell ⟨g, 2, none⟩ v2).setCell ⟨g, 3, none⟩ v3).setCell ⟨g, 4, none⟩ v4).setCell ⟨g, 5, none⟩ v5).setCell ⟨g, 6, none⟩ v6).setCell ⟨g, 7, none⟩ v7).heap[g]? = some (.cells #[v0, v1, v2, v3, v4, v5, v6, v7] t (0, 0)) := by
  have h0 : (w.setCell ⟨g, 0, none⟩ v0).heap[g]? = some (.cells #[v0, c1, c2, c3, c4, c5, c6, c7] t (0, 0)) := zZ h 0 _ rfl
  have h1 : ((w.setCell ⟨g, 0, none⟩ v0).setCell ⟨g, 1, none⟩ v1).heap[g]? = some (.cells #[v0, v1, c2, c3, c4, c5, c6, c7] t (0, 0)) := zZ h0 1 _ rfl
  have h2 : (((w.setCell ⟨g, 0, none⟩ v0).setCell ⟨g, 1, none⟩ v1).setCell ⟨g, 2, none⟩ v2).heap[g]? = some (.cells #[v0, v1, v2, c3, c4, c5, c6, c7] t (0, 0)) := zZ h1 2 _ rfl
  have h3 : ((((w.setCell ⟨g, 0, none⟩ v0).setCell ⟨g, 1, none⟩ v1).setCell ⟨g, 2, none⟩ v2).setCell ⟨g, 3, none⟩ v3).heap[g]? = some (.cells #[v0, v1, v2, v3, c4, c5, c6, c7] t (0, 0)) := zZ h2 3 _ rfl
  have h4 : (((((w.setCell ⟨g, 0, none⟩ v0).setCell ⟨g, 1, none⟩ v1).setCell ⟨g, 2, none⟩ v2).setCell ⟨g, 3, none⟩ v3).setCell ⟨g, 4, none⟩ v4).heap[g]? = some (.cells #[v0, v1, v2, v3, v4, c5, c6, c7] t (0, 0)) := zZ h3 4 _ rfl
  have h5 : ((((((w.setCell ⟨g, 0, none⟩ v0).setCell ⟨g, 1, none⟩ v1).setCell ⟨g, 2, none⟩ v2).setCell ⟨g, 3, none⟩ v3).setCell ⟨g, 4, none⟩ v4).setCell ⟨g, 5, none⟩ v5).heap[g]? = some (.cells #[v0, v1, v2, v3, v4, v5, c6, c7] t (0, 0)) := zZ h4 5 _ rfl
  have h6 : (((((((w.setCell ⟨g, 0, none⟩ v0).setCell ⟨g, 1, none⟩ v1).setCell ⟨g, 2, none⟩ v2).setCell ⟨g, 3, none⟩ v3).setCell ⟨g, 4, none⟩ v4).setCell ⟨g, 5, none⟩ v5).setCell ⟨g, 6, none⟩ v6).heap[g]? = some (.cells #[v0, v1, v2, v3, v4, v5, v6, c7] t (0, 0)) := zZ h5 6 _ rfl
  have h7 : ((((((((w.setCell ⟨g, 0, none⟩ v0).setCell ⟨g, 1, none⟩ v1).setCell ⟨g, 2, none⟩ v2).setCell ⟨g, 3, none⟩ v3).setCell ⟨g, 4, none⟩ v4).setCell ⟨g, 5, none⟩ v5).setCell ⟨g, 6, none⟩ v6).setCell ⟨g, 7, none⟩ v7).heap[g]? = some (.cells #[v0, v1, v2, v3, v4, v5, v6, v7] t (0, 0)) := zZ h6 7 _ rfl
  exact h7
theorem sight_View.ech_mono (k : Nat) (m0 m1 m2 : Int) (ml : List Int) (x : S27) (c : Int) : LeO (sight_View.ech k m0 m1 m2 ml x c) (sight_View.ech (k + 1) m0 m1 m2 ml x c) :=
  LeO.bind (LeO.refl _) (fun _ => LeO.ite (LeO.refl _) (LeO.bind (relief_Depth.mono _ _ _ _ _ _ _) (fun _ => LeO.refl _)))
theorem sight_View.rse_mono {h g : Int → Option Bool} (hg : ∀ c, LeO (h c) (g c)) (u : Int) : ∀ (d : Nat) (i : Int) (o : List Int), LeO (sight_View.rse h u d i o) (sight_View.rse g u d i o)
  | 0, _, _ => LeO.refl _
  | d + 1, _, _ => LeO.ite (LeO.bind (hg _) (fun _ => sight_View.rse_mono hg u d _ _)) (sight_View.rse_mono hg u d _ _)
theorem sight_View.p1_mono (k : Nat) (m0 m1 m2 : Int) (ml : List Int) (t : Int) : ∀ (l : List S27) (o : List Int), LeO (sight_View.p1 k m0 m1 m2 ml t l o) (sight_View.p1 (k + 1) m0 m1 m2 ml t l o)
  | [], _ => LeO.refl _
  | _ :: l, _ => LeO.ite (LeO.bind (sight_View.rse_mono (fun _ => sight_View.ech_mono _ _ _ _ _ _ _) _ _ _ _) (fun _ => sight_View.p1_mono k m0 m1 m2 ml t l _)) (sight_View.p1_mono k m0 m1 m2 ml t l _)
theorem sight_View.p3_mono (k : Nat) (m0 m1 m2 : Int) (ml : List Int) (t : Int) : ∀ (l : List S27) (o : List Int), LeO (sight_View.p3 k m0 m1 m2 ml t l o) (sight_View.p3 (k + 1) m0 m1 m2 ml t l o)
  | [], _ => LeO.refl _
  | _ :: l, _ => LeO.ite (LeO.bind (ray_Seen.mono _ _ _ _ _ _ _ _ _) (fun _ => LeO.ite (LeO.bind (LeO.refl _) (fun _ => sight_View.p3_mono k m0 m1 m2 ml t l _)) (LeO.refl _))) (sight_View.p3_mono k m0 m1 m2 ml t l _)
theorem sight_View.mono : ∀ y0 y1 y2 y3 y4 y5 k, LeO (sight_View.f k y0 y1 y2 y3 y4 y5) (sight_View.f (k + 1) y0 y1 y2 y3 y4 y5) := by
  intro y0 y1 y2 y3 y4 y5 k
  exact LeO.bind (sight_May.mono _ _ _ _ _ _) (fun _ => LeO.ite (LeO.ite (LeO.bind (sight_View.p1_mono _ _ _ _ _ _ _ _) (fun _ => LeO.bind (LeO.refl _) (fun _ => LeO.bind (sight_View.p3_mono _ _ _ _ _ _ _ _) (fun _ => LeO.refl _)))) (LeO.refl _)) (LeO.refl _))
theorem sight_View.rse_len {h : Int → Option Bool} {u : Int} : ∀ (d : Nat) (i : Int) (o r : List Int), sight_View.rse h u d i o = some r → r.length = o.length
  | 0, _, o, r, e => by rw [← Option.some.inj e]
  | d + 1, i, o, r, e => by
    simp only [sight_View.rse] at e
    split at e
    · obtain ⟨b, _, e2⟩ := Option.bind_eq_some_iff.1 e
      rw [sight_View.rse_len d _ _ _ e2]
      split <;> simp
    · exact sight_View.rse_len d _ _ _ e
set_option maxHeartbeats 4000000 in
set_option maxRecDepth 100000 in
theorem sight_View.c3 (s : List Bool) (c : Int) (As : Option Addr) (cs : Nat) (w : World) (gs : Nat) (h : w.heap[gs]? = some (.cells #[.slice As s.length cs] 54 (0, 0))) (hr : Kd.C Kd.bool w As s.length s) (c0 : 0 ≤ c) (c1 : c < (s.length : Int)) :
    Calls Try.prog 26 #[.int .i64 c, .pointer (some ⟨gs, 0, none⟩)] w fun e w' => e = .returned (.bool (rdOf false s c)) ∧ w = w' := by
  obtain ⟨ad, rfl, x0⟩ := Kd.at_bool hr c c0 c1
  have z0 : w.cell? ⟨gs, 0, none⟩ = some (.slice (some ad) s.length cs) := (zD h 0).trans rfl
  have HR := zA hr
  have HH := zA h
  clear h hr
  go_enter Try.func26, Try.ntmps26
  go_wp2
  go_ret
  exact ⟨rfl, rfl⟩
set_option maxHeartbeats 8000000 in
set_option maxRecDepth 100000 in
theorem sight_View.c2 (k : Nat) (m0 m1 m2 : Int) (ml : List Int) (x : S27) (c : Int) (b : Bool) (Am : Option Addr) (cm : Nat) (w : World) (gm gx : Nat) (hm : w.heap[gm]? = some (.cells #[.int .i64 m0, .int .i64 m1, .int .i64 m2, .slice Am ml.length cm] 24 (0, 0)))
    (hx : w.heap[gx]? = some (.cells #[.int .i64 x.f0, .int .i64 x.f1, .int .i64 x.f2, .int .i64 x.f3, .int .i64 x.f4, .int .i64 x.f5, .int .i64 x.f6, .int .i64 x.f7] 27 (0, 0))) (hr : Kd.C (Kd.int .u8) w Am ml.length ml) (hc : ml.length ≤ cm) (q0 : 1 ≤ m0) (q1 : m0 ≤ 64) (c0 : 0 ≤ c) (c1 : c ≤ 4096) (h : sight_View.ech k m0 m1 m2 ml x c = some b) :
    Calls Try.prog 22 #[.int .i64 c, .pointer (some ⟨gm, 0, none⟩), .pointer (some ⟨gx, 0, none⟩)] w fun e w' => e = .returned (.bool b) ∧ Below w.heap.size w w' := by
  have HB := zA (Below.refl w.heap.size w)
  have Km := zA hm
  have Kx := zA hx
  have HR := zA hr
  have HCm := zA hc
  clear hm hx hr hc
  unfold sight_View.ech at h
  obtain ⟨a, ha, h⟩ := Option.bind_eq_some_iff.1 h
  have HA := zA ha
  clear ha
  have tok1 : True := trivial
  have tok2 : True := trivial
  have zm_0 : w.cell? ⟨gm, 0, none⟩ = some (.int .i64 m0) := (zD Km.out 0).trans rfl
  have zm_1 : w.cell? ⟨gm, 1, none⟩ = some (.int .i64 m1) := (zD Km.out 1).trans rfl
  have zm_2 : w.cell? ⟨gm, 2, none⟩ = some (.int .i64 m2) := (zD Km.out 2).trans rfl
  have zm_3 : w.cell? ⟨gm, 3, none⟩ = some (.slice Am ml.length cm) := (zD Km.out 3).trans rfl
  have zx_0 : w.cell? ⟨gx, 0, none⟩ = some (.int .i64 x.f0) := (zD Kx.out 0).trans rfl
  have zx_1 : w.cell? ⟨gx, 1, none⟩ = some (.int .i64 x.f1) := (zD Kx.out 1).trans rfl
  have zx_2 : w.cell? ⟨gx, 2, none⟩ = some (.int .i64 x.f2) := (zD Kx.out 2).trans rfl
  have zx_3 : w.cell? ⟨gx, 3, none⟩ = some (.int .i64 x.f3) := (zD Kx.out 3).trans rfl
  have zx_4 : w.cell? ⟨gx, 4, none⟩ = some (.int .i64 x.f4) := (zD Kx.out 4).trans rfl
  have zx_5 : w.cell? ⟨gx, 5, none⟩ = some (.int .i64 x.f5) := (zD Kx.out 5).trans rfl
  have zx_6 : w.cell? ⟨gx, 6, none⟩ = some (.int .i64 x.f6) := (zD Kx.out 6).trans rfl
  have zx_7 : w.cell? ⟨gx, 7, none⟩ = some (.int .i64 x.f7) := (zD Kx.out 7).trans rfl
  go_enter Try.func22, Try.ntmps22
  go_upto_if 12 with (first | (go_at_call 23; have _t := tok1; refine (sight_near.calls m0 m1 m2 _ _ ml x.f0 x.f1 x.f2 x.f3 x.f4 x.f5 x.f6 x.f7 c x.f5 a _ HR.out HCm.out HA.out).mono ?_; rintro e ww1 ⟨rfl, hb⟩; clear tok1 _t; have KK := zA (zI Km.out hb); clear Km; have Km := KK; clear KK; have KK := zA (zI Kx.out hb); clear Kx; have Kx := KK; clear KK; have KK := zA (Kd.C_below HR.out hb); clear HR; have HR := KK; clear KK; have KK := zA (zJ HB.out hb); clear HB; have HB := KK; clear KK; clear hb; clear zm_0 zm_1 zm_2 zm_3 zx_0 zx_1 zx_2 zx_3 zx_4 zx_5 zx_6 zx_7; have zm_0 : ww1.cell? ⟨gm, 0, none⟩ = some (.int .i64 m0) := (zD Km.out 0).trans rfl; have zm_1 : ww1.cell? ⟨gm, 1, none⟩ = some (.int .i64 m1) := (zD Km.out 1).trans rfl; have zm_2 : ww1.cell? ⟨gm, 2, none⟩ = some (.int .i64 m2) := (zD Km.out 2).trans rfl; have zm_3 : ww1.cell? ⟨gm, 3, none⟩ = some (.slice Am ml.length cm) := (zD Km.out 3).trans rfl; have zx_0 : ww1.cell? ⟨gx, 0, none⟩ = some (.int .i64 x.f0) := (zD Kx.out 0).trans rfl; have zx_1 : ww1.cell? ⟨gx, 1, none⟩ = some (.int .i64 x.f1) := (zD Kx.out 1).trans rfl; have zx_2 : ww1.cell? ⟨gx, 2, none⟩ = some (.int .i64 x.f2) := (zD Kx.out 2).trans rfl; have zx_3 : ww1.cell? ⟨gx, 3, none⟩ = some (.int .i64 x.f3) := (zD Kx.out 3).trans rfl; have zx_4 : ww1.cell? ⟨gx, 4, none⟩ = some (.int .i64 x.f4) := (zD Kx.out 4).trans rfl; have zx_5 : ww1.cell? ⟨gx, 5, none⟩ = some (.int .i64 x.f5) := (zD Kx.out 5).trans rfl; have zx_6 : ww1.cell? ⟨gx, 6, none⟩ = some (.int .i64 x.f6) := (zD Kx.out 6).trans rfl; have zx_7 : ww1.cell? ⟨gx, 7, none⟩ = some (.int .i64 x.f7) := (zD Kx.out 7).trans rfl))
  cases a
  rotate_left
  · rw [if_pos rfl] at h
    obtain rfl := Option.some.inj h
    clear h
    go_wp2
    go_ret
    exact ⟨rfl, HB.out⟩
  rw [if_neg (by decide)] at h
  obtain ⟨⟨d1, d2⟩, hd, h⟩ := Option.bind_eq_some_iff.1 h
  have HD := zA hd
  have HH := zA h
  clear hd h
  have e6 : Int.tmod c m0 = c % m0 := Int.tmod_eq_emod_of_nonneg c0
  have e7 : m0 ≠ 0 := by omega
  have e8 : Int.tdiv c m0 = c / m0 := zW c0
  have e10 := Int.ediv_le_self m0 c0
  have e11 := Int.ediv_nonneg c0 (show 0 ≤ m0 by omega)
  have e9 : wrap64 (c / m0) = c / m0 := by unfold wrap64; omega
  have r9 : IntKind.i64.wrap (c / m0) = c / m0 := by rw [i64_w]; exact e9
  have HQ := zA (And.intro q0 (And.intro q1 (And.intro c0 c1)))
  clear e10 e11 q0 q1 c0 c1
  go_wp2_with fail
  go_region_held3 (fun W => W.cell? ⟨gm, 0, none⟩ = some (.int .i64 m0) ∧ W.cell? ⟨gm, 1, none⟩ = some (.int .i64 m1) ∧ W.cell? ⟨gm, 2, none⟩ = some (.int .i64 m2) ∧ W.cell? ⟨gm, 3, none⟩ = some (.slice Am ml.length cm)) (go_keep)
    (first | (go_at_call 24; refine (relief_Depth.calls k m0 m1 m2 _ _ ml (c % m0) (c / m0) d1 d2 ww1.drew (Kd.C_below HR.out (below_drew (Below.refl _ _))) HCm.out HD.out).mono ?_; rintro e w9 ⟨rfl, hb⟩; have zm_0_ := pw_cell_below hb zm_0; have zm_1_ := pw_cell_below hb zm_1; have zm_2_ := pw_cell_below hb zm_2; have zm_3_ := pw_cell_below hb zm_3; have zx_0_ := pw_cell_below hb zx_0; have zx_1_ := pw_cell_below hb zx_1; have zx_2_ := pw_cell_below hb zx_2; have zx_3_ := pw_cell_below hb zx_3; have zx_4_ := pw_cell_below hb zx_4; have zx_5_ := pw_cell_below hb zx_5; have zx_6_ := pw_cell_below hb zx_6; have zx_7_ := pw_cell_below hb zx_7; have y := hb; have HBD := zA hb; clear hb y))
  all_goals
    have h := HH.out
    clear HH
    try dsimp only at h
    by_cases dp : 0 < d1
    · have dp1 : decide (0 < d1) = true := decide_eq_true dp
      rw [if_pos dp] at h
      have HH := zA h
      clear h dp
      go_wp2_with (first | (go_at_call 23; have _t := tok2; refine (sight_near.calls m0 m1 m2 _ _ ml x.f0 x.f1 x.f2 x.f3 x.f4 x.f5 x.f6 x.f7 c x.f6 b _ (Kd.C_below (Kd.C_below HR.out (below_drew (Below.refl _ _))) HBD.out) HCm.out HH.out).mono ?_; rintro e ww2 ⟨rfl, hb⟩; have hz := zJ (zJ (zE HB.out) HBD.out) hb; clear HB; have HB := zA hz; clear hz hb; clear tok2 _t))
      go_ret
      exact ⟨rfl, HB.out⟩
    · have dp1 : decide (0 < d1) = false := decide_eq_false dp
      rw [if_neg dp] at h
      obtain rfl := Option.some.inj h
      clear h dp
      go_wp2
      go_ret
      exact ⟨rfl, zJ (zE HB.out) HBD.out⟩
set_option maxHeartbeats 8000000 in
set_option maxRecDepth 100000 in
theorem sight_View.raise2 {h : Int → Option Bool} {u : Int} {gm gx go gv n cap B : Nat} {P : World → Prop} (hPb : ∀ A C, Below A.heap.size A C → P A → P C) (hPs : ∀ A i z, P A → P (A.setCell ⟨gv, i, none⟩ z))
    (hh : ∀ (A : World) (c : Int) (b : Bool), P A → 0 ≤ c → c < (n : Int) → h c = some b → Calls Try.prog 22 #[.int .i64 c, .pointer (some ⟨gm, 0, none⟩), .pointer (some ⟨gx, 0, none⟩)] A fun e A' => e = .returned (.bool b) ∧ Below A.heap.size A A')
    (W : World) (o r : List Int) (hgo : W.heap[go]? = some (.cells #[.slice (some ⟨gv, 0, none⟩) n cap] 31 (0, 0))) (hv : Kd.R (Kd.int .i64) 3 W B (fun k => k = gv) (.slice (some ⟨gv, 0, none⟩) n cap) o) (hn : n ≤ 4096) (hl : o.length = n) (hp : P W) (hr : sight_View.rse h u o.length 0 o = some r) :
    Calls Try.prog 21 #[.int .i64 u, .func (.func 22) #[] #[.pointer (some ⟨gm, 0, none⟩), .pointer (some ⟨gx, 0, none⟩)], .pointer (some ⟨go, 0, none⟩)] W fun e W' => (∃ v, e = .returned v) ∧ P W' ∧ W'.heap[go]? = some (.cells #[.slice (some ⟨gv, 0, none⟩) n cap] 31 (0, 0)) ∧ Kd.R (Kd.int .i64) 3 W' B (fun k => k = gv) (.slice (some ⟨gv, 0, none⟩) n cap) r := by
  have ng : go ≠ gv := by
    obtain ⟨cells, hc⟩ := Kd.R_typed hv gv rfl
    exact blk_ne hgo hc (by decide)
  have NG := zA ng
  have HPB := zA hPb
  have HPS := zA hPs
  have HH := zA hh
  have HG := zA hgo
  have HV := zA hv
  have HP := zA hp
  have HR := zA hr
  have HN := zA hn
  have HL := zA hl
  clear hPb hPs hh hgo hv hp hr hn hl ng
  have zo : W.cell? ⟨go, 0, none⟩ = some (.slice (some ⟨gv, 0, none⟩) n cap) := (zD HG.out 0).trans rfl
  go_enter Try.func21, Try.ntmps21
  go_wp2
  go_loopg [8] n (fun kq v8 w' => ∃ (i : Int) (o1 : List Int), v8 = .int .i64 i ∧ Aside0 (0 ≤ i ∧ i ≤ (n : Int) ∧ (kq : Int) + i = (n : Int)) ∧ Aside0 (sight_View.rse h u kq i o1 = some r) ∧ Aside0 (P w') ∧ Aside0 (w'.heap[go]? = some (.cells #[.slice (some ⟨gv, 0, none⟩) n cap] 31 (0, 0))) ∧ Aside0 (Kd.R (Kd.int .i64) 3 w' B (fun k => k = gv) (.slice (some ⟨gv, 0, none⟩) n cap) o1))
  case atStart => exact ⟨0, o, rfl, ⟨by omega⟩, ⟨by have h := HR.out; rw [HL.out] at h; exact h⟩, HP, HG, HV⟩
  case round =>
    clear HP HG HV HR zo HL
    obtain ⟨i, o1, rfl, HI, HR, HP, HG, HV⟩ := hrel
    by_cases hi : i < (n : Int)
    rotate_left
    · have d0 : decide (i < (n : Int)) = false := decide_eq_false hi
      have hr := HR.out
      have hk : gk = 0 := by have := HI.out; omega
      rw [hk] at hr
      obtain rfl := Option.some.inj hr
      clear hr hk hi
      go_wp2
      go_end0
      exact ⟨⟨_, rfl⟩, HP.out, HG.out, HV.out⟩
    have d0 : decide (i < (n : Int)) = true := decide_eq_true hi
    obtain ⟨i0, i1, i2⟩ := HI.out
    obtain ⟨d, hd⟩ : ∃ d, gk = d + 1 := ⟨gk - 1, by omega⟩
    have hr := HR.out
    rw [hd] at hr
    simp only [sight_View.rse] at hr
    have x0 := (Kd.R_celln 0 HV.out i i0 hi).1
    have x1 := (Kd.R_celln 0 HV.out i i0 hi).2
    obtain ⟨v, hv⟩ : ∃ v, rdOf 0 o1 i = v := ⟨_, rfl⟩
    rw [hv] at x0
    rw [show rd o1 i = v from hv] at hr
    have zo : wr.cell? ⟨go, 0, none⟩ = some (.slice (some ⟨gv, 0, none⟩) n cap) := (zD HG.out 0).trans rfl
    have e1 : wrap64 (i + 1) = i + 1 := by have := HN.out; unfold wrap64; omega
    have r1 : IntKind.i64.wrap (i + 1) = i + 1 := by rw [i64_w]; exact e1
    have q0 : 0 ≤ i := i0
    have q1 : i < (n : Int) := hi
    have HI2 := zA (And.intro i0 (And.intro hi (And.intro i2 hd)))
    clear i0 i1 i2 hi HI HR hv hd
    by_cases hc : v < u
    rotate_left
    · rw [if_neg hc] at hr
      have HR := zA hr
      have d1 : decide (v < u) = false := decide_eq_false hc
      clear hc hr
      go_wp2
      go_roundg d
      case measure => have := HI2.out; omega
      case rel => exact ⟨i + 1, o1, rfl, ⟨by have := HI2.out; omega⟩, HR, HP, HG, HV⟩
    rw [if_pos hc] at hr
    have d1 : decide (v < u) = true := decide_eq_true hc
    obtain ⟨b, hb, hr⟩ := Option.bind_eq_some_iff.1 hr
    have HBB := zA hb
    have HR := zA hr
    clear hc hr hb
    go_upto_if 21 with (go_at_call 22; refine (HH.out _ i b HP.out HI2.out.1 HI2.out.2.1 HBB.out).mono ?_; rintro e w2 ⟨rfl, hb⟩; have K1 := zA (HPB.out _ _ hb HP.out); have K2 := zA (zI HG.out hb); have K3 := zA (zS HV.out hb); clear hb HP HG HV; have HP := K1; have HG := K2; have HV := K3; clear K1 K2 K3 x0 x1 zo)
    have x0 := (Kd.R_celln 0 HV.out i HI2.out.1 HI2.out.2.1).1
    have x1 := (Kd.R_celln 0 HV.out i HI2.out.1 HI2.out.2.1).2
    have zo : w2.cell? ⟨go, 0, none⟩ = some (.slice (some ⟨gv, 0, none⟩) n cap) := (zD HG.out 0).trans rfl
    cases b
    · go_wp2
      go_roundg d
      case measure => have := HI2.out; omega
      case rel => exact ⟨i + 1, o1, rfl, ⟨by have := HI2.out; omega⟩, HR, HP, HG, HV⟩
    · go_wp2
      go_roundg d
      case measure => have := HI2.out; omega
      case rel => exact ⟨i + 1, o1.set i.toNat u, rfl, ⟨by have := HI2.out; omega⟩, HR, ⟨HPS.out _ _ _ HP.out⟩, ⟨zL HG.out NG.out _⟩, ⟨Kd.R_putn HV.out i u⟩⟩
set_option maxHeartbeats 8000000 in
set_option maxRecDepth 100000 in
theorem sight_View.raise3 {h : Int → Option Bool} {u : Int} {gs go gv n cap B : Nat} {P : World → Prop} (hPb : ∀ A C, Below A.heap.size A C → P A → P C) (hPs : ∀ A i z, P A → P (A.setCell ⟨gv, i, none⟩ z))
    (hh : ∀ (A : World) (c : Int) (b : Bool), P A → 0 ≤ c → c < (n : Int) → h c = some b → Calls Try.prog 26 #[.int .i64 c, .pointer (some ⟨gs, 0, none⟩)] A fun e A' => e = .returned (.bool b) ∧ Below A.heap.size A A')
    (W : World) (o r : List Int) (hgo : W.heap[go]? = some (.cells #[.slice (some ⟨gv, 0, none⟩) n cap] 31 (0, 0))) (hv : Kd.R (Kd.int .i64) 3 W B (fun k => k = gv) (.slice (some ⟨gv, 0, none⟩) n cap) o) (hn : n ≤ 4096) (hl : o.length = n) (hp : P W) (hr : sight_View.rse h u o.length 0 o = some r) :
    Calls Try.prog 21 #[.int .i64 u, .func (.func 26) #[] #[.pointer (some ⟨gs, 0, none⟩)], .pointer (some ⟨go, 0, none⟩)] W fun e W' => (∃ v, e = .returned v) ∧ P W' ∧ W'.heap[go]? = some (.cells #[.slice (some ⟨gv, 0, none⟩) n cap] 31 (0, 0)) ∧ Kd.R (Kd.int .i64) 3 W' B (fun k => k = gv) (.slice (some ⟨gv, 0, none⟩) n cap) r := by
  have ng : go ≠ gv := by
    obtain ⟨cells, hc⟩ := Kd.R_typed hv gv rfl
    exact blk_ne hgo hc (by decide)
  have NG := zA ng
  have HPB := zA hPb
  have HPS := zA hPs
  have HH := zA hh
  have HG := zA hgo
  have HV := zA hv
  have HP := zA hp
  have HR := zA hr
  have HN := zA hn
  have HL := zA hl
  clear hPb hPs hh hgo hv hp hr hn hl ng
  have zo : W.cell? ⟨go, 0, none⟩ = some (.slice (some ⟨gv, 0, none⟩) n cap) := (zD HG.out 0).trans rfl
  go_enter Try.func21, Try.ntmps21
  go_wp2
  go_loopg [8] n (fun kq v8 w' => ∃ (i : Int) (o1 : List Int), v8 = .int .i64 i ∧ Aside0 (0 ≤ i ∧ i ≤ (n : Int) ∧ (kq : Int) + i = (n : Int)) ∧ Aside0 (sight_View.rse h u kq i o1 = some r) ∧ Aside0 (P w') ∧ Aside0 (w'.heap[go]? = some (.cells #[.slice (some ⟨gv, 0, none⟩) n cap] 31 (0, 0))) ∧ Aside0 (Kd.R (Kd.int .i64) 3 w' B (fun k => k = gv) (.slice (some ⟨gv, 0, none⟩) n cap) o1))
  case atStart => exact ⟨0, o, rfl, ⟨by omega⟩, ⟨by have h := HR.out; rw [HL.out] at h; exact h⟩, HP, HG, HV⟩
  case round =>
    clear HP HG HV HR zo HL
    obtain ⟨i, o1, rfl, HI, HR, HP, HG, HV⟩ := hrel
    by_cases hi : i < (n : Int)
    rotate_left
    · have d0 : decide (i < (n : Int)) = false := decide_eq_false hi
      have hr := HR.out
      have hk : gk = 0 := by have := HI.out; omega
      rw [hk] at hr
      obtain rfl := Option.some.inj hr
      clear hr hk hi
      go_wp2
      go_end0
      exact ⟨⟨_, rfl⟩, HP.out, HG.out, HV.out⟩
    have d0 : decide (i < (n : Int)) = true := decide_eq_true hi
    obtain ⟨i0, i1, i2⟩ := HI.out
    obtain ⟨d, hd⟩ : ∃ d, gk = d + 1 := ⟨gk - 1, by omega⟩
    have hr := HR.out
    rw [hd] at hr
    simp only [sight_View.rse] at hr
    have x0 := (Kd.R_celln 0 HV.out i i0 hi).1
    have x1 := (Kd.R_celln 0 HV.out i i0 hi).2
    obtain ⟨v, hv⟩ : ∃ v, rdOf 0 o1 i = v := ⟨_, rfl⟩
    rw [hv] at x0
    rw [show rd o1 i = v from hv] at hr
    have zo : wr.cell? ⟨go, 0, none⟩ = some (.slice (some ⟨gv, 0, none⟩) n cap) := (zD HG.out 0).trans rfl
    have e1 : wrap64 (i + 1) = i + 1 := by have := HN.out; unfold wrap64; omega
    have r1 : IntKind.i64.wrap (i + 1) = i + 1 := by rw [i64_w]; exact e1
    have q0 : 0 ≤ i := i0
    have q1 : i < (n : Int) := hi
    have HI2 := zA (And.intro i0 (And.intro hi (And.intro i2 hd)))
    clear i0 i1 i2 hi HI HR hv hd
    by_cases hc : v < u
    rotate_left
    · rw [if_neg hc] at hr
      have HR := zA hr
      have d1 : decide (v < u) = false := decide_eq_false hc
      clear hc hr
      go_wp2
      go_roundg d
      case measure => have := HI2.out; omega
      case rel => exact ⟨i + 1, o1, rfl, ⟨by have := HI2.out; omega⟩, HR, HP, HG, HV⟩
    rw [if_pos hc] at hr
    have d1 : decide (v < u) = true := decide_eq_true hc
    obtain ⟨b, hb, hr⟩ := Option.bind_eq_some_iff.1 hr
    have HBB := zA hb
    have HR := zA hr
    clear hc hr hb
    go_upto_if 21 with (go_at_call 26; refine (HH.out _ i b HP.out HI2.out.1 HI2.out.2.1 HBB.out).mono ?_; rintro e w2 ⟨rfl, hb⟩; have K1 := zA (HPB.out _ _ hb HP.out); have K2 := zA (zI HG.out hb); have K3 := zA (zS HV.out hb); clear hb HP HG HV; have HP := K1; have HG := K2; have HV := K3; clear K1 K2 K3 x0 x1 zo)
    have x0 := (Kd.R_celln 0 HV.out i HI2.out.1 HI2.out.2.1).1
    have x1 := (Kd.R_celln 0 HV.out i HI2.out.1 HI2.out.2.1).2
    have zo : w2.cell? ⟨go, 0, none⟩ = some (.slice (some ⟨gv, 0, none⟩) n cap) := (zD HG.out 0).trans rfl
    cases b
    · go_wp2
      go_roundg d
      case measure => have := HI2.out; omega
      case rel => exact ⟨i + 1, o1, rfl, ⟨by have := HI2.out; omega⟩, HR, HP, HG, HV⟩
    · go_wp2
      go_roundg d
      case measure => have := HI2.out; omega
      case rel => exact ⟨i + 1, o1.set i.toNat u, rfl, ⟨by have := HI2.out; omega⟩, HR, ⟨HPS.out _ _ _ HP.out⟩, ⟨zL HG.out NG.out _⟩, ⟨Kd.R_putn HV.out i u⟩⟩
/-- How the memory stands: the map's box, the map's corners, the eyes. -/
structure sight_View.St (w : World) (gm : Nat) (m0 m1 m2 : Int) (ml : List Int) (A0 : Option Addr) (c0 : Nat) (l : List S27) (A1 : Option Addr) (c1 : Nat) (W : World) : Prop where
  m : W.heap[gm]? = some (.cells #[.int .i64 m0, .int .i64 m1, .int .i64 m2, .slice A0 ml.length c0] 24 (0, 0))
  b : Below w.heap.size w W
  vm : Kd.V (Kd.int .u8) 5 W w.heap.size (fun k => k < w.heap.size) (.slice A0 ml.length c0) ml
  vl : Kd.V k27 27 W w.heap.size (fun k => k < w.heap.size) (.slice A1 l.length c1) l
theorem sight_View.St.below {w : World} {gm : Nat} {m0 m1 m2 : Int} {ml : List Int} {A0 : Option Addr} {c0 : Nat} {l : List S27} {A1 : Option Addr} {c1 : Nat} {W W' : World} (h : sight_View.St w gm m0 m1 m2 ml A0 c0 l A1 c1 W) (hb : Below W.heap.size W W') : sight_View.St w gm m0 m1 m2 ml A0 c0 l A1 c1 W' :=
  ⟨zI h.m hb, below_then h.b h.b.size hb, Kd.V_below h.vm hb, Kd.V_below h.vl hb⟩
theorem sight_View.St.set {w : World} {gm : Nat} {m0 m1 m2 : Int} {ml : List Int} {A0 : Option Addr} {c0 : Nat} {l : List S27} {A1 : Option Addr} {c1 : Nat} {W : World} (h : sight_View.St w gm m0 m1 m2 ml A0 c0 l A1 c1 W) {gv : Nat} (hg : w.heap.size ≤ gv) (hn : gm ≠ gv) (i : Nat) (z : Value) : sight_View.St w gm m0 m1 m2 ml A0 c0 l A1 c1 (W.setCell ⟨gv, i, none⟩ z) :=
  ⟨zL h.m hn _, h.b.setCell hg _, Kd.V_far h.vm (fun k hk => by show k ≠ gv; omega) _, Kd.V_far h.vl (fun k hk => by show k ≠ gv; omega) _⟩
theorem sight_View.drop_at {l : List S27} {i : Int} (i0 : 0 ≤ i) (i1 : i < (l.length : Int)) : l.drop i.toNat = rd_T27 l i :: l.drop (i + 1).toNat := by
  rw [show (i + 1).toNat = i.toNat + 1 by omega, List.drop_eq_getElem_cons (by omega)]
  congr 1
  unfold rd_T27
  rw [List.getD_eq_getElem?_getD, List.getElem?_eq_getElem (by omega)]
  rfl
theorem sight_View.within (a : Int) : sight_within.f a 7 = some (decide (0 ≤ a ∧ a ≤ 7)) := by
  unfold sight_within.f
  by_cases h : a ≥ 0
  · rw [if_pos h]; simp [h]
  · rw [if_neg h]; simp [h]
set_option maxHeartbeats 8000000 in
set_option maxRecDepth 100000 in
theorem sight_View.calls (k : Nat) (a0_0 : Int) (a0_1 : Int) (a0_2 : Int) (A0_3 : Option Addr) (c0_3 : Nat) (l0_3 : List Int) (A1 : Option Addr) (c1 : Nat) (l1 : List (S27)) (a2 : Int) (r1 : List Int) (r2 : Int) (w : World) (hr0_3 : Kd.C (Kd.int .u8) w A0_3 l0_3.length l0_3) (hc0_3 : l0_3.length ≤ c0_3) (hr1 : Kd.C k27 w A1 l1.length l1) (hc1 : l1.length ≤ c1) (h : sight_View.f k a0_0 a0_1 a0_2 l0_3 l1 a2 = some (r1, r2)) :
    Calls Try.prog 9 #[.agg #[.int .i64 a0_0, .int .i64 a0_1, .int .i64 a0_2, .slice A0_3 l0_3.length c0_3], .slice A1 l1.length c1, .int .i64 a2] w fun e w' => ∃ v0_ : Value, e = .returned (.tuple #[v0_, .int .i64 r2]) ∧ Kd.R (Kd.int .i64) 3 w' w.heap.size (fun _ => True) v0_ r1 ∧ Below w.heap.size w w' := by
  have HR := zA hr0_3
  have HRl := zA hr1
  have HVM : Aside0 (Kd.V (Kd.int .u8) 5 w w.heap.size (fun k => k < w.heap.size) (.slice A0_3 l0_3.length c0_3) l0_3) := ⟨Kd.V_mk hc0_3 (Kd.C_F (Kd.heap_int .u8) hr0_3)⟩
  have HVL : Aside0 (Kd.V k27 27 w w.heap.size (fun k => k < w.heap.size) (.slice A1 l1.length c1) l1) := ⟨Kd.V_mk hc1 (Kd.C_F k27_heap hr1)⟩
  have HC0 := zA hc0_3
  have HC1 := zA hc1
  clear hr0_3 hr1 hc0_3 hc1
  have HB := zA (Below.refl w.heap.size w)
  unfold sight_View.f at h
  replace h := Option.bind_eq_some_iff.1 h
  obtain ⟨t, ht, h⟩ := h
  have HT := zA ht
  have HH := zA h
  clear ht h
  have h := HH.out
  clear HH
  cases t
  · rw [if_neg (fun e => absurd e.1 (by decide))] at h
    have hz : [] = r1 ∧ 1 = r2 := by simpa using h
    obtain ⟨rfl, rfl⟩ := hz
    clear h
    go_enter Try.func9, Try.ntmps9
    go_wp2_with (first | ((with_reducible refine gate_dst (N := 3) rfl ?_); refine box_event ?hg (N := 3) ?hd (cs := #[.int .i64 a0_0, .int .i64 a0_1, .int .i64 a0_2, .slice A0_3 l0_3.length c0_3]) (t := 24) ?hr ?_; (case hd => rfl); (case hg => rfl); (case hr => first | (go_simp; done) | (go_simp; rfl)); intro gm hg ww1 hbox hb; have Gm : Aside0 (w.heap.size ≤ gm) := ⟨by have := HB.out.size; omega⟩; have Km := zA hbox; have KK := zA (zJ HB.out hb); clear HB; have HB := KK; clear KK; clear hb hbox hg; have zm_0 : ww1.cell? ⟨gm, 0, none⟩ = some (.int .i64 a0_0) := (zD Km.out 0).trans rfl; have fm_0 := zG Km.out 0; have zm_1 : ww1.cell? ⟨gm, 1, none⟩ = some (.int .i64 a0_1) := (zD Km.out 1).trans rfl; have fm_1 := zG Km.out 1; have zm_2 : ww1.cell? ⟨gm, 2, none⟩ = some (.int .i64 a0_2) := (zD Km.out 2).trans rfl; have fm_2 := zG Km.out 2; have zm_3 : ww1.cell? ⟨gm, 3, none⟩ = some (.slice A0_3 l0_3.length c0_3) := (zD Km.out 3).trans rfl; have fm_3 := zG Km.out 3) | (go_at_call 12; refine (sight_May.calls k a0_0 a0_1 a0_2 _ _ l0_3 _ _ l1 _ _ (Kd.C_below HR.out HB.out) HC0.out (Kd.C_below HRl.out HB.out) HC1.out HT.out).mono ?_; rintro e ww2 ⟨rfl, hb⟩; have KK := zA (zI Km.out hb); clear Km; have Km := KK; clear KK; have KK := zA (zJ HB.out hb); clear HB; have HB := KK; clear KK; clear hb; clear zm_0 fm_0 zm_1 fm_1 zm_2 fm_2 zm_3 fm_3; have zm_0 : ww2.cell? ⟨gm, 0, none⟩ = some (.int .i64 a0_0) := (zD Km.out 0).trans rfl; have zm_1 : ww2.cell? ⟨gm, 1, none⟩ = some (.int .i64 a0_1) := (zD Km.out 1).trans rfl; have zm_2 : ww2.cell? ⟨gm, 2, none⟩ = some (.int .i64 a0_2) := (zD Km.out 2).trans rfl; have zm_3 : ww2.cell? ⟨gm, 3, none⟩ = some (.slice A0_3 l0_3.length c0_3) := (zD Km.out 3).trans rfl))
    go_ret2
    exact ⟨_, rfl, Kd.R_nil _ _ _ _ _, HB.out⟩
  by_cases h7 : 0 ≤ a2 ∧ a2 ≤ 7
  rotate_left
  · have d7 : decide (0 ≤ a2 ∧ a2 ≤ 7) = false := decide_eq_false h7
    rw [if_neg (fun e => h7 e.2)] at h
    have hz : [] = r1 ∧ 1 = r2 := by simpa using h
    obtain ⟨rfl, rfl⟩ := hz
    clear h
    have D7 := zA d7
    clear h7 d7
    go_enter Try.func9, Try.ntmps9
    go_wp2_with (first | ((with_reducible refine gate_dst (N := 3) rfl ?_); refine box_event ?hg (N := 3) ?hd (cs := #[.int .i64 a0_0, .int .i64 a0_1, .int .i64 a0_2, .slice A0_3 l0_3.length c0_3]) (t := 24) ?hr ?_; (case hd => rfl); (case hg => rfl); (case hr => first | (go_simp; done) | (go_simp; rfl)); intro gm hg ww1 hbox hb; have Gm : Aside0 (w.heap.size ≤ gm) := ⟨by have := HB.out.size; omega⟩; have Km := zA hbox; have KK := zA (zJ HB.out hb); clear HB; have HB := KK; clear KK; clear hb hbox hg; have zm_0 : ww1.cell? ⟨gm, 0, none⟩ = some (.int .i64 a0_0) := (zD Km.out 0).trans rfl; have fm_0 := zG Km.out 0; have zm_1 : ww1.cell? ⟨gm, 1, none⟩ = some (.int .i64 a0_1) := (zD Km.out 1).trans rfl; have fm_1 := zG Km.out 1; have zm_2 : ww1.cell? ⟨gm, 2, none⟩ = some (.int .i64 a0_2) := (zD Km.out 2).trans rfl; have fm_2 := zG Km.out 2; have zm_3 : ww1.cell? ⟨gm, 3, none⟩ = some (.slice A0_3 l0_3.length c0_3) := (zD Km.out 3).trans rfl; have fm_3 := zG Km.out 3) | (go_at_call 12; refine (sight_May.calls k a0_0 a0_1 a0_2 _ _ l0_3 _ _ l1 _ _ (Kd.C_below HR.out HB.out) HC0.out (Kd.C_below HRl.out HB.out) HC1.out HT.out).mono ?_; rintro e ww2 ⟨rfl, hb⟩; have KK := zA (zI Km.out hb); clear Km; have Km := KK; clear KK; have KK := zA (zJ HB.out hb); clear HB; have HB := KK; clear KK; clear hb; clear zm_0 fm_0 zm_1 fm_1 zm_2 fm_2 zm_3 fm_3; have zm_0 : ww2.cell? ⟨gm, 0, none⟩ = some (.int .i64 a0_0) := (zD Km.out 0).trans rfl; have zm_1 : ww2.cell? ⟨gm, 1, none⟩ = some (.int .i64 a0_1) := (zD Km.out 1).trans rfl; have zm_2 : ww2.cell? ⟨gm, 2, none⟩ = some (.int .i64 a0_2) := (zD Km.out 2).trans rfl; have zm_3 : ww2.cell? ⟨gm, 3, none⟩ = some (.slice A0_3 l0_3.length c0_3) := (zD Km.out 3).trans rfl) | (go_at_call 20; refine (sight_within.calls a2 7 _ _ ((sight_View.within a2).trans (congrArg some D7.out))).mono ?_; rintro e ww3 ⟨rfl, hd⟩; have hb := hd.below; clear hd; have KK := zA (zI Km.out hb); clear Km; have Km := KK; clear KK; have KK := zA (zJ HB.out hb); clear HB; have HB := KK; clear KK; clear hb; clear zm_0 zm_1 zm_2 zm_3))
    go_ret2
    exact ⟨_, rfl, Kd.R_nil _ _ _ _ _, HB.out⟩
  have d7 : decide (0 ≤ a2 ∧ a2 ≤ 7) = true := decide_eq_true h7
  rw [if_pos ⟨rfl, h7.1, h7.2⟩] at h
  by_cases hq : 1 ≤ a0_0 ∧ a0_0 ≤ 64 ∧ 1 ≤ a0_1 ∧ a0_1 ≤ 64 ∧ l1.length ≤ 64
  rotate_left
  · rw [if_neg hq] at h; cases h
  rw [if_pos hq] at h
  obtain ⟨q0, q1, q2, q3, q4⟩ := hq
  replace h := Option.bind_eq_some_iff.1 h
  obtain ⟨o1, ho1, h⟩ := h
  replace h := Option.bind_eq_some_iff.1 h
  obtain ⟨o2, ho2, h⟩ := h
  replace h := Option.bind_eq_some_iff.1 h
  obtain ⟨o3, ho3, h⟩ := h
  have hz : o3 = r1 ∧ 0 = r2 := by simpa using h
  obtain ⟨rfl, rfl⟩ := hz
  clear h
  obtain ⟨n, hn⟩ : ∃ n : Nat, a0_0 * a0_1 = (n : Int) := ⟨(a0_0 * a0_1).toNat, by have := Int.mul_nonneg (show 0 ≤ a0_0 by omega) (show 0 ≤ a0_1 by omega); omega⟩
  have hn2 : 1 ≤ n ∧ n ≤ 4096 := by have := Int.mul_le_mul q1 q3 (by omega) (by omega); have := Int.mul_le_mul q0 q2 (by omega) (by omega); omega
  rw [hn, Int.toNat_natCast] at ho1
  have e1 : wrap64 (a0_0 * a0_1) = (n : Int) := by rw [hn]; unfold wrap64; omega
  have r1_ : IntKind.i64.wrap (a0_0 * a0_1) = (n : Int) := by rw [i64_w]; exact e1
  have H1 := zA ho1
  have H2 := zA ho2
  have H3 := zA ho3
  have HN := zA hn2
  have HQ := zA (And.intro q0 (And.intro q1 (And.intro q2 (And.intro q3 q4))))
  have D7 := zA d7
  clear ho1 ho2 ho3 hn hn2 q0 q1 q2 q3 q4 h7 d7
  go_enter Try.func9, Try.ntmps9
  go_wp2_with (first | ((with_reducible refine gate_dst (N := 3) rfl ?_); refine box_event ?hg (N := 3) ?hd (cs := #[.int .i64 a0_0, .int .i64 a0_1, .int .i64 a0_2, .slice A0_3 l0_3.length c0_3]) (t := 24) ?hr ?_; (case hd => rfl); (case hg => rfl); (case hr => first | (go_simp; done) | (go_simp; rfl)); intro gm hg ww1 hbox hb; have Gm : Aside0 (w.heap.size ≤ gm) := ⟨by have := HB.out.size; omega⟩; have Km := zA hbox; have KK := zA (zJ HB.out hb); clear HB; have HB := KK; clear KK; clear hb hbox hg; have zm_0 : ww1.cell? ⟨gm, 0, none⟩ = some (.int .i64 a0_0) := (zD Km.out 0).trans rfl; have fm_0 := zG Km.out 0; have zm_1 : ww1.cell? ⟨gm, 1, none⟩ = some (.int .i64 a0_1) := (zD Km.out 1).trans rfl; have fm_1 := zG Km.out 1; have zm_2 : ww1.cell? ⟨gm, 2, none⟩ = some (.int .i64 a0_2) := (zD Km.out 2).trans rfl; have fm_2 := zG Km.out 2; have zm_3 : ww1.cell? ⟨gm, 3, none⟩ = some (.slice A0_3 l0_3.length c0_3) := (zD Km.out 3).trans rfl; have fm_3 := zG Km.out 3) | (go_at_call 12; refine (sight_May.calls k a0_0 a0_1 a0_2 _ _ l0_3 _ _ l1 _ _ (Kd.C_below HR.out HB.out) HC0.out (Kd.C_below HRl.out HB.out) HC1.out HT.out).mono ?_; rintro e ww2 ⟨rfl, hb⟩; have KK := zA (zI Km.out hb); clear Km; have Km := KK; clear KK; have KK := zA (zJ HB.out hb); clear HB; have HB := KK; clear KK; clear hb; clear zm_0 fm_0 zm_1 fm_1 zm_2 fm_2 zm_3 fm_3; have zm_0 : ww2.cell? ⟨gm, 0, none⟩ = some (.int .i64 a0_0) := (zD Km.out 0).trans rfl; have zm_1 : ww2.cell? ⟨gm, 1, none⟩ = some (.int .i64 a0_1) := (zD Km.out 1).trans rfl; have zm_2 : ww2.cell? ⟨gm, 2, none⟩ = some (.int .i64 a0_2) := (zD Km.out 2).trans rfl; have zm_3 : ww2.cell? ⟨gm, 3, none⟩ = some (.slice A0_3 l0_3.length c0_3) := (zD Km.out 3).trans rfl) | (go_at_call 20; refine (sight_within.calls a2 7 _ _ ((sight_View.within a2).trans (congrArg some D7.out))).mono ?_; rintro e ww3 ⟨rfl, hd⟩; have hb := hd.below; clear hd; have KK := zA (zI Km.out hb); clear Km; have Km := KK; clear KK; have KK := zA (zJ HB.out hb); clear HB; have HB := KK; clear KK; clear hb; clear zm_0 zm_1 zm_2 zm_3; have zm_0 : ww3.cell? ⟨gm, 0, none⟩ = some (.int .i64 a0_0) := (zD Km.out 0).trans rfl; have zm_1 : ww3.cell? ⟨gm, 1, none⟩ = some (.int .i64 a0_1) := (zD Km.out 1).trans rfl; have zm_2 : ww3.cell? ⟨gm, 2, none⟩ = some (.int .i64 a0_2) := (zD Km.out 2).trans rfl; have zm_3 : ww3.cell? ⟨gm, 3, none⟩ = some (.slice A0_3 l0_3.length c0_3) := (zD Km.out 3).trans rfl) | ((with_reducible refine gate_dst (N := 33) rfl ?_); refine Kd.R_make (Kd.int .i64) _ 3 rfl (N := 33) rfl 31 _ _ rfl (n : Int) rfl rfl Try.underlying31 (.int .i64 0) 8 info3 rfl (by decide) (by decide) 0 (ok := fun _ => True) (okp := fun _ => True) rfl (fun _ hk => hk) trivial (by omega) (by have := HN.out; omega) (Below.refl _ _) (Nat.le_refl _) ?_; intro v1 wk ho hb hg_ hnew_; rw [show ((n : Int)).toNat = n from Int.toNat_natCast _] at ho; obtain ⟨gv, cap, ev, x1, x2, x3⟩ := Kd.R_form ho (by rw [List.length_replicate]; have := HN.out; omega); rw [List.length_replicate] at ev; subst ev; have Gv : Aside0 (w.heap.size ≤ gv) := ⟨by have := HB.out.size; omega⟩; have Nm_v : Aside0 (gm ≠ gv) := ⟨by have := blk_lt Km.out; omega⟩; have hV0 : Kd.R (Kd.int .i64) 3 wk _ (fun k => k = gv) (.slice (some ⟨gv, 0, none⟩) n cap) (List.replicate n 0) := Kd.R_of_own (Kd.own_of_R ho) (fun k hk => (by simpa [Value.ownBlock] using hk.symm)); have HV := zA (Kd.R_lower (base' := w.heap.size) hV0 HB.out.size); clear hV0 ho hg_ hnew_ x1 x2 x3; have KK := zA (zI Km.out hb); clear Km; have Km := KK; clear KK; have KK := zA (zJ HB.out hb); clear HB; have HB := KK; clear KK; clear hb; clear zm_0 zm_1 zm_2 zm_3; have zm_0 : wk.cell? ⟨gm, 0, none⟩ = some (.int .i64 a0_0) := (zD Km.out 0).trans rfl; have zm_1 : wk.cell? ⟨gm, 1, none⟩ = some (.int .i64 a0_1) := (zD Km.out 1).trans rfl; have zm_2 : wk.cell? ⟨gm, 2, none⟩ = some (.int .i64 a0_2) := (zD Km.out 2).trans rfl; have zm_3 : wk.cell? ⟨gm, 3, none⟩ = some (.slice A0_3 l0_3.length c0_3) := (zD Km.out 3).trans rfl) | ((with_reducible refine gate_dst (N := 8) rfl ?_); refine box_event ?hg (N := 8) ?hd (cs := #[.slice none 0 0]) (t := 31) ?hr ?_; (case hd => rfl); (case hg => rfl); (case hr => first | (go_simp; done) | (go_simp; rfl)); intro go hg ww21 hbox hb; have No_v : Aside0 (go ≠ gv) := ⟨by have := Kd.R_lt HV.out gv rfl; omega⟩; have P_o := zA hb; have PG_o : Aside0 (_ ≤ go) := ⟨Nat.le_of_eq hg.symm⟩; have P_o_HV := HV; have Nm_o : Aside0 (gm ≠ go) := ⟨by have := blk_lt Km.out; omega⟩; have KK := zA (zI Km.out hb); clear Km; have Km := KK; clear KK; have KK := zA (zS HV.out hb); clear HV; have HV := KK; clear KK; have Go : Aside0 (w.heap.size ≤ go) := ⟨by have := HB.out.size; omega⟩; have Ko := zA hbox; have KK := zA (zJ HB.out hb); clear HB; have HB := KK; clear KK; clear hb hbox hg; clear zm_0 zm_1 zm_2 zm_3; have zm_0 : ww21.cell? ⟨gm, 0, none⟩ = some (.int .i64 a0_0) := (zD Km.out 0).trans rfl; have zm_1 : ww21.cell? ⟨gm, 1, none⟩ = some (.int .i64 a0_1) := (zD Km.out 1).trans rfl; have zm_2 : ww21.cell? ⟨gm, 2, none⟩ = some (.int .i64 a0_2) := (zD Km.out 2).trans rfl; have zm_3 : ww21.cell? ⟨gm, 3, none⟩ = some (.slice A0_3 l0_3.length c0_3) := (zD Km.out 3).trans rfl; have zo_0 : ww21.cell? ⟨go, 0, none⟩ = some (.slice none 0 0) := (zD Ko.out 0).trans rfl; have fo_0 := zG Ko.out 0) | ((with_reducible refine gate_store (t := 31) (p := 8) rfl ?_); refine store_event (t := 31) (p := 8) (v := ?vo_ww22_5) (w1 := (ww21.setCell ⟨go, 0, none⟩ (.slice (some ⟨gv, 0, none⟩) n cap))) ?hg ?ho ?hn ?hr ?_; (case ho => rfl); (case hg => rfl); (case hn => rfl); (case hr => first | (go_simp; done) | (go_simp; rfl)); intro ww22 hw; have nem : gm ≠ go := Nm_o.out; have hb : Below w.heap.size w ww22 := (by subst hw; exact zC HB.out Go.out); have KK := zA (show ww22.heap[gm]? = some (.cells #[.int .i64 a0_0, .int .i64 a0_1, .int .i64 a0_2, .slice A0_3 l0_3.length c0_3] 24 (0, 0)) by subst hw; exact zL Km.out nem _); clear Km; have Km := KK; clear KK; have KK := zA (show ww22.heap[go]? = some (.cells #[.slice (some ⟨gv, 0, none⟩) n cap] 31 (0, 0)) by subst hw; exact zZ Ko.out 0 _ rfl); clear Ko; have Ko := KK; clear KK; have KK := zA (zS P_o_HV.out (show Below _ _ ww22 from (by subst hw; exact zC P_o.out PG_o.out))); clear HV P_o_HV; have HV := KK; clear KK; clear HB; have HB := zA hb; clear hb hw nem; clear zm_0 zm_1 zm_2 zm_3 zo_0 fo_0; have zm_0 : ww22.cell? ⟨gm, 0, none⟩ = some (.int .i64 a0_0) := (zD Km.out 0).trans rfl; have zm_1 : ww22.cell? ⟨gm, 1, none⟩ = some (.int .i64 a0_1) := (zD Km.out 1).trans rfl; have zm_2 : ww22.cell? ⟨gm, 2, none⟩ = some (.int .i64 a0_2) := (zD Km.out 2).trans rfl; have zm_3 : ww22.cell? ⟨gm, 3, none⟩ = some (.slice A0_3 l0_3.length c0_3) := (zD Km.out 3).trans rfl; have zo_0 : ww22.cell? ⟨go, 0, none⟩ = some (.slice (some ⟨gv, 0, none⟩) n cap) := (zD Ko.out 0).trans rfl))
  have HS : Aside0 (sight_View.St w gm a0_0 a0_1 a0_2 l0_3 A0_3 c0_3 l1 A1 c1 ww22) := ⟨⟨Km.out, HB.out, Kd.V_below HVM.out HB.out, Kd.V_below HVL.out HB.out⟩⟩
  clear Km HB HVM HVL HR HRl HT zm_0 zm_1 zm_2 zm_3 zo_0
  go_loopg [37] l1.length (fun kq v37 w' => ∃ (i : Int) (o : List Int), v37 = .int .i64 i ∧ Aside0 (0 ≤ i ∧ i ≤ (l1.length : Int) ∧ (kq : Int) + i = (l1.length : Int)) ∧ Aside0 (o.length = n) ∧ Aside0 (sight_View.p1 k a0_0 a0_1 a0_2 l0_3 a2 (l1.drop i.toNat) o = some o1) ∧ Aside0 (sight_View.St w gm a0_0 a0_1 a0_2 l0_3 A0_3 c0_3 l1 A1 c1 w') ∧ Aside0 (w'.heap[go]? = some (.cells #[.slice (some ⟨gv, 0, none⟩) n cap] 31 (0, 0))) ∧ Aside0 (Kd.R (Kd.int .i64) 3 w' w.heap.size (fun k => k = gv) (.slice (some ⟨gv, 0, none⟩) n cap) o))
  case atStart => exact ⟨0, _, rfl, ⟨by omega⟩, ⟨by simp⟩, ⟨by simpa using H1.out⟩, HS, Ko, HV⟩
  case round =>
    clear HS Ko HV H1
    obtain ⟨i, o, rfl, HI, HOL, HP, HS, Ko, HV⟩ := hrel
    by_cases hi : i < (l1.length : Int)
    · have d0 : decide (i < (l1.length : Int)) = true := decide_eq_true hi
      obtain ⟨i0, i1, i2⟩ := HI.out
      obtain ⟨ad, ea, hx0, hx1, hx2, hx3, hx4, hx5, hx6, hx7⟩ := at_T27 (Kd.V_reads' HS.out.vl).2.2 i i0 hi
      have hp := HP.out
      rw [sight_View.drop_at i0 hi] at hp
      simp only [sight_View.p1] at hp
      obtain ⟨x, hx⟩ : ∃ x, rd_T27 l1 i = x := ⟨_, rfl⟩
      rw [hx] at hp hx0 hx1 hx2 hx3 hx4 hx5 hx6 hx7
      clear hx
      subst ea
      have e1 : wrap64 (i + 1) = i + 1 := by have := HQ.out; unfold wrap64; omega
      have r1 : IntKind.i64.wrap (i + 1) = i + 1 := by rw [i64_w]; exact e1
      have q0 : 0 ≤ i := i0
      have q1 : i < (l1.length : Int) := hi
      have HI2 := zA (And.intro i0 (And.intro hi i2))
      clear i0 i1 i2 hi HI HP
      have HB := zA HS.out.b
      have Km := zA HS.out.m
      have zm_0 : wr.cell? ⟨gm, 0, none⟩ = some (.int .i64 a0_0) := (zD Km.out 0).trans rfl
      have zm_1 : wr.cell? ⟨gm, 1, none⟩ = some (.int .i64 a0_1) := (zD Km.out 1).trans rfl
      have zm_2 : wr.cell? ⟨gm, 2, none⟩ = some (.int .i64 a0_2) := (zD Km.out 2).trans rfl
      have zm_3 : wr.cell? ⟨gm, 3, none⟩ = some (.slice A0_3 l0_3.length c0_3) := (zD Km.out 3).trans rfl
      have zo_0 : wr.cell? ⟨go, 0, none⟩ = some (.slice (some ⟨gv, 0, none⟩) n cap) := (zD Ko.out 0).trans rfl
      by_cases hc : x.f0 = a2
      · rw [if_pos hc] at hp
        have b0 : (x.f0 != a2) = false := by simp [hc]
        replace hp := Option.bind_eq_some_iff.1 hp
        obtain ⟨o5, hr5, hp⟩ := hp
        have HRS := zA hr5
        have HP := zA hp
        have HOL5 : Aside0 (o5.length = n) := ⟨(sight_View.rse_len _ _ _ _ hr5).trans HOL.out⟩
        clear hc hp hr5
        go_wp2_with (first | ((with_reducible refine gate_dst (N := 11) rfl ?_); refine box_event ?hg (N := 11) ?hd (cs := #[.int .i64 0, .int .i64 0, .int .i64 0, .int .i64 0, .int .i64 0, .int .i64 0, .int .i64 0, .int .i64 0]) (t := 27) ?hr ?_; (case hd => rfl); (case hg => rfl); (case hr => first | (go_simp; done) | (go_simp; rfl)); intro gx hg ww101 hbox hb; have Nx_v : Aside0 (gx ≠ gv) := ⟨by have := Kd.R_lt HV.out gv rfl; omega⟩; have P_x := zA hb; have PG_x : Aside0 (_ ≤ gx) := ⟨Nat.le_of_eq hg.symm⟩; have P_x_HS := HS; have P_x_HV := HV; have Nm_x : Aside0 (gm ≠ gx) := ⟨by have := blk_lt Km.out; omega⟩; have No_x : Aside0 (go ≠ gx) := ⟨by have := blk_lt Ko.out; omega⟩; have KK := zA (zI Km.out hb); clear Km; have Km := KK; clear KK; have KK := zA (zI Ko.out hb); clear Ko; have Ko := KK; clear KK; have KK := zA (sight_View.St.below HS.out hb); clear HS; have HS := KK; clear KK; have KK := zA (zS HV.out hb); clear HV; have HV := KK; clear KK; have Gx : Aside0 (w.heap.size ≤ gx) := ⟨by have := HB.out.size; omega⟩; have Kx := zA hbox; have KK := zA (zJ HB.out hb); clear HB; have HB := KK; clear KK; clear hb hbox hg; clear zm_0 zm_1 zm_2 zm_3 zo_0; have zx_0 : ww101.cell? ⟨gx, 0, none⟩ = some (.int .i64 0) := (zD Kx.out 0).trans rfl; have fx_0 := zG Kx.out 0; have zx_1 : ww101.cell? ⟨gx, 1, none⟩ = some (.int .i64 0) := (zD Kx.out 1).trans rfl; have fx_1 := zG Kx.out 1; have zx_2 : ww101.cell? ⟨gx, 2, none⟩ = some (.int .i64 0) := (zD Kx.out 2).trans rfl; have fx_2 := zG Kx.out 2; have zx_3 : ww101.cell? ⟨gx, 3, none⟩ = some (.int .i64 0) := (zD Kx.out 3).trans rfl; have fx_3 := zG Kx.out 3; have zx_4 : ww101.cell? ⟨gx, 4, none⟩ = some (.int .i64 0) := (zD Kx.out 4).trans rfl; have fx_4 := zG Kx.out 4; have zx_5 : ww101.cell? ⟨gx, 5, none⟩ = some (.int .i64 0) := (zD Kx.out 5).trans rfl; have fx_5 := zG Kx.out 5; have zx_6 : ww101.cell? ⟨gx, 6, none⟩ = some (.int .i64 0) := (zD Kx.out 6).trans rfl; have fx_6 := zG Kx.out 6; have zx_7 : ww101.cell? ⟨gx, 7, none⟩ = some (.int .i64 0) := (zD Kx.out 7).trans rfl; have fx_7 := zG Kx.out 7) | ((with_reducible refine gate_store (t := 27) (p := 11) rfl ?_); refine store_event (t := 27) (p := 11) (v := ?vo_ww102_6) (w1 := ((((((((ww101.setCell ⟨gx, 0, none⟩ (.int .i64 x.f0)).setCell ⟨gx, 1, none⟩ (.int .i64 x.f1)).setCell ⟨gx, 2, none⟩ (.int .i64 x.f2)).setCell ⟨gx, 3, none⟩ (.int .i64 x.f3)).setCell ⟨gx, 4, none⟩ (.int .i64 x.f4)).setCell ⟨gx, 5, none⟩ (.int .i64 x.f5)).setCell ⟨gx, 6, none⟩ (.int .i64 x.f6)).setCell ⟨gx, 7, none⟩ (.int .i64 x.f7))) ?hg ?ho ?hn ?hr ?_; (case ho => rfl); (case hg => rfl); (case hn => rfl); (case hr => first | (go_simp; done) | (go_simp; rfl)); intro ww102 hw; have nem : gm ≠ gx := Nm_x.out; have neo : go ≠ gx := No_x.out; have hb : Below w.heap.size w ww102 := (by subst hw; exact (zC (zC (zC (zC (zC (zC (zC (zC HB.out Gx.out) Gx.out) Gx.out) Gx.out) Gx.out) Gx.out) Gx.out) Gx.out)); have KK := zA (show ww102.heap[gx]? = some (.cells #[.int .i64 x.f0, .int .i64 x.f1, .int .i64 x.f2, .int .i64 x.f3, .int .i64 x.f4, .int .i64 x.f5, .int .i64 x.f6, .int .i64 x.f7] 27 (0, 0)) by subst hw; exact (blk_all8 Kx.out)); clear Kx; have Kx := KK; clear KK; have KK := zA (show ww102.heap[gm]? = some (.cells #[.int .i64 a0_0, .int .i64 a0_1, .int .i64 a0_2, .slice A0_3 l0_3.length c0_3] 24 (0, 0)) by subst hw; exact (zL (zL (zL (zL (zL (zL (zL (zL Km.out nem _) nem _) nem _) nem _) nem _) nem _) nem _) nem _)); clear Km; have Km := KK; clear KK; have KK := zA (show ww102.heap[go]? = some (.cells #[.slice (some ⟨gv, 0, none⟩) n cap] 31 (0, 0)) by subst hw; exact (zL (zL (zL (zL (zL (zL (zL (zL Ko.out neo _) neo _) neo _) neo _) neo _) neo _) neo _) neo _)); clear Ko; have Ko := KK; clear KK; have KK := zA (sight_View.St.below P_x_HS.out (show Below _ _ ww102 from (by subst hw; exact (zC (zC (zC (zC (zC (zC (zC (zC P_x.out PG_x.out) PG_x.out) PG_x.out) PG_x.out) PG_x.out) PG_x.out) PG_x.out) PG_x.out)))); clear HS P_x_HS; have HS := KK; clear KK; have KK := zA (zS P_x_HV.out (show Below _ _ ww102 from (by subst hw; exact (zC (zC (zC (zC (zC (zC (zC (zC P_x.out PG_x.out) PG_x.out) PG_x.out) PG_x.out) PG_x.out) PG_x.out) PG_x.out) PG_x.out)))); clear HV P_x_HV; have HV := KK; clear KK; clear HB; have HB := zA hb; clear hb hw nem neo; clear zx_0 fx_0 zx_1 fx_1 zx_2 fx_2 zx_3 fx_3 zx_4 fx_4 zx_5 fx_5 zx_6 fx_6 zx_7 fx_7; have zx_0 : ww102.cell? ⟨gx, 0, none⟩ = some (.int .i64 x.f0) := (zD Kx.out 0).trans rfl; have zx_1 : ww102.cell? ⟨gx, 1, none⟩ = some (.int .i64 x.f1) := (zD Kx.out 1).trans rfl; have zx_2 : ww102.cell? ⟨gx, 2, none⟩ = some (.int .i64 x.f2) := (zD Kx.out 2).trans rfl; have zx_3 : ww102.cell? ⟨gx, 3, none⟩ = some (.int .i64 x.f3) := (zD Kx.out 3).trans rfl; have zx_4 : ww102.cell? ⟨gx, 4, none⟩ = some (.int .i64 x.f4) := (zD Kx.out 4).trans rfl; have zx_5 : ww102.cell? ⟨gx, 5, none⟩ = some (.int .i64 x.f5) := (zD Kx.out 5).trans rfl; have zx_6 : ww102.cell? ⟨gx, 6, none⟩ = some (.int .i64 x.f6) := (zD Kx.out 6).trans rfl; have zx_7 : ww102.cell? ⟨gx, 7, none⟩ = some (.int .i64 x.f7) := (zD Kx.out 7).trans rfl) | (go_at_call 21; refine (sight_View.raise2 (P := fun A => sight_View.St w gm a0_0 a0_1 a0_2 l0_3 A0_3 c0_3 l1 (some ad) c1 A ∧ A.heap[gx]? = some (.cells #[.int .i64 x.f0, .int .i64 x.f1, .int .i64 x.f2, .int .i64 x.f3, .int .i64 x.f4, .int .i64 x.f5, .int .i64 x.f6, .int .i64 x.f7] 27 (0, 0))) (h := sight_View.ech k a0_0 a0_1 a0_2 l0_3 x) (fun A C hb hP => ⟨hP.1.below hb, zI hP.2 hb⟩) (fun A i z hP => ⟨hP.1.set Gv.out Nm_v.out i z, zL hP.2 Nx_v.out _⟩) (fun A c b hP c0 c1 hb => sight_View.c2 k a0_0 a0_1 a0_2 l0_3 x c b A0_3 c0_3 A gm gx hP.1.m hP.2 (Kd.V_reads' hP.1.vm).2.2 (Kd.V_reads' hP.1.vm).2.1 HQ.out.1 HQ.out.2.1 c0 (by have := HN.out; omega) hb) _ o o5 Ko.out HV.out HN.out.2 HOL.out ⟨HS.out, Kx.out⟩ HRS.out).mono ?_; rintro e w9 ⟨⟨v, rfl⟩, ⟨hS, hX⟩, hG, hV⟩; clear HS Ko HV; have HS := zA hS; have Ko := zA hG; have HV := zA hV; clear hS hX hG hV))
        go_roundg (l1.length - (i.toNat + 1))
        case measure => have := HI2.out; omega
        case rel => exact ⟨i + 1, o5, rfl, ⟨by have := HI2.out; omega⟩, HOL5, HP, HS, Ko, HV⟩
      · rw [if_neg hc] at hp
        have b0 : (x.f0 != a2) = true := by simp [hc]
        have HP := zA hp
        clear hc hp
        go_wp2_with (first | ((with_reducible refine gate_dst (N := 11) rfl ?_); refine box_event ?hg (N := 11) ?hd (cs := #[.int .i64 0, .int .i64 0, .int .i64 0, .int .i64 0, .int .i64 0, .int .i64 0, .int .i64 0, .int .i64 0]) (t := 27) ?hr ?_; (case hd => rfl); (case hg => rfl); (case hr => first | (go_simp; done) | (go_simp; rfl)); intro gx hg ww101 hbox hb; have Nx_v : Aside0 (gx ≠ gv) := ⟨by have := Kd.R_lt HV.out gv rfl; omega⟩; have P_x := zA hb; have PG_x : Aside0 (_ ≤ gx) := ⟨Nat.le_of_eq hg.symm⟩; have P_x_HS := HS; have P_x_HV := HV; have Nm_x : Aside0 (gm ≠ gx) := ⟨by have := blk_lt Km.out; omega⟩; have No_x : Aside0 (go ≠ gx) := ⟨by have := blk_lt Ko.out; omega⟩; have KK := zA (zI Km.out hb); clear Km; have Km := KK; clear KK; have KK := zA (zI Ko.out hb); clear Ko; have Ko := KK; clear KK; have KK := zA (sight_View.St.below HS.out hb); clear HS; have HS := KK; clear KK; have KK := zA (zS HV.out hb); clear HV; have HV := KK; clear KK; have Gx : Aside0 (w.heap.size ≤ gx) := ⟨by have := HB.out.size; omega⟩; have Kx := zA hbox; have KK := zA (zJ HB.out hb); clear HB; have HB := KK; clear KK; clear hb hbox hg; clear zm_0 zm_1 zm_2 zm_3 zo_0; have zx_0 : ww101.cell? ⟨gx, 0, none⟩ = some (.int .i64 0) := (zD Kx.out 0).trans rfl; have fx_0 := zG Kx.out 0; have zx_1 : ww101.cell? ⟨gx, 1, none⟩ = some (.int .i64 0) := (zD Kx.out 1).trans rfl; have fx_1 := zG Kx.out 1; have zx_2 : ww101.cell? ⟨gx, 2, none⟩ = some (.int .i64 0) := (zD Kx.out 2).trans rfl; have fx_2 := zG Kx.out 2; have zx_3 : ww101.cell? ⟨gx, 3, none⟩ = some (.int .i64 0) := (zD Kx.out 3).trans rfl; have fx_3 := zG Kx.out 3; have zx_4 : ww101.cell? ⟨gx, 4, none⟩ = some (.int .i64 0) := (zD Kx.out 4).trans rfl; have fx_4 := zG Kx.out 4; have zx_5 : ww101.cell? ⟨gx, 5, none⟩ = some (.int .i64 0) := (zD Kx.out 5).trans rfl; have fx_5 := zG Kx.out 5; have zx_6 : ww101.cell? ⟨gx, 6, none⟩ = some (.int .i64 0) := (zD Kx.out 6).trans rfl; have fx_6 := zG Kx.out 6; have zx_7 : ww101.cell? ⟨gx, 7, none⟩ = some (.int .i64 0) := (zD Kx.out 7).trans rfl; have fx_7 := zG Kx.out 7) | ((with_reducible refine gate_store (t := 27) (p := 11) rfl ?_); refine store_event (t := 27) (p := 11) (v := ?vo_ww102_7) (w1 := ((((((((ww101.setCell ⟨gx, 0, none⟩ (.int .i64 x.f0)).setCell ⟨gx, 1, none⟩ (.int .i64 x.f1)).setCell ⟨gx, 2, none⟩ (.int .i64 x.f2)).setCell ⟨gx, 3, none⟩ (.int .i64 x.f3)).setCell ⟨gx, 4, none⟩ (.int .i64 x.f4)).setCell ⟨gx, 5, none⟩ (.int .i64 x.f5)).setCell ⟨gx, 6, none⟩ (.int .i64 x.f6)).setCell ⟨gx, 7, none⟩ (.int .i64 x.f7))) ?hg ?ho ?hn ?hr ?_; (case ho => rfl); (case hg => rfl); (case hn => rfl); (case hr => first | (go_simp; done) | (go_simp; rfl)); intro ww102 hw; have nem : gm ≠ gx := Nm_x.out; have neo : go ≠ gx := No_x.out; have hb : Below w.heap.size w ww102 := (by subst hw; exact (zC (zC (zC (zC (zC (zC (zC (zC HB.out Gx.out) Gx.out) Gx.out) Gx.out) Gx.out) Gx.out) Gx.out) Gx.out)); have KK := zA (show ww102.heap[gx]? = some (.cells #[.int .i64 x.f0, .int .i64 x.f1, .int .i64 x.f2, .int .i64 x.f3, .int .i64 x.f4, .int .i64 x.f5, .int .i64 x.f6, .int .i64 x.f7] 27 (0, 0)) by subst hw; exact (blk_all8 Kx.out)); clear Kx; have Kx := KK; clear KK; have KK := zA (show ww102.heap[gm]? = some (.cells #[.int .i64 a0_0, .int .i64 a0_1, .int .i64 a0_2, .slice A0_3 l0_3.length c0_3] 24 (0, 0)) by subst hw; exact (zL (zL (zL (zL (zL (zL (zL (zL Km.out nem _) nem _) nem _) nem _) nem _) nem _) nem _) nem _)); clear Km; have Km := KK; clear KK; have KK := zA (show ww102.heap[go]? = some (.cells #[.slice (some ⟨gv, 0, none⟩) n cap] 31 (0, 0)) by subst hw; exact (zL (zL (zL (zL (zL (zL (zL (zL Ko.out neo _) neo _) neo _) neo _) neo _) neo _) neo _) neo _)); clear Ko; have Ko := KK; clear KK; have KK := zA (sight_View.St.below P_x_HS.out (show Below _ _ ww102 from (by subst hw; exact (zC (zC (zC (zC (zC (zC (zC (zC P_x.out PG_x.out) PG_x.out) PG_x.out) PG_x.out) PG_x.out) PG_x.out) PG_x.out) PG_x.out)))); clear HS P_x_HS; have HS := KK; clear KK; have KK := zA (zS P_x_HV.out (show Below _ _ ww102 from (by subst hw; exact (zC (zC (zC (zC (zC (zC (zC (zC P_x.out PG_x.out) PG_x.out) PG_x.out) PG_x.out) PG_x.out) PG_x.out) PG_x.out) PG_x.out)))); clear HV P_x_HV; have HV := KK; clear KK; clear HB; have HB := zA hb; clear hb hw nem neo; clear zx_0 fx_0 zx_1 fx_1 zx_2 fx_2 zx_3 fx_3 zx_4 fx_4 zx_5 fx_5 zx_6 fx_6 zx_7 fx_7; have zx_0 : ww102.cell? ⟨gx, 0, none⟩ = some (.int .i64 x.f0) := (zD Kx.out 0).trans rfl; have zx_1 : ww102.cell? ⟨gx, 1, none⟩ = some (.int .i64 x.f1) := (zD Kx.out 1).trans rfl; have zx_2 : ww102.cell? ⟨gx, 2, none⟩ = some (.int .i64 x.f2) := (zD Kx.out 2).trans rfl; have zx_3 : ww102.cell? ⟨gx, 3, none⟩ = some (.int .i64 x.f3) := (zD Kx.out 3).trans rfl; have zx_4 : ww102.cell? ⟨gx, 4, none⟩ = some (.int .i64 x.f4) := (zD Kx.out 4).trans rfl; have zx_5 : ww102.cell? ⟨gx, 5, none⟩ = some (.int .i64 x.f5) := (zD Kx.out 5).trans rfl; have zx_6 : ww102.cell? ⟨gx, 6, none⟩ = some (.int .i64 x.f6) := (zD Kx.out 6).trans rfl; have zx_7 : ww102.cell? ⟨gx, 7, none⟩ = some (.int .i64 x.f7) := (zD Kx.out 7).trans rfl))
        go_roundg (l1.length - (i.toNat + 1))
        case measure => have := HI2.out; omega
        case rel => exact ⟨i + 1, o, rfl, ⟨by have := HI2.out; omega⟩, HOL, HP, HS, Ko, HV⟩
    have d0 : decide (i < (l1.length : Int)) = false := decide_eq_false hi
    have ho : o = o1 := by
      have h := HP.out
      rw [List.drop_of_length_le (by have := HI.out; omega)] at h
      exact Option.some.inj h
    subst ho
    clear hi HI HP
    have zo : wr.cell? ⟨go, 0, none⟩ = some (.slice (some ⟨gv, 0, none⟩) n cap) := (zD Ko.out 0).trans rfl
    go_wp2
    obtain ⟨wo, rfl⟩ : ∃ wo : World, wo = wr := ⟨_, rfl⟩
    go_loopg [51] n (fun kq v51 w' => ∃ (i : Int) (o : List Int), v51 = .int .i64 i ∧ Aside0 (0 ≤ i ∧ i ≤ (n : Int) ∧ (kq : Int) + i = (n : Int)) ∧ Aside0 (o.length = n) ∧ Aside0 (sight_View.p2 a0_0 a0_1 a0_2 l0_3 a2 l1 kq i o = some o2) ∧ Aside0 (sight_View.St w gm a0_0 a0_1 a0_2 l0_3 A0_3 c0_3 l1 A1 c1 w') ∧ Aside0 (w'.heap[go]? = some (.cells #[.slice (some ⟨gv, 0, none⟩) n cap] 31 (0, 0))) ∧ Aside0 (Kd.R (Kd.int .i64) 3 w' w.heap.size (fun k => k = gv) (.slice (some ⟨gv, 0, none⟩) n cap) o))
    case atStart => exact ⟨0, o, rfl, ⟨by omega⟩, HOL, ⟨by have h := H2.out; rw [HOL.out] at h; exact h⟩, HS, Ko, HV⟩
    case round =>
      clear HS Ko HV H2 HOL zo d0
      obtain ⟨i, o, rfl, HI, HOL, HP, HS, Ko, HV⟩ := hrel
      by_cases hi : i < (n : Int)
      · have d0 : decide (i < (n : Int)) = true := decide_eq_true hi
        obtain ⟨i0, i1, i2⟩ := HI.out
        obtain ⟨d, hd⟩ : ∃ d, gk = d + 1 := ⟨gk - 1, by omega⟩
        have hp := HP.out
        rw [hd] at hp
        simp only [sight_View.p2] at hp
        replace hp := Option.bind_eq_some_iff.1 hp
        obtain ⟨o5, hj5, hp⟩ := hp
        have HJ5 := zA hj5
        have HPo := zA hp
        have e2 : wrap64 (i + 1) = i + 1 := by have := HN.out; unfold wrap64; omega
        have r2 : IntKind.i64.wrap (i + 1) = i + 1 := by rw [i64_w]; exact e2
        have HIo := zA (And.intro i0 (And.intro hi (And.intro i2 hd)))
        clear i0 i1 i2 hi HI HP hp hj5 hd
        go_wp2
        obtain ⟨wp, rfl⟩ : ∃ wp : World, wp = wr := ⟨_, rfl⟩
        go_loopg [56] l1.length (fun kq v56 w' => ∃ (j : Int) (q : List Int), v56 = .int .i64 j ∧ Aside0 (0 ≤ j ∧ j ≤ (l1.length : Int) ∧ (kq : Int) + j = (l1.length : Int)) ∧ Aside0 (q.length = n) ∧ Aside0 (sight_View.jam a0_0 a0_1 a0_2 l0_3 a2 i (l1.drop j.toNat) q = some o5) ∧ Aside0 (sight_View.St w gm a0_0 a0_1 a0_2 l0_3 A0_3 c0_3 l1 A1 c1 w') ∧ Aside0 (w'.heap[go]? = some (.cells #[.slice (some ⟨gv, 0, none⟩) n cap] 31 (0, 0))) ∧ Aside0 (Kd.R (Kd.int .i64) 3 w' w.heap.size (fun k => k = gv) (.slice (some ⟨gv, 0, none⟩) n cap) q))
        case atStart => exact ⟨0, o, rfl, ⟨by omega⟩, HOL, ⟨by simpa using HJ5.out⟩, HS, Ko, HV⟩
        case round =>
          clear HS Ko HV HJ5 HOL d0
          obtain ⟨j, q, rfl, HI, HOL, HP, HS, Ko, HV⟩ := hrel
          by_cases hi : j < (l1.length : Int)
          rotate_left
          · have d0 : decide (j < (l1.length : Int)) = false := decide_eq_false hi
            have ho : q = o5 := by
              have h := HP.out
              rw [List.drop_of_length_le (by have := HI.out; omega)] at h
              exact Option.some.inj h
            subst ho
            clear hi HI HP
            go_wp2
            go_roundg d
            case measure => have := HIo.out; omega
            case rel => exact ⟨i + 1, q, rfl, ⟨by have := HIo.out; omega⟩, HOL, HPo, HS, Ko, HV⟩
          have d0 : decide (j < (l1.length : Int)) = true := decide_eq_true hi
          obtain ⟨i0, i1, i2⟩ := HI.out
          obtain ⟨ad, ea, hx0, hx1, hx2, hx3, hx4, hx5, hx6, hx7⟩ := at_T27 (Kd.V_reads' HS.out.vl).2.2 j i0 hi
          have hp := HP.out
          rw [sight_View.drop_at i0 hi] at hp
          simp only [sight_View.jam] at hp
          obtain ⟨x, hx⟩ : ∃ x, rd_T27 l1 j = x := ⟨_, rfl⟩
          rw [hx] at hp hx0 hx1 hx2 hx3 hx4 hx5 hx6 hx7
          clear hx
          subst ea
          have e1 : wrap64 (j + 1) = j + 1 := by have := HQ.out; unfold wrap64; omega
          have r1 : IntKind.i64.wrap (j + 1) = j + 1 := by rw [i64_w]; exact e1
          have q0 : 0 ≤ j := i0
          have q1 : j < (l1.length : Int) := hi
          have HI2 := zA (And.intro i0 (And.intro hi i2))
          clear i0 i1 i2 hi HI HP
          have HB := zA HS.out.b
          have Km := zA HS.out.m
          have zm_0 : wr.cell? ⟨gm, 0, none⟩ = some (.int .i64 a0_0) := (zD Km.out 0).trans rfl
          have zm_1 : wr.cell? ⟨gm, 1, none⟩ = some (.int .i64 a0_1) := (zD Km.out 1).trans rfl
          have zm_2 : wr.cell? ⟨gm, 2, none⟩ = some (.int .i64 a0_2) := (zD Km.out 2).trans rfl
          have zm_3 : wr.cell? ⟨gm, 3, none⟩ = some (.slice A0_3 l0_3.length c0_3) := (zD Km.out 3).trans rfl
          have zo_0 : wr.cell? ⟨go, 0, none⟩ = some (.slice (some ⟨gv, 0, none⟩) n cap) := (zD Ko.out 0).trans rfl
          by_cases hc : x.f0 ≠ a2 ∧ 0 < x.f7
          · rw [if_pos hc] at hp
            have b0 : (x.f0 != a2) = true := by simp [hc.1]
            have b1 : decide (0 < x.f7) = true := decide_eq_true hc.2
            replace hp := Option.bind_eq_some_iff.1 hp
            obtain ⟨b, hb5, hp⟩ := hp
            have HNB := zA hb5
            have HP := zA hp
            clear hc hp hb5
            go_upto_if 76 with (first | ((with_reducible refine gate_dst (N := 14) rfl ?_); refine box_event ?hg (N := 14) ?hd (cs := #[.int .i64 0, .int .i64 0, .int .i64 0, .int .i64 0, .int .i64 0, .int .i64 0, .int .i64 0, .int .i64 0]) (t := 27) ?hr ?_; (case hd => rfl); (case hg => rfl); (case hr => first | (go_simp; done) | (go_simp; rfl)); intro gx hg ww101 hbox hb; have Nx_v : Aside0 (gx ≠ gv) := ⟨by have := Kd.R_lt HV.out gv rfl; omega⟩; have P_x := zA hb; have PG_x : Aside0 (_ ≤ gx) := ⟨Nat.le_of_eq hg.symm⟩; have P_x_HS := HS; have P_x_HV := HV; have Nm_x : Aside0 (gm ≠ gx) := ⟨by have := blk_lt Km.out; omega⟩; have No_x : Aside0 (go ≠ gx) := ⟨by have := blk_lt Ko.out; omega⟩; have KK := zA (zI Km.out hb); clear Km; have Km := KK; clear KK; have KK := zA (zI Ko.out hb); clear Ko; have Ko := KK; clear KK; have KK := zA (sight_View.St.below HS.out hb); clear HS; have HS := KK; clear KK; have KK := zA (zS HV.out hb); clear HV; have HV := KK; clear KK; have Gx : Aside0 (w.heap.size ≤ gx) := ⟨by have := HB.out.size; omega⟩; have Kx := zA hbox; have KK := zA (zJ HB.out hb); clear HB; have HB := KK; clear KK; clear hb hbox hg; clear zm_0 zm_1 zm_2 zm_3 zo_0; have zm_0 : ww101.cell? ⟨gm, 0, none⟩ = some (.int .i64 a0_0) := (zD Km.out 0).trans rfl; have zm_1 : ww101.cell? ⟨gm, 1, none⟩ = some (.int .i64 a0_1) := (zD Km.out 1).trans rfl; have zm_2 : ww101.cell? ⟨gm, 2, none⟩ = some (.int .i64 a0_2) := (zD Km.out 2).trans rfl; have zm_3 : ww101.cell? ⟨gm, 3, none⟩ = some (.slice A0_3 l0_3.length c0_3) := (zD Km.out 3).trans rfl; have zx_0 : ww101.cell? ⟨gx, 0, none⟩ = some (.int .i64 0) := (zD Kx.out 0).trans rfl; have fx_0 := zG Kx.out 0; have zx_1 : ww101.cell? ⟨gx, 1, none⟩ = some (.int .i64 0) := (zD Kx.out 1).trans rfl; have fx_1 := zG Kx.out 1; have zx_2 : ww101.cell? ⟨gx, 2, none⟩ = some (.int .i64 0) := (zD Kx.out 2).trans rfl; have fx_2 := zG Kx.out 2; have zx_3 : ww101.cell? ⟨gx, 3, none⟩ = some (.int .i64 0) := (zD Kx.out 3).trans rfl; have fx_3 := zG Kx.out 3; have zx_4 : ww101.cell? ⟨gx, 4, none⟩ = some (.int .i64 0) := (zD Kx.out 4).trans rfl; have fx_4 := zG Kx.out 4; have zx_5 : ww101.cell? ⟨gx, 5, none⟩ = some (.int .i64 0) := (zD Kx.out 5).trans rfl; have fx_5 := zG Kx.out 5; have zx_6 : ww101.cell? ⟨gx, 6, none⟩ = some (.int .i64 0) := (zD Kx.out 6).trans rfl; have fx_6 := zG Kx.out 6; have zx_7 : ww101.cell? ⟨gx, 7, none⟩ = some (.int .i64 0) := (zD Kx.out 7).trans rfl; have fx_7 := zG Kx.out 7) | ((with_reducible refine gate_store (t := 27) (p := 14) rfl ?_); refine store_event (t := 27) (p := 14) (v := ?vo_ww102_8) (w1 := ((((((((ww101.setCell ⟨gx, 0, none⟩ (.int .i64 x.f0)).setCell ⟨gx, 1, none⟩ (.int .i64 x.f1)).setCell ⟨gx, 2, none⟩ (.int .i64 x.f2)).setCell ⟨gx, 3, none⟩ (.int .i64 x.f3)).setCell ⟨gx, 4, none⟩ (.int .i64 x.f4)).setCell ⟨gx, 5, none⟩ (.int .i64 x.f5)).setCell ⟨gx, 6, none⟩ (.int .i64 x.f6)).setCell ⟨gx, 7, none⟩ (.int .i64 x.f7))) ?hg ?ho ?hn ?hr ?_; (case ho => rfl); (case hg => rfl); (case hn => rfl); (case hr => first | (go_simp; done) | (go_simp; rfl)); intro ww102 hw; have nem : gm ≠ gx := Nm_x.out; have neo : go ≠ gx := No_x.out; have hb : Below w.heap.size w ww102 := (by subst hw; exact (zC (zC (zC (zC (zC (zC (zC (zC HB.out Gx.out) Gx.out) Gx.out) Gx.out) Gx.out) Gx.out) Gx.out) Gx.out)); have KK := zA (show ww102.heap[gx]? = some (.cells #[.int .i64 x.f0, .int .i64 x.f1, .int .i64 x.f2, .int .i64 x.f3, .int .i64 x.f4, .int .i64 x.f5, .int .i64 x.f6, .int .i64 x.f7] 27 (0, 0)) by subst hw; exact (blk_all8 Kx.out)); clear Kx; have Kx := KK; clear KK; have KK := zA (show ww102.heap[gm]? = some (.cells #[.int .i64 a0_0, .int .i64 a0_1, .int .i64 a0_2, .slice A0_3 l0_3.length c0_3] 24 (0, 0)) by subst hw; exact (zL (zL (zL (zL (zL (zL (zL (zL Km.out nem _) nem _) nem _) nem _) nem _) nem _) nem _) nem _)); clear Km; have Km := KK; clear KK; have KK := zA (show ww102.heap[go]? = some (.cells #[.slice (some ⟨gv, 0, none⟩) n cap] 31 (0, 0)) by subst hw; exact (zL (zL (zL (zL (zL (zL (zL (zL Ko.out neo _) neo _) neo _) neo _) neo _) neo _) neo _) neo _)); clear Ko; have Ko := KK; clear KK; have KK := zA (sight_View.St.below P_x_HS.out (show Below _ _ ww102 from (by subst hw; exact (zC (zC (zC (zC (zC (zC (zC (zC P_x.out PG_x.out) PG_x.out) PG_x.out) PG_x.out) PG_x.out) PG_x.out) PG_x.out) PG_x.out)))); clear HS P_x_HS; have HS := KK; clear KK; have KK := zA (zS P_x_HV.out (show Below _ _ ww102 from (by subst hw; exact (zC (zC (zC (zC (zC (zC (zC (zC P_x.out PG_x.out) PG_x.out) PG_x.out) PG_x.out) PG_x.out) PG_x.out) PG_x.out) PG_x.out)))); clear HV P_x_HV; have HV := KK; clear KK; clear HB; have HB := zA hb; clear hb hw nem neo; clear zm_0 zm_1 zm_2 zm_3 zx_0 fx_0 zx_1 fx_1 zx_2 fx_2 zx_3 fx_3 zx_4 fx_4 zx_5 fx_5 zx_6 fx_6 zx_7 fx_7; have zm_0 : ww102.cell? ⟨gm, 0, none⟩ = some (.int .i64 a0_0) := (zD Km.out 0).trans rfl; have zm_1 : ww102.cell? ⟨gm, 1, none⟩ = some (.int .i64 a0_1) := (zD Km.out 1).trans rfl; have zm_2 : ww102.cell? ⟨gm, 2, none⟩ = some (.int .i64 a0_2) := (zD Km.out 2).trans rfl; have zm_3 : ww102.cell? ⟨gm, 3, none⟩ = some (.slice A0_3 l0_3.length c0_3) := (zD Km.out 3).trans rfl; have zo_0 : ww102.cell? ⟨go, 0, none⟩ = some (.slice (some ⟨gv, 0, none⟩) n cap) := (zD Ko.out 0).trans rfl; have zx_0 : ww102.cell? ⟨gx, 0, none⟩ = some (.int .i64 x.f0) := (zD Kx.out 0).trans rfl; have zx_1 : ww102.cell? ⟨gx, 1, none⟩ = some (.int .i64 x.f1) := (zD Kx.out 1).trans rfl; have zx_2 : ww102.cell? ⟨gx, 2, none⟩ = some (.int .i64 x.f2) := (zD Kx.out 2).trans rfl; have zx_3 : ww102.cell? ⟨gx, 3, none⟩ = some (.int .i64 x.f3) := (zD Kx.out 3).trans rfl; have zx_4 : ww102.cell? ⟨gx, 4, none⟩ = some (.int .i64 x.f4) := (zD Kx.out 4).trans rfl; have zx_5 : ww102.cell? ⟨gx, 5, none⟩ = some (.int .i64 x.f5) := (zD Kx.out 5).trans rfl; have zx_6 : ww102.cell? ⟨gx, 6, none⟩ = some (.int .i64 x.f6) := (zD Kx.out 6).trans rfl; have zx_7 : ww102.cell? ⟨gx, 7, none⟩ = some (.int .i64 x.f7) := (zD Kx.out 7).trans rfl) | (go_at_call 23; refine (sight_near.calls a0_0 a0_1 a0_2 _ _ l0_3 x.f0 x.f1 x.f2 x.f3 x.f4 x.f5 x.f6 x.f7 i x.f7 b _ (Kd.V_reads' HS.out.vm).2.2 (Kd.V_reads' HS.out.vm).2.1 HNB.out).mono ?_; rintro e ww103 ⟨rfl, hb⟩; have KK := zA (zI Km.out hb); clear Km; have Km := KK; clear KK; have KK := zA (zI Ko.out hb); clear Ko; have Ko := KK; clear KK; have KK := zA (zI Kx.out hb); clear Kx; have Kx := KK; clear KK; have KK := zA (sight_View.St.below HS.out hb); clear HS; have HS := KK; clear KK; have KK := zA (zS HV.out hb); clear HV; have HV := KK; clear KK; have KK := zA (zJ HB.out hb); clear HB; have HB := KK; clear KK; clear hb; clear zm_0 zm_1 zm_2 zm_3 zo_0 zx_0 zx_1 zx_2 zx_3 zx_4 zx_5 zx_6 zx_7; have zo_0 : ww103.cell? ⟨go, 0, none⟩ = some (.slice (some ⟨gv, 0, none⟩) n cap) := (zD Ko.out 0).trans rfl))
            cases b
            · go_wp2
              go_roundg (l1.length - (j.toNat + 1))
              case measure => have := HI2.out; omega
              case rel => exact ⟨j + 1, q, rfl, ⟨by have := HI2.out; omega⟩, HOL, HP, HS, Ko, HV⟩
            · have x0 := (Kd.R_celln 0 HV.out i HIo.out.1 HIo.out.2.1).1
              have x1 := (Kd.R_celln 0 HV.out i HIo.out.1 HIo.out.2.1).2
              have q2 : 0 ≤ i := HIo.out.1
              have q3 : i < (n : Int) := HIo.out.2.1
              go_wp2
              go_roundg (l1.length - (j.toNat + 1))
              case measure => have := HI2.out; omega
              case rel => exact ⟨j + 1, q.set i.toNat 0, rfl, ⟨by have := HI2.out; omega⟩, ⟨by rw [List.length_set]; exact HOL.out⟩, HP, ⟨HS.out.set Gv.out Nm_v.out _ _⟩, ⟨zL Ko.out No_v.out _⟩, ⟨Kd.R_putn HV.out i 0⟩⟩
          rw [if_neg hc] at hp
          have HP := zA hp
          clear hp
          by_cases hc1 : x.f0 = a2
          · have b0 : (x.f0 != a2) = false := by simp [hc1]
            clear hc hc1
            go_wp2_with (first | ((with_reducible refine gate_dst (N := 14) rfl ?_); refine box_event ?hg (N := 14) ?hd (cs := #[.int .i64 0, .int .i64 0, .int .i64 0, .int .i64 0, .int .i64 0, .int .i64 0, .int .i64 0, .int .i64 0]) (t := 27) ?hr ?_; (case hd => rfl); (case hg => rfl); (case hr => first | (go_simp; done) | (go_simp; rfl)); intro gx hg ww101 hbox hb; have Nx_v : Aside0 (gx ≠ gv) := ⟨by have := Kd.R_lt HV.out gv rfl; omega⟩; have P_x := zA hb; have PG_x : Aside0 (_ ≤ gx) := ⟨Nat.le_of_eq hg.symm⟩; have P_x_HS := HS; have P_x_HV := HV; have Nm_x : Aside0 (gm ≠ gx) := ⟨by have := blk_lt Km.out; omega⟩; have No_x : Aside0 (go ≠ gx) := ⟨by have := blk_lt Ko.out; omega⟩; have KK := zA (zI Km.out hb); clear Km; have Km := KK; clear KK; have KK := zA (zI Ko.out hb); clear Ko; have Ko := KK; clear KK; have KK := zA (sight_View.St.below HS.out hb); clear HS; have HS := KK; clear KK; have KK := zA (zS HV.out hb); clear HV; have HV := KK; clear KK; have Gx : Aside0 (w.heap.size ≤ gx) := ⟨by have := HB.out.size; omega⟩; have Kx := zA hbox; have KK := zA (zJ HB.out hb); clear HB; have HB := KK; clear KK; clear hb hbox hg; clear zm_0 zm_1 zm_2 zm_3 zo_0; have zm_0 : ww101.cell? ⟨gm, 0, none⟩ = some (.int .i64 a0_0) := (zD Km.out 0).trans rfl; have zm_1 : ww101.cell? ⟨gm, 1, none⟩ = some (.int .i64 a0_1) := (zD Km.out 1).trans rfl; have zm_2 : ww101.cell? ⟨gm, 2, none⟩ = some (.int .i64 a0_2) := (zD Km.out 2).trans rfl; have zm_3 : ww101.cell? ⟨gm, 3, none⟩ = some (.slice A0_3 l0_3.length c0_3) := (zD Km.out 3).trans rfl; have zx_0 : ww101.cell? ⟨gx, 0, none⟩ = some (.int .i64 0) := (zD Kx.out 0).trans rfl; have fx_0 := zG Kx.out 0; have zx_1 : ww101.cell? ⟨gx, 1, none⟩ = some (.int .i64 0) := (zD Kx.out 1).trans rfl; have fx_1 := zG Kx.out 1; have zx_2 : ww101.cell? ⟨gx, 2, none⟩ = some (.int .i64 0) := (zD Kx.out 2).trans rfl; have fx_2 := zG Kx.out 2; have zx_3 : ww101.cell? ⟨gx, 3, none⟩ = some (.int .i64 0) := (zD Kx.out 3).trans rfl; have fx_3 := zG Kx.out 3; have zx_4 : ww101.cell? ⟨gx, 4, none⟩ = some (.int .i64 0) := (zD Kx.out 4).trans rfl; have fx_4 := zG Kx.out 4; have zx_5 : ww101.cell? ⟨gx, 5, none⟩ = some (.int .i64 0) := (zD Kx.out 5).trans rfl; have fx_5 := zG Kx.out 5; have zx_6 : ww101.cell? ⟨gx, 6, none⟩ = some (.int .i64 0) := (zD Kx.out 6).trans rfl; have fx_6 := zG Kx.out 6; have zx_7 : ww101.cell? ⟨gx, 7, none⟩ = some (.int .i64 0) := (zD Kx.out 7).trans rfl; have fx_7 := zG Kx.out 7) | ((with_reducible refine gate_store (t := 27) (p := 14) rfl ?_); refine store_event (t := 27) (p := 14) (v := ?vo_ww102_9) (w1 := ((((((((ww101.setCell ⟨gx, 0, none⟩ (.int .i64 x.f0)).setCell ⟨gx, 1, none⟩ (.int .i64 x.f1)).setCell ⟨gx, 2, none⟩ (.int .i64 x.f2)).setCell ⟨gx, 3, none⟩ (.int .i64 x.f3)).setCell ⟨gx, 4, none⟩ (.int .i64 x.f4)).setCell ⟨gx, 5, none⟩ (.int .i64 x.f5)).setCell ⟨gx, 6, none⟩ (.int .i64 x.f6)).setCell ⟨gx, 7, none⟩ (.int .i64 x.f7))) ?hg ?ho ?hn ?hr ?_; (case ho => rfl); (case hg => rfl); (case hn => rfl); (case hr => first | (go_simp; done) | (go_simp; rfl)); intro ww102 hw; have nem : gm ≠ gx := Nm_x.out; have neo : go ≠ gx := No_x.out; have hb : Below w.heap.size w ww102 := (by subst hw; exact (zC (zC (zC (zC (zC (zC (zC (zC HB.out Gx.out) Gx.out) Gx.out) Gx.out) Gx.out) Gx.out) Gx.out) Gx.out)); have KK := zA (show ww102.heap[gx]? = some (.cells #[.int .i64 x.f0, .int .i64 x.f1, .int .i64 x.f2, .int .i64 x.f3, .int .i64 x.f4, .int .i64 x.f5, .int .i64 x.f6, .int .i64 x.f7] 27 (0, 0)) by subst hw; exact (blk_all8 Kx.out)); clear Kx; have Kx := KK; clear KK; have KK := zA (show ww102.heap[gm]? = some (.cells #[.int .i64 a0_0, .int .i64 a0_1, .int .i64 a0_2, .slice A0_3 l0_3.length c0_3] 24 (0, 0)) by subst hw; exact (zL (zL (zL (zL (zL (zL (zL (zL Km.out nem _) nem _) nem _) nem _) nem _) nem _) nem _) nem _)); clear Km; have Km := KK; clear KK; have KK := zA (show ww102.heap[go]? = some (.cells #[.slice (some ⟨gv, 0, none⟩) n cap] 31 (0, 0)) by subst hw; exact (zL (zL (zL (zL (zL (zL (zL (zL Ko.out neo _) neo _) neo _) neo _) neo _) neo _) neo _) neo _)); clear Ko; have Ko := KK; clear KK; have KK := zA (sight_View.St.below P_x_HS.out (show Below _ _ ww102 from (by subst hw; exact (zC (zC (zC (zC (zC (zC (zC (zC P_x.out PG_x.out) PG_x.out) PG_x.out) PG_x.out) PG_x.out) PG_x.out) PG_x.out) PG_x.out)))); clear HS P_x_HS; have HS := KK; clear KK; have KK := zA (zS P_x_HV.out (show Below _ _ ww102 from (by subst hw; exact (zC (zC (zC (zC (zC (zC (zC (zC P_x.out PG_x.out) PG_x.out) PG_x.out) PG_x.out) PG_x.out) PG_x.out) PG_x.out) PG_x.out)))); clear HV P_x_HV; have HV := KK; clear KK; clear HB; have HB := zA hb; clear hb hw nem neo; clear zm_0 zm_1 zm_2 zm_3 zx_0 fx_0 zx_1 fx_1 zx_2 fx_2 zx_3 fx_3 zx_4 fx_4 zx_5 fx_5 zx_6 fx_6 zx_7 fx_7; have zm_0 : ww102.cell? ⟨gm, 0, none⟩ = some (.int .i64 a0_0) := (zD Km.out 0).trans rfl; have zm_1 : ww102.cell? ⟨gm, 1, none⟩ = some (.int .i64 a0_1) := (zD Km.out 1).trans rfl; have zm_2 : ww102.cell? ⟨gm, 2, none⟩ = some (.int .i64 a0_2) := (zD Km.out 2).trans rfl; have zm_3 : ww102.cell? ⟨gm, 3, none⟩ = some (.slice A0_3 l0_3.length c0_3) := (zD Km.out 3).trans rfl; have zo_0 : ww102.cell? ⟨go, 0, none⟩ = some (.slice (some ⟨gv, 0, none⟩) n cap) := (zD Ko.out 0).trans rfl; have zx_0 : ww102.cell? ⟨gx, 0, none⟩ = some (.int .i64 x.f0) := (zD Kx.out 0).trans rfl; have zx_1 : ww102.cell? ⟨gx, 1, none⟩ = some (.int .i64 x.f1) := (zD Kx.out 1).trans rfl; have zx_2 : ww102.cell? ⟨gx, 2, none⟩ = some (.int .i64 x.f2) := (zD Kx.out 2).trans rfl; have zx_3 : ww102.cell? ⟨gx, 3, none⟩ = some (.int .i64 x.f3) := (zD Kx.out 3).trans rfl; have zx_4 : ww102.cell? ⟨gx, 4, none⟩ = some (.int .i64 x.f4) := (zD Kx.out 4).trans rfl; have zx_5 : ww102.cell? ⟨gx, 5, none⟩ = some (.int .i64 x.f5) := (zD Kx.out 5).trans rfl; have zx_6 : ww102.cell? ⟨gx, 6, none⟩ = some (.int .i64 x.f6) := (zD Kx.out 6).trans rfl; have zx_7 : ww102.cell? ⟨gx, 7, none⟩ = some (.int .i64 x.f7) := (zD Kx.out 7).trans rfl))
            go_roundg (l1.length - (j.toNat + 1))
            case measure => have := HI2.out; omega
            case rel => exact ⟨j + 1, q, rfl, ⟨by have := HI2.out; omega⟩, HOL, HP, HS, Ko, HV⟩
          have b0 : (x.f0 != a2) = true := by simp [hc1]
          have b1 : decide (0 < x.f7) = false := decide_eq_false (fun h => hc ⟨hc1, h⟩)
          clear hc hc1
          go_wp2_with (first | ((with_reducible refine gate_dst (N := 14) rfl ?_); refine box_event ?hg (N := 14) ?hd (cs := #[.int .i64 0, .int .i64 0, .int .i64 0, .int .i64 0, .int .i64 0, .int .i64 0, .int .i64 0, .int .i64 0]) (t := 27) ?hr ?_; (case hd => rfl); (case hg => rfl); (case hr => first | (go_simp; done) | (go_simp; rfl)); intro gx hg ww101 hbox hb; have Nx_v : Aside0 (gx ≠ gv) := ⟨by have := Kd.R_lt HV.out gv rfl; omega⟩; have P_x := zA hb; have PG_x : Aside0 (_ ≤ gx) := ⟨Nat.le_of_eq hg.symm⟩; have P_x_HS := HS; have P_x_HV := HV; have Nm_x : Aside0 (gm ≠ gx) := ⟨by have := blk_lt Km.out; omega⟩; have No_x : Aside0 (go ≠ gx) := ⟨by have := blk_lt Ko.out; omega⟩; have KK := zA (zI Km.out hb); clear Km; have Km := KK; clear KK; have KK := zA (zI Ko.out hb); clear Ko; have Ko := KK; clear KK; have KK := zA (sight_View.St.below HS.out hb); clear HS; have HS := KK; clear KK; have KK := zA (zS HV.out hb); clear HV; have HV := KK; clear KK; have Gx : Aside0 (w.heap.size ≤ gx) := ⟨by have := HB.out.size; omega⟩; have Kx := zA hbox; have KK := zA (zJ HB.out hb); clear HB; have HB := KK; clear KK; clear hb hbox hg; clear zm_0 zm_1 zm_2 zm_3 zo_0; have zm_0 : ww101.cell? ⟨gm, 0, none⟩ = some (.int .i64 a0_0) := (zD Km.out 0).trans rfl; have zm_1 : ww101.cell? ⟨gm, 1, none⟩ = some (.int .i64 a0_1) := (zD Km.out 1).trans rfl; have zm_2 : ww101.cell? ⟨gm, 2, none⟩ = some (.int .i64 a0_2) := (zD Km.out 2).trans rfl; have zm_3 : ww101.cell? ⟨gm, 3, none⟩ = some (.slice A0_3 l0_3.length c0_3) := (zD Km.out 3).trans rfl; have zx_0 : ww101.cell? ⟨gx, 0, none⟩ = some (.int .i64 0) := (zD Kx.out 0).trans rfl; have fx_0 := zG Kx.out 0; have zx_1 : ww101.cell? ⟨gx, 1, none⟩ = some (.int .i64 0) := (zD Kx.out 1).trans rfl; have fx_1 := zG Kx.out 1; have zx_2 : ww101.cell? ⟨gx, 2, none⟩ = some (.int .i64 0) := (zD Kx.out 2).trans rfl; have fx_2 := zG Kx.out 2; have zx_3 : ww101.cell? ⟨gx, 3, none⟩ = some (.int .i64 0) := (zD Kx.out 3).trans rfl; have fx_3 := zG Kx.out 3; have zx_4 : ww101.cell? ⟨gx, 4, none⟩ = some (.int .i64 0) := (zD Kx.out 4).trans rfl; have fx_4 := zG Kx.out 4; have zx_5 : ww101.cell? ⟨gx, 5, none⟩ = some (.int .i64 0) := (zD Kx.out 5).trans rfl; have fx_5 := zG Kx.out 5; have zx_6 : ww101.cell? ⟨gx, 6, none⟩ = some (.int .i64 0) := (zD Kx.out 6).trans rfl; have fx_6 := zG Kx.out 6; have zx_7 : ww101.cell? ⟨gx, 7, none⟩ = some (.int .i64 0) := (zD Kx.out 7).trans rfl; have fx_7 := zG Kx.out 7) | ((with_reducible refine gate_store (t := 27) (p := 14) rfl ?_); refine store_event (t := 27) (p := 14) (v := ?vo_ww102_10) (w1 := ((((((((ww101.setCell ⟨gx, 0, none⟩ (.int .i64 x.f0)).setCell ⟨gx, 1, none⟩ (.int .i64 x.f1)).setCell ⟨gx, 2, none⟩ (.int .i64 x.f2)).setCell ⟨gx, 3, none⟩ (.int .i64 x.f3)).setCell ⟨gx, 4, none⟩ (.int .i64 x.f4)).setCell ⟨gx, 5, none⟩ (.int .i64 x.f5)).setCell ⟨gx, 6, none⟩ (.int .i64 x.f6)).setCell ⟨gx, 7, none⟩ (.int .i64 x.f7))) ?hg ?ho ?hn ?hr ?_; (case ho => rfl); (case hg => rfl); (case hn => rfl); (case hr => first | (go_simp; done) | (go_simp; rfl)); intro ww102 hw; have nem : gm ≠ gx := Nm_x.out; have neo : go ≠ gx := No_x.out; have hb : Below w.heap.size w ww102 := (by subst hw; exact (zC (zC (zC (zC (zC (zC (zC (zC HB.out Gx.out) Gx.out) Gx.out) Gx.out) Gx.out) Gx.out) Gx.out) Gx.out)); have KK := zA (show ww102.heap[gx]? = some (.cells #[.int .i64 x.f0, .int .i64 x.f1, .int .i64 x.f2, .int .i64 x.f3, .int .i64 x.f4, .int .i64 x.f5, .int .i64 x.f6, .int .i64 x.f7] 27 (0, 0)) by subst hw; exact (blk_all8 Kx.out)); clear Kx; have Kx := KK; clear KK; have KK := zA (show ww102.heap[gm]? = some (.cells #[.int .i64 a0_0, .int .i64 a0_1, .int .i64 a0_2, .slice A0_3 l0_3.length c0_3] 24 (0, 0)) by subst hw; exact (zL (zL (zL (zL (zL (zL (zL (zL Km.out nem _) nem _) nem _) nem _) nem _) nem _) nem _) nem _)); clear Km; have Km := KK; clear KK; have KK := zA (show ww102.heap[go]? = some (.cells #[.slice (some ⟨gv, 0, none⟩) n cap] 31 (0, 0)) by subst hw; exact (zL (zL (zL (zL (zL (zL (zL (zL Ko.out neo _) neo _) neo _) neo _) neo _) neo _) neo _) neo _)); clear Ko; have Ko := KK; clear KK; have KK := zA (sight_View.St.below P_x_HS.out (show Below _ _ ww102 from (by subst hw; exact (zC (zC (zC (zC (zC (zC (zC (zC P_x.out PG_x.out) PG_x.out) PG_x.out) PG_x.out) PG_x.out) PG_x.out) PG_x.out) PG_x.out)))); clear HS P_x_HS; have HS := KK; clear KK; have KK := zA (zS P_x_HV.out (show Below _ _ ww102 from (by subst hw; exact (zC (zC (zC (zC (zC (zC (zC (zC P_x.out PG_x.out) PG_x.out) PG_x.out) PG_x.out) PG_x.out) PG_x.out) PG_x.out) PG_x.out)))); clear HV P_x_HV; have HV := KK; clear KK; clear HB; have HB := zA hb; clear hb hw nem neo; clear zm_0 zm_1 zm_2 zm_3 zx_0 fx_0 zx_1 fx_1 zx_2 fx_2 zx_3 fx_3 zx_4 fx_4 zx_5 fx_5 zx_6 fx_6 zx_7 fx_7; have zm_0 : ww102.cell? ⟨gm, 0, none⟩ = some (.int .i64 a0_0) := (zD Km.out 0).trans rfl; have zm_1 : ww102.cell? ⟨gm, 1, none⟩ = some (.int .i64 a0_1) := (zD Km.out 1).trans rfl; have zm_2 : ww102.cell? ⟨gm, 2, none⟩ = some (.int .i64 a0_2) := (zD Km.out 2).trans rfl; have zm_3 : ww102.cell? ⟨gm, 3, none⟩ = some (.slice A0_3 l0_3.length c0_3) := (zD Km.out 3).trans rfl; have zo_0 : ww102.cell? ⟨go, 0, none⟩ = some (.slice (some ⟨gv, 0, none⟩) n cap) := (zD Ko.out 0).trans rfl; have zx_0 : ww102.cell? ⟨gx, 0, none⟩ = some (.int .i64 x.f0) := (zD Kx.out 0).trans rfl; have zx_1 : ww102.cell? ⟨gx, 1, none⟩ = some (.int .i64 x.f1) := (zD Kx.out 1).trans rfl; have zx_2 : ww102.cell? ⟨gx, 2, none⟩ = some (.int .i64 x.f2) := (zD Kx.out 2).trans rfl; have zx_3 : ww102.cell? ⟨gx, 3, none⟩ = some (.int .i64 x.f3) := (zD Kx.out 3).trans rfl; have zx_4 : ww102.cell? ⟨gx, 4, none⟩ = some (.int .i64 x.f4) := (zD Kx.out 4).trans rfl; have zx_5 : ww102.cell? ⟨gx, 5, none⟩ = some (.int .i64 x.f5) := (zD Kx.out 5).trans rfl; have zx_6 : ww102.cell? ⟨gx, 6, none⟩ = some (.int .i64 x.f6) := (zD Kx.out 6).trans rfl; have zx_7 : ww102.cell? ⟨gx, 7, none⟩ = some (.int .i64 x.f7) := (zD Kx.out 7).trans rfl))
          go_roundg (l1.length - (j.toNat + 1))
          case measure => have := HI2.out; omega
          case rel => exact ⟨j + 1, q, rfl, ⟨by have := HI2.out; omega⟩, HOL, HP, HS, Ko, HV⟩
      have d0 : decide (i < (n : Int)) = false := decide_eq_false hi
      have ho : o = o2 := by
        have h := HP.out
        rw [show gk = 0 by have := HI.out; omega] at h
        exact Option.some.inj h
      subst ho
      clear hi HI HP
      go_wp2
      obtain ⟨wq, rfl⟩ : ∃ wq : World, wq = wr := ⟨_, rfl⟩
      go_loopg [84] l1.length (fun kq v84 w' => ∃ (i : Int) (o : List Int), v84 = .int .i64 i ∧ Aside0 (0 ≤ i ∧ i ≤ (l1.length : Int) ∧ (kq : Int) + i = (l1.length : Int)) ∧ Aside0 (o.length = n) ∧ Aside0 (sight_View.p3 k a0_0 a0_1 a0_2 l0_3 a2 (l1.drop i.toNat) o = some o3) ∧ Aside0 (sight_View.St w gm a0_0 a0_1 a0_2 l0_3 A0_3 c0_3 l1 A1 c1 w') ∧ Aside0 (w'.heap[go]? = some (.cells #[.slice (some ⟨gv, 0, none⟩) n cap] 31 (0, 0))) ∧ Aside0 (Kd.R (Kd.int .i64) 3 w' w.heap.size (fun k => k = gv) (.slice (some ⟨gv, 0, none⟩) n cap) o))
      case atStart => exact ⟨0, _, rfl, ⟨by omega⟩, HOL, ⟨by simpa using H3.out⟩, HS, Ko, HV⟩
      case round =>
        clear HS Ko HV H3 HOL d0
        obtain ⟨i, o, rfl, HI, HOL, HP, HS, Ko, HV⟩ := hrel
        by_cases hi : i < (l1.length : Int)
        rotate_left
        · have d0 : decide (i < (l1.length : Int)) = false := decide_eq_false hi
          have ho : o = o3 := by
            have h := HP.out
            rw [List.drop_of_length_le (by have := HI.out; omega)] at h
            exact Option.some.inj h
          subst ho
          clear hi HI HP
          have zo : wr.cell? ⟨go, 0, none⟩ = some (.slice (some ⟨gv, 0, none⟩) n cap) := (zD Ko.out 0).trans rfl
          go_wp2
          go_ret2
          exact ⟨_, rfl, Kd.R_mono HV.out (fun _ _ => trivial), HS.out.b⟩
        have d0 : decide (i < (l1.length : Int)) = true := decide_eq_true hi
        obtain ⟨i0, i1, i2⟩ := HI.out
        obtain ⟨ad, ea, hx0, hx1, hx2, hx3, hx4, hx5, hx6, hx7⟩ := at_T27 (Kd.V_reads' HS.out.vl).2.2 i i0 hi
        have hp := HP.out
        rw [sight_View.drop_at i0 hi] at hp
        simp only [sight_View.p3] at hp
        obtain ⟨x, hx⟩ : ∃ x, rd_T27 l1 i = x := ⟨_, rfl⟩
        rw [hx] at hp hx0 hx1 hx2 hx3 hx4 hx5 hx6 hx7
        clear hx
        subst ea
        have e1 : wrap64 (i + 1) = i + 1 := by have := HQ.out; unfold wrap64; omega
        have r1 : IntKind.i64.wrap (i + 1) = i + 1 := by rw [i64_w]; exact e1
        have q0 : 0 ≤ i := i0
        have q1 : i < (l1.length : Int) := hi
        have HI2 := zA (And.intro i0 (And.intro hi i2))
        clear i0 i1 i2 hi HI HP
        have HB := zA HS.out.b
        have Km := zA HS.out.m
        have zm_0 : wr.cell? ⟨gm, 0, none⟩ = some (.int .i64 a0_0) := (zD Km.out 0).trans rfl
        have zm_1 : wr.cell? ⟨gm, 1, none⟩ = some (.int .i64 a0_1) := (zD Km.out 1).trans rfl
        have zm_2 : wr.cell? ⟨gm, 2, none⟩ = some (.int .i64 a0_2) := (zD Km.out 2).trans rfl
        have zm_3 : wr.cell? ⟨gm, 3, none⟩ = some (.slice A0_3 l0_3.length c0_3) := (zD Km.out 3).trans rfl
        have zo_0 : wr.cell? ⟨go, 0, none⟩ = some (.slice (some ⟨gv, 0, none⟩) n cap) := (zD Ko.out 0).trans rfl
        by_cases hc : x.f0 = a2
        rotate_left
        · rw [if_neg hc] at hp
          have b0 : (x.f0 == a2) = false := by simp [hc]
          have HP := zA hp
          clear hc hp
          go_wp2_with (first | ((with_reducible refine gate_dst (N := 16) rfl ?_); refine box_event ?hg (N := 16) ?hd (cs := #[.int .i64 0, .int .i64 0, .int .i64 0, .int .i64 0, .int .i64 0, .int .i64 0, .int .i64 0, .int .i64 0]) (t := 27) ?hr ?_; (case hd => rfl); (case hg => rfl); (case hr => first | (go_simp; done) | (go_simp; rfl)); intro gx hg ww101 hbox hb; have Nx_v : Aside0 (gx ≠ gv) := ⟨by have := Kd.R_lt HV.out gv rfl; omega⟩; have P_x := zA hb; have PG_x : Aside0 (_ ≤ gx) := ⟨Nat.le_of_eq hg.symm⟩; have P_x_HS := HS; have P_x_HV := HV; have Nm_x : Aside0 (gm ≠ gx) := ⟨by have := blk_lt Km.out; omega⟩; have No_x : Aside0 (go ≠ gx) := ⟨by have := blk_lt Ko.out; omega⟩; have KK := zA (zI Km.out hb); clear Km; have Km := KK; clear KK; have KK := zA (zI Ko.out hb); clear Ko; have Ko := KK; clear KK; have KK := zA (sight_View.St.below HS.out hb); clear HS; have HS := KK; clear KK; have KK := zA (zS HV.out hb); clear HV; have HV := KK; clear KK; have Gx : Aside0 (w.heap.size ≤ gx) := ⟨by have := HB.out.size; omega⟩; have Kx := zA hbox; have KK := zA (zJ HB.out hb); clear HB; have HB := KK; clear KK; clear hb hbox hg; clear zm_0 zm_1 zm_2 zm_3 zo_0; have zm_0 : ww101.cell? ⟨gm, 0, none⟩ = some (.int .i64 a0_0) := (zD Km.out 0).trans rfl; have zm_1 : ww101.cell? ⟨gm, 1, none⟩ = some (.int .i64 a0_1) := (zD Km.out 1).trans rfl; have zm_2 : ww101.cell? ⟨gm, 2, none⟩ = some (.int .i64 a0_2) := (zD Km.out 2).trans rfl; have zm_3 : ww101.cell? ⟨gm, 3, none⟩ = some (.slice A0_3 l0_3.length c0_3) := (zD Km.out 3).trans rfl; have zx_0 : ww101.cell? ⟨gx, 0, none⟩ = some (.int .i64 0) := (zD Kx.out 0).trans rfl; have fx_0 := zG Kx.out 0; have zx_1 : ww101.cell? ⟨gx, 1, none⟩ = some (.int .i64 0) := (zD Kx.out 1).trans rfl; have fx_1 := zG Kx.out 1; have zx_2 : ww101.cell? ⟨gx, 2, none⟩ = some (.int .i64 0) := (zD Kx.out 2).trans rfl; have fx_2 := zG Kx.out 2; have zx_3 : ww101.cell? ⟨gx, 3, none⟩ = some (.int .i64 0) := (zD Kx.out 3).trans rfl; have fx_3 := zG Kx.out 3; have zx_4 : ww101.cell? ⟨gx, 4, none⟩ = some (.int .i64 0) := (zD Kx.out 4).trans rfl; have fx_4 := zG Kx.out 4; have zx_5 : ww101.cell? ⟨gx, 5, none⟩ = some (.int .i64 0) := (zD Kx.out 5).trans rfl; have fx_5 := zG Kx.out 5; have zx_6 : ww101.cell? ⟨gx, 6, none⟩ = some (.int .i64 0) := (zD Kx.out 6).trans rfl; have fx_6 := zG Kx.out 6; have zx_7 : ww101.cell? ⟨gx, 7, none⟩ = some (.int .i64 0) := (zD Kx.out 7).trans rfl; have fx_7 := zG Kx.out 7) | ((with_reducible refine gate_store (t := 27) (p := 16) rfl ?_); refine store_event (t := 27) (p := 16) (v := ?vo_ww102_11) (w1 := ((((((((ww101.setCell ⟨gx, 0, none⟩ (.int .i64 x.f0)).setCell ⟨gx, 1, none⟩ (.int .i64 x.f1)).setCell ⟨gx, 2, none⟩ (.int .i64 x.f2)).setCell ⟨gx, 3, none⟩ (.int .i64 x.f3)).setCell ⟨gx, 4, none⟩ (.int .i64 x.f4)).setCell ⟨gx, 5, none⟩ (.int .i64 x.f5)).setCell ⟨gx, 6, none⟩ (.int .i64 x.f6)).setCell ⟨gx, 7, none⟩ (.int .i64 x.f7))) ?hg ?ho ?hn ?hr ?_; (case ho => rfl); (case hg => rfl); (case hn => rfl); (case hr => first | (go_simp; done) | (go_simp; rfl)); intro ww102 hw; have nem : gm ≠ gx := Nm_x.out; have neo : go ≠ gx := No_x.out; have hb : Below w.heap.size w ww102 := (by subst hw; exact (zC (zC (zC (zC (zC (zC (zC (zC HB.out Gx.out) Gx.out) Gx.out) Gx.out) Gx.out) Gx.out) Gx.out) Gx.out)); have KK := zA (show ww102.heap[gx]? = some (.cells #[.int .i64 x.f0, .int .i64 x.f1, .int .i64 x.f2, .int .i64 x.f3, .int .i64 x.f4, .int .i64 x.f5, .int .i64 x.f6, .int .i64 x.f7] 27 (0, 0)) by subst hw; exact (blk_all8 Kx.out)); clear Kx; have Kx := KK; clear KK; have KK := zA (show ww102.heap[gm]? = some (.cells #[.int .i64 a0_0, .int .i64 a0_1, .int .i64 a0_2, .slice A0_3 l0_3.length c0_3] 24 (0, 0)) by subst hw; exact (zL (zL (zL (zL (zL (zL (zL (zL Km.out nem _) nem _) nem _) nem _) nem _) nem _) nem _) nem _)); clear Km; have Km := KK; clear KK; have KK := zA (show ww102.heap[go]? = some (.cells #[.slice (some ⟨gv, 0, none⟩) n cap] 31 (0, 0)) by subst hw; exact (zL (zL (zL (zL (zL (zL (zL (zL Ko.out neo _) neo _) neo _) neo _) neo _) neo _) neo _) neo _)); clear Ko; have Ko := KK; clear KK; have KK := zA (sight_View.St.below P_x_HS.out (show Below _ _ ww102 from (by subst hw; exact (zC (zC (zC (zC (zC (zC (zC (zC P_x.out PG_x.out) PG_x.out) PG_x.out) PG_x.out) PG_x.out) PG_x.out) PG_x.out) PG_x.out)))); clear HS P_x_HS; have HS := KK; clear KK; have KK := zA (zS P_x_HV.out (show Below _ _ ww102 from (by subst hw; exact (zC (zC (zC (zC (zC (zC (zC (zC P_x.out PG_x.out) PG_x.out) PG_x.out) PG_x.out) PG_x.out) PG_x.out) PG_x.out) PG_x.out)))); clear HV P_x_HV; have HV := KK; clear KK; clear HB; have HB := zA hb; clear hb hw nem neo; clear zm_0 zm_1 zm_2 zm_3 zx_0 fx_0 zx_1 fx_1 zx_2 fx_2 zx_3 fx_3 zx_4 fx_4 zx_5 fx_5 zx_6 fx_6 zx_7 fx_7; have zm_0 : ww102.cell? ⟨gm, 0, none⟩ = some (.int .i64 a0_0) := (zD Km.out 0).trans rfl; have zm_1 : ww102.cell? ⟨gm, 1, none⟩ = some (.int .i64 a0_1) := (zD Km.out 1).trans rfl; have zm_2 : ww102.cell? ⟨gm, 2, none⟩ = some (.int .i64 a0_2) := (zD Km.out 2).trans rfl; have zm_3 : ww102.cell? ⟨gm, 3, none⟩ = some (.slice A0_3 l0_3.length c0_3) := (zD Km.out 3).trans rfl; have zx_0 : ww102.cell? ⟨gx, 0, none⟩ = some (.int .i64 x.f0) := (zD Kx.out 0).trans rfl; have zx_1 : ww102.cell? ⟨gx, 1, none⟩ = some (.int .i64 x.f1) := (zD Kx.out 1).trans rfl; have zx_2 : ww102.cell? ⟨gx, 2, none⟩ = some (.int .i64 x.f2) := (zD Kx.out 2).trans rfl; have zx_3 : ww102.cell? ⟨gx, 3, none⟩ = some (.int .i64 x.f3) := (zD Kx.out 3).trans rfl; have zx_4 : ww102.cell? ⟨gx, 4, none⟩ = some (.int .i64 x.f4) := (zD Kx.out 4).trans rfl; have zx_5 : ww102.cell? ⟨gx, 5, none⟩ = some (.int .i64 x.f5) := (zD Kx.out 5).trans rfl; have zx_6 : ww102.cell? ⟨gx, 6, none⟩ = some (.int .i64 x.f6) := (zD Kx.out 6).trans rfl; have zx_7 : ww102.cell? ⟨gx, 7, none⟩ = some (.int .i64 x.f7) := (zD Kx.out 7).trans rfl))
          go_roundg (l1.length - (i.toNat + 1))
          case measure => have := HI2.out; omega
          case rel => exact ⟨i + 1, o, rfl, ⟨by have := HI2.out; omega⟩, HOL, HP, HS, Ko, HV⟩
        rw [if_pos hc] at hp
        have b0 : (x.f0 == a2) = true := by simp [hc]
        replace hp := Option.bind_eq_some_iff.1 hp
        obtain ⟨⟨s1, s2⟩, hs5, hp⟩ := hp
        try dsimp only at hp
        have hsl : s1.length = o.length := by
          rcases Nat.decEq s1.length o.length with e | e
          · rw [if_neg e] at hp; cases hp
          · exact e
        rw [if_pos hsl] at hp
        replace hp := Option.bind_eq_some_iff.1 hp
        obtain ⟨o5, hr5, hp⟩ := hp
        have HSN := zA hs5
        have HSL := zA (hsl.trans HOL.out)
        have HRS := zA hr5
        have HP := zA hp
        have HOL5 : Aside0 (o5.length = n) := ⟨(sight_View.rse_len _ _ _ _ hr5).trans HOL.out⟩
        clear hc hp hr5 hs5 hsl
        go_wp2_with (first | ((with_reducible refine gate_dst (N := 16) rfl ?_); refine box_event ?hg (N := 16) ?hd (cs := #[.int .i64 0, .int .i64 0, .int .i64 0, .int .i64 0, .int .i64 0, .int .i64 0, .int .i64 0, .int .i64 0]) (t := 27) ?hr ?_; (case hd => rfl); (case hg => rfl); (case hr => first | (go_simp; done) | (go_simp; rfl)); intro gx hg ww101 hbox hb; have Nx_v : Aside0 (gx ≠ gv) := ⟨by have := Kd.R_lt HV.out gv rfl; omega⟩; have P_x := zA hb; have PG_x : Aside0 (_ ≤ gx) := ⟨Nat.le_of_eq hg.symm⟩; have P_x_HS := HS; have P_x_HV := HV; have Nm_x : Aside0 (gm ≠ gx) := ⟨by have := blk_lt Km.out; omega⟩; have No_x : Aside0 (go ≠ gx) := ⟨by have := blk_lt Ko.out; omega⟩; have KK := zA (zI Km.out hb); clear Km; have Km := KK; clear KK; have KK := zA (zI Ko.out hb); clear Ko; have Ko := KK; clear KK; have KK := zA (sight_View.St.below HS.out hb); clear HS; have HS := KK; clear KK; have KK := zA (zS HV.out hb); clear HV; have HV := KK; clear KK; have Gx : Aside0 (w.heap.size ≤ gx) := ⟨by have := HB.out.size; omega⟩; have Kx := zA hbox; have KK := zA (zJ HB.out hb); clear HB; have HB := KK; clear KK; clear hb hbox hg; clear zm_0 zm_1 zm_2 zm_3 zo_0; have zm_0 : ww101.cell? ⟨gm, 0, none⟩ = some (.int .i64 a0_0) := (zD Km.out 0).trans rfl; have zm_1 : ww101.cell? ⟨gm, 1, none⟩ = some (.int .i64 a0_1) := (zD Km.out 1).trans rfl; have zm_2 : ww101.cell? ⟨gm, 2, none⟩ = some (.int .i64 a0_2) := (zD Km.out 2).trans rfl; have zm_3 : ww101.cell? ⟨gm, 3, none⟩ = some (.slice A0_3 l0_3.length c0_3) := (zD Km.out 3).trans rfl; have zx_0 : ww101.cell? ⟨gx, 0, none⟩ = some (.int .i64 0) := (zD Kx.out 0).trans rfl; have fx_0 := zG Kx.out 0; have zx_1 : ww101.cell? ⟨gx, 1, none⟩ = some (.int .i64 0) := (zD Kx.out 1).trans rfl; have fx_1 := zG Kx.out 1; have zx_2 : ww101.cell? ⟨gx, 2, none⟩ = some (.int .i64 0) := (zD Kx.out 2).trans rfl; have fx_2 := zG Kx.out 2; have zx_3 : ww101.cell? ⟨gx, 3, none⟩ = some (.int .i64 0) := (zD Kx.out 3).trans rfl; have fx_3 := zG Kx.out 3; have zx_4 : ww101.cell? ⟨gx, 4, none⟩ = some (.int .i64 0) := (zD Kx.out 4).trans rfl; have fx_4 := zG Kx.out 4; have zx_5 : ww101.cell? ⟨gx, 5, none⟩ = some (.int .i64 0) := (zD Kx.out 5).trans rfl; have fx_5 := zG Kx.out 5; have zx_6 : ww101.cell? ⟨gx, 6, none⟩ = some (.int .i64 0) := (zD Kx.out 6).trans rfl; have fx_6 := zG Kx.out 6; have zx_7 : ww101.cell? ⟨gx, 7, none⟩ = some (.int .i64 0) := (zD Kx.out 7).trans rfl; have fx_7 := zG Kx.out 7) | ((with_reducible refine gate_store (t := 27) (p := 16) rfl ?_); refine store_event (t := 27) (p := 16) (v := ?vo_ww102_12) (w1 := ((((((((ww101.setCell ⟨gx, 0, none⟩ (.int .i64 x.f0)).setCell ⟨gx, 1, none⟩ (.int .i64 x.f1)).setCell ⟨gx, 2, none⟩ (.int .i64 x.f2)).setCell ⟨gx, 3, none⟩ (.int .i64 x.f3)).setCell ⟨gx, 4, none⟩ (.int .i64 x.f4)).setCell ⟨gx, 5, none⟩ (.int .i64 x.f5)).setCell ⟨gx, 6, none⟩ (.int .i64 x.f6)).setCell ⟨gx, 7, none⟩ (.int .i64 x.f7))) ?hg ?ho ?hn ?hr ?_; (case ho => rfl); (case hg => rfl); (case hn => rfl); (case hr => first | (go_simp; done) | (go_simp; rfl)); intro ww102 hw; have nem : gm ≠ gx := Nm_x.out; have neo : go ≠ gx := No_x.out; have hb : Below w.heap.size w ww102 := (by subst hw; exact (zC (zC (zC (zC (zC (zC (zC (zC HB.out Gx.out) Gx.out) Gx.out) Gx.out) Gx.out) Gx.out) Gx.out) Gx.out)); have KK := zA (show ww102.heap[gx]? = some (.cells #[.int .i64 x.f0, .int .i64 x.f1, .int .i64 x.f2, .int .i64 x.f3, .int .i64 x.f4, .int .i64 x.f5, .int .i64 x.f6, .int .i64 x.f7] 27 (0, 0)) by subst hw; exact (blk_all8 Kx.out)); clear Kx; have Kx := KK; clear KK; have KK := zA (show ww102.heap[gm]? = some (.cells #[.int .i64 a0_0, .int .i64 a0_1, .int .i64 a0_2, .slice A0_3 l0_3.length c0_3] 24 (0, 0)) by subst hw; exact (zL (zL (zL (zL (zL (zL (zL (zL Km.out nem _) nem _) nem _) nem _) nem _) nem _) nem _) nem _)); clear Km; have Km := KK; clear KK; have KK := zA (show ww102.heap[go]? = some (.cells #[.slice (some ⟨gv, 0, none⟩) n cap] 31 (0, 0)) by subst hw; exact (zL (zL (zL (zL (zL (zL (zL (zL Ko.out neo _) neo _) neo _) neo _) neo _) neo _) neo _) neo _)); clear Ko; have Ko := KK; clear KK; have KK := zA (sight_View.St.below P_x_HS.out (show Below _ _ ww102 from (by subst hw; exact (zC (zC (zC (zC (zC (zC (zC (zC P_x.out PG_x.out) PG_x.out) PG_x.out) PG_x.out) PG_x.out) PG_x.out) PG_x.out) PG_x.out)))); clear HS P_x_HS; have HS := KK; clear KK; have KK := zA (zS P_x_HV.out (show Below _ _ ww102 from (by subst hw; exact (zC (zC (zC (zC (zC (zC (zC (zC P_x.out PG_x.out) PG_x.out) PG_x.out) PG_x.out) PG_x.out) PG_x.out) PG_x.out) PG_x.out)))); clear HV P_x_HV; have HV := KK; clear KK; clear HB; have HB := zA hb; clear hb hw nem neo; clear zm_0 zm_1 zm_2 zm_3 zx_0 fx_0 zx_1 fx_1 zx_2 fx_2 zx_3 fx_3 zx_4 fx_4 zx_5 fx_5 zx_6 fx_6 zx_7 fx_7; have zm_0 : ww102.cell? ⟨gm, 0, none⟩ = some (.int .i64 a0_0) := (zD Km.out 0).trans rfl; have zm_1 : ww102.cell? ⟨gm, 1, none⟩ = some (.int .i64 a0_1) := (zD Km.out 1).trans rfl; have zm_2 : ww102.cell? ⟨gm, 2, none⟩ = some (.int .i64 a0_2) := (zD Km.out 2).trans rfl; have zm_3 : ww102.cell? ⟨gm, 3, none⟩ = some (.slice A0_3 l0_3.length c0_3) := (zD Km.out 3).trans rfl; have zx_0 : ww102.cell? ⟨gx, 0, none⟩ = some (.int .i64 x.f0) := (zD Kx.out 0).trans rfl; have zx_1 : ww102.cell? ⟨gx, 1, none⟩ = some (.int .i64 x.f1) := (zD Kx.out 1).trans rfl; have zx_2 : ww102.cell? ⟨gx, 2, none⟩ = some (.int .i64 x.f2) := (zD Kx.out 2).trans rfl; have zx_3 : ww102.cell? ⟨gx, 3, none⟩ = some (.int .i64 x.f3) := (zD Kx.out 3).trans rfl; have zx_4 : ww102.cell? ⟨gx, 4, none⟩ = some (.int .i64 x.f4) := (zD Kx.out 4).trans rfl; have zx_5 : ww102.cell? ⟨gx, 5, none⟩ = some (.int .i64 x.f5) := (zD Kx.out 5).trans rfl; have zx_6 : ww102.cell? ⟨gx, 6, none⟩ = some (.int .i64 x.f6) := (zD Kx.out 6).trans rfl; have zx_7 : ww102.cell? ⟨gx, 7, none⟩ = some (.int .i64 x.f7) := (zD Kx.out 7).trans rfl) | (go_at_call 25; refine (ray_Seen.calls k a0_0 a0_1 a0_2 _ _ l0_3 x.f1 x.f2 x.f3 x.f4 s1 s2 _ (Kd.V_reads' HS.out.vm).2.2 (Kd.V_reads' HS.out.vm).2.1 HSN.out).mono ?_; rintro e ww103 ⟨vs, rfl, hvs, hb⟩; obtain ⟨As, cs, rfl⟩ := Kd.R_slice hvs; have HSR := zA (Kd.R_lower (base' := w.heap.size) (Kd.R_mono (ok' := fun k => k ≠ gv) (Kd.R_bound hvs) (fun k hk => by have := hk.2.1; have := Kd.R_lt HV.out gv rfl; omega)) HS.out.b.size); clear hvs; have KK := zA (zI Km.out hb); clear Km; have Km := KK; clear KK; have KK := zA (zI Ko.out hb); clear Ko; have Ko := KK; clear KK; have KK := zA (zI Kx.out hb); clear Kx; have Kx := KK; clear KK; have KK := zA (sight_View.St.below HS.out hb); clear HS; have HS := KK; clear KK; have KK := zA (zS HV.out hb); clear HV; have HV := KK; clear KK; have KK := zA (zJ HB.out hb); clear HB; have HB := KK; clear KK; clear hb; clear zm_0 zm_1 zm_2 zm_3 zx_0 zx_1 zx_2 zx_3 zx_4 zx_5 zx_6 zx_7) | ((with_reducible refine gate_dst (N := 17) rfl ?_); refine box_event ?hg (N := 17) ?hd (cs := #[.slice none 0 0]) (t := 54) ?hr ?_; (case hd => rfl); (case hg => rfl); (case hr => first | (go_simp; done) | (go_simp; rfl)); intro gs hg ww104 hbox hb; have Ns_v : Aside0 (gs ≠ gv) := ⟨by have := Kd.R_lt HV.out gv rfl; omega⟩; have P_s := zA hb; have PG_s : Aside0 (_ ≤ gs) := ⟨Nat.le_of_eq hg.symm⟩; have P_s_HS := HS; have P_s_HV := HV; have P_s_HSR := HSR; have Nm_s : Aside0 (gm ≠ gs) := ⟨by have := blk_lt Km.out; omega⟩; have No_s : Aside0 (go ≠ gs) := ⟨by have := blk_lt Ko.out; omega⟩; have Nx_s : Aside0 (gx ≠ gs) := ⟨by have := blk_lt Kx.out; omega⟩; have KK := zA (zI Km.out hb); clear Km; have Km := KK; clear KK; have KK := zA (zI Ko.out hb); clear Ko; have Ko := KK; clear KK; have KK := zA (zI Kx.out hb); clear Kx; have Kx := KK; clear KK; have KK := zA (sight_View.St.below HS.out hb); clear HS; have HS := KK; clear KK; have KK := zA (zS HV.out hb); clear HV; have HV := KK; clear KK; have KK := zA (zS HSR.out hb); clear HSR; have HSR := KK; clear KK; have Gs : Aside0 (w.heap.size ≤ gs) := ⟨by have := HB.out.size; omega⟩; have Ks := zA hbox; have KK := zA (zJ HB.out hb); clear HB; have HB := KK; clear KK; clear hb hbox hg; have zs_0 : ww104.cell? ⟨gs, 0, none⟩ = some (.slice none 0 0) := (zD Ks.out 0).trans rfl; have fs_0 := zG Ks.out 0) | ((with_reducible refine gate_store (t := 54) (p := 17) rfl ?_); refine store_event (t := 54) (p := 17) (v := ?vo_ww105_12) (w1 := (ww104.setCell ⟨gs, 0, none⟩ (.slice As s1.length cs))) ?hg ?ho ?hn ?hr ?_; (case ho => rfl); (case hg => rfl); (case hn => rfl); (case hr => first | (go_simp; done) | (go_simp; rfl)); intro ww105 hw; have nem : gm ≠ gs := Nm_s.out; have neo : go ≠ gs := No_s.out; have nex : gx ≠ gs := Nx_s.out; have hb : Below w.heap.size w ww105 := (by subst hw; exact zC HB.out Gs.out); have KK := zA (show ww105.heap[gm]? = some (.cells #[.int .i64 a0_0, .int .i64 a0_1, .int .i64 a0_2, .slice A0_3 l0_3.length c0_3] 24 (0, 0)) by subst hw; exact zL Km.out nem _); clear Km; have Km := KK; clear KK; have KK := zA (show ww105.heap[go]? = some (.cells #[.slice (some ⟨gv, 0, none⟩) n cap] 31 (0, 0)) by subst hw; exact zL Ko.out neo _); clear Ko; have Ko := KK; clear KK; have KK := zA (show ww105.heap[gx]? = some (.cells #[.int .i64 x.f0, .int .i64 x.f1, .int .i64 x.f2, .int .i64 x.f3, .int .i64 x.f4, .int .i64 x.f5, .int .i64 x.f6, .int .i64 x.f7] 27 (0, 0)) by subst hw; exact zL Kx.out nex _); clear Kx; have Kx := KK; clear KK; have KK := zA (show ww105.heap[gs]? = some (.cells #[.slice As s1.length cs] 54 (0, 0)) by subst hw; exact zZ Ks.out 0 _ rfl); clear Ks; have Ks := KK; clear KK; have KK := zA (sight_View.St.below P_s_HS.out (show Below _ _ ww105 from (by subst hw; exact zC P_s.out PG_s.out))); clear HS P_s_HS; have HS := KK; clear KK; have KK := zA (zS P_s_HV.out (show Below _ _ ww105 from (by subst hw; exact zC P_s.out PG_s.out))); clear HV P_s_HV; have HV := KK; clear KK; have KK := zA (zS P_s_HSR.out (show Below _ _ ww105 from (by subst hw; exact zC P_s.out PG_s.out))); clear HSR P_s_HSR; have HSR := KK; clear KK; clear HB; have HB := zA hb; clear hb hw nem neo nex; clear zs_0 fs_0; have zs_0 : ww105.cell? ⟨gs, 0, none⟩ = some (.slice As s1.length cs) := (zD Ks.out 0).trans rfl) | (go_at_call 21; refine (sight_View.raise3 (P := fun A => sight_View.St w gm a0_0 a0_1 a0_2 l0_3 A0_3 c0_3 l1 (some ad) c1 A ∧ A.heap[gs]? = some (.cells #[.slice As s1.length cs] 54 (0, 0)) ∧ Kd.R Kd.bool 4 A w.heap.size (fun k => k ≠ gv) (.slice As s1.length cs) s1) (h := fun c => some (rdOf false s1 c)) (fun A C hb hP => ⟨hP.1.below hb, zI hP.2.1 hb, zS hP.2.2 hb⟩) (fun A i z hP => ⟨hP.1.set Gv.out Nm_v.out i z, zL hP.2.1 Ns_v.out _, Kd.R_far hP.2.2 (fun k hk => hk) _⟩) (fun A c b hP c0 c1 hb => (sight_View.c3 s1 c As cs A gs hP.2.1 (Kd.R_reads' hP.2.2).2.2 c0 (by have := HSL.out; omega)).mono (fun e W hz => ⟨hz.1.trans (by rw [Option.some.inj hb]), by rw [← hz.2]; exact Below.refl _ _⟩)) _ o o5 Ko.out HV.out HN.out.2 HOL.out ⟨HS.out, Ks.out, HSR.out⟩ HRS.out).mono ?_; rintro e w9 ⟨⟨v, rfl⟩, ⟨hS, hX⟩, hG, hV⟩; clear HS Ko HV; have HS := zA hS; have Ko := zA hG; have HV := zA hV; clear hS hX hG hV))
        go_roundg (l1.length - (i.toNat + 1))
        case measure => have := HI2.out; omega
        case rel => exact ⟨i + 1, o5, rfl, ⟨by have := HI2.out; omega⟩, HOL5, HP, HS, Ko, HV⟩

end Go.Proofs.Yteihieihoeijdaa.PA
