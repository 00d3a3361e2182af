/- The contract of route_Way: what its call comes to, for every argument, in any memory. -/
import Derived.Test.YtdmmlidgipedaaaPAx0
import Derived.Test.YtdmmlidgipedaaaPAx17
import Derived.Test.YtdmmlidgipedaaaPAx20
import Derived.Test.YtdmmlidgipedaaaGAgroundJoined
import Derived.Test.YtdmmlidgipedaaaGAgroundRegions
import Derived.Test.YtdmmlidgipedaaaGAreliefDepth
import Derived.Test.YtdmmlidgipedaaaGAreliefSlope
import Derived.Test.YtdmmlidgipedaaaGArouteCosts
import Derived.BigQuiet
import Derived.BigRegion
import Derived.WalkMore
namespace Go.Proofs.Ytdmmlidgipedaaa.PA
open Go.RowKit Go.Proofs.YtdmmlidgipedaaaW.PrintWords Go.Proofs.YtdmmlidgipedaaaW.PrintLast Go.Proofs.YtdmmlidgipedaaaW.PrintMore
set_option linter.unusedVariables false
set_option linter.unusedSimpArgs false

--import Derived.BigRegion
--import Derived.BigQuiet
--import Derived.WalkMore
/-- The next cell of a way: the first step that comes tgt what is left tgt pay. -/
def hFind (W H : Int) (l : List Bool) (all : List Int) (cur : Int) : Nat → Nat → Option Int
  | 0, _ => none
  | d + 1, i => (route_goes.f W H l cur (hSt i).1 (hSt i).2.1 (hSt i).2.2).bind fun n =>
    if 0 ≤ n then (if n < (all.length : Int) ∧ 0 ≤ cur ∧ cur < (all.length : Int) then (if wrap64 (rd all n + (hSt i).2.2) = rd all cur then some n else hFind W H l all cur d (i + 1)) else none) else hFind W H l all cur d (i + 1)
def hWay (W H : Int) (l : List Bool) (all : List Int) (tgt : Int) : Nat → Int → List Int → Option (List Int)
  | 0, _, _ => none
  | f + 1, cur, o => if cur = tgt then some o else if o.length < 1000000 then (hFind W H l all cur 8 0).bind fun n => hWay W H l all tgt f n (o ++ [n]) else none
theorem hWay_mono (W H : Int) (l : List Bool) (all : List Int) (tgt : Int) : ∀ (k : Nat) (cur : Int) (o : List Int), LeO (hWay W H l all tgt k cur o) (hWay W H l all tgt (k + 1) cur o)
  | 0, _, _ => LeO.none _
  | k + 1, _, _ => LeO.ite (LeO.refl _) (LeO.ite (LeO.bind (LeO.refl _) (fun _ => hWay_mono W H l all tgt k _ _)) (LeO.refl _))
/-- How the memory stands while a way is told. -/
structure WS (w : World) (gl ga na capa : Nat) (a0 a1 : Int) (A : Option Addr) (m c : Nat) (all : List Int) (W : World) (v : Value) (o : List Int) : Prop where
  l : W.heap[gl]? = some (.cells #[.int .i64 a0, .int .i64 a1, .slice A m c] 36 (0, 0))
  b : Below w.heap.size w W
  a : Kd.R (Kd.int .i64) 3 W w.heap.size (fun k => k = ga) (.slice (some ⟨ga, 0, none⟩) na capa) all
  o : Kd.R (Kd.int .i64) 3 W w.heap.size (fun k => k ≠ ga) v o
section
variable {w : World} {gl ga na capa : Nat} {a0 a1 : Int} {A : Option Addr} {m c : Nat} {all : List Int} {W : World} {v : Value} {o : List Int}
theorem WS.below (k : WS w gl ga na capa a0 a1 A m c all W v o) {C : World} (hb : Below W.heap.size W C) : WS w gl ga na capa a0 a1 A m c all C v o :=
  ⟨blk_below k.l hb, below_then k.b k.b.size hb, Kd.R_below k.a hb, Kd.R_below k.o hb⟩
theorem WS.drewN (k : WS w gl ga na capa a0 a1 A m c all W v o) (n : Nat) : WS w gl ga na capa a0 a1 A m c all (W.drewN n) v o :=
  k.below (pw_below_drewN (Below.refl _ _) n)
theorem WS.app (k : WS w gl ga na capa a0 a1 A m c all W v o) {C : World} (hg : W.grownBy C v.ownBlock) (hb : Below w.heap.size w C) {v' : Value} {o' : List Int} (ho : Kd.R (Kd.int .i64) 3 C w.heap.size (fun k => k ≠ ga) v' o') : WS w gl ga na capa a0 a1 A m c all C v' o' :=
  ⟨blk_grown k.l hg (fun e => by obtain ⟨cells, hc⟩ := Kd.R_typed k.o gl e.symm; exact blk_ne k.l hc (by decide) rfl), hb,
    Kd.R_grown k.a hg (fun x hx => fun e => ((Kd.R_bound k.o).1 x e.symm).1 hx), ho⟩
end

def route_Way.f (k : Nat) (a0_0 : Int) (a0_1 : Int) (l0_2 : List Bool) (a1 : Int) (a2 : Int) (a3 : Int) : Option (List Int × Int) := (route_Cost.f k a0_0 a0_1 l0_2 a1 a2).bind fun c => if c.2 = 0 then (if c.1 > a3 then some ([], 10) else (route_Costs.f k a0_0 a0_1 l0_2 a2).bind fun al => if 1 ≤ al.1.length ∧ al.1.length ≤ 4096 then (hWay a0_0 a0_1 l0_2 al.1 a2 k a1 [a1]).bind fun o => some (o, 0) else none) else some ([], c.2)
theorem route_Way.mono : ∀ y0 y1 y2 y3 y4 y5 k, LeO (route_Way.f k y0 y1 y2 y3 y4 y5) (route_Way.f (k + 1) y0 y1 y2 y3 y4 y5) := by
  intro y0 y1 y2 y3 y4 y5 k
  exact LeO.bind (route_Cost.mono _ _ _ _ _ _) (fun _ => LeO.ite (LeO.ite (LeO.refl _) (LeO.bind (route_Costs.mono _ _ _ _ _) (fun _ => LeO.ite (LeO.bind (hWay_mono _ _ _ _ _ _ _ _) (fun _ => LeO.refl _)) (LeO.refl _)))) (LeO.refl _))
set_option maxHeartbeats 16000000 in
set_option maxRecDepth 100000 in
theorem route_Way.calls (k : Nat) (a0_0 : Int) (a0_1 : Int) (A0_2 : Option Addr) (c0_2 : Nat) (l0_2 : List Bool) (a1 : Int) (a2 : Int) (a3 : Int) (r1 : List Int) (r2 : Int) (w : World) (hr0_2 : Kd.C Kd.bool w A0_2 l0_2.length l0_2) (hc0_2 : l0_2.length ≤ c0_2) (h : route_Way.f k a0_0 a0_1 l0_2 a1 a2 a3 = some (r1, r2)) :
    Calls Try.prog 8 #[.agg #[.int .i64 a0_0, .int .i64 a0_1, .slice A0_2 l0_2.length c0_2], .int .i64 a1, .int .i64 a2, .int .i64 a3] w fun e w' => ∃ v0_ : Value, e = .returned (.tuple #[v0_, .int .i64 r2]) ∧ Kd.R (Kd.int .i64) 3 w' w.heap.size (fun _ => True) v0_ r1 ∧ Below w.heap.size w w' := by
  have HR := Aside0.mk hr0_2
  have HC := Aside0.mk hc0_2
  have HB := Aside0.mk (Below.refl w.heap.size w)
  unfold route_Way.f at h
  replace h := Option.bind_eq_some_iff.1 h
  obtain ⟨⟨c1, c2⟩, ht, h⟩ := h
  have HT := Aside0.mk ht
  clear hr0_2 hc0_2 ht
  dsimp only at h
  by_cases e0 : c2 = 0
  rotate_left
  · rw [if_neg e0] at h
    have b0 : (c2 == 0) = false := beq_eq_false_iff_ne.mpr e0
    have b1 : (c2 != 0) = true := bne_iff_ne.mpr e0
    have hz : [] = r1 ∧ c2 = r2 := by simpa using h
    obtain ⟨rfl, rfl⟩ := hz
    clear h
    go_enter Try.func8, Try.ntmps8
    go_wp2_with (first | ((with_reducible refine gate_dst (N := 4) rfl ?_); refine box_event ?hg (N := 4) ?hd (cs := #[.int .i64 a0_0, .int .i64 a0_1, .slice A0_2 l0_2.length c0_2]) (t := 36) ?hr ?_; (case hd => rfl); (case hg => rfl); (case hr => first | (go_simp; done) | (go_simp; rfl)); intro gl hg ww1 hbox hb; have Gl : Aside0 (w.heap.size ≤ gl) := ⟨by have := HB.out.size; omega⟩; have Kl := Aside0.mk hbox; have KK := Aside0.mk (below_step HB.out hb); clear HB; have HB := KK; clear KK; clear hb hbox hg; have zl_0 : ww1.cell? ⟨gl, 0, none⟩ = some (.int .i64 a0_0) := (blk_cell Kl.out 0).trans rfl; have fl_0 := blk_frozen Kl.out 0; have zl_1 : ww1.cell? ⟨gl, 1, none⟩ = some (.int .i64 a0_1) := (blk_cell Kl.out 1).trans rfl; have fl_1 := blk_frozen Kl.out 1; have zl_2 : ww1.cell? ⟨gl, 2, none⟩ = some (.slice A0_2 l0_2.length c0_2) := (blk_cell Kl.out 2).trans rfl; have fl_2 := blk_frozen Kl.out 2))
    go_step3
    go_wp2_with (first | (go_at_call 7; refine (route_Cost.calls k a0_0 a0_1 _ _ l0_2 a1 a2 c1 _ _ (Kd.C_below HR.out HB.out) HC.out HT.out).mono ?_; rintro e ww2 ⟨rfl, hb⟩; have KK := Aside0.mk (blk_below Kl.out hb); clear Kl; have Kl := KK; clear KK; have KK := Aside0.mk (below_step HB.out hb); clear HB; have HB := KK; clear KK; clear hb; clear zl_0 fl_0 zl_1 fl_1 zl_2 fl_2; have zl_0 : ww2.cell? ⟨gl, 0, none⟩ = some (.int .i64 a0_0) := (blk_cell Kl.out 0).trans rfl; have zl_1 : ww2.cell? ⟨gl, 1, none⟩ = some (.int .i64 a0_1) := (blk_cell Kl.out 1).trans rfl; have zl_2 : ww2.cell? ⟨gl, 2, none⟩ = some (.slice A0_2 l0_2.length c0_2) := (blk_cell Kl.out 2).trans rfl))
    rw [Exit.noGoto_ret]
    go_ret2
    exact ⟨_, rfl, Kd.R_nil _ _ _ _ _, HB.out⟩
  subst e0
  rw [if_pos rfl] at h
  by_cases e1 : c1 > a3
  · rw [if_pos e1] at h
    have d1 : decide (a3 < c1) = true := decide_eq_true e1
    clear e1
    have hz : [] = r1 ∧ 10 = r2 := by simpa using h
    obtain ⟨rfl, rfl⟩ := hz
    clear h
    go_enter Try.func8, Try.ntmps8
    go_wp2_with (first | ((with_reducible refine gate_dst (N := 4) rfl ?_); refine box_event ?hg (N := 4) ?hd (cs := #[.int .i64 a0_0, .int .i64 a0_1, .slice A0_2 l0_2.length c0_2]) (t := 36) ?hr ?_; (case hd => rfl); (case hg => rfl); (case hr => first | (go_simp; done) | (go_simp; rfl)); intro gl hg ww1 hbox hb; have Gl : Aside0 (w.heap.size ≤ gl) := ⟨by have := HB.out.size; omega⟩; have Kl := Aside0.mk hbox; have KK := Aside0.mk (below_step HB.out hb); clear HB; have HB := KK; clear KK; clear hb hbox hg; have zl_0 : ww1.cell? ⟨gl, 0, none⟩ = some (.int .i64 a0_0) := (blk_cell Kl.out 0).trans rfl; have fl_0 := blk_frozen Kl.out 0; have zl_1 : ww1.cell? ⟨gl, 1, none⟩ = some (.int .i64 a0_1) := (blk_cell Kl.out 1).trans rfl; have fl_1 := blk_frozen Kl.out 1; have zl_2 : ww1.cell? ⟨gl, 2, none⟩ = some (.slice A0_2 l0_2.length c0_2) := (blk_cell Kl.out 2).trans rfl; have fl_2 := blk_frozen Kl.out 2))
    go_step3
    go_wp2_with (first | (go_at_call 7; refine (route_Cost.calls k a0_0 a0_1 _ _ l0_2 a1 a2 c1 _ _ (Kd.C_below HR.out HB.out) HC.out HT.out).mono ?_; rintro e ww2 ⟨rfl, hb⟩; have KK := Aside0.mk (blk_below Kl.out hb); clear Kl; have Kl := KK; clear KK; have KK := Aside0.mk (below_step HB.out hb); clear HB; have HB := KK; clear KK; clear hb; clear zl_0 fl_0 zl_1 fl_1 zl_2 fl_2; have zl_0 : ww2.cell? ⟨gl, 0, none⟩ = some (.int .i64 a0_0) := (blk_cell Kl.out 0).trans rfl; have zl_1 : ww2.cell? ⟨gl, 1, none⟩ = some (.int .i64 a0_1) := (blk_cell Kl.out 1).trans rfl; have zl_2 : ww2.cell? ⟨gl, 2, none⟩ = some (.slice A0_2 l0_2.length c0_2) := (blk_cell Kl.out 2).trans rfl))
    rw [Exit.noGoto_ret]
    go_ret2
    exact ⟨_, rfl, Kd.R_nil _ _ _ _ _, HB.out⟩
  rw [if_neg e1] at h
  have d1 : decide (a3 < c1) = false := decide_eq_false e1
  clear e1
  replace h := Option.bind_eq_some_iff.1 h
  obtain ⟨⟨all, ae⟩, ha, h⟩ := h
  dsimp only at h
  by_cases hn : 1 ≤ all.length ∧ all.length ≤ 4096
  rotate_left
  · rw [if_neg hn] at h; cases h
  rw [if_pos hn] at h
  replace h := Option.bind_eq_some_iff.1 h
  obtain ⟨o, ho, h⟩ := h
  have hz : o = r1 ∧ 0 = r2 := by simpa using h
  obtain ⟨rfl, rfl⟩ := hz
  have HA := Aside0.mk ha
  have HN := Aside0.mk hn
  have HO := Aside0.mk ho
  clear h ha hn ho
  go_enter Try.func8, Try.ntmps8
  go_wp2_with (first | ((with_reducible refine gate_dst (N := 4) rfl ?_); refine box_event ?hg (N := 4) ?hd (cs := #[.int .i64 a0_0, .int .i64 a0_1, .slice A0_2 l0_2.length c0_2]) (t := 36) ?hr ?_; (case hd => rfl); (case hg => rfl); (case hr => first | (go_simp; done) | (go_simp; rfl)); intro gl hg ww1 hbox hb; have Gl : Aside0 (w.heap.size ≤ gl) := ⟨by have := HB.out.size; omega⟩; have Kl := Aside0.mk hbox; have KK := Aside0.mk (below_step HB.out hb); clear HB; have HB := KK; clear KK; clear hb hbox hg; have zl_0 : ww1.cell? ⟨gl, 0, none⟩ = some (.int .i64 a0_0) := (blk_cell Kl.out 0).trans rfl; have fl_0 := blk_frozen Kl.out 0; have zl_1 : ww1.cell? ⟨gl, 1, none⟩ = some (.int .i64 a0_1) := (blk_cell Kl.out 1).trans rfl; have fl_1 := blk_frozen Kl.out 1; have zl_2 : ww1.cell? ⟨gl, 2, none⟩ = some (.slice A0_2 l0_2.length c0_2) := (blk_cell Kl.out 2).trans rfl; have fl_2 := blk_frozen Kl.out 2))
  go_step3
  go_wp2_with (first | (go_at_call 7; refine (route_Cost.calls k a0_0 a0_1 _ _ l0_2 a1 a2 c1 _ _ (Kd.C_below HR.out HB.out) HC.out HT.out).mono ?_; rintro e ww2 ⟨rfl, hb⟩; have KK := Aside0.mk (blk_below Kl.out hb); clear Kl; have Kl := KK; clear KK; have KK := Aside0.mk (below_step HB.out hb); clear HB; have HB := KK; clear KK; clear hb; clear zl_0 fl_0 zl_1 fl_1 zl_2 fl_2; have zl_0 : ww2.cell? ⟨gl, 0, none⟩ = some (.int .i64 a0_0) := (blk_cell Kl.out 0).trans rfl; have zl_1 : ww2.cell? ⟨gl, 1, none⟩ = some (.int .i64 a0_1) := (blk_cell Kl.out 1).trans rfl; have zl_2 : ww2.cell? ⟨gl, 2, none⟩ = some (.slice A0_2 l0_2.length c0_2) := (blk_cell Kl.out 2).trans rfl) | (go_at_call 12; refine (route_Costs.calls k a0_0 a0_1 _ _ l0_2 a2 all ae _ (Kd.C_below HR.out HB.out) HC.out HA.out).mono ?_; rintro e ww3 ⟨va, rfl, hva, hb⟩; obtain ⟨ga, capa, eva, _⟩ := Kd.R_form hva (Nat.lt_of_lt_of_le Nat.zero_lt_one HN.out.1); subst eva; have hV0 : Kd.R (Kd.int .i64) 3 ww3 _ (fun k => k = ga) (.slice (some ⟨ga, 0, none⟩) all.length capa) all := Kd.R_of_own (Kd.own_of_R hva) (fun k hk => (by simpa [Value.ownBlock] using hk.symm)); have HV := Aside0.mk (Kd.R_lower (base' := w.heap.size) hV0 HB.out.size); clear hV0 hva; have KK := Aside0.mk (blk_below Kl.out hb); clear Kl; have Kl := KK; clear KK; have KK := Aside0.mk (below_step HB.out hb); clear HB; have HB := KK; clear KK; clear hb; clear zl_0 zl_1 zl_2; have zl_0 : ww3.cell? ⟨gl, 0, none⟩ = some (.int .i64 a0_0) := (blk_cell Kl.out 0).trans rfl; have zl_1 : ww3.cell? ⟨gl, 1, none⟩ = some (.int .i64 a0_1) := (blk_cell Kl.out 1).trans rfl; have zl_2 : ww3.cell? ⟨gl, 2, none⟩ = some (.slice A0_2 l0_2.length c0_2) := (blk_cell Kl.out 2).trans rfl) | ((with_reducible refine gate_dst (N := 39) rfl ?_); refine Kd.R_lit (Kd.int .i64) _ 3 ?hg (N := 39) ?hd (xs := ([a1] : List Int)) (inner := [.int .i64 a1]) (ok := fun k => k ≠ ga) (okp := fun _ => False) ?hr ?hp (fun _ hk => hk.elim) (Nat.ne_of_gt (Kd.R_lt HV.out ga rfl)) (Below.refl _ _) (Nat.le_refl _) (by simp) ?_; (case hd => rfl); (case hg => rfl); (case hr => first | (go_simp; done) | (go_simp; rfl)); (case hp => exact Reps.one (show Kd.M (Kd.int .i64) _ _ _ a1 [.int .i64 a1] from rfl) (Reps.none _ _)); intro v1 w7 ho hb hg_ hnew_; have HWS : Aside0 (WS w gl ga all.length capa a0_0 a0_1 A0_2 l0_2.length c0_2 all w7 v1 [a1]) := ⟨⟨blk_below Kl.out hb, below_step HB.out hb, Kd.R_below HV.out hb, Kd.R_lower (base' := w.heap.size) ho HB.out.size⟩⟩; clear ho hb hg_ hnew_ Kl HB HV zl_0 zl_1 zl_2))
  go_step3
  go_wp2
  go_loopg [14, 15] k (fun kq v14 v15 w' => ∃ (cur : Int) (oq : List Int), v15 = .int .i64 cur ∧ Aside0 (hWay a0_0 a0_1 l0_2 all a2 kq cur oq = some o) ∧ Aside0 (WS w gl ga all.length capa a0_0 a0_1 A0_2 l0_2.length c0_2 all w' v14 oq))
  case atStart => exact ⟨a1, [a1], rfl, HO, HWS⟩
  case round =>
    clear HO HWS
    obtain ⟨cur, oq, rfl, HO, HWS⟩ := hrel
    generalize u14 = vq at HWS ⊢
    obtain ⟨d, hd⟩ : ∃ d, gk = d + 1 := by
      cases gk
      · have h := HO.out; simp [hWay] at h
      · exact ⟨_, rfl⟩
    have ho := HO.out
    rw [hd] at ho
    have HD := Aside0.mk hd
    simp only [hWay] at ho
    clear hd HO
    by_cases hc : cur = a2
    · rw [if_pos hc] at ho
      obtain rfl := Option.some.inj ho
      have b0 : (cur != a2) = false := by simp [hc]
      clear ho hc
      go_wp2
      rw [Exit.noGoto_ret]
      go_ret2
      exact ⟨_, rfl, Kd.R_mono HWS.out.o (fun _ _ => trivial), HWS.out.b⟩
    rw [if_neg hc] at ho
    have b0 : (cur != a2) = true := by simp [hc]
    by_cases hq : oq.length < 1000000
    rotate_left
    · rw [if_neg hq] at ho; cases ho
    rw [if_pos hq] at ho
    replace ho := Option.bind_eq_some_iff.1 ho
    obtain ⟨nx, hf, ho⟩ := ho
    have HF := Aside0.mk hf
    have HO := Aside0.mk ho
    have HQ := Aside0.mk hq
    clear hc hq hf ho
    go_wp2_with (go_at_call 13; refine (hSteps_calls _).mono ?_; rintro e w6 ⟨rfl, hb⟩; have HWT := Aside0.mk (HWS.out.below hb); clear hb HWS)
    go_loopg [14, 15, 45] 8 (fun kq v14 v15 v45 w' => ∃ i : Nat, v14 = vq ∧ v15 = .int .i64 cur ∧ v45 = .int .i64 (i : Int) ∧ Aside0 (kq + i = 8) ∧ Aside0 (hFind a0_0 a0_1 l0_2 all cur kq i = some nx) ∧ Aside0 (WS w gl ga all.length capa a0_0 a0_1 A0_2 l0_2.length c0_2 all w' vq oq))
    case atStart => exact ⟨0, rfl, rfl, rfl, ⟨rfl⟩, HF, HWT⟩
    case round =>
      clear HF HWT
      obtain ⟨i, rfl, rfl, rfl, HI, HF, HWS⟩ := hrel
      by_cases hi : i < 8
      rotate_left
      · exfalso
        have h := HF.out
        rw [show gk = 0 by have := HI.out; omega] at h
        simp [hFind] at h
      have e8 : decide (i < 8) = true := decide_eq_true hi
      have e9 : decide ((i : Int) < 8) = true := decide_eq_true (by omega)
      have hix := hIx i hi
      obtain ⟨d2, hd2⟩ : ∃ d2, gk = d2 + 1 := ⟨gk - 1, by have := HI.out; omega⟩
      have hin := HF.out
      rw [hd2] at hin
      simp only [hFind] at hin
      obtain ⟨⟨s0, s1, s2⟩, hst⟩ : ∃ s, hSt i = s := ⟨_, rfl⟩
      rw [hst] at hin hix
      dsimp only at hin hix
      replace hin := Option.bind_eq_some_iff.1 hin
      obtain ⟨m, hm, hin⟩ := hin
      have HGO := Aside0.mk hm
      have HIN := Aside0.mk hin
      have HI2 := Aside0.mk (And.intro hi hd2)
      have w1_ : wrap64 ((i : Int) + 1) = ((i + 1 : Nat) : Int) := by have := HI2.out.1; unfold wrap64; omega
      have w2_ : IntKind.i64.wrap ((i : Int) + 1) = ((i + 1 : Nat) : Int) := by rw [i64_w]; exact w1_
      clear hi hd2 hst hm hin HF
      go_upto_region 13 with fail
      clear hix e8 e9
      obtain ⟨gs, hgs⟩ : ∃ gs, gs = wr.heap.size := ⟨_, rfl⟩
      rw [← hgs]
      have HW7 := Aside0.mk (HWS.out.below (below_alloc (Below.refl _ _) (.cells #[.int .i64 s0, .int .i64 s1, .int .i64 s2] 47)))
      have Ks7 : Aside0 ((wr.alloc (.cells #[.int .i64 s0, .int .i64 s1, .int .i64 s2] 47)).heap[gs]? = some (.cells #[.int .i64 s0, .int .i64 s1, .int .i64 s2] 47 (0, 0))) := ⟨by rw [hgs]; exact heap_alloc_new wr _⟩
      clear hgs HWS
      generalize wr.alloc (.cells #[.int .i64 s0, .int .i64 s1, .int .i64 s2] 47) = w7 at HW7 Ks7 ⊢
      have zl_0 : w7.cell? ⟨gl, 0, none⟩ = some (.int .i64 a0_0) := (blk_cell HW7.out.l 0).trans rfl
      have zl_1 : w7.cell? ⟨gl, 1, none⟩ = some (.int .i64 a0_1) := (blk_cell HW7.out.l 1).trans rfl
      have zl_2 : w7.cell? ⟨gl, 2, none⟩ = some (.slice A0_2 l0_2.length c0_2) := (blk_cell HW7.out.l 2).trans rfl
      have zs0 : w7.cell? ⟨gs, 0, none⟩ = some (.int .i64 s0) := (blk_cell Ks7.out 0).trans rfl
      have zs1 : w7.cell? ⟨gs, 1, none⟩ = some (.int .i64 s1) := (blk_cell Ks7.out 1).trans rfl
      have zs2 : w7.cell? ⟨gs, 2, none⟩ = some (.int .i64 s2) := (blk_cell Ks7.out 2).trans rfl
      go_upto_region 14 with (go_at_call 14; refine (route_goes.calls a0_0 a0_1 _ _ l0_2 cur s0 s1 s2 m _ (Kd.C_below HR.out HW7.out.b) HC.out HGO.out).mono ?_; rintro e w8 ⟨rfl, hb⟩; have HW8 := Aside0.mk (HW7.out.below hb); have Ks8 := Aside0.mk (blk_below Ks7.out hb); clear hb HW7 Ks7 zl_0 zl_1 zl_2 zs0 zs1 zs2)
      have hin := HIN.out
      clear HIN
      by_cases h0 : 0 ≤ m
      rotate_left
      · rw [if_neg h0] at hin
        have d6 : decide (0 ≤ m) = false := decide_eq_false h0
        have HF3 := Aside0.mk hin
        clear hin h0
        refine wp_region_quiet_lit (by kernel_rfl) (by as_aux_lemma => kernel_rfl) ?_
        repeat (go_big_quiet_step (fail))
        refine wpQuiet_nil ?_
        rintro w9 ⟨nn, rfl⟩
        have HW9 := Aside0.mk (HW8.out.drewN nn)
        go_wp2
        go_roundg d2
        case measure => rw [HI2.out.2]; exact Nat.lt_succ_self d2
        case rel => exact ⟨i + 1, rfl, rfl, by first | rfl | rw [w1_], ⟨by have h1 := HI.out; have h2 := HI2.out.2; omega⟩, HF3, HW9⟩
      rw [if_pos h0] at hin
      have d6 : decide (0 ≤ m) = true := decide_eq_true h0
      by_cases h1 : m < (all.length : Int) ∧ 0 ≤ cur ∧ cur < (all.length : Int)
      rotate_left
      · rw [if_neg h1] at hin; cases hin
      rw [if_pos h1] at hin
      obtain ⟨h1, h2, h3⟩ := h1
      obtain ⟨vx, hvx⟩ : ∃ x, rdOf 0 all m = x := ⟨_, rfl⟩
      obtain ⟨vc, hvc⟩ : ∃ x, rdOf 0 all cur = x := ⟨_, rfl⟩
      have x0 := (Kd.R_celln 0 HW8.out.a m h0 h1).1
      have x1 := (Kd.R_celln 0 HW8.out.a cur h2 h3).1
      rw [hvx] at x0
      rw [hvc] at x1
      rw [show rd all m = vx from hvx, show rd all cur = vc from hvc] at hin
      obtain ⟨sx, hsx⟩ : ∃ x, wrap64 (vx + s2) = x := ⟨_, rfl⟩
      rw [hsx] at hin
      have hsx2 : IntKind.i64.wrap (vx + s2) = sx := by rw [i64_w]; exact hsx
      have zs2 : w8.cell? ⟨gs, 2, none⟩ = some (.int .i64 s2) := (blk_cell Ks8.out 2).trans rfl
      clear hvx hvc
      by_cases hv : sx = vc
      rotate_left
      · rw [if_neg hv] at hin
        have d7 : (sx == vc) = false := beq_eq_false_iff_ne.mpr hv
        have HF3 := Aside0.mk hin
        clear hin hv
        refine wp_region_quiet_lit (by kernel_rfl) (by as_aux_lemma => kernel_rfl) ?_
        repeat (go_big_quiet_step (fail))
        refine wpQuiet_nil ?_
        rintro w9 ⟨nn, rfl⟩
        have HW9 := Aside0.mk (HW8.out.drewN nn)
        go_wp2
        go_roundg d2
        case measure => rw [HI2.out.2]; exact Nat.lt_succ_self d2
        case rel => exact ⟨i + 1, rfl, rfl, by first | rfl | rw [w1_], ⟨by have h1 := HI.out; have h2 := HI2.out.2; omega⟩, HF3, HW9⟩
      rw [if_pos hv] at hin
      have d7 : (sx == vc) = true := beq_iff_eq.mpr hv
      have hmn := Option.some.inj hin
      have HMN := Aside0.mk hmn
      clear hin hv hmn
      refine wp_region_quiet_lit (by kernel_rfl) (by as_aux_lemma => kernel_rfl) ?_
      repeat (go_big_quiet_step (fail))
      refine wpQuiet_nil ?_
      rintro w9 ⟨nn, rfl⟩
      have HW9 := Aside0.mk (HW8.out.drewN nn)
      obtain ⟨w10, hw10⟩ : ∃ w10, w10 = w8.drewN nn := ⟨_, rfl⟩
      rw [← hw10] at HW9 ⊢
      clear hw10 HW8 Ks8 x0 x1 zs2
      go_wp2_with ((with_reducible refine gate_builtin (b := .append) (xs := #[.tmp 68, .tmp 70]) rfl ?_); (try (refine gate_guard (by rfl) ?_; dsimp only)); at_builtin; refine Kd.R_append (Kd.int .i64) (w0 := w) w.heap.size rfl (.tmp 68) (.tmp 70) 37 3 (.int .i64 0) 8 rfl Try.underlying37 hInfoI rfl (by decide) (by omega) _ oq m [.int .i64 m] (fun k => k ≠ ga) (fun _ => False) rfl rfl ?aP (fun _ hk => hk.elim) ?aF ?aO ?aB ?aS ?aL ?_; (case aP => exact rfl); (case aB => exact HW9.out.b); (case aF => exact (fun x hx => by have := Kd.R_lt HW9.out.a ga rfl; omega)); (case aO => exact HW9.out.o); (case aS => exact HW9.out.b.size); (case aL => have := HQ.out; omega); intro v20 w11 ho hb hg hat; have HW11 := Aside0.mk (HW9.out.app hg hb ho); clear ho hb hg hat HW9)
      go_roundg d
      case measure => rw [HD.out]; exact Nat.lt_succ_self d
      case rel => exact ⟨m, oq ++ [m], rfl, by rw [HMN.out]; exact HO, HW11⟩

end Go.Proofs.Ytdmmlidgipedaaa.PA
