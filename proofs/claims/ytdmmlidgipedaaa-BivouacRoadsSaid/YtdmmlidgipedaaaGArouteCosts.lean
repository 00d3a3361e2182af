/- The contract of route_Costs: what its call comes to, for every argument, in any memory. -/
import Derived.Test.YtdmmlidgipedaaaPAx0
import Derived.Test.YtdmmlidgipedaaaPAx17
import Derived.Test.YtdmmlidgipedaaaPAx18
import Derived.Test.YtdmmlidgipedaaaGAgroundJoined
import Derived.Test.YtdmmlidgipedaaaGAgroundRegions
import Derived.Test.YtdmmlidgipedaaaGAreliefDepth
import Derived.Test.YtdmmlidgipedaaaGAreliefSlope
import Derived.BigQuiet
import Derived.BigRegion
import Derived.Deep.RegionHeld3
import Derived.Deep.RegionLaw
import Derived.Laws.CopyOwn
import Derived.StillTailTactics
import Derived.WalkMore
import Derived.Test.YtdmmlidgipedaaaGArouteHeapB
namespace Go.Proofs.Ytdmmlidgipedaaa.PA
open Go.RowKit Go.Proofs.YtdmmlidgipedaaaW.PrintWords Go.Proofs.YtdmmlidgipedaaaW.PrintLast Go.Proofs.YtdmmlidgipedaaaW.PrintMore
set_option linter.unusedVariables false
set_option linter.unusedSimpArgs false
def hSt : Nat → Int × Int × Int
  | 0 => (1, 0, 2)
  | 1 => (1, 1, 3)
  | 2 => (0, 1, 2)
  | 3 => (-1, 1, 3)
  | 4 => (-1, 0, 2)
  | 5 => (-1, -1, 3)
  | 6 => (0, -1, 2)
  | _ => (1, -1, 3)
abbrev hStv : Value := .agg #[.int .i64 1, .int .i64 0, .int .i64 2, .int .i64 1, .int .i64 1, .int .i64 3, .int .i64 0, .int .i64 1, .int .i64 2, .int .i64 (-1), .int .i64 1, .int .i64 3, .int .i64 (-1), .int .i64 0, .int .i64 2, .int .i64 (-1), .int .i64 (-1), .int .i64 3, .int .i64 0, .int .i64 (-1), .int .i64 2, .int .i64 1, .int .i64 (-1), .int .i64 3]
set_option maxHeartbeats 8000000 in
set_option maxRecDepth 100000 in
theorem hSteps_calls (w : World) : Calls Try.prog 13 #[] w fun e w' => e = .returned hStv ∧ Below w.heap.size w w' := by
  have HB := Aside0.mk (Below.refl w.heap.size w)
  go_enter Try.func13, Try.ntmps13
  go_wp2_with (first | ((with_reducible refine gate_dst (N := 0) rfl ?_); refine box_event ?hg (N := 0) ?hd (cs := #[.int .i64 0, .int .i64 0, .int .i64 0, .int .i64 0, .int .i64 0, .int .i64 0, .int .i64 0, .int .i64 0, .int .i64 0, .int .i64 0, .int .i64 0, .int .i64 0, .int .i64 0, .int .i64 0, .int .i64 0, .int .i64 0, .int .i64 0, .int .i64 0, .int .i64 0, .int .i64 0, .int .i64 0, .int .i64 0, .int .i64 0, .int .i64 0]) (t := 48) ?hr ?_; (case hd => rfl); (case hg => rfl); (case hr => first | (go_simp; done) | (go_simp; rfl)); intro gs hg ww1 hbox hb; have Gs : Aside0 (w.heap.size ≤ gs) := ⟨by have := HB.out.size; omega⟩; have Ks := Aside0.mk hbox; have KK := Aside0.mk (below_step HB.out hb); clear HB; have HB := KK; clear KK; clear hb hbox hg) | ((with_reducible refine gate_store (t := 48) (p := 0) rfl ?_); refine wpList_store_row rfl 48 (.tmp 0) (.tmp 9) rfl gs #[.int .i64 1, .int .i64 0, .int .i64 2, .int .i64 1, .int .i64 1, .int .i64 3, .int .i64 0, .int .i64 1, .int .i64 2, .int .i64 (-1), .int .i64 1, .int .i64 3, .int .i64 (-1), .int .i64 0, .int .i64 2, .int .i64 (-1), .int .i64 (-1), .int .i64 3, .int .i64 0, .int .i64 (-1), .int .i64 2, .int .i64 1, .int .i64 (-1), .int .i64 3] rfl rfl 48 #[.int .i64 0, .int .i64 0, .int .i64 0, .int .i64 0, .int .i64 0, .int .i64 0, .int .i64 0, .int .i64 0, .int .i64 0, .int .i64 0, .int .i64 0, .int .i64 0, .int .i64 0, .int .i64 0, .int .i64 0, .int .i64 0, .int .i64 0, .int .i64 0, .int .i64 0, .int .i64 0, .int .i64 0, .int .i64 0, .int .i64 0, .int .i64 0] Ks.out (by kernel_rfl) rfl (by kernel_rfl) ?_; have KK := Aside0.mk (setRow_heap _ gs _ #[.int .i64 1, .int .i64 0, .int .i64 2, .int .i64 1, .int .i64 1, .int .i64 3, .int .i64 0, .int .i64 1, .int .i64 2, .int .i64 (-1), .int .i64 1, .int .i64 3, .int .i64 (-1), .int .i64 0, .int .i64 2, .int .i64 (-1), .int .i64 (-1), .int .i64 3, .int .i64 0, .int .i64 (-1), .int .i64 2, .int .i64 1, .int .i64 (-1), .int .i64 3] _ _ Ks.out); clear Ks; have Ks := KK; clear KK; have KK := Aside0.mk (below_setRow HB.out Gs.out #[.int .i64 1, .int .i64 0, .int .i64 2, .int .i64 1, .int .i64 1, .int .i64 3, .int .i64 0, .int .i64 1, .int .i64 2, .int .i64 (-1), .int .i64 1, .int .i64 3, .int .i64 (-1), .int .i64 0, .int .i64 2, .int .i64 (-1), .int .i64 (-1), .int .i64 3, .int .i64 0, .int .i64 (-1), .int .i64 2, .int .i64 1, .int .i64 (-1), .int .i64 3]); clear HB; have HB := KK; clear KK))
  refine bodyPost_ret (results_cell_row rfl _ _ gs 48 #[.int .i64 1, .int .i64 0, .int .i64 2, .int .i64 1, .int .i64 1, .int .i64 3, .int .i64 0, .int .i64 1, .int .i64 2, .int .i64 (-1), .int .i64 1, .int .i64 3, .int .i64 (-1), .int .i64 0, .int .i64 2, .int .i64 (-1), .int .i64 (-1), .int .i64 3, .int .i64 0, .int .i64 (-1), .int .i64 2, .int .i64 1, .int .i64 (-1), .int .i64 3] (0, 0) _ rfl Ks.out (by kernel_rfl : Try.prog.underlying 48 = some (.array 8 47)) rfl (by kernel_rfl)) rfl ?_
  exact ⟨rfl, HB.out⟩

theorem hIx (i : Nat) (hi : i < 8) (W : World) : Sem.run Try.prog (Instr.index 48 hStv (.int .i64 (i : Int))) W = .ok (.agg #[.int .i64 (hSt i).1, .int .i64 (hSt i).2.1, .int .i64 (hSt i).2.2]) W := by
  rcases (by omega : i = 0 ∨ i = 1 ∨ i = 2 ∨ i = 3 ∨ i = 4 ∨ i = 5 ∨ i = 6 ∨ i = 7) with rfl | rfl | rfl | rfl | rfl | rfl | rfl | rfl <;> kernel_rfl
set_option maxHeartbeats 4000000 in
set_option maxRecDepth 100000 in
theorem hNew_calls (w : World) : Calls Try.prog 21 #[hNum] w fun e w' => ∃ gh gn, e = .returned (.pointer (some ⟨gh, 0, none⟩)) ∧ HS w' w.heap.size gh gn (.slice none 0 0) [] ∧ w.heap.size ≤ gh ∧ w.heap.size ≤ gn ∧ Below w.heap.size w w' := by
  have HB := Aside0.mk (Below.refl w.heap.size w)
  have hmf : ∀ (fn : Fn) (first cap : Array Value) (w : World), (Instr.makeFunc fn first cap).run Try.prog w = .ok (.func fn first cap) w := fun _ _ _ _ => rfl
  go_enter Try.func21, Try.ntmps21
  go_wp2_with (first | ((with_reducible refine gate_dst (N := 1) rfl ?_); refine box_event ?hg (N := 1) ?hd (cs := #[hNum]) (t := 62) ?hr ?_; (case hd => rfl); (case hg => rfl); (case hr => first | (go_simp; done) | (go_simp; rfl)); intro gn hgn w1 hbox hb; have GN : Aside0 (w.heap.size ≤ gn) := ⟨Nat.le_of_eq hgn.symm⟩; have K := Aside0.mk (below_step HB.out hb); clear HB; have HB := K; clear K; have KN := Aside0.mk hbox; clear hb hbox hgn) | ((with_reducible refine gate_dst (N := 5) rfl ?_); refine box_event ?hg2 (N := 5) ?hd2 (cs := #[.slice none 0 0, hLess gn]) (t := 67) ?hr2 ?_; (case hd2 => rfl); (case hg2 => rfl); (case hr2 => first | (go_simp; done) | (go_simp; rfl)); intro gh hgh w2 hbox hb; have GH : Aside0 (w.heap.size ≤ gh) := ⟨by have := HB.out.size; omega⟩; have K := Aside0.mk (below_step HB.out hb); clear HB; have HB := K; clear K; have K := Aside0.mk (blk_below KN.out hb); clear KN; have KN := K; clear K; have KH := Aside0.mk hbox; clear hb hbox hgh))
  go_ret
  exact ⟨gh, gn, rfl, ⟨KH.out, KN.out, HRow.nil _ _⟩, GH.out, GN.out, HB.out⟩

/-- The steps from a cell that is taken out: those of its neighbours that have no cost yet wait. -/
def hIn (W H : Int) (l : List Bool) (cell cost : Int) (out : List Int) : Nat → Nat → List (Int × Int) → Option (List (Int × Int))
  | 0, _, h => some h
  | d + 1, i, h => (route_goes.f W H l cell (hSt i).1 (hSt i).2.1 (hSt i).2.2).bind fun n =>
    if 0 ≤ n then (if n < (out.length : Int) then (if rd out n < 0 then (if h.length < 999999 ∧ 0 ≤ cost ∧ cost ≤ 1000000 then hIn W H l cell cost out d (i + 1) (hPush h (n, cost + (hSt i).2.2)) else none) else hIn W H l cell cost out d (i + 1) h) else none) else hIn W H l cell cost out d (i + 1) h
def hOut (W H : Int) (l : List Bool) : Nat → List (Int × Int) → List Int → Option (List Int)
  | 0, _, _ => none
  | _ + 1, [], out => some out
  | k + 1, p :: h, out => if 0 ≤ p.1 ∧ p.1 < (out.length : Int) ∧ h.length < 999999 then (if 0 ≤ rd out p.1 then hOut W H l k (hPop (p :: h)) out else
    (hIn W H l p.1 p.2 (out.set p.1.toNat p.2) 8 0 (hPop (p :: h))).bind fun h2 => hOut W H l k h2 (out.set p.1.toNat p.2)) else none
theorem hOut_mono (W H : Int) (l : List Bool) : ∀ (k : Nat) (h : List (Int × Int)) (out : List Int), LeO (hOut W H l k h out) (hOut W H l (k + 1) h out)
  | 0, _, _ => LeO.none _
  | _ + 1, [], _ => LeO.refl _
  | k + 1, _ :: _, _ => LeO.ite (LeO.ite (hOut_mono W H l k _ _) (LeO.bind (LeO.refl _) (fun _ => hOut_mono W H l k _ _))) (LeO.refl _)
theorem own_same {w w' : World} {base : Nat} {e : TypeId} {size : Nat} {v : Value} {n : Nat} {xs : List Value} (h : w.ownsRow base e size v n xs) (hk : ∀ k, v.ownBlock = some k → w'.heap[k]? = w.heap[k]?) : w'.ownsRow base e size v n xs := by
  refine ⟨h.1, ?_⟩
  rcases h.2 with hn | ⟨g, cap, cur, rfl, hb, hgg, rest⟩
  · exact .inl hn
  · exact .inr ⟨g, cap, cur, rfl, hb, (hk g rfl).trans hgg, rest⟩
/-- How the memory stands while costs are told. -/
structure CS (w : World) (gl gv nn capv gh gn : Nat) (a0 a1 : Int) (A : Option Addr) (m c : Nat) (W : World) (v : Value) (h : List (Int × Int)) (out : List Int) : Prop where
  l : W.heap[gl]? = some (.cells #[.int .i64 a0, .int .i64 a1, .slice A m c] 36 (0, 0))
  b : Below w.heap.size w W
  o : Kd.R (Kd.int .i64) 3 W w.heap.size (fun k => k = gv) (.slice (some ⟨gv, 0, none⟩) nn capv) out
  s : HS W w.heap.size gh gn v h
section
variable {w : World} {gl gv nn capv gh gn : Nat} {a0 a1 : Int} {A : Option Addr} {m c : Nat} {W : World} {v : Value} {h : List (Int × Int)} {out : List Int}
theorem CS.below (k : CS w gl gv nn capv gh gn a0 a1 A m c W v h out) {C : World} (hb : Below W.heap.size W C) : CS w gl gv nn capv gh gn a0 a1 A m c C v h out :=
  ⟨blk_below k.l hb, below_then k.b k.b.size hb, Kd.R_below k.o hb, k.s.below hb⟩
theorem CS.put (k : CS w gl gv nn capv gh gn a0 a1 A m c W v h out) (i x : Int) : CS w gl gv nn capv gh gn a0 a1 A m c (W.setCell ⟨gv, i.toNat, none⟩ (.int .i64 x)) v h (out.set i.toNat x) := by
  obtain ⟨cells, hc⟩ := Kd.R_typed k.o gv rfl
  have h1 : gh ≠ gv := blk_ne k.s.h hc (by decide)
  have h2 : gn ≠ gv := blk_ne k.s.n hc (by decide)
  exact ⟨blk_far k.l (blk_ne k.l hc (by decide)) _, k.b.setCell ((Kd.R_bound k.o).1 gv rfl).2.1 _, Kd.R_putn k.o i x, ⟨blk_far k.s.h h1 _, blk_far k.s.n h2 _, k.s.r.far (p := ⟨gv, i.toNat, none⟩) (k.s.r.ne hc (by decide)) _⟩⟩
theorem CS.meth (k : CS w gl gv nn capv gh gn a0 a1 A m c W v h out) {C : World} {v' : Value} {h' : List (Int × Int)} (hf : HFr W C gh v.ownBlock) (hs : HS C w.heap.size gh gn v' h') (hg : w.heap.size ≤ gh) : CS w gl gv nn capv gh gn a0 a1 A m c C v' h' out := by
  obtain ⟨cells, hc⟩ := Kd.R_typed k.o gv rfl
  have hv : gv < W.heap.size := blk_lt hc
  have e : C.heap[gv]? = W.heap[gv]? := hf.block gv hv (fun e => blk_ne k.s.h hc (by decide) e.symm) (fun e => k.s.r.ne hc (by decide) e.symm)
  exact ⟨(hf.block gl (blk_lt k.l) (blk_ne k.l k.s.h (by decide)) (fun e => k.s.r.ne k.l (by decide) e.symm)).trans k.l, hf.to_below hg (fun b e => (World.ownsRow.lt k.s.r b e).1) k.b.size k.b,
    Kd.R_of_own (own_same (Kd.own_of_R k.o) (fun b hb => by rw [show b = gv from (Option.some.inj hb).symm]; exact e)) (fun b hb => (by simpa [Value.ownBlock] using hb.symm)), hs⟩
end
theorem hSt_b (i : Nat) : (-1 ≤ (hSt i).1 ∧ (hSt i).1 ≤ 1) ∧ (-1 ≤ (hSt i).2.1 ∧ (hSt i).2.1 ≤ 1) ∧ (2 ≤ (hSt i).2.2 ∧ (hSt i).2.2 ≤ 3) := by
  unfold hSt
  split <;> decide
theorem hInfoI : (Try.prog.info? 3).map (fun i => (i.zero, i.size, i.bytes)) = some (some (.int .i64 0), 1, 8) := by kernel_rfl

theorem hSetRep {i n : Nat} (h : i < n) : (List.replicate i (-1 : Int) ++ List.replicate (n - i) 0).set i (-1) = List.replicate (i + 1) (-1) ++ List.replicate (n - (i + 1)) 0 := by
  obtain ⟨m, rfl⟩ : ∃ m, n = i + 1 + m := ⟨n - (i + 1), by omega⟩
  rw [show i + 1 + m - i = m + 1 by omega, show i + 1 + m - (i + 1) = m by omega, List.set_append_right _ _ (by simp)]
  rw [show i - (List.replicate i (-1 : Int)).length = 0 by simp, List.replicate_succ (n := m), List.set_cons_zero, List.replicate_succ' (n := i), List.append_assoc]
  rfl
theorem HRow.len0 {W : World} {B : Nat} {v : Value} (h : HRow W B v []) : ∃ A c, v = .slice A 0 c := by
  rcases h.2 with ⟨h1, _⟩ | ⟨g, cap, cur, h1, _⟩
  · exact ⟨none, 0, h1⟩
  · exact ⟨some ⟨g, 0, none⟩, cap, h1⟩
theorem CS.far {w : World} {gl gv nn capv gh gn : Nat} {a0 a1 : Int} {A : Option Addr} {m c : Nat} {W : World} {v : Value} {h : List (Int × Int)} {out : List Int} (k : CS w gl gv nn capv gh gn a0 a1 A m c W v h out)
    {q t i : Nat} {cs : Array Value} (hq : W.heap[q]? = some (.cells cs t (0, 0))) (hw : w.heap.size ≤ q) (t1 : t ≠ 36) (t2 : t ≠ 3) (t3 : t ≠ 67) (t4 : t ≠ 62) (hv : v.ownBlock ≠ some q) (u : Value) :
    CS w gl gv nn capv gh gn a0 a1 A m c (W.setCell ⟨q, i, none⟩ u) v h out := by
  obtain ⟨cells, hc⟩ := Kd.R_typed k.o gv rfl
  exact ⟨blk_far k.l (blk_ne k.l hq (Ne.symm t1)) _, k.b.setCell hw _, Kd.R_of_own (own_same (Kd.own_of_R k.o) (fun b hb => by rw [show b = gv from (Option.some.inj hb).symm]; exact Below.heap_setCell W ⟨q, i, none⟩ u gv (blk_ne hc hq (Ne.symm t2)))) (fun b hb => (by simpa [Value.ownBlock] using hb.symm)),
    ⟨blk_far k.s.h (blk_ne k.s.h hq (Ne.symm t3)) _, blk_far k.s.n (blk_ne k.s.n hq (Ne.symm t4)) _, k.s.r.far (p := ⟨q, i, none⟩) hv _⟩⟩
theorem hBelow_size {w W : World} {g : Nat} (hb : Below w.heap.size w W) (hg : g = W.heap.size) : w.heap.size ≤ g := by rw [hg]; exact hb.size
theorem hNe_new {W : World} {B g : Nat} {v : Value} {xs : List (Int × Int)} (h : HRow W B v xs) (hg : g = W.heap.size) : v.ownBlock ≠ some g := fun e => by have := (World.ownsRow.lt h g e).2; omega
theorem hNe_push {v v' : Value} {n gw : Nat} (h : v'.ownBlock = v.ownBlock ∨ ∃ b, v'.ownBlock = some b ∧ n ≤ b) (hv : v.ownBlock ≠ some gw) (hg : gw < n) : v'.ownBlock ≠ some gw := by
  rcases h with h | ⟨b, h, hb⟩
  · rw [h]; exact hv
  · rw [h]; intro e; have := Option.some.inj e; omega
def route_Costs.f (k : Nat) (a0_0 : Int) (a0_1 : Int) (l0_2 : List Bool) (a1 : Int) : Option (List Int × Int) := (route_may.f a0_0 a0_1 l0_2).bind fun t => if t = true then (if a1 < 0 ∨ (l0_2.length : Int) ≤ a1 then some ([], 4) else (if 1 ≤ l0_2.length ∧ l0_2.length ≤ 4096 then (if rdOf false l0_2 a1 = true then (hOut a0_0 a0_1 l0_2 k [(a1, 0)] (List.replicate l0_2.length (-1))).bind fun o => some (o, 0) else some (List.replicate l0_2.length (-1), 0)) else none)) else some ([], 1)
theorem route_Costs.mono : ∀ y0 y1 y2 y3 k, LeO (route_Costs.f k y0 y1 y2 y3) (route_Costs.f (k + 1) y0 y1 y2 y3) := by
  intro y0 y1 y2 y3 k
  exact LeO.bind (LeO.refl _) (fun _ => LeO.ite (LeO.ite (LeO.refl _) (LeO.ite (LeO.ite (LeO.bind (hOut_mono _ _ _ _ _ _) (fun _ => LeO.refl _)) (LeO.refl _)) (LeO.refl _))) (LeO.refl _))
set_option maxHeartbeats 16000000 in
set_option maxRecDepth 100000 in
theorem route_Costs.calls (k : Nat) (a0_0 : Int) (a0_1 : Int) (A0_2 : Option Addr) (c0_2 : Nat) (l0_2 : List Bool) (a1 : Int) (r1 : List Int) (r2 : Int) (w : World) (hr0_2 : Kd.C Kd.bool w A0_2 l0_2.length l0_2) (hc0_2 : l0_2.length ≤ c0_2) (h : route_Costs.f k a0_0 a0_1 l0_2 a1 = some (r1, r2)) :
    Calls Try.prog 12 #[.agg #[.int .i64 a0_0, .int .i64 a0_1, .slice A0_2 l0_2.length c0_2], .int .i64 a1] w fun e w' => ∃ v0_ : Value, e = .returned (.tuple #[v0_, .int .i64 r2]) ∧ Kd.R (Kd.int .i64) 3 w' w.heap.size (fun _ => True) v0_ r1 ∧ Below w.heap.size w w' := by
  have HR := Aside0.mk hr0_2
  have HC := Aside0.mk hc0_2
  have HB := Aside0.mk (Below.refl w.heap.size w)
  unfold route_Costs.f at h
  replace h := Option.bind_eq_some_iff.1 h
  obtain ⟨t, ht, h⟩ := h
  have HT := Aside0.mk ht
  clear hr0_2 hc0_2 ht
  cases t
  · rw [if_neg (by decide)] at h
    have hz : [] = r1 ∧ 1 = r2 := by simpa using h
    obtain ⟨rfl, rfl⟩ := hz
    clear h
    go_enter Try.func12, Try.ntmps12
    go_wp2_with (first | ((with_reducible refine gate_dst (N := 2) rfl ?_); refine box_event ?hg (N := 2) ?hd (cs := #[.int .i64 a0_0, .int .i64 a0_1, .slice A0_2 l0_2.length c0_2]) (t := 36) ?hr ?_; (case hd => rfl); (case hg => rfl); (case hr => first | (go_simp; done) | (go_simp; rfl)); intro gl hg ww1 hbox hb; have Gl : Aside0 (w.heap.size ≤ gl) := ⟨by have := HB.out.size; omega⟩; have Kl := Aside0.mk hbox; have KK := Aside0.mk (below_step HB.out hb); clear HB; have HB := KK; clear KK; clear hb hbox hg; have zl_0 : ww1.cell? ⟨gl, 0, none⟩ = some (.int .i64 a0_0) := (blk_cell Kl.out 0).trans rfl; have fl_0 := blk_frozen Kl.out 0; have zl_1 : ww1.cell? ⟨gl, 1, none⟩ = some (.int .i64 a0_1) := (blk_cell Kl.out 1).trans rfl; have fl_1 := blk_frozen Kl.out 1; have zl_2 : ww1.cell? ⟨gl, 2, none⟩ = some (.slice A0_2 l0_2.length c0_2) := (blk_cell Kl.out 2).trans rfl; have fl_2 := blk_frozen Kl.out 2))
    go_step3
    go_wp2_with (first | (go_at_call 20; refine (route_may.calls a0_0 a0_1 _ _ l0_2 _ _ (Kd.C_below HR.out HB.out) HC.out HT.out).mono ?_; rintro e ww2 ⟨rfl, hb⟩; have KK := Aside0.mk (blk_below Kl.out hb); clear Kl; have Kl := KK; clear KK; have KK := Aside0.mk (below_step HB.out hb); clear HB; have HB := KK; clear KK; clear hb; clear zl_0 fl_0 zl_1 fl_1 zl_2 fl_2; have zl_0 : ww2.cell? ⟨gl, 0, none⟩ = some (.int .i64 a0_0) := (blk_cell Kl.out 0).trans rfl; have zl_1 : ww2.cell? ⟨gl, 1, none⟩ = some (.int .i64 a0_1) := (blk_cell Kl.out 1).trans rfl; have zl_2 : ww2.cell? ⟨gl, 2, none⟩ = some (.slice A0_2 l0_2.length c0_2) := (blk_cell Kl.out 2).trans rfl))
    rw [Exit.noGoto_ret]
    go_ret2
    exact ⟨_, rfl, Kd.R_nil _ _ _ _ _, HB.out⟩
  rw [if_pos rfl] at h
  by_cases c1 : a1 < 0
  · rw [if_pos (Or.inl c1)] at h
    have d1 : decide (a1 < 0) = true := decide_eq_true c1
    clear c1
    have hz : [] = r1 ∧ 4 = r2 := by simpa using h
    obtain ⟨rfl, rfl⟩ := hz
    clear h
    go_enter Try.func12, Try.ntmps12
    go_wp2_with (first | ((with_reducible refine gate_dst (N := 2) rfl ?_); refine box_event ?hg (N := 2) ?hd (cs := #[.int .i64 a0_0, .int .i64 a0_1, .slice A0_2 l0_2.length c0_2]) (t := 36) ?hr ?_; (case hd => rfl); (case hg => rfl); (case hr => first | (go_simp; done) | (go_simp; rfl)); intro gl hg ww1 hbox hb; have Gl : Aside0 (w.heap.size ≤ gl) := ⟨by have := HB.out.size; omega⟩; have Kl := Aside0.mk hbox; have KK := Aside0.mk (below_step HB.out hb); clear HB; have HB := KK; clear KK; clear hb hbox hg; have zl_0 : ww1.cell? ⟨gl, 0, none⟩ = some (.int .i64 a0_0) := (blk_cell Kl.out 0).trans rfl; have fl_0 := blk_frozen Kl.out 0; have zl_1 : ww1.cell? ⟨gl, 1, none⟩ = some (.int .i64 a0_1) := (blk_cell Kl.out 1).trans rfl; have fl_1 := blk_frozen Kl.out 1; have zl_2 : ww1.cell? ⟨gl, 2, none⟩ = some (.slice A0_2 l0_2.length c0_2) := (blk_cell Kl.out 2).trans rfl; have fl_2 := blk_frozen Kl.out 2))
    go_step3
    go_wp2_with (first | (go_at_call 20; refine (route_may.calls a0_0 a0_1 _ _ l0_2 _ _ (Kd.C_below HR.out HB.out) HC.out HT.out).mono ?_; rintro e ww2 ⟨rfl, hb⟩; have KK := Aside0.mk (blk_below Kl.out hb); clear Kl; have Kl := KK; clear KK; have KK := Aside0.mk (below_step HB.out hb); clear HB; have HB := KK; clear KK; clear hb; clear zl_0 fl_0 zl_1 fl_1 zl_2 fl_2; have zl_0 : ww2.cell? ⟨gl, 0, none⟩ = some (.int .i64 a0_0) := (blk_cell Kl.out 0).trans rfl; have zl_1 : ww2.cell? ⟨gl, 1, none⟩ = some (.int .i64 a0_1) := (blk_cell Kl.out 1).trans rfl; have zl_2 : ww2.cell? ⟨gl, 2, none⟩ = some (.slice A0_2 l0_2.length c0_2) := (blk_cell Kl.out 2).trans rfl))
    rw [Exit.noGoto_ret]
    go_ret2
    exact ⟨_, rfl, Kd.R_nil _ _ _ _ _, HB.out⟩
  have d1 : decide (a1 < 0) = false := decide_eq_false c1
  by_cases c2 : (l0_2.length : Int) ≤ a1
  · rw [if_pos (Or.inr c2)] at h
    have d2 : decide ((l0_2.length : Int) ≤ a1) = true := decide_eq_true c2
    clear c1 c2
    have hz : [] = r1 ∧ 4 = r2 := by simpa using h
    obtain ⟨rfl, rfl⟩ := hz
    clear h
    go_enter Try.func12, Try.ntmps12
    go_wp2_with (first | ((with_reducible refine gate_dst (N := 2) rfl ?_); refine box_event ?hg (N := 2) ?hd (cs := #[.int .i64 a0_0, .int .i64 a0_1, .slice A0_2 l0_2.length c0_2]) (t := 36) ?hr ?_; (case hd => rfl); (case hg => rfl); (case hr => first | (go_simp; done) | (go_simp; rfl)); intro gl hg ww1 hbox hb; have Gl : Aside0 (w.heap.size ≤ gl) := ⟨by have := HB.out.size; omega⟩; have Kl := Aside0.mk hbox; have KK := Aside0.mk (below_step HB.out hb); clear HB; have HB := KK; clear KK; clear hb hbox hg; have zl_0 : ww1.cell? ⟨gl, 0, none⟩ = some (.int .i64 a0_0) := (blk_cell Kl.out 0).trans rfl; have fl_0 := blk_frozen Kl.out 0; have zl_1 : ww1.cell? ⟨gl, 1, none⟩ = some (.int .i64 a0_1) := (blk_cell Kl.out 1).trans rfl; have fl_1 := blk_frozen Kl.out 1; have zl_2 : ww1.cell? ⟨gl, 2, none⟩ = some (.slice A0_2 l0_2.length c0_2) := (blk_cell Kl.out 2).trans rfl; have fl_2 := blk_frozen Kl.out 2))
    go_step3
    go_wp2_with (first | (go_at_call 20; refine (route_may.calls a0_0 a0_1 _ _ l0_2 _ _ (Kd.C_below HR.out HB.out) HC.out HT.out).mono ?_; rintro e ww2 ⟨rfl, hb⟩; have KK := Aside0.mk (blk_below Kl.out hb); clear Kl; have Kl := KK; clear KK; have KK := Aside0.mk (below_step HB.out hb); clear HB; have HB := KK; clear KK; clear hb; clear zl_0 fl_0 zl_1 fl_1 zl_2 fl_2; have zl_0 : ww2.cell? ⟨gl, 0, none⟩ = some (.int .i64 a0_0) := (blk_cell Kl.out 0).trans rfl; have zl_1 : ww2.cell? ⟨gl, 1, none⟩ = some (.int .i64 a0_1) := (blk_cell Kl.out 1).trans rfl; have zl_2 : ww2.cell? ⟨gl, 2, none⟩ = some (.slice A0_2 l0_2.length c0_2) := (blk_cell Kl.out 2).trans rfl))
    rw [Exit.noGoto_ret]
    go_ret2
    exact ⟨_, rfl, Kd.R_nil _ _ _ _ _, HB.out⟩
  have d2 : decide ((l0_2.length : Int) ≤ a1) = false := decide_eq_false c2
  rw [if_neg (fun e => e.elim c1 c2)] at h
  by_cases hn : 1 ≤ l0_2.length ∧ l0_2.length ≤ 4096
  rotate_left
  · rw [if_neg hn] at h; cases h
  rw [if_pos hn] at h
  have q0 : 0 ≤ a1 := by omega
  have q1 : a1 < (l0_2.length : Int) := by omega
  obtain ⟨ad, rfl, hcell⟩ := Kd.at_bool HR.out a1 q0 q1
  have HL := Aside0.mk hn
  have HQ := Aside0.mk (And.intro q0 q1)
  obtain ⟨nn, hnn⟩ : ∃ nn, l0_2.length = nn := ⟨_, rfl⟩
  have HNN := Aside0.mk hnn
  have HH := Aside0.mk h
  clear c1 c2 hn hnn hcell h
  go_enter Try.func12, Try.ntmps12
  go_wp2_with (first | ((with_reducible refine gate_dst (N := 2) rfl ?_); refine box_event ?hg (N := 2) ?hd (cs := #[.int .i64 a0_0, .int .i64 a0_1, .slice (some ad) l0_2.length c0_2]) (t := 36) ?hr ?_; (case hd => rfl); (case hg => rfl); (case hr => first | (go_simp; done) | (go_simp; rfl)); intro gl hg ww1 hbox hb; have Gl : Aside0 (w.heap.size ≤ gl) := ⟨by have := HB.out.size; omega⟩; have Kl := Aside0.mk hbox; have KK := Aside0.mk (below_step HB.out hb); clear HB; have HB := KK; clear KK; clear hb hbox hg; have zl_0 : ww1.cell? ⟨gl, 0, none⟩ = some (.int .i64 a0_0) := (blk_cell Kl.out 0).trans rfl; have fl_0 := blk_frozen Kl.out 0; have zl_1 : ww1.cell? ⟨gl, 1, none⟩ = some (.int .i64 a0_1) := (blk_cell Kl.out 1).trans rfl; have fl_1 := blk_frozen Kl.out 1; have zl_2 : ww1.cell? ⟨gl, 2, none⟩ = some (.slice (some ad) l0_2.length c0_2) := (blk_cell Kl.out 2).trans rfl; have fl_2 := blk_frozen Kl.out 2))
  go_step3
  go_wp2_with (first | (go_at_call 20; refine (route_may.calls a0_0 a0_1 _ _ l0_2 _ _ (Kd.C_below HR.out HB.out) HC.out HT.out).mono ?_; rintro e ww2 ⟨rfl, hb⟩; have KK := Aside0.mk (blk_below Kl.out hb); clear Kl; have Kl := KK; clear KK; have KK := Aside0.mk (below_step HB.out hb); clear HB; have HB := KK; clear KK; clear hb; clear zl_0 fl_0 zl_1 fl_1 zl_2 fl_2; have zl_0 : ww2.cell? ⟨gl, 0, none⟩ = some (.int .i64 a0_0) := (blk_cell Kl.out 0).trans rfl; have zl_1 : ww2.cell? ⟨gl, 1, none⟩ = some (.int .i64 a0_1) := (blk_cell Kl.out 1).trans rfl; have zl_2 : ww2.cell? ⟨gl, 2, none⟩ = some (.slice (some ad) l0_2.length c0_2) := (blk_cell Kl.out 2).trans rfl) | ((with_reducible refine gate_dst (N := 28) rfl ?_); refine Kd.R_make (Kd.int .i64) _ 3 rfl (N := 28) rfl 37 _ _ rfl (l0_2.length : Int) rfl rfl Try.underlying37 (.int .i64 0) 8 hInfoI rfl (by decide) (by decide) 0 (ok := fun _ => True) (okp := fun _ => True) rfl (fun _ hk => hk) trivial (by omega) (by have := HL.out; omega) (Below.refl _ _) (Nat.le_refl _) ?_; intro v1 wk ho hb hg_ hnew_; rw [show ((l0_2.length : Int)).toNat = l0_2.length from Int.toNat_natCast _] at ho; obtain ⟨gv, capv, ev, x1, x2, x3⟩ := Kd.R_form ho (by rw [List.length_replicate]; have := HL.out; omega); rw [List.length_replicate] at ev; subst ev; have hV0 : Kd.R (Kd.int .i64) 3 wk _ (fun k => k = gv) (.slice (some ⟨gv, 0, none⟩) l0_2.length capv) (List.replicate l0_2.length 0) := Kd.R_of_own (Kd.own_of_R ho) (fun k hk => (by simpa [Value.ownBlock] using hk.symm)); have HV := Aside0.mk (Kd.R_lower (base' := w.heap.size) hV0 HB.out.size); clear hV0 ho hg_ hnew_ x1 x2 x3; have KK := Aside0.mk (blk_below Kl.out hb); clear Kl; have Kl := KK; clear KK; have KK := Aside0.mk (below_step HB.out hb); clear HB; have HB := KK; clear KK; clear hb; clear zl_0 zl_1 zl_2; have zl_0 : wk.cell? ⟨gl, 0, none⟩ = some (.int .i64 a0_0) := (blk_cell Kl.out 0).trans rfl; have zl_1 : wk.cell? ⟨gl, 1, none⟩ = some (.int .i64 a0_1) := (blk_cell Kl.out 1).trans rfl; have zl_2 : wk.cell? ⟨gl, 2, none⟩ = some (.slice (some ad) l0_2.length c0_2) := (blk_cell Kl.out 2).trans rfl))
  clear HT d1 d2 zl_0 zl_1 zl_2
  go_loopg [31] l0_2.length (fun kq v31 w' => ∃ i : Nat, v31 = .int .i64 (i : Int) ∧ Aside0 (kq + i = l0_2.length) ∧ Aside0 (w'.heap[gl]? = some (.cells #[.int .i64 a0_0, .int .i64 a0_1, .slice (some ad) l0_2.length c0_2] 36 (0, 0))) ∧ Aside0 (Below w.heap.size w w') ∧ Aside0 (Kd.R (Kd.int .i64) 3 w' w.heap.size (fun k => k = gv) (.slice (some ⟨gv, 0, none⟩) l0_2.length capv) (List.replicate i (-1) ++ List.replicate (l0_2.length - i) 0)))
  case atStart => exact ⟨0, rfl, ⟨rfl⟩, Kl, HB, ⟨by simpa using HV.out⟩⟩
  case round =>
    clear Kl HB HV
    obtain ⟨i, rfl, HI, Kl, HB, HV⟩ := hrel
    by_cases hi : i < l0_2.length
    · have d0 : decide (i < l0_2.length) = true := decide_eq_true hi
      have d3 : decide ((i : Int) < (l0_2.length : Int)) = true := decide_eq_true (hLtI hi)
      have q2 : (i : Int) < (l0_2.length : Int) := hLtI hi
      have q3 : (0 : Int) ≤ (i : Int) := Int.natCast_nonneg i
      have x0 := (Kd.R_celln 0 HV.out i q3 q2).1
      have x1 := (Kd.R_celln 0 HV.out i q3 q2).2
      simp only [Int.toNat_natCast] at x0 x1
      have HT := Aside0.mk hi
      have hw : wrap64 ((i : Int) + 1) = ((i + 1 : Nat) : Int) := by have := HL.out.2; clear HQ; unfold wrap64; omega
      have hw2 : IntKind.i64.wrap ((i : Int) + 1) = ((i + 1 : Nat) : Int) := by rw [i64_w]; exact hw
      clear hi
      go_wp2
      go_roundg (l0_2.length - (i + 1))
      case measure => have h1 := HI.out; have h2 := HT.out; omega
      case rel =>
        have h := Kd.R_putn HV.out i (-1)
        rw [Int.toNat_natCast, hSetRep HT.out] at h
        obtain ⟨cells, hc⟩ := Kd.R_typed HV.out gv rfl
        refine ⟨i + 1, by first | rfl | rw [hw], ⟨by have h2 := HT.out; omega⟩, ⟨blk_far Kl.out (blk_ne Kl.out hc (by decide)) _⟩, ⟨HB.out.setCell ((Kd.R_bound HV.out).1 gv rfl).2.1 _⟩, ⟨h⟩⟩
    have d0 : decide (i < l0_2.length) = false := decide_eq_false hi
    have d3 : decide ((i : Int) < (l0_2.length : Int)) = false := decide_eq_false (by omega)
    obtain rfl : i = l0_2.length := by have := HI.out; omega
    have HV1 : Aside0 (Kd.R (Kd.int .i64) 3 wr w.heap.size (fun k => k = gv) (.slice (some ⟨gv, 0, none⟩) l0_2.length capv) (List.replicate l0_2.length (-1))) := ⟨by have h := HV.out; rw [Nat.sub_self, List.replicate_zero, List.append_nil] at h; exact h⟩
    clear hi HI HV
    obtain ⟨ad2, ea, x0⟩ := Kd.at_bool (Kd.C_below HR.out HB.out) a1 HQ.out.1 HQ.out.2
    obtain rfl := Option.some.inj ea
    clear ea
    have h := HH.out
    clear HH
    have q0 := HQ.out.1
    have q1 := HQ.out.2
    have zl_0 : wr.cell? ⟨gl, 0, none⟩ = some (.int .i64 a0_0) := (blk_cell Kl.out 0).trans rfl
    have zl_1 : wr.cell? ⟨gl, 1, none⟩ = some (.int .i64 a0_1) := (blk_cell Kl.out 1).trans rfl
    have zl_2 : wr.cell? ⟨gl, 2, none⟩ = some (.slice (some ad) l0_2.length c0_2) := (blk_cell Kl.out 2).trans rfl
    cases hb : rdOf false l0_2 a1
    · rw [hb] at h x0
      rw [if_neg (by decide)] at h
      have hz : List.replicate l0_2.length (-1) = r1 ∧ 0 = r2 := by simpa using h
      obtain ⟨rfl, rfl⟩ := hz
      clear h
      go_wp2
      rw [Exit.noGoto_ret]
      go_ret2
      exact ⟨_, rfl, Kd.R_mono HV1.out (fun _ _ => trivial), HB.out⟩
    rw [hb] at h x0
    rw [if_pos rfl] at h
    replace h := Option.bind_eq_some_iff.1 h
    obtain ⟨o, ho, h⟩ := h
    have hz : o = r1 ∧ 0 = r2 := by simpa using h
    obtain ⟨rfl, rfl⟩ := hz
    have HO := Aside0.mk ho
    clear h hb ho
    go_upto_region 15 with (first | (go_at_call 21; refine (hNew_calls _).mono ?_; rintro e wh ⟨gh, gn, rfl, hs, hgh, hgn, hb⟩; have HS0 : Aside0 (CS w gl gv l0_2.length capv gh gn a0_0 a0_1 (some ad) l0_2.length c0_2 wh (.slice none 0 0) [] (List.replicate l0_2.length (-1))) := ⟨⟨blk_below Kl.out hb, below_step HB.out hb, Kd.R_below HV1.out hb, ⟨hs.h, hs.n, HRow.nil _ _⟩⟩⟩; have GH : Aside0 (w.heap.size ≤ gh) := ⟨Nat.le_trans HB.out.size hgh⟩; clear hs hgh hgn hb Kl HB HV1 zl_0 zl_1 zl_2 x0) | (go_at_call 23; refine (hPush_calls w.heap.size gh gn (.slice none 0 0) [] a1 0 _ HS0.out.s HS0.out.b.size (by decide)).mono ?_; rintro e wp ⟨⟨u, rfl⟩, hf, v1, hs1, hown⟩; have HS1 := Aside0.mk (HS0.out.meth hf hs1 GH.out); clear hf hs1 hown HS0))
    go_step3
    go_wp2
    have HO1 : Aside0 (hOut a0_0 a0_1 l0_2 k (hPush [] (a1, 0)) (List.replicate l0_2.length (-1)) = some o) := HO
    have HLR : Aside0 ((List.replicate l0_2.length (-1 : Int)).length = l0_2.length) := ⟨List.length_replicate⟩
    clear HO
    go_loopg [] k (fun kq w' => ∃ (h : List (Int × Int)) (v : Value) (out : List Int), Aside0 (hOut a0_0 a0_1 l0_2 kq h out = some o) ∧ Aside0 (CS w gl gv l0_2.length capv gh gn a0_0 a0_1 (some ad) l0_2.length c0_2 w' v h out) ∧ Aside0 (out.length = l0_2.length))
    case atStart => exact ⟨_, _, _, HO1, HS1, HLR⟩
    case round =>
      clear HO1 HS1 HLR d0 d3 q0 q1
      obtain ⟨h, v, out, HO, HS, HLN⟩ := hrel
      obtain ⟨d, hd⟩ : ∃ d, gk = d + 1 := by
        cases gk
        · have h := HO.out; simp [hOut] at h
        · exact ⟨_, rfl⟩
      have ho := HO.out
      rw [hd] at ho
      have HD := Aside0.mk hd
      cases h with
      | nil =>
        obtain rfl := Option.some.inj ho
        obtain ⟨Av, cv, rfl⟩ := HS.out.s.r.len0
        have zh : wr.cell? ⟨gh, 0, none⟩ = some (.slice Av 0 cv) := (blk_cell HS.out.s.h 0).trans rfl
        clear ho hd HO HD
        go_wp2
        rw [Exit.noGoto_ret]
        go_ret2
        exact ⟨_, rfl, Kd.R_mono HS.out.o (fun _ _ => trivial), HS.out.b⟩
      | cons p h =>
        obtain ⟨p0, p1⟩ := p
        simp only [hOut] at ho
        by_cases hb : 0 ≤ p0 ∧ p0 < (out.length : Int) ∧ h.length < 999999
        rotate_left
        · rw [if_neg hb] at ho; cases ho
        rw [if_pos hb] at ho
        obtain ⟨g, cap, rfl⟩ := HS.out.s.r.shape (Nat.succ_pos _)
        have zh : wr.cell? ⟨gh, 0, none⟩ = some (.slice (some ⟨g, 0, none⟩) (h.length + 1) cap) := (blk_cell HS.out.s.h 0).trans rfl
        have d4 : (0 : Int) < (h.length : Int) + 1 := by have := Int.natCast_nonneg h.length; clear HO HD; omega
        have HHO := Aside0.mk ho
        have HPB := Aside0.mk hb
        clear ho hb hd HO
        go_upto_region 17 with (first | (go_at_call 24; refine (hPop_calls w.heap.size gh gn g h.length cap ((p0, p1) :: h) _ HS.out.s rfl (Nat.lt_trans HPB.out.2.2 (by decide))).mono ?_; rintro e w2 ⟨rfl, hf, hs2⟩; have HS2 := Aside0.mk (HS.out.meth (v' := .slice (some ⟨g, 0, none⟩) h.length cap) hf hs2 GH.out); clear hf hs2 HS zh))
        obtain ⟨gw, hgw⟩ : ∃ gw, gw = w2.heap.size := ⟨_, rfl⟩
        rw [← hgw]
        have NW := Aside0.mk (hNe_new HS2.out.s.r hgw)
        have GW := Aside0.mk (hBelow_size HS2.out.b hgw)
        have HS4 := Aside0.mk (HS2.out.below (below_alloc (Below.refl _ _) (.cells #[.int .i64 p0, .int .i64 p1] 61)))
        have Kw4 : Aside0 ((w2.alloc (.cells #[.int .i64 p0, .int .i64 p1] 61)).heap[gw]? = some (.cells #[.int .i64 p0, .int .i64 p1] 61 (0, 0))) := ⟨by rw [hgw]; exact heap_alloc_new w2 _⟩
        clear hgw HS2
        generalize w2.alloc (.cells #[.int .i64 p0, .int .i64 p1] 61) = w4 at HS4 Kw4 ⊢
        obtain ⟨vv, hvv⟩ : ∃ x, rdOf 0 out p0 = x := ⟨_, rfl⟩
        have ho := HHO.out
        rw [show rd out p0 = vv from hvv] at ho
        have zw0 : w4.cell? ⟨gw, 0, none⟩ = some (.int .i64 p0) := (blk_cell Kw4.out 0).trans rfl
        have zw1 : w4.cell? ⟨gw, 1, none⟩ = some (.int .i64 p1) := (blk_cell Kw4.out 1).trans rfl
        have y1 : p0 < (l0_2.length : Int) := by have h := HPB.out.2.1; rw [HLN.out] at h; exact h
        have y0 : 0 ≤ p0 := HPB.out.1
        have x0 := (Kd.R_celln 0 HS4.out.o p0 y0 y1).1
        have x1 := (Kd.R_celln 0 HS4.out.o p0 y0 y1).2
        rw [hvv] at x0
        clear hvv HHO
        by_cases hv : 0 ≤ vv
        · rw [if_pos hv] at ho
          have d5 : decide (0 ≤ vv) = true := decide_eq_true hv
          have HO := Aside0.mk ho
          clear ho hv
          go_wp2
          go_roundg d
          case measure => rw [HD.out]; exact Nat.lt_succ_self d
          case rel => exact ⟨_, _, out, HO, HS4, HLN⟩
        rw [if_neg hv] at ho
        have d5 : decide (0 ≤ vv) = false := decide_eq_false hv
        replace ho := Option.bind_eq_some_iff.1 ho
        obtain ⟨h2, hi2, ho⟩ := ho
        have HO := Aside0.mk ho
        have HI2 := Aside0.mk hi2
        clear ho hi2 hv
        go_upto_region 19 with fail
        have HS5 := Aside0.mk (HS4.out.put p0 p1)
        have Kw5 : Aside0 ((w4.setCell ⟨gv, p0.toNat, none⟩ (.int .i64 p1)).heap[gw]? = some (.cells #[.int .i64 p0, .int .i64 p1] 61 (0, 0))) := ⟨blk_far Kw4.out (by obtain ⟨cells, hc⟩ := Kd.R_typed HS4.out.o gv rfl; exact blk_ne Kw4.out hc (by decide)) _⟩
        have HL2 : Aside0 ((out.set p0.toNat p1).length = l0_2.length) := ⟨by rw [List.length_set]; exact HLN.out⟩
        clear HS4 Kw4 x0 x1 zw0 zw1 d5 y0 y1
        generalize w4.setCell ⟨gv, p0.toNat, none⟩ (.int .i64 p1) = w5 at HS5 Kw5 ⊢
        obtain ⟨out2, hout2⟩ : ∃ out2, (out.set p0.toNat p1) = out2 := ⟨_, rfl⟩
        have hs5 := HS5.out
        have hl2 := HL2.out
        have hi2 := HI2.out
        have ho := HO.out
        rw [hout2] at hs5 hl2 hi2 ho
        have HS5b := Aside0.mk hs5
        have HL2b := Aside0.mk hl2
        have HI2b := Aside0.mk hi2
        have HOb := Aside0.mk ho
        clear HS5 HL2 HI2 HO hs5 hl2 hi2 ho hout2
        go_wp2_with (go_at_call 13; refine (hSteps_calls _).mono ?_; rintro e w6 ⟨rfl, hb⟩; have HS6 := Aside0.mk (HS5b.out.below hb); have Kw6 := Aside0.mk (blk_below Kw5.out hb); clear hb HS5b Kw5)
        go_loopg [71] 8 (fun kq v71 w' => ∃ (i : Nat) (hq : List (Int × Int)) (vq : Value), v71 = .int .i64 (i : Int) ∧ Aside0 (kq + i = 8) ∧ Aside0 (hIn a0_0 a0_1 l0_2 p0 p1 out2 kq i hq = some h2) ∧ Aside0 (CS w gl gv l0_2.length capv gh gn a0_0 a0_1 (some ad) l0_2.length c0_2 w' vq hq out2) ∧ Aside0 (w'.heap[gw]? = some (.cells #[.int .i64 p0, .int .i64 p1] 61 (0, 0))) ∧ Aside0 (vq.ownBlock ≠ some gw))
        case atStart => exact ⟨0, _, _, rfl, ⟨rfl⟩, HI2b, HS6, Kw6, NW⟩
        case round =>
          clear HI2b HS6 Kw6 NW
          obtain ⟨i, hq, vq, rfl, HI, HIN, HS, Kw, NW⟩ := hrel
          by_cases hi : i < 8
          rotate_left
          · have hk : gk = 0 ∧ i = 8 := by have := HI.out; omega
            obtain ⟨hk, rfl⟩ := hk
            have hin := HIN.out
            rw [hk] at hin
            obtain rfl := Option.some.inj hin
            clear hk hin hi HIN HI
            go_wp2
            go_roundg d
            case measure => rw [HD.out]; exact Nat.lt_succ_self d
            case rel => exact ⟨_, _, out2, HOb, HS, HL2b⟩
          have e8 : decide (i < 8) = true := decide_eq_true hi
          have e9 : decide ((i : Int) < 8) = true := decide_eq_true (by omega)
          have hix := hIx i hi
          obtain ⟨d2, hd2⟩ : ∃ d2, gk = d2 + 1 := ⟨gk - 1, by have := HI.out; omega⟩
          have hin := HIN.out
          rw [hd2] at hin
          simp only [hIn] at hin
          have hsb := hSt_b i
          obtain ⟨⟨s0, s1, s2⟩, hst⟩ : ∃ s, hSt i = s := ⟨_, rfl⟩
          rw [hst] at hin hix hsb
          dsimp only at hin hix hsb
          replace hin := Option.bind_eq_some_iff.1 hin
          obtain ⟨nx, hnx, hin⟩ := hin
          have HGO := Aside0.mk hnx
          have HIN2 := Aside0.mk hin
          have HSB := Aside0.mk hsb.2.2
          have HI2 := Aside0.mk (And.intro hi hd2)
          have w1_ : wrap64 ((i : Int) + 1) = ((i + 1 : Nat) : Int) := by have := HI2.out.1; clear HSB hsb; unfold wrap64; omega
          have w2_ : IntKind.i64.wrap ((i : Int) + 1) = ((i + 1 : Nat) : Int) := by rw [i64_w]; exact w1_
          clear hi hd2 hst hsb hnx hin HIN
          have zl_0 : wr.cell? ⟨gl, 0, none⟩ = some (.int .i64 a0_0) := (blk_cell HS.out.l 0).trans rfl
          have zl_1 : wr.cell? ⟨gl, 1, none⟩ = some (.int .i64 a0_1) := (blk_cell HS.out.l 1).trans rfl
          have zl_2 : wr.cell? ⟨gl, 2, none⟩ = some (.slice (some ad) l0_2.length c0_2) := (blk_cell HS.out.l 2).trans rfl
          have zw0 : wr.cell? ⟨gw, 0, none⟩ = some (.int .i64 p0) := (blk_cell Kw.out 0).trans rfl
          go_upto_region 22 with fail
          clear zl_0 zl_1 zl_2 zw0 hix e8 e9
          obtain ⟨gs, hgs⟩ : ∃ gs, gs = wr.heap.size := ⟨_, rfl⟩
          rw [← hgs]
          have HS7 := Aside0.mk (HS.out.below (below_alloc (Below.refl _ _) (.cells #[.int .i64 s0, .int .i64 s1, .int .i64 s2] 47)))
          have Kw7 := Aside0.mk (blk_below Kw.out (below_alloc (Below.refl _ _) (.cells #[.int .i64 s0, .int .i64 s1, .int .i64 s2] 47)))
          have Ks7 : Aside0 ((wr.alloc (.cells #[.int .i64 s0, .int .i64 s1, .int .i64 s2] 47)).heap[gs]? = some (.cells #[.int .i64 s0, .int .i64 s1, .int .i64 s2] 47 (0, 0))) := ⟨by rw [hgs]; exact heap_alloc_new wr _⟩
          clear hgs HS Kw
          generalize wr.alloc (.cells #[.int .i64 s0, .int .i64 s1, .int .i64 s2] 47) = w7 at HS7 Kw7 Ks7 ⊢
          have zl_0 : w7.cell? ⟨gl, 0, none⟩ = some (.int .i64 a0_0) := (blk_cell HS7.out.l 0).trans rfl
          have zl_1 : w7.cell? ⟨gl, 1, none⟩ = some (.int .i64 a0_1) := (blk_cell HS7.out.l 1).trans rfl
          have zl_2 : w7.cell? ⟨gl, 2, none⟩ = some (.slice (some ad) l0_2.length c0_2) := (blk_cell HS7.out.l 2).trans rfl
          have zw0 : w7.cell? ⟨gw, 0, none⟩ = some (.int .i64 p0) := (blk_cell Kw7.out 0).trans rfl
          have zw1 : w7.cell? ⟨gw, 1, none⟩ = some (.int .i64 p1) := (blk_cell Kw7.out 1).trans rfl
          have zs0 : w7.cell? ⟨gs, 0, none⟩ = some (.int .i64 s0) := (blk_cell Ks7.out 0).trans rfl
          have zs1 : w7.cell? ⟨gs, 1, none⟩ = some (.int .i64 s1) := (blk_cell Ks7.out 1).trans rfl
          have zs2 : w7.cell? ⟨gs, 2, none⟩ = some (.int .i64 s2) := (blk_cell Ks7.out 2).trans rfl
          go_upto_region 23 with (go_at_call 14; refine (route_goes.calls a0_0 a0_1 _ _ l0_2 p0 s0 s1 s2 nx _ (Kd.C_below HR.out HS7.out.b) HC.out HGO.out).mono ?_; rintro e w8 ⟨rfl, hb⟩; have HS8 := Aside0.mk (HS7.out.below hb); have Kw8 := Aside0.mk (blk_below Kw7.out hb); have Ks8 := Aside0.mk (blk_below Ks7.out hb); clear hb HS7 Kw7 Ks7 zl_0 zl_1 zl_2 zw0 zw1 zs0 zs1 zs2)
          have hin := HIN2.out
          clear HIN2
          by_cases h0 : 0 ≤ nx
          rotate_left
          · rw [if_neg h0] at hin
            have d6 : decide (0 ≤ nx) = false := decide_eq_false h0
            have HIN3 := Aside0.mk hin
            clear hin h0
            go_wp2
            go_roundg d2
            case measure => rw [HI2.out.2]; exact Nat.lt_succ_self d2
            case rel => exact ⟨i + 1, hq, vq, by first | rfl | rw [w1_], ⟨by have h1 := HI.out; have h2 := HI2.out.2; omega⟩, HIN3, HS8, Kw8, NW⟩
          rw [if_pos h0] at hin
          have d6 : decide (0 ≤ nx) = true := decide_eq_true h0
          by_cases h1 : nx < (out2.length : Int)
          rotate_left
          · rw [if_neg h1] at hin; cases hin
          rw [if_pos h1] at hin
          have h3 : nx < (l0_2.length : Int) := by rw [HL2b.out] at h1; exact h1
          obtain ⟨vx, hvx⟩ : ∃ x, rdOf 0 out2 nx = x := ⟨_, rfl⟩
          have x0 := (Kd.R_celln 0 HS8.out.o nx h0 h3).1
          rw [hvx] at x0
          rw [show rd out2 nx = vx from hvx] at hin
          clear h1 hvx
          by_cases hv : vx < 0
          rotate_left
          · rw [if_neg hv] at hin
            have d7 : decide (vx < 0) = false := decide_eq_false hv
            have HIN3 := Aside0.mk hin
            clear hin hv
            go_wp2
            go_roundg d2
            case measure => rw [HI2.out.2]; exact Nat.lt_succ_self d2
            case rel => exact ⟨i + 1, hq, vq, by first | rfl | rw [w1_], ⟨by have h1 := HI.out; have h2 := HI2.out.2; omega⟩, HIN3, HS8, Kw8, NW⟩
          rw [if_pos hv] at hin
          have d7 : decide (vx < 0) = true := decide_eq_true hv
          by_cases hbd : hq.length < 999999 ∧ 0 ≤ p1 ∧ p1 ≤ 1000000
          rotate_left
          · rw [if_neg hbd] at hin; cases hin
          rw [if_pos hbd] at hin
          have HIN3 := Aside0.mk hin
          have HBD := Aside0.mk hbd
          clear hin hv hbd
          have w3_ : wrap64 (p1 + s2) = p1 + s2 := by have a := HBD.out.2; have b := HSB.out; clear h0 h3; unfold wrap64; omega
          have w4_ : IntKind.i64.wrap (p1 + s2) = p1 + s2 := by rw [i64_w]; exact w3_
          have zw0 : w8.cell? ⟨gw, 0, none⟩ = some (.int .i64 p0) := (blk_cell Kw8.out 0).trans rfl
          have zw1 : w8.cell? ⟨gw, 1, none⟩ = some (.int .i64 p1) := (blk_cell Kw8.out 1).trans rfl
          have zs0 : w8.cell? ⟨gs, 0, none⟩ = some (.int .i64 s0) := (blk_cell Ks8.out 0).trans rfl
          have zs1 : w8.cell? ⟨gs, 1, none⟩ = some (.int .i64 s1) := (blk_cell Ks8.out 1).trans rfl
          have zs2 : w8.cell? ⟨gs, 2, none⟩ = some (.int .i64 s2) := (blk_cell Ks8.out 2).trans rfl
          go_upto_region 25 with (go_at_call 23; refine (hPush_calls w.heap.size gh gn vq hq nx (p1 + s2) _ HS8.out.s HS8.out.b.size (Nat.lt_trans HBD.out.1 (by decide))).mono ?_; rintro e w9 ⟨⟨u, rfl⟩, hf, v9, hs9, hown⟩; have HS9 := Aside0.mk (HS8.out.meth hf hs9 GH.out); have NW9 := Aside0.mk (hNe_push hown NW.out (blk_lt Kw8.out)); have Kw9 := Aside0.mk ((hf.block gw (blk_lt Kw8.out) (blk_ne Kw8.out HS8.out.s.h (by decide)) (fun e => NW.out e.symm)).trans Kw8.out); clear hf hs9 hown HS8 Kw8 Ks8 NW zw0 zw1 zs0 zs1 zs2 x0)
          go_wp2
          go_roundg d2
          case measure => rw [HI2.out.2]; exact Nat.lt_succ_self d2
          case rel => exact ⟨i + 1, _, v9, by first | rfl | rw [w1_], ⟨by have h1 := HI.out; have h2 := HI2.out.2; omega⟩, HIN3, HS9, Kw9, NW9⟩

end Go.Proofs.Ytdmmlidgipedaaa.PA
