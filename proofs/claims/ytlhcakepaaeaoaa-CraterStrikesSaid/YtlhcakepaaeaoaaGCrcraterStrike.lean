/- The contract of crater_Strike: what its call comes to, for every argument, in any memory. -/
import Derived.Test.YtlhcakepaaeaoaaPCrx0
import Derived.Test.YtlhcakepaaeaoaaPCrx1
import Derived.Test.YtlhcakepaaeaoaaPCrx2
import Derived.Test.YtlhcakepaaeaoaaPCrx3
import Derived.Test.YtlhcakepaaeaoaaPCrx4
import Derived.Test.YtlhcakepaaeaoaaPCrx5
import Derived.Test.YtlhcakepaaeaoaaPCrx6
import Derived.Test.YtlhcakepaaeaoaaPCrx7
import Derived.Test.YtlhcakepaaeaoaaPCrx8
import Derived.Test.YtlhcakepaaeaoaaPCrx9
import Derived.Test.YtlhcakepaaeaoaaPCrx10
import Derived.Test.YtlhcakepaaeaoaaPCrx11
import Derived.LoopIn
import Derived.LoopNIn
import Derived.OwnWalkIn
import Derived.RangeFuncBound
import Derived.RangeFuncBox
import Derived.RangeFuncCalls
import Derived.RangeFuncLeaves
import Derived.RangeFuncNested
import Derived.Shelf.Abstract
import Derived.Shelf.RegionOpen
import Derived.TacticsInMore
namespace Go.Proofs.Ytlhcakepaaeaoaa.PCr
open Go.RowKit Go.Proofs.YtlhcakepaaeaoaaW.PrintWords Go.Proofs.YtlhcakepaaeaoaaW.PrintLast Go.Proofs.YtlhcakepaaeaoaaW.PrintMore
set_option linter.unusedVariables false
set_option linter.unusedSimpArgs false

--import Derived.RangeFuncNested
--import Derived.RangeFuncBound
--import Derived.RangeFuncCalls
--import Derived.RangeFuncLeaves
--import Derived.RangeFuncBox
--import Derived.Shelf.Abstract
--import Derived.Shelf.RegionOpen
--import Derived.OwnWalkIn
--import Derived.TacticsInMore
--import Derived.LoopNIn
--import Derived.LoopIn
open Go.Shelf
section
attribute [local go_sem] Oper.semAt_some
theorem grownBy_of_below {w w' : World} (h : Below w.heap.size w w') : w.grownBy w' none := ⟨h.os, h.tape, h.output, h.size, fun k hk _ => h.block k hk⟩
set_option maxRecDepth 100000 in
set_option maxHeartbeats 2000000 in
theorem crater_strikes.vals (F : Fence) (n : Nat) (h42 : F.fn 42) (hro : F.round = none) (hn : 1 ≤ n) (Bs : Nat) (A : Option Addr) (cap : Nat) (zs : List S23) (w0 : World)
    (hB : w0.heap[Bs]? = some (.cells #[.slice A zs.length cap] 53 (0, 0))) (hC : Kd.C k23 w0 A zs.length zs) :
    SeqStopsK F n Try.prog 42 #[.pointer (some ⟨Bs, 0, none⟩)] (fun x : S23 => #[Value.agg #[.int .i64 x.f0, .int .i64 x.f1, .int .i64 x.f2, .int .i64 x.f3]]) (Below w0.heap.size) (fun ys => ys = zs) (fun pre => pre <+: zs) zs.length w0 := by
  intro l J Jx W hW hJ hJx hY h0
  have hlen : zs.length ≤ 9223372036854775807 := hC.2.1
  have hBs : W.cell? ⟨Bs, 0, none⟩ = some (.slice A zs.length cap) := (blk_cell (blk_below hB hW) 0).trans rfl
  have HW := Aside0.mk hW
  clear hW
  refine callsIn_of_wp Try.func42 rfl h42 ?_ hro
  simp only [Try.ntmps42, List.size_toArray, List.length_cons, List.length_nil, Nat.reduceAdd, Nat.reduceSub, Array.replicate_succ, Array.replicate_zero, List.push_toArray, List.append_toArray, List.nil_append, List.cons_append]
  gi_wp2
  gi_loopw [7] (fun i wr => ∃ k : Nat, k ≤ zs.length ∧ i = .int .i64 k ∧ J (zs.take k) wr ∧ Below w0.heap.size w0 wr)
    (fun i _ => zs.length - (intOf i).toNat)
  case atStart => exact ⟨0, Nat.zero_le _, rfl, h0, HW.out⟩
  case round =>
    obtain ⟨k, hk, rfl, hJs, hnx⟩ := hrel
    by_cases hlt : k < zs.length
    · obtain ⟨ad, rfl, c0, c1, c2, c3⟩ := at_T23 (Kd.C_below hC hnx) (k : Int) (by omega) (by omega)
      simp only [Int.toNat_natCast] at c0 c1 c2 c3
      have HN := Aside0.mk hnx
      clear hnx
      have HJ := Aside0.mk hJs
      clear hJs
      have hJa := hJ _ _ _ none HJ.out (World.grownBy_alloc wr (.cells #[.int .i64 (rd_T23 zs k).f0, .int .i64 (rd_T23 zs k).f1, .int .i64 (rd_T23 zs k).f2, .int .i64 (rd_T23 zs k).f3] 23) none) (by simp)
      have hsn : zs.take (k + 1) = zs.take k ++ [rd_T23 zs k] := by
        rw [List.take_add_one]
        simp [rd_T23, hlt]
      have HA := Aside0.mk (HN.out.alloc HN.out.size (.cells #[.int .i64 (rd_T23 zs k).f0, .int .i64 (rd_T23 zs k).f1, .int .i64 (rd_T23 zs k).f2, .int .i64 (rd_T23 zs k).f3] 23))
      obtain ⟨fn, tmps, assign, body, hy, hR⟩ := hY _ (rd_T23 zs k) _ hJa (by simp; omega)
      have HJa := Aside0.mk hJa
      clear hJa hY
      gi_wp2
      refine hR.mono ?_
      rintro e W3 (⟨rfl, hJ3, hk3⟩ | ⟨rfl, hJx3⟩)
      · have HJ3 := Aside0.mk hJ3
        have HK3 := Aside0.mk hk3
        have HS := Aside0.mk hsn
        clear hJ3 hk3 hsn
        gi_wp2
        go_roundw
        case rel => exact ⟨k + 1, by omega, by simp, by rw [HS.out]; exact HJ3.out, HA.out.trans HK3.out⟩
        case measure => simp [intOf]; omega
      · have HS := Aside0.mk hsn
        clear hsn
        have HJ3 := Aside0.mk hJx3
        clear hJx3
        gi_wp2
        refine bodyPost_ret (results_none rfl _ _ _) rfl ?_
        exact ⟨⟨_, rfl⟩, .inr ⟨_, ⟨zs.drop (k + 1), by rw [← HS.out]; exact List.take_append_drop _ _⟩, HJ3.out⟩⟩
    · obtain rfl : k = zs.length := by omega
      gi_wp2
      go_end0
      exact ⟨⟨_, rfl⟩, .inl ⟨_, rfl, by rw [List.take_length] at hJs; exact hJs⟩⟩
end
/-! ### what the code comes to -/
def crater_strikes.low (h : S23) (i j : Int) : Int := (crater_Lowers.f h.f0 h.f1 h.f2 h.f3 i j).getD 0
def crater_strikes.may (h : S23) : Bool := (crater_May.f h.f0 h.f1 h.f2 h.f3).getD false
def crater_strikes.put (W : Int) (h : S23) (j i : Int) (cs : List Int) : List Int := cs.set ((W + 1) * j + i).toNat (mx 0 (wrap64 (wrap64 (rd cs ((W + 1) * j + i)) - crater_strikes.low h i j)) % 256)
def crater_strikes.row (W : Int) (h : S23) (j i : Int) : Nat → List Int → List Int
  | 0, cs => cs
  | n + 1, cs => crater_strikes.put W h j (i + n) (crater_strikes.row W h j i n cs)
def crater_strikes.rows (W : Int) (h : S23) (j i : Int) (m : Nat) : Nat → List Int → List Int
  | 0, cs => cs
  | n + 1, cs => crater_strikes.row W h (j + n) i m (crater_strikes.rows W h j i m n cs)
def crater_strikes.from (a r : Int) : Int := mx 0 (wrap64 (a - r))
def crater_strikes.to (n a r : Int) : Int := mn n (wrap64 (a + r))
def crater_strikes.one (W H : Int) (cs : List Int) (h : S23) : List Int :=
  crater_strikes.rows W h (crater_strikes.from h.f1 h.f2) (crater_strikes.from h.f0 h.f2) (crater_strikes.to W h.f0 h.f2 + 1 - crater_strikes.from h.f0 h.f2).toNat (crater_strikes.to H h.f1 h.f2 + 1 - crater_strikes.from h.f1 h.f2).toNat cs
def crater_strikes.f (k : Nat) (a0_0 a0_1 a0_2 : Int) (l0_3 : List Int) (l1 : List S23) : Option (Int × Int × Int × List Int × Int) :=
  (relief_Check.f k a0_0 a0_1 a0_2 l0_3).bind fun c => if c = 0 then (if 1 ≤ a0_0 ∧ a0_0 ≤ 64 ∧ 1 ≤ a0_1 ∧ a0_1 ≤ 64 ∧ (l0_3.length : Int) = (a0_0 + 1) * (a0_1 + 1) then
    (if l1.all crater_strikes.may = true then some (a0_0, a0_1, a0_2, l1.foldl (crater_strikes.one a0_0 a0_1) l0_3, 0) else some (0, 0, 0, [], 1)) else none) else some (0, 0, 0, [], 1)
theorem own_blk {β : Type} (g t : Nat) (f : β → Array Value) : Own (fun s W => W.heap[g]? = some (.cells (f s) t (0, 0))) := by
  intro s A B row hs hg hr
  refine blk_grown hs hg (fun e => ?_)
  obtain ⟨o, ho, hc⟩ := hr g e.symm
  rw [ho] at hs
  cases hs
  cases hc
theorem own_row {α β : Type} (d : Kd α) (e base : Nat) (ok : Nat → Prop) (v : Value) (f : β → List α) : Own (fun s W => d.R e W base ok v (f s)) := by
  intro s A B row hs hg hr
  refine Kd.R_mono (Kd.R_grown (Kd.R_bound hs) hg (fun k hk he => ?_)) (fun k hk => hk.1)
  obtain ⟨_, _, _, q, _, cells, hc⟩ := hk
  obtain ⟨o, ho, hoc⟩ := hr k he.symm
  rw [ho] at hc
  cases hc
  cases hoc
theorem blk_taken {W : World} {D g t : Nat} {cs : Array Value} (h : W.heap[g]? = some (.cells cs t (0, 0))) (hK : W.heap[D]? = some (.deferred (some []))) : (W.putObj D (.deferred none)).heap[g]? = some (.cells cs t (0, 0)) :=
  own_blk g t (fun (_ : Unit) => cs) () W _ (some D) h (grownBy_putObj' W D _) (fun r e => by cases e; exact ⟨_, hK, rfl⟩)
theorem row_taken {α : Type} {d : Kd α} {e base D : Nat} {ok : Nat → Prop} {v : Value} {xs : List α} {W : World} (h : d.R e W base ok v xs) (hK : W.heap[D]? = some (.deferred (some []))) : d.R e (W.putObj D (.deferred none)) base ok v xs :=
  own_row d e base ok v (fun (_ : Unit) => xs) () W _ (some D) h (grownBy_putObj' W D _) (fun r e => by cases e; exact ⟨_, hK, rfl⟩)
theorem below_taken {w W : World} {D : Nat} (h : Below w.heap.size w W) (hD : w.heap.size ≤ D) (hK : W.heap[D]? = some (.deferred (some []))) : Below w.heap.size w (W.putObj D (.deferred none)) :=
  h.trans (belowK_b (w := w) (Nat.le_refl _) W D _ _ hD hK rfl rfl)
theorem keepsFrom_below {B : Nat} {W W' : World} (h : Below W.heap.size W W') : KeepsFrom B W W' := KeepsFrom.of_grownBy (row := none) (grownBy_of_below h) (fun j e => by cases e)
theorem crater_near_some (i : Int) : ∃ b, crater_near.f i = some b := by
  unfold crater_near.f
  split <;> exact ⟨_, rfl⟩
theorem crater_near_eq (i : Int) : crater_near.f i = some (decide (-64 ≤ i ∧ i ≤ 128)) := by
  unfold crater_near.f
  by_cases h : i ≥ -64
  · rw [if_pos h]; simp; omega
  · rw [if_neg h]; simp; omega
theorem crater_strikes.may_some (x : S23) : ∃ b, crater_May.f x.f0 x.f1 x.f2 x.f3 = some b := by
  obtain ⟨b0, h0⟩ := crater_near_some x.f0
  obtain ⟨b1, h1⟩ := crater_near_some x.f1
  unfold crater_May.f
  rw [h0, h1]
  simp only [Option.bind_some]
  repeat' split
  all_goals exact ⟨_, rfl⟩
theorem crater_strikes.may_b {x : S23} (h : crater_May.f x.f0 x.f1 x.f2 x.f3 = some true) : (1 ≤ x.f2 ∧ x.f2 ≤ 8) ∧ (-64 ≤ x.f0 ∧ x.f0 ≤ 128) ∧ (-64 ≤ x.f1 ∧ x.f1 ≤ 128) := by
  unfold crater_May.f at h
  rw [crater_near_eq, crater_near_eq] at h
  simp only [Option.bind_some] at h
  repeat' split at h
  all_goals simp at h
  all_goals simp only [decide_eq_true_eq] at *
  all_goals omega
theorem crater_strikes.low_some {x : S23} (h : crater_May.f x.f0 x.f1 x.f2 x.f3 = some true) (i j : Int) : crater_Lowers.f x.f0 x.f1 x.f2 x.f3 i j = some (crater_strikes.low x i j) := by
  have ex : ∃ v, crater_Lowers.f x.f0 x.f1 x.f2 x.f3 i j = some v := by
    obtain ⟨b0, h0⟩ := crater_near_some i
    obtain ⟨b1, h1⟩ := crater_near_some j
    have hR := (crater_strikes.may_b h).1
    have hw : wrap64 (x.f2 * x.f2) ≠ 0 := by
      obtain e | e | e | e | e | e | e | e : x.f2 = 1 ∨ x.f2 = 2 ∨ x.f2 = 3 ∨ x.f2 = 4 ∨ x.f2 = 5 ∨ x.f2 = 6 ∨ x.f2 = 7 ∨ x.f2 = 8 := by omega
      all_goals (rw [e]; unfold wrap64; decide)
    unfold crater_Lowers.f
    rw [h, h0, h1]
    simp only [Option.bind_some]
    rw [if_neg hw]
    repeat' split
    all_goals exact ⟨_, rfl⟩
  obtain ⟨v, hv⟩ := ex
  unfold crater_strikes.low
  rw [hv]
  rfl
theorem put4 {w : World} {g t : Nat} {a b c d x0 x1 x2 x3 : Value} (h : w.heap[g]? = some (.cells #[a, b, c, d] t (0, 0))) :
    ((((w.setCell ⟨g, 0, none⟩ x0).setCell ⟨g, 1, none⟩ x1).setCell ⟨g, 2, none⟩ x2).setCell ⟨g, 3, none⟩ x3).heap[g]? = some (.cells #[x0, x1, x2, x3] t (0, 0)) :=
  blk_put (blk_put (blk_put (blk_put h 0 _ rfl) 1 _ rfl) 2 _ rfl) 3 _ rfl
theorem far4 {w : World} {g g' t : Nat} {cs : Array Value} {x0 x1 x2 x3 : Value} (h : w.heap[g']? = some (.cells cs t (0, 0))) (hn : g' ≠ g) :
    ((((w.setCell ⟨g, 0, none⟩ x0).setCell ⟨g, 1, none⟩ x1).setCell ⟨g, 2, none⟩ x2).setCell ⟨g, 3, none⟩ x3).heap[g']? = some (.cells cs t (0, 0)) :=
  blk_far (blk_far (blk_far (blk_far h hn _) hn _) hn _) hn _
def noDefer (ops : Array Oper) : Bool := ops.toList.all fun o => match o.op with | .defer _ => false | _ => true
theorem round_op {P : Program} {o : Oper} {a : Act} {w : World} {K : Act → World → Prop} {Q : Exit → Act → World → Prop} {l n : Nat} (hnd : ∀ c, o.op ≠ .defer c) (hl : ¬LetsOut Q) (h : o.wp P a w K Q ∨ (o.asks P a w ∧ LetsOut Q)) :
    o.wpIn (Fence.wide.inRound l) n P a w K Q := by
  have h := h.resolve_right (fun x => hl x.2)
  refine ⟨fun _ _ => trivial, ?_⟩
  rw [Oper.semAt_eq _ _ _ hnd]
  unfold Oper.wp at h
  generalize (execOp a.eval o).run P w = r at *
  cases r with
  | ok x w' =>
    cases x <;> simp only [Oper.upon, Oper.uponIn] at h ⊢ <;>
      first
        | exact h
        | exact ⟨fun hd => absurd hd (by simp [Fence.wide]), (callsIn_wide (n := n - 1)).2 h⟩
        | exact ⟨fun hd => absurd hd (by simp [Fence.wide]), fun c cs _ => let ⟨v, w', r, s⟩ := h c cs; ⟨v, w', r, stepsIn_wide.2 s⟩⟩
        | exact h.elim
  | halt x w' => cases x <;> simp only [Oper.upon, Oper.uponIn] at h ⊢ <;> exact h
theorem any_round {P : Program} {md : Region.Mode} {ops : Array Oper} {Q : Exit → Act → World → Prop} {l n : Nat} (hnd : noDefer ops = true) (hl : ¬LetsOut Q) :
    ∀ (fuel : Nat) (listed : Array Bool) (a : Act) (w : World), wpAny P md ops Q fuel listed a w → wpAnyIn (Fence.wide.inRound l) n P md ops Q fuel listed a w
  | 0, _, _, _, h => h
  | fuel + 1, listed, a, w, h => by
    refine ⟨h.1, fun i hi => ?_⟩
    have h2 := h.2 i hi
    unfold wpOp at h2
    unfold wpOpIn
    cases ho : ops[i]? with
    | none =>
      simp only [ho] at h2
      exact any_round hnd hl fuel _ a w h2
    | some o =>
      simp only [ho] at h2
      have hd : ∀ c, o.op ≠ .defer c := by
        intro c hc
        have := List.all_eq_true.1 hnd o (by simpa using Array.mem_of_getElem? ho)
        rw [hc] at this
        cases this
      by_cases hw : Region.wanted o (yielded ops a.tmps) = true
      · rw [if_pos hw] at h2
        simp only [hw, if_true]
        refine round_op hd hl (h2.imp_left ?_)
        intro h3
        exact Oper.wp_mono (fun a w h => any_round hnd hl fuel _ a w h) h3
      · rw [if_neg hw] at h2
        simp only [hw]
        exact ⟨fun _ _ => trivial, any_round hnd hl fuel _ _ w h2⟩
/-- How the memory stands: the map's box, the results' boxes, the box of the corners, the corners. -/
structure crater_strikes.St (w : World) (gm gr ge gc gv capv : Nat) (a0 a1 a2 : Int) (n : Nat) (er : Value) (W : World) (cs : List Int) : Prop where
  m : W.heap[gm]? = some (.cells #[.int .i64 a0, .int .i64 a1, .int .i64 a2, .slice (some ⟨gv, 0, none⟩) n capv] 46 (0, 0))
  r : W.heap[gr]? = some (.cells #[.int .i64 0, .int .i64 0, .int .i64 0, .slice none 0 0] 46 (0, 0))
  e : W.heap[ge]? = some (.cells #[er] 35 (0, 0))
  c : W.heap[gc]? = some (.cells #[.slice (some ⟨gv, 0, none⟩) n capv] 44 (0, 0))
  v : Kd.R (Kd.int .u8) 5 W w.heap.size (fun k => k = gv) (.slice (some ⟨gv, 0, none⟩) n capv) cs
theorem crater_strikes.St.below {w : World} {gm gr ge gc gv capv : Nat} {a0 a1 a2 : Int} {n : Nat} {er : Value} {W W' : World} {cs : List Int} (h : crater_strikes.St w gm gr ge gc gv capv a0 a1 a2 n er W cs) (hb : Below W.heap.size W W') :
    crater_strikes.St w gm gr ge gc gv capv a0 a1 a2 n er W' cs := ⟨blk_below h.m hb, blk_below h.r hb, blk_below h.e hb, blk_below h.c hb, Kd.R_below h.v hb⟩
theorem crater_strikes.St.put {w : World} {gm gr ge gc gv capv : Nat} {a0 a1 a2 : Int} {n : Nat} {er : Value} {W : World} {cs : List Int} (h : crater_strikes.St w gm gr ge gc gv capv a0 a1 a2 n er W cs) (m : gm ≠ gv) (r : gr ≠ gv) (e : ge ≠ gv) (c : gc ≠ gv) (i x : Int) :
    crater_strikes.St w gm gr ge gc gv capv a0 a1 a2 n er (W.setCell ⟨gv, i.toNat, none⟩ (.int .u8 x)) (cs.set i.toNat x) := ⟨blk_far h.m m _, blk_far h.r r _, blk_far h.e e _, blk_far h.c c _, Kd.R_putn h.v i x⟩
theorem crater_strikes.St.err {w : World} {gm gr ge gc gv capv : Nat} {a0 a1 a2 : Int} {n : Nat} {er : Value} {W : World} {cs : List Int} (h : crater_strikes.St w gm gr ge gc gv capv a0 a1 a2 n er W cs) (m1 : gm ≠ gr) (m2 : gm ≠ ge) (r1 : gr ≠ ge) (c1 : gc ≠ gr) (c2 : gc ≠ ge) (v1 : gr ≠ gv) (v2 : ge ≠ gv) :
    crater_strikes.St w gm gr ge gc gv capv a0 a1 a2 n (.int .i64 1) (((((W.setCell ⟨gr, 0, none⟩ (.int .i64 0)).setCell ⟨gr, 1, none⟩ (.int .i64 0)).setCell ⟨gr, 2, none⟩ (.int .i64 0)).setCell ⟨gr, 3, none⟩ (.slice none 0 0)).setCell ⟨ge, 0, none⟩ (.int .i64 1)) cs :=
  ⟨blk_far (far4 h.m m1) m2 _, blk_far (put4 h.r) r1 _, blk_put (far4 h.e (fun e => r1 e.symm)) 0 _ rfl, blk_far (far4 h.c c1) c2 _,
    Kd.R_far (Kd.R_far (Kd.R_far (Kd.R_far (Kd.R_far h.v (fun k hk e => v1 (e.symm.trans hk)) _) (fun k hk e => v1 (e.symm.trans hk)) _) (fun k hk e => v1 (e.symm.trans hk)) _) (fun k hk e => v1 (e.symm.trans hk)) _) (fun k hk e => v2 (e.symm.trans hk)) _⟩
theorem crater_strikes.own {β : Type} (w : World) (gm gr ge gc gv capv : Nat) (a0 a1 a2 : Int) (n : Nat) (er : Value) (f : β → List Int) : Own (fun s W => crater_strikes.St w gm gr ge gc gv capv a0 a1 a2 n er W (f s)) :=
  fun s A B row hs hg hr => ⟨own_blk gm _ (fun (_ : Unit) => _) () A B row hs.m hg hr, own_blk gr _ (fun (_ : Unit) => _) () A B row hs.r hg hr, own_blk ge _ (fun (_ : Unit) => _) () A B row hs.e hg hr, own_blk gc _ (fun (_ : Unit) => _) () A B row hs.c hg hr, own_row _ _ _ _ _ f s A B row hs.v hg hr⟩
theorem crater_strikes.idx {W H j i : Int} {n : Nat} (h : 1 ≤ W ∧ W ≤ 64 ∧ 1 ≤ H ∧ H ≤ 64 ∧ (n : Int) = (W + 1) * (H + 1)) (j0 : 0 ≤ j) (j1 : j ≤ H) (i0 : 0 ≤ i) (i1 : i ≤ W) :
    wrap64 (wrap64 (wrap64 (W + 1) * j) + i) = (W + 1) * j + i ∧ 0 ≤ (W + 1) * j + i ∧ (W + 1) * j + i < (n : Int) := by
  obtain ⟨h1, h2, h3, h4, h5⟩ := h
  have a := Int.mul_le_mul (show W + 1 ≤ 65 by omega) (show j ≤ 64 by omega) j0 (by omega)
  have b := Int.mul_nonneg (show 0 ≤ W + 1 by omega) j0
  have c := Int.mul_le_mul_of_nonneg_left (show j ≤ H by omega) (show 0 ≤ W + 1 by omega)
  have d : (W + 1) * (H + 1) = (W + 1) * H + (W + 1) := by grind
  rw [show wrap64 (W + 1) = W + 1 by unfold wrap64; omega]
  generalize (W + 1) * j = p at *
  rw [show wrap64 p = p by unfold wrap64; omega, show wrap64 (p + i) = p + i by unfold wrap64; omega]
  omega
theorem crater_strikes.len {W H : Int} {n : Nat} (h : 1 ≤ W ∧ W ≤ 64 ∧ 1 ≤ H ∧ H ≤ 64 ∧ (n : Int) = (W + 1) * (H + 1)) : 4 ≤ n ∧ n ≤ 4225 := by
  obtain ⟨h1, h2, h3, h4, h5⟩ := h
  have a := Int.mul_le_mul (show W + 1 ≤ 65 by omega) (show H + 1 ≤ 65 by omega) (by omega) (by omega)
  have b := Int.mul_le_mul (show 2 ≤ W + 1 by omega) (show 2 ≤ H + 1 by omega) (by omega) (by omega)
  omega
section
attribute [local go_sem] Oper.semAt_some max2_int min2_int max_two min_two
theorem crater_strikes.res (tmps : Array Value) (W : World) (gr ge : Nat) (x0 x1 x2 x3 y : Value) (h4 : tmps[4]? = some (.pointer (some ⟨gr, 0, none⟩))) (h5 : tmps[5]? = some (.pointer (some ⟨ge, 0, none⟩)))
    (hr : W.heap[gr]? = some (.cells #[x0, x1, x2, x3] 46 (0, 0))) (he : W.heap[ge]? = some (.cells #[y] 35 (0, 0))) :
    (results Try.f39 tmps).run Try.prog W = .ok (.tuple #[.agg #[x0, x1, x2, x3], y]) W := by
  have z0 := blk_cell hr 0
  have z1 := blk_cell hr 1
  have z2 := blk_cell hr 2
  have z3 := blk_cell hr 3
  have y0 := blk_cell he 0
  simp only [List.getElem?_toArray, List.getElem?_cons_zero, List.getElem?_cons_succ] at z0 z1 z2 z3 y0
  have g4 : tmps.getD 4 undef = .pointer (some ⟨gr, 0, none⟩) := by simp [h4]
  have g5 : tmps.getD 5 undef = .pointer (some ⟨ge, 0, none⟩) := by simp [h5]
  simp [results, Try.f39, go_sem, h4, h5, z0, z1, z2, z3, y0]
set_option maxRecDepth 100000 in
set_option maxHeartbeats 4000000 in
theorem crater_strikes.calls (k : Nat) (a0_0 a0_1 a0_2 : Int) (A0_3 : Option Addr) (c0_3 : Nat) (l0_3 : List Int) (Bs : Nat) (A1 : Option Addr) (c1 : Nat) (l1 : List S23) (r1 r2 r3 : Int) (r4 : List Int) (r5 : Int) (w : World)
    (hr0_3 : Kd.C (Kd.int .u8) w A0_3 l0_3.length l0_3) (hc0_3 : l0_3.length ≤ c0_3) (hB1 : w.heap[Bs]? = some (.cells #[.slice A1 l1.length c1] 53 (0, 0))) (hr1 : Kd.C k23 w A1 l1.length l1)
    (h : crater_strikes.f k a0_0 a0_1 a0_2 l0_3 l1 = some (r1, r2, r3, r4, r5)) :
    Calls Try.prog 39 #[.agg #[.int .i64 a0_0, .int .i64 a0_1, .int .i64 a0_2, .slice A0_3 l0_3.length c0_3], .func (.func 42) #[] #[.pointer (some ⟨Bs, 0, none⟩)]] w
      fun e w' => ∃ v3_ : Value, e = .returned (.tuple #[.agg #[.int .i64 r1, .int .i64 r2, .int .i64 r3, v3_], .int .i64 r5]) ∧ Kd.R (Kd.int .u8) 5 w' w.heap.size (fun _ => True) v3_ r4 ∧ Below w.heap.size w w' := by
  have HR := Aside0.mk hr0_3
  have HR1 := Aside0.mk hr1
  have HB1 := Aside0.mk hB1
  clear hr0_3 hr1 hB1
  have HB := Aside0.mk (Below.refl w.heap.size w)
  unfold crater_strikes.f at h
  replace h := Option.bind_eq_some_iff.1 h
  obtain ⟨cc, hC, h⟩ := h
  have HC := Aside0.mk hC
  clear hC
  have h0 := Aside0.mk h
  clear h
  refine (callsIn_wide (n := 9)).1 ?_
  refine callsIn_of_wp_marks Try.func39 rfl trivial ?_ rfl
  simp only [Try.ntmps39, List.size_toArray, List.length_cons, List.length_nil, Nat.reduceAdd, Nat.reduceSub, Array.replicate_succ, Array.replicate_zero, List.push_toArray, List.append_toArray, List.nil_append, List.cons_append]
  refine (wpIn_wide (n := 9)).2 ?_
  have h := h0.out
  clear h0
  by_cases c0 : cc = 0
  case neg =>
    rw [if_neg c0] at h
    have c1 : (cc == 0) = false := beq_eq_false_iff_ne.mpr c0
    have c2 : (cc != 0) = true := bne_iff_ne.mpr c0
    clear c0
    simp only [Option.some.injEq, Prod.mk.injEq] at h
    obtain ⟨rfl, rfl, rfl, rfl, rfl⟩ := h
    go_wp2_with (first | ((with_reducible refine gate_dst (N := 2) rfl ?_); refine box_event ?hg (N := 2) ?hd (cs := #[.int .i64 a0_0, .int .i64 a0_1, .int .i64 a0_2, .slice A0_3 l0_3.length c0_3]) (t := 46) ?hr ?_; (case hd => rfl); (case hg => rfl); (case hr => first | (go_simp; done) | (go_simp; rfl)); intro gm hg ww1 hbox hb; have Gm : Aside0 (w.heap.size ≤ gm) := ⟨by have := HB.out.size; omega⟩; have Km := Aside0.mk hbox; have KK := Aside0.mk (below_step HB.out hb); clear HB; have HB := KK; clear KK; clear hb hbox hg; have zm_0 : ww1.cell? ⟨gm, 0, none⟩ = some (.int .i64 a0_0) := (blk_cell Km.out 0).trans rfl; have fm_0 := blk_frozen Km.out 0; have zm_1 : ww1.cell? ⟨gm, 1, none⟩ = some (.int .i64 a0_1) := (blk_cell Km.out 1).trans rfl; have fm_1 := blk_frozen Km.out 1; have zm_2 : ww1.cell? ⟨gm, 2, none⟩ = some (.int .i64 a0_2) := (blk_cell Km.out 2).trans rfl; have fm_2 := blk_frozen Km.out 2; have zm_3 : ww1.cell? ⟨gm, 3, none⟩ = some (.slice A0_3 l0_3.length c0_3) := (blk_cell Km.out 3).trans rfl; have fm_3 := blk_frozen Km.out 3) | ((with_reducible refine gate_dst (N := 4) rfl ?_); refine box_event ?hg (N := 4) ?hd (cs := #[.int .i64 0, .int .i64 0, .int .i64 0, .slice none 0 0]) (t := 46) ?hr ?_; (case hd => rfl); (case hg => rfl); (case hr => first | (go_simp; done) | (go_simp; rfl)); intro gr hg ww2 hbox hb; have Nm_r : Aside0 (gm ≠ gr) := ⟨by have := blk_lt Km.out; omega⟩; have KK := Aside0.mk (blk_below Km.out hb); clear Km; have Km := KK; clear KK; have Gr : Aside0 (w.heap.size ≤ gr) := ⟨by have := HB.out.size; omega⟩; have Kr := Aside0.mk hbox; have KK := Aside0.mk (below_step HB.out hb); clear HB; have HB := KK; clear KK; clear hb hbox hg; clear zm_0 fm_0 zm_1 fm_1 zm_2 fm_2 zm_3 fm_3; have zm_0 : ww2.cell? ⟨gm, 0, none⟩ = some (.int .i64 a0_0) := (blk_cell Km.out 0).trans rfl; have zm_1 : ww2.cell? ⟨gm, 1, none⟩ = some (.int .i64 a0_1) := (blk_cell Km.out 1).trans rfl; have zm_2 : ww2.cell? ⟨gm, 2, none⟩ = some (.int .i64 a0_2) := (blk_cell Km.out 2).trans rfl; have zm_3 : ww2.cell? ⟨gm, 3, none⟩ = some (.slice A0_3 l0_3.length c0_3) := (blk_cell Km.out 3).trans rfl; have zr_0 : ww2.cell? ⟨gr, 0, none⟩ = some (.int .i64 0) := (blk_cell Kr.out 0).trans rfl; have fr_0 := blk_frozen Kr.out 0; have zr_1 : ww2.cell? ⟨gr, 1, none⟩ = some (.int .i64 0) := (blk_cell Kr.out 1).trans rfl; have fr_1 := blk_frozen Kr.out 1; have zr_2 : ww2.cell? ⟨gr, 2, none⟩ = some (.int .i64 0) := (blk_cell Kr.out 2).trans rfl; have fr_2 := blk_frozen Kr.out 2; have zr_3 : ww2.cell? ⟨gr, 3, none⟩ = some (.slice none 0 0) := (blk_cell Kr.out 3).trans rfl; have fr_3 := blk_frozen Kr.out 3) | ((with_reducible refine gate_dst (N := 5) rfl ?_); refine box_event ?hg (N := 5) ?hd (cs := #[.int .i64 0]) (t := 35) ?hr ?_; (case hd => rfl); (case hg => rfl); (case hr => first | (go_simp; done) | (go_simp; rfl)); intro ge hg ww3 hbox hb; have Nm_e : Aside0 (gm ≠ ge) := ⟨by have := blk_lt Km.out; omega⟩; have Nr_e : Aside0 (gr ≠ ge) := ⟨by have := blk_lt Kr.out; omega⟩; have KK := Aside0.mk (blk_below Km.out hb); clear Km; have Km := KK; clear KK; have KK := Aside0.mk (blk_below Kr.out hb); clear Kr; have Kr := KK; clear KK; have Ge : Aside0 (w.heap.size ≤ ge) := ⟨by have := HB.out.size; omega⟩; have Ke := Aside0.mk hbox; have KK := Aside0.mk (below_step HB.out hb); clear HB; have HB := KK; clear KK; clear hb hbox hg; clear zm_0 zm_1 zm_2 zm_3 zr_0 fr_0 zr_1 fr_1 zr_2 fr_2 zr_3 fr_3; have zm_0 : ww3.cell? ⟨gm, 0, none⟩ = some (.int .i64 a0_0) := (blk_cell Km.out 0).trans rfl; have zm_1 : ww3.cell? ⟨gm, 1, none⟩ = some (.int .i64 a0_1) := (blk_cell Km.out 1).trans rfl; have zm_2 : ww3.cell? ⟨gm, 2, none⟩ = some (.int .i64 a0_2) := (blk_cell Km.out 2).trans rfl; have zm_3 : ww3.cell? ⟨gm, 3, none⟩ = some (.slice A0_3 l0_3.length c0_3) := (blk_cell Km.out 3).trans rfl; have zr_0 : ww3.cell? ⟨gr, 0, none⟩ = some (.int .i64 0) := (blk_cell Kr.out 0).trans rfl; have zr_1 : ww3.cell? ⟨gr, 1, none⟩ = some (.int .i64 0) := (blk_cell Kr.out 1).trans rfl; have zr_2 : ww3.cell? ⟨gr, 2, none⟩ = some (.int .i64 0) := (blk_cell Kr.out 2).trans rfl; have zr_3 : ww3.cell? ⟨gr, 3, none⟩ = some (.slice none 0 0) := (blk_cell Kr.out 3).trans rfl; have ze_0 : ww3.cell? ⟨ge, 0, none⟩ = some (.int .i64 0) := (blk_cell Ke.out 0).trans rfl; have fe_0 := blk_frozen Ke.out 0) | (go_at_call 41; refine (relief_Check.calls k a0_0 a0_1 a0_2 _ _ l0_3 cc _ (Kd.C_below HR.out HB.out) hc0_3 HC.out).mono ?_; rintro e ww4 ⟨rfl, hb⟩; have KK := Aside0.mk (blk_below Km.out hb); clear Km; have Km := KK; clear KK; have KK := Aside0.mk (blk_below Kr.out hb); clear Kr; have Kr := KK; clear KK; have KK := Aside0.mk (blk_below Ke.out hb); clear Ke; have Ke := KK; clear KK; have KK := Aside0.mk (below_step HB.out hb); clear HB; have HB := KK; clear KK; clear hb; have ne1 : gr ≠ ge := Nr_e.out; have ne2 : ge ≠ gr := fun h => Nr_e.out h.symm; clear zm_0 zm_1 zm_2 zm_3 zr_0 zr_1 zr_2 zr_3 ze_0 fe_0; have zm_0 : ww4.cell? ⟨gm, 0, none⟩ = some (.int .i64 a0_0) := (blk_cell Km.out 0).trans rfl; have fm_0 := blk_frozen Km.out 0; have zm_1 : ww4.cell? ⟨gm, 1, none⟩ = some (.int .i64 a0_1) := (blk_cell Km.out 1).trans rfl; have fm_1 := blk_frozen Km.out 1; have zm_2 : ww4.cell? ⟨gm, 2, none⟩ = some (.int .i64 a0_2) := (blk_cell Km.out 2).trans rfl; have fm_2 := blk_frozen Km.out 2; have zm_3 : ww4.cell? ⟨gm, 3, none⟩ = some (.slice A0_3 l0_3.length c0_3) := (blk_cell Km.out 3).trans rfl; have fm_3 := blk_frozen Km.out 3; have zr_0 : ww4.cell? ⟨gr, 0, none⟩ = some (.int .i64 0) := (blk_cell Kr.out 0).trans rfl; have fr_0 := blk_frozen Kr.out 0; have zr_1 : ww4.cell? ⟨gr, 1, none⟩ = some (.int .i64 0) := (blk_cell Kr.out 1).trans rfl; have fr_1 := blk_frozen Kr.out 1; have zr_2 : ww4.cell? ⟨gr, 2, none⟩ = some (.int .i64 0) := (blk_cell Kr.out 2).trans rfl; have fr_2 := blk_frozen Kr.out 2; have zr_3 : ww4.cell? ⟨gr, 3, none⟩ = some (.slice none 0 0) := (blk_cell Kr.out 3).trans rfl; have fr_3 := blk_frozen Kr.out 3; have ze_0 : ww4.cell? ⟨ge, 0, none⟩ = some (.int .i64 0) := (blk_cell Ke.out 0).trans rfl; have fe_0 := blk_frozen Ke.out 0))
    refine ⟨_, crater_strikes.res _ _ gr ge _ _ _ _ _ (by rfl) (by rfl) (blk_far (put4 Kr.out) ne1 _) (blk_put (far4 Ke.out ne2) 0 _ rfl), _, rfl, Kd.R_nil _ _ _ _ _, below_set (below_set (below_set (below_set (below_set HB.out Gr.out) Gr.out) Gr.out) Gr.out) Ge.out⟩
  subst c0
  rw [if_pos rfl] at h
  by_cases hg0 : 1 ≤ a0_0 ∧ a0_0 ≤ 64 ∧ 1 ≤ a0_1 ∧ a0_1 ≤ 64 ∧ (l0_3.length : Int) = (a0_0 + 1) * (a0_1 + 1)
  case neg => rw [if_neg hg0] at h; exact absurd h (by simp)
  rw [if_pos hg0] at h
  have HG := Aside0.mk hg0
  have HL : Aside0 (4 ≤ l0_3.length ∧ l0_3.length ≤ 4225) := ⟨crater_strikes.len hg0⟩
  have H := Aside0.mk h
  clear h hg0
  go_wp2_with (first | ((with_reducible refine gate_dst (N := 2) rfl ?_); refine box_event ?hg (N := 2) ?hd (cs := #[.int .i64 a0_0, .int .i64 a0_1, .int .i64 a0_2, .slice A0_3 l0_3.length c0_3]) (t := 46) ?hr ?_; (case hd => rfl); (case hg => rfl); (case hr => first | (go_simp; done) | (go_simp; rfl)); intro gm hg ww1 hbox hb; have Gm : Aside0 (w.heap.size ≤ gm) := ⟨by have := HB.out.size; omega⟩; have Km := Aside0.mk hbox; have KK := Aside0.mk (below_step HB.out hb); clear HB; have HB := KK; clear KK; clear hb hbox hg; have zm_0 : ww1.cell? ⟨gm, 0, none⟩ = some (.int .i64 a0_0) := (blk_cell Km.out 0).trans rfl; have fm_0 := blk_frozen Km.out 0; have zm_1 : ww1.cell? ⟨gm, 1, none⟩ = some (.int .i64 a0_1) := (blk_cell Km.out 1).trans rfl; have fm_1 := blk_frozen Km.out 1; have zm_2 : ww1.cell? ⟨gm, 2, none⟩ = some (.int .i64 a0_2) := (blk_cell Km.out 2).trans rfl; have fm_2 := blk_frozen Km.out 2; have zm_3 : ww1.cell? ⟨gm, 3, none⟩ = some (.slice A0_3 l0_3.length c0_3) := (blk_cell Km.out 3).trans rfl; have fm_3 := blk_frozen Km.out 3) | ((with_reducible refine gate_dst (N := 4) rfl ?_); refine box_event ?hg (N := 4) ?hd (cs := #[.int .i64 0, .int .i64 0, .int .i64 0, .slice none 0 0]) (t := 46) ?hr ?_; (case hd => rfl); (case hg => rfl); (case hr => first | (go_simp; done) | (go_simp; rfl)); intro gr hg ww2 hbox hb; have Nm_r : Aside0 (gm ≠ gr) := ⟨by have := blk_lt Km.out; omega⟩; have KK := Aside0.mk (blk_below Km.out hb); clear Km; have Km := KK; clear KK; have Gr : Aside0 (w.heap.size ≤ gr) := ⟨by have := HB.out.size; omega⟩; have Kr := Aside0.mk hbox; have KK := Aside0.mk (below_step HB.out hb); clear HB; have HB := KK; clear KK; clear hb hbox hg; clear zm_0 fm_0 zm_1 fm_1 zm_2 fm_2 zm_3 fm_3; have zm_0 : ww2.cell? ⟨gm, 0, none⟩ = some (.int .i64 a0_0) := (blk_cell Km.out 0).trans rfl; have zm_1 : ww2.cell? ⟨gm, 1, none⟩ = some (.int .i64 a0_1) := (blk_cell Km.out 1).trans rfl; have zm_2 : ww2.cell? ⟨gm, 2, none⟩ = some (.int .i64 a0_2) := (blk_cell Km.out 2).trans rfl; have zm_3 : ww2.cell? ⟨gm, 3, none⟩ = some (.slice A0_3 l0_3.length c0_3) := (blk_cell Km.out 3).trans rfl; have zr_0 : ww2.cell? ⟨gr, 0, none⟩ = some (.int .i64 0) := (blk_cell Kr.out 0).trans rfl; have fr_0 := blk_frozen Kr.out 0; have zr_1 : ww2.cell? ⟨gr, 1, none⟩ = some (.int .i64 0) := (blk_cell Kr.out 1).trans rfl; have fr_1 := blk_frozen Kr.out 1; have zr_2 : ww2.cell? ⟨gr, 2, none⟩ = some (.int .i64 0) := (blk_cell Kr.out 2).trans rfl; have fr_2 := blk_frozen Kr.out 2; have zr_3 : ww2.cell? ⟨gr, 3, none⟩ = some (.slice none 0 0) := (blk_cell Kr.out 3).trans rfl; have fr_3 := blk_frozen Kr.out 3) | ((with_reducible refine gate_dst (N := 5) rfl ?_); refine box_event ?hg (N := 5) ?hd (cs := #[.int .i64 0]) (t := 35) ?hr ?_; (case hd => rfl); (case hg => rfl); (case hr => first | (go_simp; done) | (go_simp; rfl)); intro ge hg ww3 hbox hb; have Nm_e : Aside0 (gm ≠ ge) := ⟨by have := blk_lt Km.out; omega⟩; have Nr_e : Aside0 (gr ≠ ge) := ⟨by have := blk_lt Kr.out; omega⟩; have KK := Aside0.mk (blk_below Km.out hb); clear Km; have Km := KK; clear KK; have KK := Aside0.mk (blk_below Kr.out hb); clear Kr; have Kr := KK; clear KK; have Ge : Aside0 (w.heap.size ≤ ge) := ⟨by have := HB.out.size; omega⟩; have Ke := Aside0.mk hbox; have KK := Aside0.mk (below_step HB.out hb); clear HB; have HB := KK; clear KK; clear hb hbox hg; clear zm_0 zm_1 zm_2 zm_3 zr_0 fr_0 zr_1 fr_1 zr_2 fr_2 zr_3 fr_3; have zm_0 : ww3.cell? ⟨gm, 0, none⟩ = some (.int .i64 a0_0) := (blk_cell Km.out 0).trans rfl; have zm_1 : ww3.cell? ⟨gm, 1, none⟩ = some (.int .i64 a0_1) := (blk_cell Km.out 1).trans rfl; have zm_2 : ww3.cell? ⟨gm, 2, none⟩ = some (.int .i64 a0_2) := (blk_cell Km.out 2).trans rfl; have zm_3 : ww3.cell? ⟨gm, 3, none⟩ = some (.slice A0_3 l0_3.length c0_3) := (blk_cell Km.out 3).trans rfl; have zr_0 : ww3.cell? ⟨gr, 0, none⟩ = some (.int .i64 0) := (blk_cell Kr.out 0).trans rfl; have zr_1 : ww3.cell? ⟨gr, 1, none⟩ = some (.int .i64 0) := (blk_cell Kr.out 1).trans rfl; have zr_2 : ww3.cell? ⟨gr, 2, none⟩ = some (.int .i64 0) := (blk_cell Kr.out 2).trans rfl; have zr_3 : ww3.cell? ⟨gr, 3, none⟩ = some (.slice none 0 0) := (blk_cell Kr.out 3).trans rfl; have ze_0 : ww3.cell? ⟨ge, 0, none⟩ = some (.int .i64 0) := (blk_cell Ke.out 0).trans rfl; have fe_0 := blk_frozen Ke.out 0) | (go_at_call 41; refine (relief_Check.calls k a0_0 a0_1 a0_2 _ _ l0_3 0 _ (Kd.C_below HR.out HB.out) hc0_3 HC.out).mono ?_; rintro e ww4 ⟨rfl, hb⟩; have KK := Aside0.mk (blk_below Km.out hb); clear Km; have Km := KK; clear KK; have KK := Aside0.mk (blk_below Kr.out hb); clear Kr; have Kr := KK; clear KK; have KK := Aside0.mk (blk_below Ke.out hb); clear Ke; have Ke := KK; clear KK; have KK := Aside0.mk (below_step HB.out hb); clear HB; have HB := KK; clear KK; clear hb; clear zm_0 zm_1 zm_2 zm_3 zr_0 zr_1 zr_2 zr_3 ze_0 fe_0; have zm_0 : ww4.cell? ⟨gm, 0, none⟩ = some (.int .i64 a0_0) := (blk_cell Km.out 0).trans rfl; have zm_1 : ww4.cell? ⟨gm, 1, none⟩ = some (.int .i64 a0_1) := (blk_cell Km.out 1).trans rfl; have zm_2 : ww4.cell? ⟨gm, 2, none⟩ = some (.int .i64 a0_2) := (blk_cell Km.out 2).trans rfl; have zm_3 : ww4.cell? ⟨gm, 3, none⟩ = some (.slice A0_3 l0_3.length c0_3) := (blk_cell Km.out 3).trans rfl) | ((with_reducible refine gate_dst (N := 18) rfl ?_); refine Kd.R_make (Kd.int .u8) _ 5 rfl (N := 18) rfl 44 _ _ rfl (l0_3.length : Int) rfl rfl Try.underlying44 (.int .u8 0) 1 info5 rfl (by decide) (by decide) 0 (ok := fun _ => True) (okp := fun _ => True) rfl (fun _ hk => hk) trivial (by omega) (by have := HL.out; omega) (Below.refl _ _) (Nat.le_refl _) ?_; intro v1 ww5 ho hb hg_ hnew_; rw [show ((l0_3.length : Int)).toNat = l0_3.length from Int.toNat_natCast _] at ho; obtain ⟨gv, capv, ev, x1, x2, x3⟩ := Kd.R_form ho (by rw [List.length_replicate]; have := HL.out; omega); rw [List.length_replicate] at ev; subst ev; have Gv : Aside0 (w.heap.size ≤ gv) := ⟨by have := HB.out.size; omega⟩; have Nm_v : Aside0 (gm ≠ gv) := ⟨by have := blk_lt Km.out; omega⟩; have Nr_v : Aside0 (gr ≠ gv) := ⟨by have := blk_lt Kr.out; omega⟩; have Ne_v : Aside0 (ge ≠ gv) := ⟨by have := blk_lt Ke.out; omega⟩; have hV0 : Kd.R (Kd.int .u8) 5 ww5 _ (fun k => k = gv) (.slice (some ⟨gv, 0, none⟩) l0_3.length capv) (List.replicate l0_3.length 0) := Kd.R_of_own (Kd.own_of_R ho) (fun k hk => (by simpa [Value.ownBlock] using hk.symm)); have HV := Aside0.mk (Kd.R_lower (base' := w.heap.size) hV0 HB.out.size); clear hV0; clear ho hg_ hnew_ x1 x2 x3; have KK := Aside0.mk (blk_below Km.out hb); clear Km; have Km := KK; clear KK; have KK := Aside0.mk (blk_below Kr.out hb); clear Kr; have Kr := KK; clear KK; have KK := Aside0.mk (blk_below Ke.out hb); clear Ke; have Ke := KK; clear KK; have KK := Aside0.mk (below_step HB.out hb); clear HB; have HB := KK; clear KK; clear hb; clear zm_0 zm_1 zm_2 zm_3; have zm_0 : ww5.cell? ⟨gm, 0, none⟩ = some (.int .i64 a0_0) := (blk_cell Km.out 0).trans rfl; have zm_1 : ww5.cell? ⟨gm, 1, none⟩ = some (.int .i64 a0_1) := (blk_cell Km.out 1).trans rfl; have zm_2 : ww5.cell? ⟨gm, 2, none⟩ = some (.int .i64 a0_2) := (blk_cell Km.out 2).trans rfl; have zm_3 : ww5.cell? ⟨gm, 3, none⟩ = some (.slice A0_3 l0_3.length c0_3) := (blk_cell Km.out 3).trans rfl) | ((with_reducible refine gate_dst (N := 6) rfl ?_); refine box_event ?hg (N := 6) ?hd (cs := #[.slice none 0 0]) (t := 44) ?hr ?_; (case hd => rfl); (case hg => rfl); (case hr => first | (go_simp; done) | (go_simp; rfl)); intro gc hg ww6 hbox hb; have Nc_v : Aside0 (gc ≠ gv) := ⟨by have := Kd.R_lt HV.out gv rfl; omega⟩; have P_c := Aside0.mk hb; have PG_c : Aside0 (_ ≤ gc) := ⟨Nat.le_of_eq hg.symm⟩; have P_c_HV := HV; have Nm_c : Aside0 (gm ≠ gc) := ⟨by have := blk_lt Km.out; omega⟩; have Nr_c : Aside0 (gr ≠ gc) := ⟨by have := blk_lt Kr.out; omega⟩; have Ne_c : Aside0 (ge ≠ gc) := ⟨by have := blk_lt Ke.out; omega⟩; have KK := Aside0.mk (blk_below Km.out hb); clear Km; have Km := KK; clear KK; have KK := Aside0.mk (blk_below Kr.out hb); clear Kr; have Kr := KK; clear KK; have KK := Aside0.mk (blk_below Ke.out hb); clear Ke; have Ke := KK; clear KK; have KK := Aside0.mk (Kd.R_below HV.out hb); clear HV; have HV := KK; clear KK; have Gc : Aside0 (w.heap.size ≤ gc) := ⟨by have := HB.out.size; omega⟩; have Kc := Aside0.mk hbox; have KK := Aside0.mk (below_step HB.out hb); clear HB; have HB := KK; clear KK; clear hb hbox hg; clear zm_0 zm_1 zm_2 zm_3; have zm_0 : ww6.cell? ⟨gm, 0, none⟩ = some (.int .i64 a0_0) := (blk_cell Km.out 0).trans rfl; have zm_1 : ww6.cell? ⟨gm, 1, none⟩ = some (.int .i64 a0_1) := (blk_cell Km.out 1).trans rfl; have zm_2 : ww6.cell? ⟨gm, 2, none⟩ = some (.int .i64 a0_2) := (blk_cell Km.out 2).trans rfl; have zm_3 : ww6.cell? ⟨gm, 3, none⟩ = some (.slice A0_3 l0_3.length c0_3) := (blk_cell Km.out 3).trans rfl; have zc_0 : ww6.cell? ⟨gc, 0, none⟩ = some (.slice none 0 0) := (blk_cell Kc.out 0).trans rfl; have fc_0 := blk_frozen Kc.out 0) | ((with_reducible refine gate_store (t := 44) (p := 6) rfl ?_); refine store_event (t := 44) (p := 6) (v := ?vo_ww7) (w1 := (ww6.setCell ⟨gc, 0, none⟩ (.slice (some ⟨gv, 0, none⟩) l0_3.length capv))) ?hg ?ho ?hn ?hr ?_; (case ho => rfl); (case hg => rfl); (case hn => rfl); (case hr => first | (go_simp; done) | (go_simp; rfl)); intro ww7 hw; have nem : gm ≠ gc := Nm_c.out; have ner : gr ≠ gc := Nr_c.out; have nee : ge ≠ gc := Ne_c.out; have hb : Below w.heap.size w ww7 := (by subst hw; exact below_set HB.out Gc.out); have KK := Aside0.mk (show ww7.heap[gm]? = some (.cells #[.int .i64 a0_0, .int .i64 a0_1, .int .i64 a0_2, .slice A0_3 l0_3.length c0_3] 46 (0, 0)) by subst hw; exact blk_far Km.out nem _); clear Km; have Km := KK; clear KK; have KK := Aside0.mk (show ww7.heap[gr]? = some (.cells #[.int .i64 0, .int .i64 0, .int .i64 0, .slice none 0 0] 46 (0, 0)) by subst hw; exact blk_far Kr.out ner _); clear Kr; have Kr := KK; clear KK; have KK := Aside0.mk (show ww7.heap[ge]? = some (.cells #[.int .i64 0] 35 (0, 0)) by subst hw; exact blk_far Ke.out nee _); clear Ke; have Ke := KK; clear KK; have KK := Aside0.mk (show ww7.heap[gc]? = some (.cells #[.slice (some ⟨gv, 0, none⟩) l0_3.length capv] 44 (0, 0)) by subst hw; exact blk_put Kc.out 0 _ rfl); clear Kc; have Kc := KK; clear KK; have KK := Aside0.mk (Kd.R_below P_c_HV.out (show Below _ _ ww7 from (by subst hw; exact below_set P_c.out PG_c.out))); clear HV P_c_HV; have HV := KK; clear KK; clear HB; have HB := Aside0.mk hb; clear hb hw nem ner nee; clear zm_0 zm_1 zm_2 zm_3 zc_0 fc_0; have zm_0 : ww7.cell? ⟨gm, 0, none⟩ = some (.int .i64 a0_0) := (blk_cell Km.out 0).trans rfl; have zm_1 : ww7.cell? ⟨gm, 1, none⟩ = some (.int .i64 a0_1) := (blk_cell Km.out 1).trans rfl; have zm_2 : ww7.cell? ⟨gm, 2, none⟩ = some (.int .i64 a0_2) := (blk_cell Km.out 2).trans rfl; have zm_3 : ww7.cell? ⟨gm, 3, none⟩ = some (.slice A0_3 l0_3.length c0_3) := (blk_cell Km.out 3).trans rfl; have zc_0 : ww7.cell? ⟨gc, 0, none⟩ = some (.slice (some ⟨gv, 0, none⟩) l0_3.length capv) := (blk_cell Kc.out 0).trans rfl) | ((with_reducible refine gate_dst (N := 22) rfl ?_); refine Kd.R_copy 0 _ rfl _ _ 44 44 5 rfl Try.underlying44 (by kernel_rfl) _ _ _ _ _ _ _ rfl rfl HV.out (Kd.C_below HR.out HB.out) HB.out HB.out.size ?_; intro ww8 ho hb hg_; replace hg_ : ww7.grownBy ww8 (some gv) := hg_; rw [List.length_replicate, Nat.min_self, List.take_length, List.drop_eq_nil_of_le (by rw [List.length_replicate]; exact Nat.le_refl _), List.append_nil] at ho; clear HV HB; have HV := Aside0.mk ho; have HB := Aside0.mk hb; have KK := Aside0.mk (blk_grown Km.out hg_ (fun h => Nm_v.out (Option.some.inj h))); clear Km; have Km := KK; clear KK; have KK := Aside0.mk (blk_grown Kr.out hg_ (fun h => Nr_v.out (Option.some.inj h))); clear Kr; have Kr := KK; clear KK; have KK := Aside0.mk (blk_grown Ke.out hg_ (fun h => Ne_v.out (Option.some.inj h))); clear Ke; have Ke := KK; clear KK; have KK := Aside0.mk (blk_grown Kc.out hg_ (fun h => Nc_v.out (Option.some.inj h))); clear Kc; have Kc := KK; clear KK; clear ho hb hg_; clear zm_0 zm_1 zm_2 zm_3 zc_0; have zm_0 : ww8.cell? ⟨gm, 0, none⟩ = some (.int .i64 a0_0) := (blk_cell Km.out 0).trans rfl; have fm_0 := blk_frozen Km.out 0; have zm_1 : ww8.cell? ⟨gm, 1, none⟩ = some (.int .i64 a0_1) := (blk_cell Km.out 1).trans rfl; have fm_1 := blk_frozen Km.out 1; have zm_2 : ww8.cell? ⟨gm, 2, none⟩ = some (.int .i64 a0_2) := (blk_cell Km.out 2).trans rfl; have fm_2 := blk_frozen Km.out 2; have zm_3 : ww8.cell? ⟨gm, 3, none⟩ = some (.slice A0_3 l0_3.length c0_3) := (blk_cell Km.out 3).trans rfl; have fm_3 := blk_frozen Km.out 3; have zc_0 : ww8.cell? ⟨gc, 0, none⟩ = some (.slice (some ⟨gv, 0, none⟩) l0_3.length capv) := (blk_cell Kc.out 0).trans rfl) | ((with_reducible refine gate_store (t := 44) (p := 24) rfl ?_); refine store_event (t := 44) (p := 24) (v := ?vo_ww9) (w1 := (ww8.setCell ⟨gm, 3, none⟩ (.slice (some ⟨gv, 0, none⟩) l0_3.length capv))) ?hg ?ho ?hn ?hr ?_; (case ho => rfl); (case hg => rfl); (case hn => rfl); (case hr => first | (go_simp; done) | (go_simp; rfl)); intro ww9 hw; have ner : gr ≠ gm := fun h => Nm_r.out h.symm; have nee : ge ≠ gm := fun h => Nm_e.out h.symm; have nec : gc ≠ gm := fun h => Nm_c.out h.symm; have hb : Below w.heap.size w ww9 := (by subst hw; exact below_set HB.out Gm.out); have KK := Aside0.mk (show ww9.heap[gm]? = some (.cells #[.int .i64 a0_0, .int .i64 a0_1, .int .i64 a0_2, .slice (some ⟨gv, 0, none⟩) l0_3.length capv] 46 (0, 0)) by subst hw; exact blk_put Km.out 3 _ rfl); clear Km; have Km := KK; clear KK; have KK := Aside0.mk (show ww9.heap[gr]? = some (.cells #[.int .i64 0, .int .i64 0, .int .i64 0, .slice none 0 0] 46 (0, 0)) by subst hw; exact blk_far Kr.out ner _); clear Kr; have Kr := KK; clear KK; have KK := Aside0.mk (show ww9.heap[ge]? = some (.cells #[.int .i64 0] 35 (0, 0)) by subst hw; exact blk_far Ke.out nee _); clear Ke; have Ke := KK; clear KK; have KK := Aside0.mk (show ww9.heap[gc]? = some (.cells #[.slice (some ⟨gv, 0, none⟩) l0_3.length capv] 44 (0, 0)) by subst hw; exact blk_far Kc.out nec _); clear Kc; have Kc := KK; clear KK; have KK := Aside0.mk (show Kd.R (Kd.int .u8) 5 ww9 w.heap.size (fun k => k = gv) (.slice (some ⟨gv, 0, none⟩) l0_3.length capv) l0_3 by subst hw; exact Kd.R_far HV.out (fun k hk he => Nm_v.out (by subst hk; exact he.symm)) _); clear HV; have HV := KK; clear KK; clear HB; have HB := Aside0.mk hb; clear hb hw ner nee nec; clear zm_0 fm_0 zm_1 fm_1 zm_2 fm_2 zm_3 fm_3 zc_0))
  refine (wpIn_wide (n := 9)).1 ?_
  refine wpIn_rangeFunc_ownH (F := Fence.wide) (n := 9) rfl (by omega) (gf := 42) (lb := #[.pointer (some ⟨Bs, 0, none⟩)]) rfl trivial (enters_of Try.func42 (by kernel_rfl) rfl)
    (crater_strikes.vals Fence.wide (9 - 1) trivial rfl (by omega) Bs A1 c1 l1 w HB1.out HR1.out) belowK_t (belowK_b HB.out.size) HB.out (fun _ => rfl)
    (fun pre W => ((∀ x ∈ pre, crater_strikes.may x = true) ∧ crater_strikes.St w gm gr ge gc gv capv a0_0 a0_1 a0_2 l0_3.length (.int .i64 0) W (pre.foldl (crater_strikes.one a0_0 a0_1) l0_3)) ∧ Below w.heap.size w W)
    (fun c pre W => ((c = .ret ∧ ∃ x ∈ pre, crater_strikes.may x = false) ∧ ∃ cs, crater_strikes.St w gm gr ge gc gv capv a0_0 a0_1 a0_2 l0_3.length (.int .i64 1) W cs) ∧ Below w.heap.size w W)
    (OwnFrom.and (OwnFrom.and (ownFrom_pure _ _) (Own.from (crater_strikes.own _ _ _ _ _ _ _ _ _ _ _ _ _) _)) (ownFrom_below (Nat.le_refl _) HB.out.size))
    (fun c => OwnFrom.and (OwnFrom.and (ownFrom_pure _ _) (fun s A B row hs hg hr => hs.imp fun cs h => Own.from (crater_strikes.own w gm gr ge gc gv capv a0_0 a0_1 a0_2 l0_3.length (.int .i64 1) (fun _ => cs)) _ s A B row h hg hr)) (ownFrom_below (Nat.le_refl _) HB.out.size))
    ⟨⟨by simp, ⟨Km.out, Kr.out, Ke.out, Kc.out, HV.out⟩⟩, HB.out⟩
    (fun x a' W => ∃ Bx, (gm ≠ Bx ∧ gr ≠ Bx ∧ ge ≠ Bx ∧ gc ≠ Bx ∧ gv ≠ Bx ∧ w.heap.size ≤ Bx) ∧ W.heap[Bx]? = some (.cells #[.int .i64 x.f0, .int .i64 x.f1, .int .i64 x.f2, .int .i64 x.f3] 23 (0, 0)) ∧ a' = { tmps := #[.agg #[.int .i64 a0_0, .int .i64 a0_1, .int .i64 a0_2, .slice A0_3 l0_3.length c0_3], .func (.func 42) #[] #[.pointer (some ⟨Bs, 0, none⟩)], .pointer (some ⟨gm, 0, none⟩), undef, .pointer (some ⟨gr, 0, none⟩), .pointer (some ⟨ge, 0, none⟩), .pointer (some ⟨gc, 0, none⟩), .pointer (some ⟨Bx, 0, none⟩), undef, undef, undef, .agg #[.int .i64 a0_0, .int .i64 a0_1, .int .i64 a0_2, .slice A0_3 l0_3.length c0_3], .int .i64 0, .bool false, undef, .pointer (some ⟨gm, 3, none⟩), .slice A0_3 l0_3.length c0_3, .int .i64 (l0_3.length : Int), .slice (some ⟨gv, 0, none⟩) l0_3.length capv, .slice (some ⟨gv, 0, none⟩) l0_3.length capv, .pointer (some ⟨gm, 3, none⟩), .slice A0_3 l0_3.length c0_3, .int .i64 (l0_3.length : Int), .slice (some ⟨gv, 0, none⟩) l0_3.length capv, .pointer (some ⟨gm, 3, none⟩), .func (.func 42) #[] #[.pointer (some ⟨Bs, 0, none⟩)], .agg #[.int .i64 x.f0, .int .i64 x.f1, .int .i64 x.f2, .int .i64 x.f3], undef, undef, undef, undef, undef, undef, undef, undef, undef, undef, undef, undef, undef, undef, undef, undef, undef, undef, undef, undef, undef, undef, undef, undef, undef, undef, undef, undef, undef, undef, undef, undef, undef, undef, undef, undef, undef, undef, undef, undef, undef, undef, undef, undef, undef, undef, undef, undef, undef, undef, undef, undef, undef, undef, undef, undef, undef, undef, undef, undef, undef, undef, undef], defers := [] })
    (fun x a' s A B row hs hg hr => by obtain ⟨Bx, h1, h2, h3⟩ := hs; exact ⟨Bx, h1, own_blk Bx _ (fun (_ : Unit) => _) () A B row h2 hg (fun r e => (hr r e).2), h3⟩)
    ?assign ?body ?done ?stop
  case assign =>
    rintro l pre x W K hi hK
    have HI := Aside0.mk hi
    have HK := Aside0.mk hK
    clear hi hK
    gi_wp2
    have hS := HI.out.1.2
    refine HK.out _ _ ((KeepsOthers.alloc _ _).from _) ((Below.refl _ W).alloc HI.out.2.size _) ⟨⟨HI.out.1.1, hS.below (below_alloc (Below.refl _ _) _)⟩, HI.out.2.alloc HI.out.2.size _⟩ ⟨W.heap.size, ⟨?_, ?_, ?_, ?_, ?_, HI.out.2.size⟩, blk_new W _, rfl⟩
    · have := blk_lt hS.m; omega
    · have := blk_lt hS.r; omega
    · have := blk_lt hS.e; omega
    · have := blk_lt hS.c; omega
    · have := Kd.R_lt hS.v gv rfl; omega
  case body =>
    rintro l pre x a' W hl ⟨r, hr⟩ hi ⟨Bx, hne, hx, rfl⟩ hlt
    have HS := Aside0.mk hi.1.2
    have HP := Aside0.mk hi.1.1
    have HB' := Aside0.mk hi.2
    have HX := Aside0.mk hx
    have HN := Aside0.mk hne
    have y0 := (blk_cell hx 0).trans rfl
    have y1 := (blk_cell hx 1).trans rfl
    have y2 := (blk_cell hx 2).trans rfl
    have y3 := (blk_cell hx 3).trans rfl
    clear hi hne hx hr hlt hl
    have hd0 : 1 ≤ 9 - 1 - 1 := by omega
    have hmx : Try.prog.follows .mixedOrders = true := by kernel_rfl
    obtain ⟨b, hb⟩ := crater_strikes.may_some x
    have hmb : crater_strikes.may x = b := by unfold crater_strikes.may; rw [hb]; rfl
    have HMB := Aside0.mk hb
    clear hb
    cases b
    · have HF := Aside0.mk hmb
      clear hmb
      gi_wp2_with (refine ⟨trivial, ?_⟩; gi_at_call 13; refine (CallsIn.inRound l (callsIn_wide.2 (crater_May.calls _ _ _ _ false _ HMB.out))).mono ?_; rintro e w2 ⟨rfl, hb2⟩; have HB2 := Aside0.mk hb2; clear hb2; have HS2 := Aside0.mk (HS.out.below HB2.out); have x0 := (blk_cell HS2.out.r 0).trans rfl; have x1 := (blk_cell HS2.out.r 1).trans rfl; have x2 := (blk_cell HS2.out.r 2).trans rfl; have x3 := (blk_cell HS2.out.r 3).trans rfl; have x4 := (blk_cell HS2.out.e 0).trans rfl; have f0 := blk_frozen HS2.out.r 0; have f1 := blk_frozen HS2.out.r 1; have f2 := blk_frozen HS2.out.r 2; have f3 := blk_frozen HS2.out.r 3; have f4 := blk_frozen HS2.out.e 0; have ne1 : gr ≠ ge := Nr_e.out; have ne2 : ge ≠ gr := fun h => Nr_e.out h.symm)
      refine ⟨(keepsFrom_below HB2.out).trans (KeepsOthers.from (((((KeepsOthers.setCell _ _ _).trans (KeepsOthers.setCell _ _ _)).trans (KeepsOthers.setCell _ _ _)).trans (KeepsOthers.setCell _ _ _)).trans (KeepsOthers.setCell _ _ _)) _), ⟨⟨rfl, x, by simp, HF.out⟩, _, HS2.out.err Nm_r.out Nm_e.out Nr_e.out (fun h => Nr_c.out h.symm) (fun h => Ne_c.out h.symm) Nr_v.out Ne_v.out⟩, below_set (below_set (below_set (below_set (below_set (below_step HB'.out HB2.out) Gr.out) Gr.out) Gr.out) Gr.out) Ge.out⟩
    · have HF := Aside0.mk hmb
      clear hmb
      have HXB := Aside0.mk (crater_strikes.may_b HMB.out)
      obtain ⟨J0, hJ0⟩ : ∃ j, crater_strikes.from x.f1 x.f2 = j := ⟨_, rfl⟩
      obtain ⟨J1, hJ1⟩ : ∃ j, crater_strikes.to a0_1 x.f1 x.f2 = j := ⟨_, rfl⟩
      obtain ⟨I0, hI0⟩ : ∃ j, crater_strikes.from x.f0 x.f2 = j := ⟨_, rfl⟩
      obtain ⟨I1, hI1⟩ : ∃ j, crater_strikes.to a0_0 x.f0 x.f2 = j := ⟨_, rfl⟩
      have hone : crater_strikes.one a0_0 a0_1 (pre.foldl (crater_strikes.one a0_0 a0_1) l0_3) x = crater_strikes.rows a0_0 x J0 I0 (I1 + 1 - I0).toNat (J1 + 1 - J0).toNat (pre.foldl (crater_strikes.one a0_0 a0_1) l0_3) := by
        unfold crater_strikes.one
        rw [hJ0, hJ1, hI0, hI1]
      have HO := Aside0.mk hone
      clear hone
      have hj0 : (if 0 < wrap64 (x.f1 - x.f2) then wrap64 (x.f1 - x.f2) else 0) = J0 := hJ0
      have hj1 : (if wrap64 (x.f1 + x.f2) < a0_1 then wrap64 (x.f1 + x.f2) else a0_1) = J1 := hJ1
      have hi0 : (if 0 < wrap64 (x.f0 - x.f2) then wrap64 (x.f0 - x.f2) else 0) = I0 := hI0
      have hi1 : (if wrap64 (x.f0 + x.f2) < a0_0 then wrap64 (x.f0 + x.f2) else a0_0) = I1 := hI1
      have HJ : Aside0 ((0 ≤ J0 ∧ J0 ≤ 128 ∧ -64 ≤ J1 ∧ J1 ≤ a0_1) ∧ (0 ≤ I0 ∧ I0 ≤ 128 ∧ -64 ≤ I1 ∧ I1 ≤ a0_0)) := ⟨by
        have := HXB.out
        have := HG.out
        rw [show wrap64 (x.f1 - x.f2) = x.f1 - x.f2 by unfold wrap64; omega] at hj0
        rw [show wrap64 (x.f1 + x.f2) = x.f1 + x.f2 by unfold wrap64; omega] at hj1
        rw [show wrap64 (x.f0 - x.f2) = x.f0 - x.f2 by unfold wrap64; omega] at hi0
        rw [show wrap64 (x.f0 + x.f2) = x.f0 + x.f2 by unfold wrap64; omega] at hi1
        omega⟩
      clear hJ0 hJ1 hI0 hI1
      obtain ⟨cs0, hcs0⟩ : ∃ c, pre.foldl (crater_strikes.one a0_0 a0_1) l0_3 = c := ⟨_, rfl⟩
      have HC0 := Aside0.mk hcs0
      clear hcs0
      gi_wp2_with (refine ⟨trivial, ?_⟩; gi_at_call 13; refine (CallsIn.inRound l (callsIn_wide.2 (crater_May.calls _ _ _ _ true _ HMB.out))).mono ?_; rintro e w2 ⟨rfl, hb2⟩; have HB2 := Aside0.mk hb2; clear hb2 y0 y1 y2 y3; have HS2 := Aside0.mk (HS.out.below HB2.out); have HX2 := Aside0.mk (blk_below HX.out HB2.out); have y0 := (blk_cell HX2.out 0).trans rfl; have y1 := (blk_cell HX2.out 1).trans rfl; have y2 := (blk_cell HX2.out 2).trans rfl; have y3 := (blk_cell HX2.out 3).trans rfl)
      gi_loopw [8] (fun v wr => ∃ n : Nat, v = .int .i64 (J0 + n) ∧ (n = 0 ∨ J0 + n ≤ J1 + 1) ∧ crater_strikes.St w gm gr ge gc gv capv a0_0 a0_1 a0_2 l0_3.length (.int .i64 0) wr (crater_strikes.rows a0_0 x J0 I0 (I1 + 1 - I0).toNat n cs0) ∧ wr.heap[Bx]? = some (.cells #[.int .i64 x.f0, .int .i64 x.f1, .int .i64 x.f2, .int .i64 x.f3] 23 (0, 0)) ∧ Below w.heap.size W wr ∧ KeepsFrom ww9.heap.size W wr)
        (fun v _ => (J1 + 1 - intOf v).toNat)
      case atStart =>
        exact ⟨0, by simp, .inl rfl, by rw [HC0.out] at HS2; exact HS2.out, HX2.out, HB2.out.mono HB'.out.size, keepsFrom_below HB2.out⟩
      case round =>
        clear y0 y1 y2 y3
        obtain ⟨n, rfl, hn, hSr, hXr, hBr, hKr⟩ := hrel
        have HSr := Aside0.mk hSr
        have HXr := Aside0.mk hXr
        have HBr := Aside0.mk hBr
        have HKr := Aside0.mk hKr
        have HN2 := Aside0.mk hn
        clear hSr hXr hBr hKr hn
        obtain ⟨jj, hjj⟩ : ∃ j, J0 + (n : Int) = j := ⟨_, rfl⟩
        rw [hjj]
        have HJJ := Aside0.mk hjj
        clear hjj
        have z0 := (blk_cell HSr.out.m 0).trans rfl
        have z1 := (blk_cell HSr.out.m 1).trans rfl
        have z4 := (blk_cell HSr.out.c 0).trans rfl
        have y0 := (blk_cell HXr.out 0).trans rfl
        have y1 := (blk_cell HXr.out 1).trans rfl
        have y2 := (blk_cell HXr.out 2).trans rfl
        have y3 := (blk_cell HXr.out 3).trans rfl
        by_cases tj : jj ≤ J1
        · have tjb : decide (jj ≤ J1) = true := decide_eq_true tj
          have HTJ := Aside0.mk tj
          clear tj
          gi_wp2
          gi_loopw [9, 10] (fun v _ wr => ∃ n' : Nat, v = .int .i64 (I0 + n') ∧ (n' = 0 ∨ I0 + n' ≤ I1 + 1) ∧ crater_strikes.St w gm gr ge gc gv capv a0_0 a0_1 a0_2 l0_3.length (.int .i64 0) wr (crater_strikes.row a0_0 x jj I0 n' (crater_strikes.rows a0_0 x J0 I0 (I1 + 1 - I0).toNat n cs0)) ∧ wr.heap[Bx]? = some (.cells #[.int .i64 x.f0, .int .i64 x.f1, .int .i64 x.f2, .int .i64 x.f3] 23 (0, 0)) ∧ Below w.heap.size W wr ∧ KeepsFrom ww9.heap.size W wr)
            (fun v _ _ => (I1 + 1 - intOf v).toNat)
          case atStart =>
            exact ⟨0, by simp, .inl rfl, HSr.out, HXr.out, HBr.out, HKr.out⟩
          case round =>
            clear z0 z1 z4 y0 y1 y2 y3 HSr HXr HBr HKr
            obtain ⟨n', rfl, hn, hSr, hXr, hBr, hKr⟩ := hrel
            have HSr := Aside0.mk hSr
            have HXr := Aside0.mk hXr
            have HBr := Aside0.mk hBr
            have HKr := Aside0.mk hKr
            have HN3 := Aside0.mk hn
            clear hSr hXr hBr hKr hn
            obtain ⟨ii, hii⟩ : ∃ j, I0 + (n' : Int) = j := ⟨_, rfl⟩
            rw [hii]
            have HII := Aside0.mk hii
            clear hii
            have z0 := (blk_cell HSr.out.m 0).trans rfl
            have z1 := (blk_cell HSr.out.m 1).trans rfl
            have z4 := (blk_cell HSr.out.c 0).trans rfl
            have y0 := (blk_cell HXr.out 0).trans rfl
            have y1 := (blk_cell HXr.out 1).trans rfl
            have y2 := (blk_cell HXr.out 2).trans rfl
            have y3 := (blk_cell HXr.out 3).trans rfl
            by_cases ti : ii ≤ I1
            · have tib : decide (ii ≤ I1) = true := decide_eq_true ti
              have HTI := Aside0.mk ti
              clear ti
              obtain ⟨ix, hix⟩ : ∃ j, (a0_0 + 1) * jj + ii = j := ⟨_, rfl⟩
              have HIX : Aside0 (wrap64 (wrap64 (wrap64 (a0_0 + 1) * jj) + ii) = ix ∧ 0 ≤ ix ∧ ix < (l0_3.length : Int)) := ⟨by
                have := crater_strikes.idx HG.out (show 0 ≤ jj by have := HJJ.out; have := HJ.out; omega) (show jj ≤ a0_1 by have := HTJ.out; have := HJ.out; omega) (show 0 ≤ ii by have := HII.out; have := HJ.out; omega) (show ii ≤ a0_0 by have := HTI.out; have := HJ.out; omega)
                rw [hix] at this
                exact this⟩
              have hw3 := HIX.out.1
              have p0 : 0 ≤ ix := HIX.out.2.1
              have q0 : ix < (l0_3.length : Int) := HIX.out.2.2
              have qi : ix.toNat < l0_3.length := by omega
              obtain ⟨cs, hcs⟩ : ∃ c, crater_strikes.row a0_0 x jj I0 n' (crater_strikes.rows a0_0 x J0 I0 (I1 + 1 - I0).toNat n cs0) = c := ⟨_, rfl⟩
              have HCS := Aside0.mk hcs
              have HIX2 := Aside0.mk hix
              clear hix hcs
              rw [HCS.out] at HSr
              have x0 := (Kd.R_celln 0 HSr.out.v ix p0 q0).1
              have x1 := (Kd.R_celln 0 HSr.out.v ix p0 q0).2
              have HIW : Aside0 (wrap64 (ii + 1) = ii + 1) := ⟨by have := HTI.out; have := HJ.out; have := HII.out; have := HG.out; unfold wrap64; omega⟩
              gi_wp2
              refine wpIn_region_any hmx ?_
              refine any_round (by kernel_rfl) (fun h => h.elim (fun _ h => h.elim (fun _ h => h))) _ _ _ _ ?_
              change wpAny _ _ _ _ _ _ _ (World.drew _)
              refine wpAny_take (i := 0) (v := _) rfl (by kernel_rfl) (by kernel_rfl) (by kernel_rfl) (fun _ _ _ h => h) (Or.inl ⟨by rfl, by intro w; go_simp; try with_reducible rfl⟩) ?_
              try simp only [Act.put, List.setIfInBounds_toArray, List.set_cons_zero, List.set_cons_succ]
              refine wpAny_take (i := 1) (v := _) rfl (by kernel_rfl) (by kernel_rfl) (by kernel_rfl) (fun _ _ _ h => h) (Or.inl ⟨by rfl, by intro w; go_simp; try with_reducible rfl⟩) ?_
              try simp only [Act.put, List.setIfInBounds_toArray, List.set_cons_zero, List.set_cons_succ]
              refine wpAny_take (i := 6) (v := _) rfl (by kernel_rfl) (by kernel_rfl) (by kernel_rfl) (fun _ _ _ h => h) (Or.inl ⟨by rfl, by intro w; go_simp; try with_reducible rfl⟩) ?_
              try simp only [Act.put, List.setIfInBounds_toArray, List.set_cons_zero, List.set_cons_succ]
              refine wpAny_take (i := 7) (v := _) rfl (by kernel_rfl) (by kernel_rfl) (by kernel_rfl) (fun _ _ _ h => h) (Or.inl ⟨by rfl, by intro w; go_simp; try with_reducible rfl⟩) ?_
              try simp only [Act.put, List.setIfInBounds_toArray, List.set_cons_zero, List.set_cons_succ]
              refine wpAny_take (i := 2) (v := _) rfl (by kernel_rfl) (by kernel_rfl) (by kernel_rfl) (fun _ _ _ h => h) (Or.inl ⟨by rfl, by intro w; go_simp; try with_reducible rfl⟩) ?_
              try simp only [Act.put, List.setIfInBounds_toArray, List.set_cons_zero, List.set_cons_succ]
              refine wpAny_ready (rs := [3, 5]) (by kernel_rfl) (by simp) ?_
              refine AllReady.cons rfl (fun K hK => ?_) ?_
              · go_simp
                refine hK _ _ ?_
                clear hK K
                try simp only [Act.put, List.setIfInBounds_toArray, List.set_cons_zero, List.set_cons_succ]
                refine wpAny_take (i := 4) (v := _) rfl (by kernel_rfl) (by kernel_rfl) (by kernel_rfl) (fun _ _ _ h => h) (Or.inl ⟨by rfl, by intro w; go_simp; try with_reducible rfl⟩) ?_
                try simp only [Act.put, List.setIfInBounds_toArray, List.set_cons_zero, List.set_cons_succ]
                refine wpAny_ready (rs := [5]) (by kernel_rfl) (by simp) ?_
                refine AllReady.cons rfl (fun K hK => ?_) ?_
                · go_simp
                  refine hK _ _ ?_
                  clear hK K
                  try simp only [Act.put, List.setIfInBounds_toArray, List.set_cons_zero, List.set_cons_succ]
                  refine wpAny_ready (rs := [8]) (by kernel_rfl) (by simp) ?_
                  refine AllReady.cons rfl (fun K hK => ?_) ?_
                  · go_simp
                    go_at_call 15; refine (crater_Lowers.calls _ _ _ _ ii jj _ _ (crater_strikes.low_some HMB.out ii jj)).mono ?_; rintro e w3 ⟨rfl, hb3⟩; have HB3 := Aside0.mk hb3; clear hb3; have x2 : w3.cell? ⟨gv, ix.toNat, none⟩ = some (.int .u8 (rdOf 0 cs ix)) := pw_cell_below HB3.out x0; have x3 : w3.frozen? ⟨gv, ix.toNat, none⟩ = false := (HB3.out.frozen (p := ⟨gv, ix.toNat, none⟩) (by exact Kd.R_lt HSr.out.v gv rfl)).trans x1; clear x0 x1; dsimp only
                    refine hK _ _ ?_
                    clear hK K
                    try simp only [Act.put, List.setIfInBounds_toArray, List.set_cons_zero, List.set_cons_succ]
                    refine wpAny_ready (rs := [9]) (by kernel_rfl) (by simp) ?_
                    refine AllReady.cons rfl (fun K hK => ?_) ?_
                    · go_simp
                      refine hK _ _ ?_
                      clear hK K
                      try simp only [Act.put, List.setIfInBounds_toArray, List.set_cons_zero, List.set_cons_succ]
                      refine wpAny_ready (rs := [10]) (by kernel_rfl) (by simp) ?_
                      refine AllReady.cons rfl (fun K hK => ?_) ?_
                      · go_simp
                        refine hK _ _ ?_
                        clear hK K
                        try simp only [Act.put, List.setIfInBounds_toArray, List.set_cons_zero, List.set_cons_succ]
                        refine wpAny_ready (rs := [11]) (by kernel_rfl) (by simp) ?_
                        refine AllReady.cons rfl (fun K hK => ?_) ?_
                        · go_simp
                          refine hK _ _ ?_
                          clear hK K
                          try simp only [Act.put, List.setIfInBounds_toArray, List.set_cons_zero, List.set_cons_succ]
                          refine wpAny_ready (rs := [12]) (by kernel_rfl) (by simp) ?_
                          refine AllReady.cons rfl (fun K hK => ?_) ?_
                          · go_simp
                            refine hK _ _ ?_
                            clear hK K
                            try simp only [Act.put, List.setIfInBounds_toArray, List.set_cons_zero, List.set_cons_succ]
                            refine wpAny_ready (rs := [13]) (by kernel_rfl) (by simp) ?_
                            refine AllReady.cons rfl (fun K hK => ?_) ?_
                            · go_simp
                              refine hK _ _ ?_
                              clear hK K
                              try simp only [Act.put, List.setIfInBounds_toArray, List.set_cons_zero, List.set_cons_succ]
                              refine wpAny_done (by kernel_rfl) ?_ _
                              gi_wp2
                              have hb4 : Below wr.heap.size wr w3 := (below_drew (Below.refl _ _)).trans HB3.out
                              refine ⟨⟨n' + 1, ?_, .inr ?_, ?_, blk_far (blk_below HXr.out hb4) (fun e => HN.out.2.2.2.2.1 e.symm) _, (HBr.out.trans (hb4.mono (by have := HB'.out.size; have := HBr.out.size; omega))).setCell (p := ⟨gv, ix.toNat, none⟩) Gv.out _, HKr.out.trans ((keepsFrom_below hb4).trans ((KeepsOthers.setCell _ _ _).from _))⟩, ?_⟩
                              · rw [HIW.out, ← HII.out, Int.natCast_succ, Int.add_assoc]
                              · have := HTI.out; have := HII.out; omega
                              · have h := (HSr.out.below hb4).put Nm_v.out Nr_v.out Ne_v.out Nc_v.out ix (mx 0 (wrap64 (wrap64 (rdOf 0 cs ix) - crater_strikes.low x ii jj)) % 256)
                                have e : crater_strikes.row a0_0 x jj I0 (n' + 1) (crater_strikes.rows a0_0 x J0 I0 (I1 + 1 - I0).toNat n cs0) = cs.set ix.toNat (mx 0 (wrap64 (wrap64 (rdOf 0 cs ix) - crater_strikes.low x ii jj)) % 256) := by
                                  show crater_strikes.put a0_0 x jj (I0 + n') (crater_strikes.row a0_0 x jj I0 n' _) = _
                                  rw [HCS.out, HII.out]
                                  unfold crater_strikes.put
                                  rw [HIX2.out]
                                  rfl
                                rw [e]
                                exact h
                              · rw [HIW.out]
                                have := HTI.out
                                simp only [intOf]
                                omega
                            exact AllReady.nil
                          exact AllReady.nil
                        exact AllReady.nil
                      exact AllReady.nil
                    exact AllReady.nil
                  exact AllReady.nil
                exact AllReady.nil
              refine AllReady.cons rfl (fun K hK => ?_) ?_
              · go_simp
                refine hK _ _ ?_
                clear hK K
                try simp only [Act.put, List.setIfInBounds_toArray, List.set_cons_zero, List.set_cons_succ]
                refine wpAny_ready (rs := [3, 8]) (by kernel_rfl) (by simp) ?_
                refine AllReady.cons rfl (fun K hK => ?_) ?_
                · go_simp
                  refine hK _ _ ?_
                  clear hK K
                  try simp only [Act.put, List.setIfInBounds_toArray, List.set_cons_zero, List.set_cons_succ]
                  refine wpAny_take (i := 4) (v := _) rfl (by kernel_rfl) (by kernel_rfl) (by kernel_rfl) (fun _ _ _ h => h) (Or.inl ⟨by rfl, by intro w; go_simp; try with_reducible rfl⟩) ?_
                  try simp only [Act.put, List.setIfInBounds_toArray, List.set_cons_zero, List.set_cons_succ]
                  refine wpAny_ready (rs := [8]) (by kernel_rfl) (by simp) ?_
                  refine AllReady.cons rfl (fun K hK => ?_) ?_
                  · go_simp
                    go_at_call 15; refine (crater_Lowers.calls _ _ _ _ ii jj _ _ (crater_strikes.low_some HMB.out ii jj)).mono ?_; rintro e w3 ⟨rfl, hb3⟩; have HB3 := Aside0.mk hb3; clear hb3; have x2 : w3.cell? ⟨gv, ix.toNat, none⟩ = some (.int .u8 (rdOf 0 cs ix)) := pw_cell_below HB3.out x0; have x3 : w3.frozen? ⟨gv, ix.toNat, none⟩ = false := (HB3.out.frozen (p := ⟨gv, ix.toNat, none⟩) (by exact Kd.R_lt HSr.out.v gv rfl)).trans x1; clear x0 x1; dsimp only
                    refine hK _ _ ?_
                    clear hK K
                    try simp only [Act.put, List.setIfInBounds_toArray, List.set_cons_zero, List.set_cons_succ]
                    refine wpAny_ready (rs := [9]) (by kernel_rfl) (by simp) ?_
                    refine AllReady.cons rfl (fun K hK => ?_) ?_
                    · go_simp
                      refine hK _ _ ?_
                      clear hK K
                      try simp only [Act.put, List.setIfInBounds_toArray, List.set_cons_zero, List.set_cons_succ]
                      refine wpAny_ready (rs := [10]) (by kernel_rfl) (by simp) ?_
                      refine AllReady.cons rfl (fun K hK => ?_) ?_
                      · go_simp
                        refine hK _ _ ?_
                        clear hK K
                        try simp only [Act.put, List.setIfInBounds_toArray, List.set_cons_zero, List.set_cons_succ]
                        refine wpAny_ready (rs := [11]) (by kernel_rfl) (by simp) ?_
                        refine AllReady.cons rfl (fun K hK => ?_) ?_
                        · go_simp
                          refine hK _ _ ?_
                          clear hK K
                          try simp only [Act.put, List.setIfInBounds_toArray, List.set_cons_zero, List.set_cons_succ]
                          refine wpAny_ready (rs := [12]) (by kernel_rfl) (by simp) ?_
                          refine AllReady.cons rfl (fun K hK => ?_) ?_
                          · go_simp
                            refine hK _ _ ?_
                            clear hK K
                            try simp only [Act.put, List.setIfInBounds_toArray, List.set_cons_zero, List.set_cons_succ]
                            refine wpAny_ready (rs := [13]) (by kernel_rfl) (by simp) ?_
                            refine AllReady.cons rfl (fun K hK => ?_) ?_
                            · go_simp
                              refine hK _ _ ?_
                              clear hK K
                              try simp only [Act.put, List.setIfInBounds_toArray, List.set_cons_zero, List.set_cons_succ]
                              refine wpAny_done (by kernel_rfl) ?_ _
                              gi_wp2
                              have hb4 : Below wr.heap.size wr w3 := (below_drew (Below.refl _ _)).trans HB3.out
                              refine ⟨⟨n' + 1, ?_, .inr ?_, ?_, blk_far (blk_below HXr.out hb4) (fun e => HN.out.2.2.2.2.1 e.symm) _, (HBr.out.trans (hb4.mono (by have := HB'.out.size; have := HBr.out.size; omega))).setCell (p := ⟨gv, ix.toNat, none⟩) Gv.out _, HKr.out.trans ((keepsFrom_below hb4).trans ((KeepsOthers.setCell _ _ _).from _))⟩, ?_⟩
                              · rw [HIW.out, ← HII.out, Int.natCast_succ, Int.add_assoc]
                              · have := HTI.out; have := HII.out; omega
                              · have h := (HSr.out.below hb4).put Nm_v.out Nr_v.out Ne_v.out Nc_v.out ix (mx 0 (wrap64 (wrap64 (rdOf 0 cs ix) - crater_strikes.low x ii jj)) % 256)
                                have e : crater_strikes.row a0_0 x jj I0 (n' + 1) (crater_strikes.rows a0_0 x J0 I0 (I1 + 1 - I0).toNat n cs0) = cs.set ix.toNat (mx 0 (wrap64 (wrap64 (rdOf 0 cs ix) - crater_strikes.low x ii jj)) % 256) := by
                                  show crater_strikes.put a0_0 x jj (I0 + n') (crater_strikes.row a0_0 x jj I0 n' _) = _
                                  rw [HCS.out, HII.out]
                                  unfold crater_strikes.put
                                  rw [HIX2.out]
                                  rfl
                                rw [e]
                                exact h
                              · rw [HIW.out]
                                have := HTI.out
                                simp only [intOf]
                                omega
                            exact AllReady.nil
                          exact AllReady.nil
                        exact AllReady.nil
                      exact AllReady.nil
                    exact AllReady.nil
                  exact AllReady.nil
                refine AllReady.cons rfl (fun K hK => ?_) ?_
                · go_simp
                  go_at_call 15; refine (crater_Lowers.calls _ _ _ _ ii jj _ _ (crater_strikes.low_some HMB.out ii jj)).mono ?_; rintro e w3 ⟨rfl, hb3⟩; have HB3 := Aside0.mk hb3; clear hb3; have x2 : w3.cell? ⟨gv, ix.toNat, none⟩ = some (.int .u8 (rdOf 0 cs ix)) := pw_cell_below HB3.out x0; have x3 : w3.frozen? ⟨gv, ix.toNat, none⟩ = false := (HB3.out.frozen (p := ⟨gv, ix.toNat, none⟩) (by exact Kd.R_lt HSr.out.v gv rfl)).trans x1; clear x0 x1; dsimp only
                  refine hK _ _ ?_
                  clear hK K
                  try simp only [Act.put, List.setIfInBounds_toArray, List.set_cons_zero, List.set_cons_succ]
                  refine wpAny_ready (rs := [3]) (by kernel_rfl) (by simp) ?_
                  refine AllReady.cons rfl (fun K hK => ?_) ?_
                  · go_simp
                    refine hK _ _ ?_
                    clear hK K
                    try simp only [Act.put, List.setIfInBounds_toArray, List.set_cons_zero, List.set_cons_succ]
                    refine wpAny_ready (rs := [4]) (by kernel_rfl) (by simp) ?_
                    refine AllReady.cons rfl (fun K hK => ?_) ?_
                    · go_simp
                      refine hK _ _ ?_
                      clear hK K
                      try simp only [Act.put, List.setIfInBounds_toArray, List.set_cons_zero, List.set_cons_succ]
                      refine wpAny_ready (rs := [9]) (by kernel_rfl) (by simp) ?_
                      refine AllReady.cons rfl (fun K hK => ?_) ?_
                      · go_simp
                        refine hK _ _ ?_
                        clear hK K
                        try simp only [Act.put, List.setIfInBounds_toArray, List.set_cons_zero, List.set_cons_succ]
                        refine wpAny_ready (rs := [10]) (by kernel_rfl) (by simp) ?_
                        refine AllReady.cons rfl (fun K hK => ?_) ?_
                        · go_simp
                          refine hK _ _ ?_
                          clear hK K
                          try simp only [Act.put, List.setIfInBounds_toArray, List.set_cons_zero, List.set_cons_succ]
                          refine wpAny_ready (rs := [11]) (by kernel_rfl) (by simp) ?_
                          refine AllReady.cons rfl (fun K hK => ?_) ?_
                          · go_simp
                            refine hK _ _ ?_
                            clear hK K
                            try simp only [Act.put, List.setIfInBounds_toArray, List.set_cons_zero, List.set_cons_succ]
                            refine wpAny_ready (rs := [12]) (by kernel_rfl) (by simp) ?_
                            refine AllReady.cons rfl (fun K hK => ?_) ?_
                            · go_simp
                              refine hK _ _ ?_
                              clear hK K
                              try simp only [Act.put, List.setIfInBounds_toArray, List.set_cons_zero, List.set_cons_succ]
                              refine wpAny_ready (rs := [13]) (by kernel_rfl) (by simp) ?_
                              refine AllReady.cons rfl (fun K hK => ?_) ?_
                              · go_simp
                                refine hK _ _ ?_
                                clear hK K
                                try simp only [Act.put, List.setIfInBounds_toArray, List.set_cons_zero, List.set_cons_succ]
                                refine wpAny_done (by kernel_rfl) ?_ _
                                gi_wp2
                                have hb4 : Below wr.heap.size wr w3 := (below_drew (Below.refl _ _)).trans HB3.out
                                refine ⟨⟨n' + 1, ?_, .inr ?_, ?_, blk_far (blk_below HXr.out hb4) (fun e => HN.out.2.2.2.2.1 e.symm) _, (HBr.out.trans (hb4.mono (by have := HB'.out.size; have := HBr.out.size; omega))).setCell (p := ⟨gv, ix.toNat, none⟩) Gv.out _, HKr.out.trans ((keepsFrom_below hb4).trans ((KeepsOthers.setCell _ _ _).from _))⟩, ?_⟩
                                · rw [HIW.out, ← HII.out, Int.natCast_succ, Int.add_assoc]
                                · have := HTI.out; have := HII.out; omega
                                · have h := (HSr.out.below hb4).put Nm_v.out Nr_v.out Ne_v.out Nc_v.out ix (mx 0 (wrap64 (wrap64 (rdOf 0 cs ix) - crater_strikes.low x ii jj)) % 256)
                                  have e : crater_strikes.row a0_0 x jj I0 (n' + 1) (crater_strikes.rows a0_0 x J0 I0 (I1 + 1 - I0).toNat n cs0) = cs.set ix.toNat (mx 0 (wrap64 (wrap64 (rdOf 0 cs ix) - crater_strikes.low x ii jj)) % 256) := by
                                    show crater_strikes.put a0_0 x jj (I0 + n') (crater_strikes.row a0_0 x jj I0 n' _) = _
                                    rw [HCS.out, HII.out]
                                    unfold crater_strikes.put
                                    rw [HIX2.out]
                                    rfl
                                  rw [e]
                                  exact h
                                · rw [HIW.out]
                                  have := HTI.out
                                  simp only [intOf]
                                  omega
                              exact AllReady.nil
                            exact AllReady.nil
                          exact AllReady.nil
                        exact AllReady.nil
                      exact AllReady.nil
                    exact AllReady.nil
                  exact AllReady.nil
                exact AllReady.nil
              exact AllReady.nil
            · have tib : decide (ii ≤ I1) = false := decide_eq_false ti
              have hrow : n' = (I1 + 1 - I0).toNat := by have := HII.out; have := HN3.out; omega
              have hjw : wrap64 (jj + 1) = jj + 1 := by have := HTJ.out; have := HJ.out; have := HJJ.out; have := HG.out; unfold wrap64; omega
              have HRW := Aside0.mk hrow
              have HJW := Aside0.mk hjw
              clear hrow hjw ti
              gi_wp2
              refine ⟨⟨n + 1, ?_, .inr ?_, ?_, HXr.out, HBr.out, HKr.out⟩, ?_⟩
              · rw [HJW.out, ← HJJ.out, Int.natCast_succ, Int.add_assoc]
              · have := HTJ.out; have := HJJ.out; omega
              · have h := HSr.out
                rw [← HJJ.out] at h
                rw [← HRW.out]
                rw [← HRW.out] at h
                exact h
              · rw [HJW.out]
                have := HTJ.out
                simp only [intOf]
                omega
        · have tjb : decide (jj ≤ J1) = false := decide_eq_false tj
          have hrow : n = (J1 + 1 - J0).toNat := by have := HJJ.out; have := HN2.out; omega
          have HRW := Aside0.mk hrow
          clear hrow tj
          gi_wp2
          refine ⟨HKr.out, HBr.out, ⟨?_, ?_⟩, HB'.out.trans HBr.out⟩
          · intro y hy
            rcases List.mem_append.1 hy with hy | hy
            · exact HP.out y hy
            · rw [List.mem_singleton.1 hy]; exact HF.out
          · have h := HSr.out
            rw [HRW.out, ← HC0.out, ← HO.out] at h
            rw [List.foldl_append]
            exact h
  case done =>
    rintro D ys W hD hys ⟨⟨hmay, hS⟩, hB⟩ hK
    subst hys
    have h := H.out
    rw [if_pos (List.all_eq_true.2 hmay)] at h
    simp only [Option.some.injEq, Prod.mk.injEq] at h
    obtain ⟨rfl, rfl, rfl, rfl, rfl⟩ := h
    have HK := Aside0.mk hK
    have HS := Aside0.mk hS
    have HB' := Aside0.mk hB
    have HD := Aside0.mk hD
    have HM := Aside0.mk hmay
    have z0 := (blk_cell hS.m 0).trans rfl
    have z1 := (blk_cell hS.m 1).trans rfl
    have z2 := (blk_cell hS.m 2).trans rfl
    have z3 := (blk_cell hS.m 3).trans rfl
    have x0 := (blk_cell hS.r 0).trans rfl
    have x1 := (blk_cell hS.r 1).trans rfl
    have x2 := (blk_cell hS.r 2).trans rfl
    have x3 := (blk_cell hS.r 3).trans rfl
    have x4 := (blk_cell hS.e 0).trans rfl
    have y0 := blk_frozen hS.r 0
    have y1 := blk_frozen hS.r 1
    have y2 := blk_frozen hS.r 2
    have y3 := blk_frozen hS.r 3
    have y4 := blk_frozen hS.e 0
    have ne1 : gr ≠ ge := Nr_e.out
    have ne2 : ge ≠ gr := fun h => Nr_e.out h.symm
    clear hK hS hB hD hmay
    go_wp2
    have hK' := (((((KeepsOthers.setCell W ⟨gr, 0, none⟩ (.int .i64 a0_0)).trans (KeepsOthers.setCell _ ⟨gr, 1, none⟩ (.int .i64 a0_1))).trans (KeepsOthers.setCell _ ⟨gr, 2, none⟩ (.int .i64 a0_2))).trans (KeepsOthers.setCell _ ⟨gr, 3, none⟩ (.slice (some ⟨gv, 0, none⟩) l0_3.length capv))).trans (KeepsOthers.setCell _ ⟨ge, 0, none⟩ (.int .i64 0))).same D _ HK.out rfl
    have hr2 := blk_far (put4 (x0 := .int .i64 a0_0) (x1 := .int .i64 a0_1) (x2 := .int .i64 a0_2) (x3 := .slice (some ⟨gv, 0, none⟩) l0_3.length capv) HS.out.r) ne1 (p := ⟨ge, 0, none⟩) (.int .i64 0)
    have he2 := blk_put (far4 (x0 := .int .i64 a0_0) (x1 := .int .i64 a0_1) (x2 := .int .i64 a0_2) (x3 := .slice (some ⟨gv, 0, none⟩) l0_3.length capv) HS.out.e ne2) 0 (.int .i64 0) rfl
    have fr : ∀ k, k = gv → k ≠ gr := fun k hk he => Nr_v.out (he.symm.trans hk)
    have fe : ∀ k, k = gv → k ≠ ge := fun k hk he => Ne_v.out (he.symm.trans hk)
    have hv2 := Kd.R_far (Kd.R_far (Kd.R_far (Kd.R_far (Kd.R_far HS.out.v (p := ⟨gr, 0, none⟩) fr (.int .i64 a0_0)) (p := ⟨gr, 1, none⟩) fr (.int .i64 a0_1)) (p := ⟨gr, 2, none⟩) fr (.int .i64 a0_2)) (p := ⟨gr, 3, none⟩) fr (.slice (some ⟨gv, 0, none⟩) l0_3.length capv)) (p := ⟨ge, 0, none⟩) fe (.int .i64 0)
    have hb2 := below_set (g := ge) (j := 0) (v := .int .i64 0) (below_set (g := gr) (j := 3) (v := .slice (some ⟨gv, 0, none⟩) l0_3.length capv) (below_set (g := gr) (j := 2) (v := .int .i64 a0_2) (below_set (g := gr) (j := 1) (v := .int .i64 a0_1) (below_set (g := gr) (j := 0) (v := .int .i64 a0_0) HB'.out Gr.out) Gr.out) Gr.out) Gr.out) Ge.out
    refine ⟨by simp, .inl ⟨_, _, rfl, run_takeDeferred hK', ?_⟩⟩
    exact ⟨_, crater_strikes.res _ _ gr ge _ _ _ _ _ (by rfl) (by rfl) (blk_taken hr2 hK') (blk_taken he2 hK'), _, rfl,
      Kd.R_mono (row_taken hv2 hK') (fun _ _ => trivial), below_taken hb2 (by have := HD.out; have := HB.out.size; omega) hK'⟩
  case stop =>
    rintro D c pre W hD hpre ⟨⟨⟨rfl, x, hx, hxm⟩, cs, hS⟩, hB⟩ hK
    have h := H.out
    rw [if_neg (fun hall => by rw [List.all_eq_true.1 hall x (hpre.subset hx)] at hxm; cases hxm)] at h
    simp only [Option.some.injEq, Prod.mk.injEq] at h
    obtain ⟨rfl, rfl, rfl, rfl, rfl⟩ := h
    gi_wp2
    refine ⟨by simp, .inl ⟨_, _, rfl, run_takeDeferred hK, ?_⟩⟩
    exact ⟨_, crater_strikes.res _ _ gr ge _ _ _ _ _ (by rfl) (by rfl) (blk_taken hS.r hK) (blk_taken hS.e hK), _, rfl,
      Kd.R_nil _ _ _ _ _, below_taken hB (by have := HB.out.size; omega) hK⟩
end
theorem crater_values.calls (A : Option Addr) (n c : Nat) (w : World) : Calls Try.prog 40 #[.slice A n c] w fun e w' => ∃ g, e = .returned (.func (.func 42) #[] #[.pointer (some ⟨g, 0, none⟩)]) ∧ w'.heap[g]? = some (.cells #[.slice A n c] 53 (0, 0)) ∧ Below w.heap.size w w' := by
  go_enter Try.func40, Try.ntmps40
  go_wp2
  go_ret
  exact ⟨_, rfl, blk_new _ _, below_alloc (Below.refl _ _) _⟩
theorem crater_hit.row {W : World} {g : Nat} {T : TypeId} {x : S23} (h : W.heap[g]? = some (.cells #[.int .i64 x.f0, .int .i64 x.f1, .int .i64 x.f2, .int .i64 x.f3] T (0, 0))) : Kd.C k23 W (some ⟨g, 0, none⟩) [x].length [x] := by
  refine ⟨rfl, by simp, fun _ => ⟨⟨g, 0, none⟩, rfl, fun j p hj => ?_⟩⟩
  cases j with
  | succ j => simp at hj
  | zero =>
    obtain rfl : x = p := by simpa using hj
    refine ⟨[.int .i64 x.f0, .int .i64 x.f1, .int .i64 x.f2, .int .i64 x.f3], rfl, ⟨_, _, rfl, rfl, ⟨_, _, rfl, rfl, ⟨_, _, rfl, rfl, rfl⟩⟩⟩, fun i u hu => ?_⟩
    have hu2 : (#[.int .i64 x.f0, .int .i64 x.f1, .int .i64 x.f2, .int .i64 x.f3] : Array Value)[i]? = some u := by simpa using hu
    rw [show Addr.add ⟨g, 0, none⟩ (0 * Kd.sz k23 + i) = (⟨g, i, none⟩ : Addr) from (by rw [Nat.zero_mul, Nat.zero_add]; cases i <;> simp [Addr.add])]
    rw [blk_cell h, hu2]
theorem crater_strikes.mono : ∀ a0 a1 a2 a3 a4 k, LeO (crater_strikes.f k a0 a1 a2 a3 a4) (crater_strikes.f (k + 1) a0 a1 a2 a3 a4) := by
  intro a0 a1 a2 a3 a4 k
  exact LeO.bind (relief_Check.mono _ _ _ _ _) (fun _ => LeO.refl _)
def crater_Strike.f (k : Nat) (a0_0 : Int) (a0_1 : Int) (a0_2 : Int) (l0_3 : List Int) (a1_0 : Int) (a1_1 : Int) (a1_2 : Int) (a1_3 : Int) : Option (Int × Int × Int × List Int × Int) := crater_strikes.f k a0_0 a0_1 a0_2 l0_3 [⟨a1_0, a1_1, a1_2, a1_3⟩]
theorem crater_Strike.mono : ∀ y0 y1 y2 y3 y4 y5 y6 y7 k, LeO (crater_Strike.f k y0 y1 y2 y3 y4 y5 y6 y7) (crater_Strike.f (k + 1) y0 y1 y2 y3 y4 y5 y6 y7) := by
  intros
  exact crater_strikes.mono _ _ _ _ _ _
theorem crater_Strike.res (tmps : Array Value) (W : World) (gr : Nat) (x0 x1 x2 x3 y : Value) (h4 : tmps[4]? = some (.pointer (some ⟨gr, 0, none⟩))) (h5 : tmps[5]? = some y) (hr : W.heap[gr]? = some (.cells #[x0, x1, x2, x3] 46 (0, 0))) :
    (results Try.f27 tmps).run Try.prog W = .ok (.tuple #[.agg #[x0, x1, x2, x3], y]) W := by
  have z0 := blk_cell hr 0
  have z1 := blk_cell hr 1
  have z2 := blk_cell hr 2
  have z3 := blk_cell hr 3
  simp only [List.getElem?_toArray, List.getElem?_cons_zero, List.getElem?_cons_succ] at z0 z1 z2 z3
  simp [results, Try.f27, go_sem, h4, h5, z0, z1, z2, z3]
set_option maxHeartbeats 4000000 in
set_option maxRecDepth 100000 in
theorem crater_Strike.calls (k : Nat) (a0_0 : Int) (a0_1 : Int) (a0_2 : Int) (A0_3 : Option Addr) (c0_3 : Nat) (l0_3 : List Int) (a1_0 : Int) (a1_1 : Int) (a1_2 : Int) (a1_3 : Int) (r1 : Int) (r2 : Int) (r3 : Int) (r4 : List Int) (r5 : Int) (w : World) (hr0_3 : Kd.C (Kd.int .u8) w A0_3 l0_3.length l0_3) (hc0_3 : l0_3.length ≤ c0_3) (h : crater_Strike.f k a0_0 a0_1 a0_2 l0_3 a1_0 a1_1 a1_2 a1_3 = some (r1, r2, r3, r4, r5)) :
    Calls Try.prog 27 #[.agg #[.int .i64 a0_0, .int .i64 a0_1, .int .i64 a0_2, .slice A0_3 l0_3.length c0_3], .agg #[.int .i64 a1_0, .int .i64 a1_1, .int .i64 a1_2, .int .i64 a1_3]] w fun e w' => ∃ v3_ : Value, e = .returned (.tuple #[.agg #[.int .i64 r1, .int .i64 r2, .int .i64 r3, v3_], .int .i64 r5]) ∧ Kd.R (Kd.int .u8) 5 w' w.heap.size (fun _ => True) v3_ r4 ∧ Below w.heap.size w w' := by
  have HR := Aside0.mk hr0_3
  have H := Aside0.mk (show crater_strikes.f k a0_0 a0_1 a0_2 l0_3 [⟨a1_0, a1_1, a1_2, a1_3⟩] = _ from h)
  clear hr0_3 h
  have HB := Aside0.mk (Below.refl w.heap.size w)
  go_enter Try.func27, Try.ntmps27
  go_upto_region 1 with (first | ((with_reducible refine gate_dst (N := 2) rfl ?_); refine box_event ?hg (N := 2) ?hd (cs := #[.int .i64 a0_0, .int .i64 a0_1, .int .i64 a0_2, .slice A0_3 l0_3.length c0_3]) (t := 46) ?hr ?_; (case hd => rfl); (case hg => rfl); (case hr => first | (go_simp; done) | (go_simp; rfl)); intro gm hg ww1 hbox hb; have Gm : Aside0 (w.heap.size ≤ gm) := ⟨by have := HB.out.size; omega⟩; have Km := Aside0.mk hbox; have KK := Aside0.mk (below_step HB.out hb); clear HB; have HB := KK; clear KK; clear hb hbox hg; have zm_0 : ww1.cell? ⟨gm, 0, none⟩ = some (.int .i64 a0_0) := (blk_cell Km.out 0).trans rfl; have fm_0 := blk_frozen Km.out 0; have zm_1 : ww1.cell? ⟨gm, 1, none⟩ = some (.int .i64 a0_1) := (blk_cell Km.out 1).trans rfl; have fm_1 := blk_frozen Km.out 1; have zm_2 : ww1.cell? ⟨gm, 2, none⟩ = some (.int .i64 a0_2) := (blk_cell Km.out 2).trans rfl; have fm_2 := blk_frozen Km.out 2; have zm_3 : ww1.cell? ⟨gm, 3, none⟩ = some (.slice A0_3 l0_3.length c0_3) := (blk_cell Km.out 3).trans rfl; have fm_3 := blk_frozen Km.out 3) | ((with_reducible refine gate_dst (N := 3) rfl ?_); refine box_event ?hg (N := 3) ?hd (cs := #[.int .i64 a1_0, .int .i64 a1_1, .int .i64 a1_2, .int .i64 a1_3]) (t := 23) ?hr ?_; (case hd => rfl); (case hg => rfl); (case hr => first | (go_simp; done) | (go_simp; rfl)); intro gh hg ww2 hbox hb; have Nm_h : Aside0 (gm ≠ gh) := ⟨by have := blk_lt Km.out; omega⟩; have KK := Aside0.mk (blk_below Km.out hb); clear Km; have Km := KK; clear KK; have Gh : Aside0 (w.heap.size ≤ gh) := ⟨by have := HB.out.size; omega⟩; have Kh := Aside0.mk hbox; have KK := Aside0.mk (below_step HB.out hb); clear HB; have HB := KK; clear KK; clear hb hbox hg; clear zm_0 fm_0 zm_1 fm_1 zm_2 fm_2 zm_3 fm_3; have zm_0 : ww2.cell? ⟨gm, 0, none⟩ = some (.int .i64 a0_0) := (blk_cell Km.out 0).trans rfl; have zm_1 : ww2.cell? ⟨gm, 1, none⟩ = some (.int .i64 a0_1) := (blk_cell Km.out 1).trans rfl; have zm_2 : ww2.cell? ⟨gm, 2, none⟩ = some (.int .i64 a0_2) := (blk_cell Km.out 2).trans rfl; have zm_3 : ww2.cell? ⟨gm, 3, none⟩ = some (.slice A0_3 l0_3.length c0_3) := (blk_cell Km.out 3).trans rfl; have zh_0 : ww2.cell? ⟨gh, 0, none⟩ = some (.int .i64 a1_0) := (blk_cell Kh.out 0).trans rfl; have fh_0 := blk_frozen Kh.out 0; have zh_1 : ww2.cell? ⟨gh, 1, none⟩ = some (.int .i64 a1_1) := (blk_cell Kh.out 1).trans rfl; have fh_1 := blk_frozen Kh.out 1; have zh_2 : ww2.cell? ⟨gh, 2, none⟩ = some (.int .i64 a1_2) := (blk_cell Kh.out 2).trans rfl; have fh_2 := blk_frozen Kh.out 2; have zh_3 : ww2.cell? ⟨gh, 3, none⟩ = some (.int .i64 a1_3) := (blk_cell Kh.out 3).trans rfl; have fh_3 := blk_frozen Kh.out 3) | ((with_reducible refine gate_dst (N := 4) rfl ?_); refine box_event ?hg (N := 4) ?hd (cs := #[.int .i64 0, .int .i64 0, .int .i64 0, .slice none 0 0]) (t := 46) ?hr ?_; (case hd => rfl); (case hg => rfl); (case hr => first | (go_simp; done) | (go_simp; rfl)); intro gr hg ww3 hbox hb; have Nm_r : Aside0 (gm ≠ gr) := ⟨by have := blk_lt Km.out; omega⟩; have Nh_r : Aside0 (gh ≠ gr) := ⟨by have := blk_lt Kh.out; omega⟩; have KK := Aside0.mk (blk_below Km.out hb); clear Km; have Km := KK; clear KK; have KK := Aside0.mk (blk_below Kh.out hb); clear Kh; have Kh := KK; clear KK; have Gr : Aside0 (w.heap.size ≤ gr) := ⟨by have := HB.out.size; omega⟩; have Kr := Aside0.mk hbox; have KK := Aside0.mk (below_step HB.out hb); clear HB; have HB := KK; clear KK; clear hb hbox hg; clear zm_0 zm_1 zm_2 zm_3 zh_0 fh_0 zh_1 fh_1 zh_2 fh_2 zh_3 fh_3; have zm_0 : ww3.cell? ⟨gm, 0, none⟩ = some (.int .i64 a0_0) := (blk_cell Km.out 0).trans rfl; have zm_1 : ww3.cell? ⟨gm, 1, none⟩ = some (.int .i64 a0_1) := (blk_cell Km.out 1).trans rfl; have zm_2 : ww3.cell? ⟨gm, 2, none⟩ = some (.int .i64 a0_2) := (blk_cell Km.out 2).trans rfl; have zm_3 : ww3.cell? ⟨gm, 3, none⟩ = some (.slice A0_3 l0_3.length c0_3) := (blk_cell Km.out 3).trans rfl; have zh_0 : ww3.cell? ⟨gh, 0, none⟩ = some (.int .i64 a1_0) := (blk_cell Kh.out 0).trans rfl; have zh_1 : ww3.cell? ⟨gh, 1, none⟩ = some (.int .i64 a1_1) := (blk_cell Kh.out 1).trans rfl; have zh_2 : ww3.cell? ⟨gh, 2, none⟩ = some (.int .i64 a1_2) := (blk_cell Kh.out 2).trans rfl; have zh_3 : ww3.cell? ⟨gh, 3, none⟩ = some (.int .i64 a1_3) := (blk_cell Kh.out 3).trans rfl; have zr_0 : ww3.cell? ⟨gr, 0, none⟩ = some (.int .i64 0) := (blk_cell Kr.out 0).trans rfl; have fr_0 := blk_frozen Kr.out 0; have zr_1 : ww3.cell? ⟨gr, 1, none⟩ = some (.int .i64 0) := (blk_cell Kr.out 1).trans rfl; have fr_1 := blk_frozen Kr.out 1; have zr_2 : ww3.cell? ⟨gr, 2, none⟩ = some (.int .i64 0) := (blk_cell Kr.out 2).trans rfl; have fr_2 := blk_frozen Kr.out 2; have zr_3 : ww3.cell? ⟨gr, 3, none⟩ = some (.slice none 0 0) := (blk_cell Kr.out 3).trans rfl; have fr_3 := blk_frozen Kr.out 3))
  go_region_held3 (fun W => W.cell? ⟨gm, 0, none⟩ = some (.int .i64 a0_0) ∧ W.cell? ⟨gm, 1, none⟩ = some (.int .i64 a0_1) ∧ W.cell? ⟨gm, 2, none⟩ = some (.int .i64 a0_2) ∧ W.cell? ⟨gm, 3, none⟩ = some (.slice A0_3 l0_3.length c0_3) ∧ W.cell? ⟨gh, 0, none⟩ = some (.int .i64 a1_0) ∧ W.cell? ⟨gh, 1, none⟩ = some (.int .i64 a1_1) ∧ W.cell? ⟨gh, 2, none⟩ = some (.int .i64 a1_2) ∧ W.cell? ⟨gh, 3, none⟩ = some (.int .i64 a1_3)) (first | go_keep | exact ⟨(blk_cell (far4 Km.out Nm_r.out) 0).trans rfl, (blk_cell (far4 Km.out Nm_r.out) 1).trans rfl, (blk_cell (far4 Km.out Nm_r.out) 2).trans rfl, (blk_cell (far4 Km.out Nm_r.out) 3).trans rfl, (blk_cell (far4 Kh.out Nh_r.out) 0).trans rfl, (blk_cell (far4 Kh.out Nh_r.out) 1).trans rfl, (blk_cell (far4 Kh.out Nh_r.out) 2).trans rfl, (blk_cell (far4 Kh.out Nh_r.out) 3).trans rfl⟩) (first | (go_at_call 40; refine (crater_values.calls (some ⟨ww3.heap.size, 0, none⟩) 1 1 _).mono ?_; rintro e w4 ⟨g4, rfl, hbx, hb⟩; have hb0 : Below ww3.heap.size ww3 w4 := below_then (below_alloc (below_drew (Below.refl _ ww3)) (.cells #[.int .i64 a1_0, .int .i64 a1_1, .int .i64 a1_2, .int .i64 a1_3] 23)) (by simp) hb; have HBX := Aside0.mk hbx; have HB4 := Aside0.mk (below_step HB.out hb0); have HCS := Aside0.mk (crater_hit.row (x := ⟨a1_0, a1_1, a1_2, a1_3⟩) (blk_below (blk_new ww3.drew _) hb)); have KK := Aside0.mk (blk_below Km.out hb0); clear Km; have Km := KK; clear KK; have KK := Aside0.mk (blk_below Kh.out hb0); clear Kh; have Kh := KK; clear KK; have KK := Aside0.mk (blk_below Kr.out hb0); clear Kr; have Kr := KK; clear KK; clear zm_0 zm_1 zm_2 zm_3 zh_0 zh_1 zh_2 zh_3 zr_0 fr_0 zr_1 fr_1 zr_2 fr_2 zr_3 fr_3; have zm_0 : w4.cell? ⟨gm, 0, none⟩ = some (.int .i64 a0_0) := (blk_cell Km.out 0).trans rfl; have zm_1 : w4.cell? ⟨gm, 1, none⟩ = some (.int .i64 a0_1) := (blk_cell Km.out 1).trans rfl; have zm_2 : w4.cell? ⟨gm, 2, none⟩ = some (.int .i64 a0_2) := (blk_cell Km.out 2).trans rfl; have zm_3 : w4.cell? ⟨gm, 3, none⟩ = some (.slice A0_3 l0_3.length c0_3) := (blk_cell Km.out 3).trans rfl; have zh_0 : w4.cell? ⟨gh, 0, none⟩ = some (.int .i64 a1_0) := (blk_cell Kh.out 0).trans rfl; have zh_1 : w4.cell? ⟨gh, 1, none⟩ = some (.int .i64 a1_1) := (blk_cell Kh.out 1).trans rfl; have zh_2 : w4.cell? ⟨gh, 2, none⟩ = some (.int .i64 a1_2) := (blk_cell Kh.out 2).trans rfl; have zh_3 : w4.cell? ⟨gh, 3, none⟩ = some (.int .i64 a1_3) := (blk_cell Kh.out 3).trans rfl; clear hb hbx hb0) | (go_at_call 39; refine (crater_strikes.calls k a0_0 a0_1 a0_2 _ _ l0_3 g4 (some ⟨ww3.heap.size, 0, none⟩) 1 [⟨a1_0, a1_1, a1_2, a1_3⟩] r1 r2 r3 r4 r5 w4 (Kd.C_below HR.out HB4.out) hc0_3 HBX.out HCS.out H.out).mono ?_; rintro e w5 ⟨v5, rfl, hv, hb5⟩; obtain ⟨A5, c5, rfl⟩ := Kd.R_slice hv; have HV5 := Aside0.mk hv; have HB5 := Aside0.mk hb5; have Lr := Aside0.mk (blk_lt Kr.out); have KK := Aside0.mk (blk_below Km.out hb5); clear Km; have Km := KK; clear KK; have KK := Aside0.mk (blk_below Kh.out hb5); clear Kh; have Kh := KK; clear KK; have KK := Aside0.mk (blk_below Kr.out hb5); clear Kr; have Kr := KK; clear KK; clear zm_0 zm_1 zm_2 zm_3 zh_0 zh_1 zh_2 zh_3; have zm_0 : w5.cell? ⟨gm, 0, none⟩ = some (.int .i64 a0_0) := (blk_cell Km.out 0).trans rfl; have zm_1 : w5.cell? ⟨gm, 1, none⟩ = some (.int .i64 a0_1) := (blk_cell Km.out 1).trans rfl; have zm_2 : w5.cell? ⟨gm, 2, none⟩ = some (.int .i64 a0_2) := (blk_cell Km.out 2).trans rfl; have zm_3 : w5.cell? ⟨gm, 3, none⟩ = some (.slice A0_3 l0_3.length c0_3) := (blk_cell Km.out 3).trans rfl; have zh_0 : w5.cell? ⟨gh, 0, none⟩ = some (.int .i64 a1_0) := (blk_cell Kh.out 0).trans rfl; have zh_1 : w5.cell? ⟨gh, 1, none⟩ = some (.int .i64 a1_1) := (blk_cell Kh.out 1).trans rfl; have zh_2 : w5.cell? ⟨gh, 2, none⟩ = some (.int .i64 a1_2) := (blk_cell Kh.out 2).trans rfl; have zh_3 : w5.cell? ⟨gh, 3, none⟩ = some (.int .i64 a1_3) := (blk_cell Kh.out 3).trans rfl; have ye0 := blk_frozen Kr.out 0; have ye1 := blk_frozen Kr.out 1; have ye2 := blk_frozen Kr.out 2; have ye3 := blk_frozen Kr.out 3; have yc0 : w5.cell? ⟨gr, 0, none⟩ = some (.int .i64 0) := (blk_cell Kr.out 0).trans rfl; have yc1 : w5.cell? ⟨gr, 1, none⟩ = some (.int .i64 0) := (blk_cell Kr.out 1).trans rfl; have yc2 : w5.cell? ⟨gr, 2, none⟩ = some (.int .i64 0) := (blk_cell Kr.out 2).trans rfl; have yc3 : w5.cell? ⟨gr, 3, none⟩ = some (.slice none 0 0) := (blk_cell Kr.out 3).trans rfl; have ne1 : gm ≠ gr := Nm_r.out; have ne2 : gh ≠ gr := Nh_r.out; clear hv hb5))
  all_goals
    go_wp2
    refine bodyPost_ret (crater_Strike.res _ _ gr _ _ _ _ _ (by rfl) (by rfl) (put4 Kr.out)) rfl ?_
    have b4 := below_step HB4.out HB5.out
    refine ⟨_, rfl, Kd.R_mono (Kd.R_lower (Kd.R_far (Kd.R_far (Kd.R_far (Kd.R_far (Kd.R_mono (Kd.R_bound HV5.out) (fun k hk => show k ≠ gr from by have := hk.2.1; have := Lr.out; omega)) (fun _ h => h) _) (fun _ h => h) _) (fun _ h => h) _) (fun _ h => h) _) HB4.out.size) (fun _ _ => trivial), below_set (below_set (below_set (below_set b4 Gr.out) Gr.out) Gr.out) Gr.out⟩

end Go.Proofs.Ytlhcakepaaeaoaa.PCr
