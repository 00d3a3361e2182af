/- The contract of ground_Regions: what its call comes to, for every argument, in any memory. -/
import Derived.Test.YtdmmlidgipedaaaPAx0
import Derived.Test.YtdmmlidgipedaaaPAx12
import Derived.Test.YtdmmlidgipedaaaGAreliefDepth
import Derived.Test.YtdmmlidgipedaaaGAreliefSlope
import Derived.LoopIn
import Derived.LoopN
import Derived.LoopNIn
import Derived.OwnWalkIn
import Derived.RangeFuncBound
import Derived.RangeFuncBox
import Derived.RangeFuncCalls
import Derived.RangeFuncLeaves
import Derived.RangeFuncNested
import Derived.Shelf.Abstract
import Derived.Shelf.RegionOpen
import Derived.Sort.CutIn
import Derived.TacticsInMore
namespace Go.Proofs.Ytdmmlidgipedaaa.PA
open Go.RowKit Go.Proofs.YtdmmlidgipedaaaW.PrintWords Go.Proofs.YtdmmlidgipedaaaW.PrintLast Go.Proofs.YtdmmlidgipedaaaW.PrintMore
set_option linter.unusedVariables false
set_option linter.unusedSimpArgs false

--import Derived.RangeFuncNested
--import Derived.RangeFuncBound
--import Derived.RangeFuncCalls
--import Derived.RangeFuncLeaves
--import Derived.RangeFuncBox
--import Derived.Shelf.Abstract
--import Derived.Shelf.RegionOpen
--import Derived.OwnWalkIn
--import Derived.TacticsInMore
--import Derived.LoopNIn
--import Derived.LoopIn
--import Derived.Sort.CutIn
--import Derived.LoopN
theorem grownBy_of_below {w w' : World} (h : Below w.heap.size w w') : w.grownBy w' none := ⟨h.os, h.tape, h.output, h.size, fun k hk _ => h.block k hk⟩
theorem ground_Regions.info : (Try.prog.info? 3).map (fun i => (i.zero, i.size, i.bytes)) = some (some (.int .i64 0), 1, 8) := by kernel_rfl
def ground_Regions.nbs (w n k : Int) : List Int := (if w ≤ k then [k - w] else []) ++ (if 0 < k % w then [k - 1] else []) ++ (if k % w < w - 1 then [k + 1] else []) ++ (if k + w < n then [k + w] else [])
/-- A cell's number. -/
abbrev ground_Regions.Cell (n : Int) := { x : Int // 0 ≤ x ∧ x < n }
/-- What the neighbours' walk reads stays. -/
structure ground_Regions.Kp (a b c : Nat) (W W' : World) : Prop where
  a : W'.heap[a]? = W.heap[a]?
  b : W'.heap[b]? = W.heap[b]?
  c : W'.heap[c]? = W.heap[c]?
theorem ground_Regions.Kp.trans {a b c : Nat} {X Y Z : World} (h : ground_Regions.Kp a b c X Y) (k : ground_Regions.Kp a b c Y Z) : ground_Regions.Kp a b c X Z := ⟨k.a.trans h.a, k.b.trans h.b, k.c.trans h.c⟩
theorem ground_Regions.Kp.drew {a b c : Nat} {X Y : World} (h : ground_Regions.Kp a b c X Y) : ground_Regions.Kp a b c X Y.drew := ⟨h.a, h.b, h.c⟩
theorem ground_Regions.Kp.below {a b c B : Nat} {X Y : World} (h : Below B X Y) (h1 : a < B) (h2 : b < B) (h3 : c < B) : ground_Regions.Kp a b c X Y := ⟨h.block _ h1, h.block _ h2, h.block _ h3⟩
theorem ground_Regions.Kp.set {a b c B : Nat} {X Y : World} (h : ground_Regions.Kp a b c X Y) (p : Addr) (v : Value) (h1 : a ≠ p.block) (h2 : b ≠ p.block) (h3 : c ≠ p.block) : ground_Regions.Kp a b c X (Y.setCell p v) :=
  ⟨(Below.heap_setCell Y p v _ h1).trans h.a, (Below.heap_setCell Y p v _ h2).trans h.b, (Below.heap_setCell Y p v _ h3).trans h.c⟩
theorem ground_Regions.mem_nbs {w n k x : Int} : x ∈ ground_Regions.nbs w n k ↔ (w ≤ k ∧ x = k - w) ∨ (0 < k % w ∧ x = k - 1) ∨ (k % w < w - 1 ∧ x = k + 1) ∨ (k + w < n ∧ x = k + w) := by
  unfold ground_Regions.nbs
  simp only [List.mem_append]
  constructor
  · rintro (((h | h) | h) | h) <;> (split at h <;> simp at h)
    · exact .inl ⟨by assumption, h⟩
    · exact .inr (.inl ⟨by assumption, h⟩)
    · exact .inr (.inr (.inl ⟨by assumption, h⟩))
    · exact .inr (.inr (.inr ⟨by assumption, h⟩))
  · rintro (⟨h, rfl⟩ | ⟨h, rfl⟩ | ⟨h, rfl⟩ | ⟨h, rfl⟩)
    · exact .inl (.inl (.inl (by rw [if_pos h]; simp)))
    · exact .inl (.inl (.inr (by rw [if_pos h]; simp)))
    · exact .inl (.inr (by rw [if_pos h]; simp))
    · exact .inr (by rw [if_pos h]; simp)
theorem ground_Regions.lt_of_mod {w h k : Int} (hw : 0 < w) (hk : k < w * h) (hm : k % w < w - 1) : k + 1 < w * h := by
  have e := Int.emod_add_mul_ediv k w
  have h1 : k / w < h := by
    rcases (by omega : k / w < h ∨ h ≤ k / w) with h1 | h1
    · exact h1
    · have := Int.mul_le_mul_of_nonneg_left h1 (Int.le_of_lt hw)
      have := Int.emod_nonneg k (show w ≠ 0 by omega)
      omega
  have h2 := Int.mul_le_mul_of_nonneg_left (show k / w + 1 ≤ h by omega) (Int.le_of_lt hw)
  have e2 : w * (k / w + 1) = w * (k / w) + w := by grind
  omega
theorem ground_Regions.nbs_in {w h k x : Int} (hw : 0 < w) (h0 : 0 ≤ k) (h1 : k < w * h) (hx : x ∈ ground_Regions.nbs w (w * h) k) : 0 ≤ x ∧ x < w * h := by
  rcases ground_Regions.mem_nbs.1 hx with ⟨h, rfl⟩ | ⟨h, rfl⟩ | ⟨h, rfl⟩ | ⟨h, rfl⟩
  · omega
  · have : k ≠ 0 := fun e => by subst e; simp at h
    omega
  · have := ground_Regions.lt_of_mod hw h1 h
    omega
  · omega

open Go.Shelf
section
attribute [local go_sem] Oper.semAt_some
set_option maxRecDepth 100000 in
set_option maxHeartbeats 4000000 in
theorem ground_Regions.stops (m : Nat) (hm1 : 1 ≤ m) (Bk Bw Bn : Nat) (k w n : Int) (w0 : World)
    (hk : w0.heap[Bk]? = some (.cells #[.int .i64 k] 3 (0, 0))) (hw : w0.heap[Bw]? = some (.cells #[.int .i64 w] 3 (0, 0))) (hn : w0.heap[Bn]? = some (.cells #[.int .i64 n] 3 (0, 0)))
    (k0 : 0 ≤ k) (k1 : k < n) (w0' : 1 ≤ w) (w1 : w ≤ 64) (n1 : n ≤ 4096) (hin : ∀ x ∈ ground_Regions.nbs w n k, 0 ≤ x ∧ x < n) :
    SeqStopsK Fence.wide m Try.prog 29 #[.pointer (some ⟨Bk, 0, none⟩), .pointer (some ⟨Bw, 0, none⟩), .pointer (some ⟨Bn, 0, none⟩)] (fun x : ground_Regions.Cell n => #[Value.int .i64 x.1]) (ground_Regions.Kp Bk Bw Bn)
      (fun ys => ys.map Subtype.val = ground_Regions.nbs w n k) (fun _ => True) 4 w0 := by
  intro l J Jx W hW hJa hJxa hY h0
  have hmx : Try.prog.follows .mixedOrders = true := by kernel_rfl
  have HK := Aside0.mk hk
  have HW := Aside0.mk hw
  have HN := Aside0.mk hn
  have HB : Aside0 (ground_Regions.Kp Bk Bw Bn w0 W) := ⟨.below hW (blk_lt hk) (blk_lt hw) (blk_lt hn)⟩
  have HJ : Aside0 (∃ pre, J pre W ∧ pre.map Subtype.val = ([] : List Int) ∧ pre.length ≤ 0) := ⟨[], h0, rfl, Nat.le_refl _⟩
  have HY := Aside0.mk hY
  have HI := Aside0.mk hin
  have e1 : wrap64 (k - w) = k - w := by unfold wrap64; omega
  have e2 : wrap64 (k - 1) = k - 1 := by unfold wrap64; omega
  have e3 : wrap64 (k + 1) = k + 1 := by unfold wrap64; omega
  have e4 : wrap64 (k + w) = k + w := by unfold wrap64; omega
  have e5 : wrap64 (w - 1) = w - 1 := by unfold wrap64; omega
  have r1 : IntKind.i64.wrap (k - w) = k - w := by rw [i64_w]; exact e1
  have r2 : IntKind.i64.wrap (k - 1) = k - 1 := by rw [i64_w]; exact e2
  have r3 : IntKind.i64.wrap (k + 1) = k + 1 := by rw [i64_w]; exact e3
  have r4 : IntKind.i64.wrap (k + w) = k + w := by rw [i64_w]; exact e4
  have r5 : IntKind.i64.wrap (w - 1) = w - 1 := by rw [i64_w]; exact e5
  have e6 : Int.tmod k w = k % w := Int.tmod_eq_emod_of_nonneg k0
  have e7 : w ≠ 0 := by omega
  have z1 : W.cell? ⟨Bk, 0, none⟩ = some (.int .i64 k) := (blk_cell (blk_below hk hW) 0).trans rfl
  have z2 : W.cell? ⟨Bw, 0, none⟩ = some (.int .i64 w) := (blk_cell (blk_below hw hW) 0).trans rfl
  have z3 : W.cell? ⟨Bn, 0, none⟩ = some (.int .i64 n) := (blk_cell (blk_below hn hW) 0).trans rfl
  have HZ := Aside0.mk (show w ≠ 0 by omega)
  clear hk hw hn hW hY h0 hin k0 k1 w0' w1 n1
  refine callsIn_of_wp Try.func29 rfl trivial ?_ rfl
  simp only [Try.ntmps29, List.size_toArray, List.length_cons, List.length_nil, Nat.reduceAdd, Nat.reduceSub, Array.replicate_succ, Array.replicate_zero, List.push_toArray, List.append_toArray, List.nil_append, List.cons_append]
  gi_step
  gi_step
  gi_cut [] from 4 (fun wc => (∃ pre, J pre wc ∧ pre.map Subtype.val = (if w ≤ k then [k - w] else []) ∧ pre.length ≤ 1) ∧ ground_Regions.Kp Bk Bw Bn w0 wc)
  case first =>
    obtain ⟨pre, hJ, hp, hl⟩ := HJ.out
    have HP := Aside0.mk hp
    have HL := Aside0.mk hl
    have HJJ := Aside0.mk hJ
    clear hp hl hJ
    by_cases c : w ≤ k
    · have d : decide (w ≤ k) = true := decide_eq_true c
      have HC := Aside0.mk c
      have hx : 0 ≤ k - w ∧ k - w < n := HI.out _ (by unfold ground_Regions.nbs; simp only [if_pos c]; simp)
      have HX := Aside0.mk hx
      clear c hx
      obtain ⟨fn, tmps, assign, body, hy, hR⟩ := HY.out pre ⟨k - w, HX.out⟩ W HJJ.out (by have := HL.out; omega)
      dsimp only at hy
      gi_wp2
      refine hR.mono ?_
      rintro e W3 (⟨rfl, hJ3, hk3⟩ | ⟨rfl, hJx3⟩)
      · have H3 := Aside0.mk hJ3
        have K3 := Aside0.mk hk3
        clear hJ3 hk3 hR hy
        gi_wp2
        gi_meet
        case rel => exact ⟨⟨_, H3.out, by rw [List.map_append, HP.out]; simp [HC.out], by rw [List.length_append]; have := HL.out; simp only [List.length_cons, List.length_nil]; omega⟩, HB.out.trans K3.out⟩
      · have H3 := Aside0.mk hJx3
        clear hJx3 hR hy
        gi_wp2
        refine bodyPost_ret (results_none rfl _ _ _) rfl ?_
        exact ⟨⟨_, rfl⟩, .inr ⟨_, trivial, H3.out⟩⟩
    · have d : decide (w ≤ k) = false := decide_eq_false c
      have HC := Aside0.mk c
      clear c
      gi_wp2
      refine ⟨fun _ h => (by cases h), ?_⟩
      gi_wp2
      gi_meet
      case rel => exact ⟨⟨_, HJJ.out, by rw [HP.out]; simp [HC.out], by have := HL.out; omega⟩, HB.out⟩
  case rest =>
    obtain ⟨hj, hb⟩ := hcut
    clear HJ HB z1 z2 z3
    have HJ := Aside0.mk hj
    have HB := Aside0.mk hb
    clear hj hb
    have z1 : wc.cell? ⟨Bk, 0, none⟩ = some (.int .i64 k) := (blk_cell (HB.out.a.trans HK.out) 0).trans rfl
    have z2 : wc.cell? ⟨Bw, 0, none⟩ = some (.int .i64 w) := (blk_cell (HB.out.b.trans HW.out) 0).trans rfl
    have z3 : wc.cell? ⟨Bn, 0, none⟩ = some (.int .i64 n) := (blk_cell (HB.out.c.trans HN.out) 0).trans rfl
    gi_step
    gi_step
    gi_cut [] from 4 (fun wc => (∃ pre, J pre wc ∧ pre.map Subtype.val = (if w ≤ k then [k - w] else []) ++ (if 0 < k % w then [k - 1] else []) ∧ pre.length ≤ 2) ∧ ground_Regions.Kp Bk Bw Bn w0 wc)
    case first =>
      obtain ⟨pre, hJ, hp, hl⟩ := HJ.out
      have HP := Aside0.mk hp
      have HL := Aside0.mk hl
      have HJJ := Aside0.mk hJ
      clear hp hl hJ
      by_cases c : 0 < k % w
      · have d : decide (0 < k % w) = true := decide_eq_true c
        have HC := Aside0.mk c
        have hx : 0 ≤ k - 1 ∧ k - 1 < n := HI.out _ (by unfold ground_Regions.nbs; simp only [if_pos c]; simp)
        have HX := Aside0.mk hx
        clear c hx
        obtain ⟨fn, tmps, assign, body, hy, hR⟩ := HY.out pre ⟨k - 1, HX.out⟩ wc HJJ.out (by have := HL.out; omega)
        dsimp only at hy
        gi_wp2
        refine hR.mono ?_
        rintro e W3 (⟨rfl, hJ3, hk3⟩ | ⟨rfl, hJx3⟩)
        · have H3 := Aside0.mk hJ3
          have K3 := Aside0.mk hk3
          clear hJ3 hk3 hR hy
          gi_wp2
          gi_meet
          case rel => exact ⟨⟨_, H3.out, by rw [List.map_append, HP.out]; simp [HC.out], by rw [List.length_append]; have := HL.out; simp only [List.length_cons, List.length_nil]; omega⟩, HB.out.trans K3.out⟩
        · have H3 := Aside0.mk hJx3
          clear hJx3 hR hy
          gi_wp2
          refine bodyPost_ret (results_none rfl _ _ _) rfl ?_
          exact ⟨⟨_, rfl⟩, .inr ⟨_, trivial, H3.out⟩⟩
      · have d : decide (0 < k % w) = false := decide_eq_false c
        have HC := Aside0.mk c
        clear c
        gi_wp2
        refine ⟨fun _ h => (by cases h), ?_⟩
        gi_wp2
        gi_meet
        case rel => exact ⟨⟨_, HJJ.out, by rw [HP.out]; simp [HC.out], by have := HL.out; omega⟩, HB.out⟩
    case rest =>
      obtain ⟨hj, hb⟩ := hcut
      clear HJ HB z1 z2 z3
      have HJ := Aside0.mk hj
      have HB := Aside0.mk hb
      clear hj hb
      have z1 : wc.cell? ⟨Bk, 0, none⟩ = some (.int .i64 k) := (blk_cell (HB.out.a.trans HK.out) 0).trans rfl
      have z2 : wc.cell? ⟨Bw, 0, none⟩ = some (.int .i64 w) := (blk_cell (HB.out.b.trans HW.out) 0).trans rfl
      have z3 : wc.cell? ⟨Bn, 0, none⟩ = some (.int .i64 n) := (blk_cell (HB.out.c.trans HN.out) 0).trans rfl
      gi_step
      gi_step
      gi_cut [] from 4 (fun wc => (∃ pre, J pre wc ∧ pre.map Subtype.val = (if w ≤ k then [k - w] else []) ++ (if 0 < k % w then [k - 1] else []) ++ (if k % w < w - 1 then [k + 1] else []) ∧ pre.length ≤ 3) ∧ ground_Regions.Kp Bk Bw Bn w0 wc)
      case first =>
        obtain ⟨pre, hJ, hp, hl⟩ := HJ.out
        have HP := Aside0.mk hp
        have HL := Aside0.mk hl
        have HJJ := Aside0.mk hJ
        clear hp hl hJ
        by_cases c : k % w < w - 1
        · have d : decide (k % w < w - 1) = true := decide_eq_true c
          have d2 : decide (Int.tmod k w < wrap64 (w - 1)) = true := by rw [e6, e5]; exact d
          have d3 : decide (k % w < wrap64 (w - 1)) = true := by rw [e5]; exact d
          have d4 : decide (Int.tmod k w < w - 1) = true := by rw [e6]; exact d
          have HC := Aside0.mk c
          have hx : 0 ≤ k + 1 ∧ k + 1 < n := HI.out _ (by unfold ground_Regions.nbs; simp only [if_pos c]; simp)
          have HX := Aside0.mk hx
          clear c hx
          obtain ⟨fn, tmps, assign, body, hy, hR⟩ := HY.out pre ⟨k + 1, HX.out⟩ wc.drew (hJa _ _ _ none HJJ.out ⟨rfl, rfl, rfl, Nat.le_refl _, fun _ _ _ => rfl⟩ (by simp)) (by have := HL.out; omega)
          dsimp only at hy
          have hR2 := hR.mono (R' := fun e W' => ∃ b : Bool, e = .returned (.bool b) ∧ (b = true → J (pre ++ [⟨k + 1, HX.out⟩]) W' ∧ ground_Regions.Kp Bk Bw Bn wc.drew W') ∧ (b = false → Jx (pre ++ [⟨k + 1, HX.out⟩]) W')) (by
            rintro e W' (⟨rfl, a, b⟩ | ⟨rfl, a⟩)
            · exact ⟨true, rfl, fun _ => ⟨a, b⟩, fun h => (by cases h)⟩
            · exact ⟨false, rfl, fun h => (by cases h), fun _ => a⟩)
          have HR2 := Aside0.mk hR2
          clear hR hR2
          gi_wp2
          gi_region_with_o (first | (refine HR2.out.mono ?_; rintro e W3 ⟨b, rfl, h3⟩; have H3 := Aside0.mk h3; clear h3; dsimp only) | (refine ⟨fun _ => hm1, ?_⟩; refine HR2.out.mono ?_; rintro e W3 ⟨b, rfl, h3⟩; have H3 := Aside0.mk h3; clear h3; dsimp only))
          all_goals clear hy HR2
          all_goals cases b
          all_goals gi_wp2
          all_goals first | (refine bodyPost_ret (results_none rfl _ _ _) rfl ?_; exact ⟨⟨_, rfl⟩, .inr ⟨_, H3.out.2 (by trivial)⟩⟩) | skip
          all_goals (gi_meet; case rel => exact ⟨⟨pre ++ [⟨k + 1, HX.out⟩], (H3.out.1 (by trivial)).1, by show List.map Subtype.val (pre ++ _) = _; rw [List.map_append, HP.out]; simp [HC.out], by rw [List.length_append]; have := HL.out; simp only [List.length_cons, List.length_nil]; omega⟩, HB.out.drew.trans (H3.out.1 (by trivial)).2⟩)
        · have d : decide (k % w < w - 1) = false := decide_eq_false c
          have d2 : decide (Int.tmod k w < wrap64 (w - 1)) = false := by rw [e6, e5]; exact d
          have d3 : decide (k % w < wrap64 (w - 1)) = false := by rw [e5]; exact d
          have d4 : decide (Int.tmod k w < w - 1) = false := by rw [e6]; exact d
          have HC := Aside0.mk c
          clear c
          gi_wp2
          refine (wpIn_wide (n := m)).2 ?_
          go_region
          all_goals gi_wp2
          all_goals (gi_meet; case rel => exact ⟨⟨_, hJa _ _ _ none HJJ.out ⟨rfl, rfl, rfl, Nat.le_refl _, fun _ _ _ => rfl⟩ (by simp), by show List.map Subtype.val pre = _; rw [HP.out]; simp [HC.out], by have := HL.out; omega⟩, HB.out.drew⟩)
      case rest =>
        obtain ⟨hj, hb⟩ := hcut
        clear HJ HB z1 z2 z3
        have HJ := Aside0.mk hj
        have HB := Aside0.mk hb
        clear hj hb
        have z1 : wc.cell? ⟨Bk, 0, none⟩ = some (.int .i64 k) := (blk_cell (HB.out.a.trans HK.out) 0).trans rfl
        have z2 : wc.cell? ⟨Bw, 0, none⟩ = some (.int .i64 w) := (blk_cell (HB.out.b.trans HW.out) 0).trans rfl
        have z3 : wc.cell? ⟨Bn, 0, none⟩ = some (.int .i64 n) := (blk_cell (HB.out.c.trans HN.out) 0).trans rfl
        obtain ⟨pre, hJ, hp, hl⟩ := HJ.out
        have HP := Aside0.mk hp
        have HL := Aside0.mk hl
        have HJJ := Aside0.mk hJ
        clear hp hl hJ
        by_cases c : k + w < n
        · have d : decide (k + w < n) = true := decide_eq_true c
          have HC := Aside0.mk c
          have hx : 0 ≤ k + w ∧ k + w < n := HI.out _ (by unfold ground_Regions.nbs; simp only [if_pos c]; simp)
          have HX := Aside0.mk hx
          clear c hx
          obtain ⟨fn, tmps, assign, body, hy, hR⟩ := HY.out pre ⟨k + w, HX.out⟩ wc HJJ.out (by have := HL.out; omega)
          dsimp only at hy
          gi_wp2
          refine hR.mono ?_
          rintro e W3 (⟨rfl, hJ3, hk3⟩ | ⟨rfl, hJx3⟩)
          · have H3 := Aside0.mk hJ3
            have K3 := Aside0.mk hk3
            clear hJ3 hk3 hR hy
            gi_wp2
            go_end0
            exact ⟨⟨_, rfl⟩, .inl ⟨_, by rw [List.map_append, HP.out]; unfold ground_Regions.nbs; simp [HC.out], H3.out⟩⟩
          · have H3 := Aside0.mk hJx3
            clear hJx3 hR hy
            gi_wp2
            go_end0
            exact ⟨⟨_, rfl⟩, .inr ⟨_, trivial, H3.out⟩⟩
        · have d : decide (k + w < n) = false := decide_eq_false c
          have HC := Aside0.mk c
          clear c
          gi_wp2
          go_end0
          exact ⟨⟨_, rfl⟩, .inl ⟨_, by show List.map Subtype.val pre = _; rw [HP.out]; unfold ground_Regions.nbs; simp [HC.out], HJJ.out⟩⟩
set_option maxRecDepth 100000 in
theorem ground_Regions.nbcall (k w n : Int) (W : World) : Calls Try.prog 18 #[.int .i64 k, .int .i64 w, .int .i64 n] W fun e W' =>
    e = .returned (.func (.func 29) #[] #[.pointer (some ⟨W.heap.size, 0, none⟩), .pointer (some ⟨W.heap.size + 1, 0, none⟩), .pointer (some ⟨W.heap.size + 1 + 1, 0, none⟩)]) ∧
    W' = ((W.alloc (.cells #[.int .i64 k] 3)).alloc (.cells #[.int .i64 w] 3)).alloc (.cells #[.int .i64 n] 3) := by
  go_enter Try.func18, Try.ntmps18
  go_wp2
  go_ret
  exact ⟨rfl, rfl⟩
end
def ground_Regions.push (g : List Bool) (first : Int) (s : List Int × List Int) (x : Int) : List Int × List Int :=
  if g.getD x.toNat false = true ∧ s.1.getD x.toNat 0 < 0 then (s.1.set x.toNat first, s.2 ++ [x]) else s
def ground_Regions.l0 : Nat → List Bool → Int → Int → List Int → List Int → Option (List Int)
  | 0, _, _, _, _, _ => none
  | k + 1, g, w, first, out, wait => if wait = [] then some out else
    if 0 ≤ wait.getLastD 0 ∧ wait.getLastD 0 < (g.length : Int) ∧ wait.length ≤ 4096 ∧ out.length = g.length then
      ground_Regions.l0 k g w first ((ground_Regions.nbs w g.length (wait.getLastD 0)).foldl (ground_Regions.push g first) (out, wait.dropLast)).1 ((ground_Regions.nbs w g.length (wait.getLastD 0)).foldl (ground_Regions.push g first) (out, wait.dropLast)).2 else none
def ground_Regions.l1 : Nat → List Bool → Int → Int → List Int → Option (List Int)
  | 0, _, _, _, _ => none
  | k + 1, g, w, i, out => if i < (g.length : Int) then
      (if g.getD i.toNat false = true ∧ out.getD i.toNat 0 < 0 then (ground_Regions.l0 k g w i (out.set i.toNat i) [i]).bind fun o => ground_Regions.l1 k g w (i + 1) o else ground_Regions.l1 k g w (i + 1) out) else some out
def ground_Regions.f (k : Nat) (a0_0 : Int) (a0_1 : Int) (a0_2 : Int) (l0_3 : List Int) (a1 : Int) : Option (List Int × Int) := (ground_Grid.f k a0_0 a0_1 a0_2 l0_3 a1).bind fun g => if g.2 = 0 then (if 1 ≤ a0_0 ∧ a0_0 ≤ 64 ∧ 1 ≤ g.1.length ∧ g.1.length ≤ 4096 ∧ (g.1.length : Int) = a0_0 * a0_1 then
  (ground_Regions.l1 k g.1 a0_0 0 (List.replicate g.1.length (-1))).bind fun o => some (o, 0) else none) else some ([], g.2)
theorem ground_Regions.l0_mono : ∀ (k : Nat) (g : List Bool) (w first : Int) (out wait : List Int), LeO (ground_Regions.l0 k g w first out wait) (ground_Regions.l0 (k + 1) g w first out wait)
  | 0, _, _, _, _, _ => LeO.none _
  | k + 1, _, _, _, _, _ => LeO.ite (LeO.refl _) (LeO.ite (ground_Regions.l0_mono _ _ _ _ _ _) (LeO.refl _))
theorem ground_Regions.l1_mono : ∀ (k : Nat) (g : List Bool) (w i : Int) (out : List Int), LeO (ground_Regions.l1 k g w i out) (ground_Regions.l1 (k + 1) g w i out)
  | 0, _, _, _, _ => LeO.none _
  | k + 1, _, _, _, _ => LeO.ite (LeO.ite (LeO.bind (ground_Regions.l0_mono _ _ _ _ _ _) (fun _ => ground_Regions.l1_mono _ _ _ _ _)) (ground_Regions.l1_mono _ _ _ _ _)) (LeO.refl _)
theorem ground_Regions.mono : ∀ a0 a1 a2 a3 a4 k, LeO (ground_Regions.f k a0 a1 a2 a3 a4) (ground_Regions.f (k + 1) a0 a1 a2 a3 a4) := by
  intro a0 a1 a2 a3 a4 k
  exact LeO.bind (ground_Grid.mono _ _ _ _ _ _) (fun _ => LeO.ite (LeO.ite (LeO.bind (ground_Regions.l1_mono _ _ _ _ _) (fun _ => LeO.refl _)) (LeO.refl _)) (LeO.refl _))
/-- How the memory stands: the map's, the grid's and the answer's boxes, and the answer. -/
structure ground_Regions.St (w wb : World) (gm gg go gv capv cg : Nat) (a0 a1 a2 : Int) (A0 : Option Addr) (n0 c0 : Nat) (Ag : Option Addr) (n : Nat) (W : World) (out : List Int) : Prop where
  m : W.heap[gm]? = some (.cells #[.int .i64 a0, .int .i64 a1, .int .i64 a2, .slice A0 n0 c0] 24 (0, 0))
  g : W.heap[gg]? = some (.cells #[.slice Ag n cg] 29 (0, 0))
  o : W.heap[go]? = some (.cells #[.slice (some ⟨gv, 0, none⟩) n capv] 37 (0, 0))
  v : Kd.R (Kd.int .i64) 3 W w.heap.size (fun k => k = gv) (.slice (some ⟨gv, 0, none⟩) n capv) out
  b : Below w.heap.size w W
  c : Below wb.heap.size wb W
theorem ground_Regions.St.below {w wb : World} {gm gg go gv capv cg : Nat} {a0 a1 a2 : Int} {A0 : Option Addr} {n0 c0 : Nat} {Ag : Option Addr} {n : Nat} {W W' : World} {out : List Int}
    (h : ground_Regions.St w wb gm gg go gv capv cg a0 a1 a2 A0 n0 c0 Ag n W out) (hb : Below W.heap.size W W') : ground_Regions.St w wb gm gg go gv capv cg a0 a1 a2 A0 n0 c0 Ag n W' out :=
  ⟨blk_below h.m hb, blk_below h.g hb, blk_below h.o hb, Kd.R_below h.v hb, below_then h.b h.b.size hb, below_then h.c h.c.size hb⟩
theorem ground_Regions.St.put {w wb : World} {gm gg go gv capv cg : Nat} {a0 a1 a2 : Int} {A0 : Option Addr} {n0 c0 : Nat} {Ag : Option Addr} {n : Nat} {W : World} {out : List Int}
    (h : ground_Regions.St w wb gm gg go gv capv cg a0 a1 a2 A0 n0 c0 Ag n W out) (m : gm ≠ gv) (g : gg ≠ gv) (o : go ≠ gv) (b : w.heap.size ≤ gv) (c : wb.heap.size ≤ gv) (i : Int) (x : Int) :
    ground_Regions.St w wb gm gg go gv capv cg a0 a1 a2 A0 n0 c0 Ag n (W.setCell ⟨gv, i.toNat, none⟩ (.int .i64 x)) (out.set i.toNat x) :=
  ⟨blk_far h.m m _, blk_far h.g g _, blk_far h.o o _, Kd.R_putn h.v i x, h.b.setCell b _, h.c.setCell c _⟩
theorem own_blk {β : Type} (g t : Nat) (f : β → Array Value) : Own (fun s W => W.heap[g]? = some (.cells (f s) t (0, 0))) := by
  intro s A B row hs hg hr
  refine blk_grown hs hg (fun e => ?_)
  obtain ⟨o, ho, hc⟩ := hr g e.symm
  rw [ho] at hs
  cases hs
  cases hc
theorem own_row {α β : Type} (d : Kd α) (e base : Nat) (ok : Nat → Prop) (v : Value) (f : β → List α) : Own (fun s W => d.R e W base ok v (f s)) := by
  intro s A B row hs hg hr
  refine Kd.R_mono (Kd.R_grown (Kd.R_bound hs) hg (fun k hk he => ?_)) (fun k hk => hk.1)
  obtain ⟨_, _, _, q, _, cells, hc⟩ := hk
  obtain ⟨o, ho, hoc⟩ := hr k he.symm
  rw [ho] at hc
  cases hc
  cases hoc
theorem blk_taken {W : World} {D g t : Nat} {cs : Array Value} (h : W.heap[g]? = some (.cells cs t (0, 0))) (hK : W.heap[D]? = some (.deferred (some []))) : (W.putObj D (.deferred none)).heap[g]? = some (.cells cs t (0, 0)) :=
  own_blk g t (fun (_ : Unit) => cs) () W _ (some D) h (grownBy_putObj' W D _) (fun r e => by cases e; exact ⟨_, hK, rfl⟩)
theorem row_taken {α : Type} {d : Kd α} {e base D : Nat} {ok : Nat → Prop} {v : Value} {xs : List α} {W : World} (h : d.R e W base ok v xs) (hK : W.heap[D]? = some (.deferred (some []))) : d.R e (W.putObj D (.deferred none)) base ok v xs :=
  own_row d e base ok v (fun (_ : Unit) => xs) () W _ (some D) h (grownBy_putObj' W D _) (fun r e => by cases e; exact ⟨_, hK, rfl⟩)
theorem below_taken {w W : World} {D : Nat} (h : Below w.heap.size w W) (hD : w.heap.size ≤ D) (hK : W.heap[D]? = some (.deferred (some []))) : Below w.heap.size w (W.putObj D (.deferred none)) :=
  h.trans (belowK_b (w := w) (Nat.le_refl _) W D _ _ hD hK rfl rfl)
theorem keepsFrom_below {B : Nat} {W W' : World} (h : Below W.heap.size W W') : KeepsFrom B W W' := KeepsFrom.of_grownBy (row := none) (grownBy_of_below h) (fun j e => by cases e)
theorem ground_Regions.set_rep {i n : Nat} (h : i < n) : (List.replicate i (-1 : Int) ++ List.replicate (n - i) 0).set (i : Int).toNat (-1) = List.replicate (i + 1) (-1) ++ List.replicate (n - (i + 1)) 0 := by
  obtain ⟨m, rfl⟩ : ∃ m, n = i + 1 + m := ⟨n - (i + 1), by omega⟩
  rw [Int.toNat_natCast, show i + 1 + m - i = m + 1 by omega, show i + 1 + m - (i + 1) = m by omega, List.set_append_right _ _ (by simp)]
  rw [show i - (List.replicate i (-1 : Int)).length = 0 by simp, show List.replicate (m + 1) (0 : Int) = 0 :: List.replicate m 0 from rfl, List.set_cons_zero]
  rw [show (List.replicate i (-1 : Int) ++ -1 :: List.replicate m 0) = (List.replicate i (-1) ++ [-1]) ++ List.replicate m 0 by simp, ← List.replicate_succ']
/-- The marks of the loops over iterators that have run. -/
def ground_Regions.marks (Ds : List Nat) : List Deferred := Ds.map fun D => { target := .collected D, args := #[] }
def ground_Regions.Mk (B : Nat) (Ds : List Nat) (W : World) : Prop := Ds.Nodup ∧ ∀ D ∈ Ds, B ≤ D ∧ W.heap[D]? = some (.deferred (some []))
theorem ground_Regions.Mk.below {B : Nat} {Ds : List Nat} {W W' : World} (h : ground_Regions.Mk B Ds W) (hb : Below W.heap.size W W') : ground_Regions.Mk B Ds W' :=
  ⟨h.1, fun D hD => ⟨(h.2 D hD).1, blk_below (h.2 D hD).2 hb⟩⟩
theorem ground_Regions.Mk.set {B : Nat} {Ds : List Nat} {W : World} {g j t : Nat} {u : Value} (h : ground_Regions.Mk B Ds W) (hg : ∃ cells, W.heap[g]? = some (.cells cells t (0, 0))) : ground_Regions.Mk B Ds (W.setCell ⟨g, j, none⟩ u) :=
  ⟨h.1, fun D hD => ⟨(h.2 D hD).1, (Below.heap_setCell W ⟨g, j, none⟩ u D (fun e => by
    obtain ⟨cells, hc⟩ := hg
    have h2 := (h.2 D hD).2
    rw [show D = g from e, hc] at h2
    cases h2)).trans (h.2 D hD).2⟩⟩
theorem ground_Regions.leaves {n B : Nat} {fn : Func} {tmps : Array Value} {R : Ending → World → Prop} {p : World → Prop} (hs : ∀ W D, B ≤ D → W.heap[D]? = some (.deferred (some [])) → p W → p (W.putObj D (.deferred none)))
    (hf : ∀ W, p W → LeavesInM Fence.wide n Try.prog fn tmps R [] .returning W) : ∀ (Ds : List Nat) (W : World), ground_Regions.Mk B Ds W → p W → LeavesInM Fence.wide n Try.prog fn tmps R (ground_Regions.marks Ds) .returning W
  | [], W, _, h => hf W h
  | D :: Ds, W, hM, h => by
    obtain ⟨h1, h2⟩ := hM
    obtain ⟨b, hD⟩ := h2 D (by simp)
    have hnd := (List.nodup_cons.1 h1)
    refine ⟨by simp, .inl ⟨D, _, rfl, run_takeDeferred hD, ?_⟩⟩
    refine ground_Regions.leaves hs hf Ds _ ⟨hnd.2, fun E hE => ?_⟩ (hs W D b hD h)
    obtain ⟨c, hE2⟩ := h2 E (by simp [hE])
    exact ⟨c, (World.putObj_heap_other (fun e => hnd.1 (by rw [← e]; exact hE) : E ≠ D)).trans hE2⟩
/-- How the flood's memory stands: the first cell's box, the box of those that wait, and those. -/
structure ground_Regions.Wt (B go gv gf gt gw capw : Nat) (i : Int) (W : World) (wait : List Int) : Prop where
  f : W.heap[gf]? = some (.cells #[.int .i64 i] 3 (0, 0))
  t : W.heap[gt]? = some (.cells #[.slice (some ⟨gw, 0, none⟩) wait.length capw] 37 (0, 0))
  r : Kd.R (Kd.int .i64) 3 W B (fun k => k = gw) (.slice (some ⟨gw, 0, none⟩) wait.length capw) wait
  no : gt ≠ go
  wv : gw ≠ gv
  wf : gw ≠ gf
  fv : gf ≠ gv
  bt : B ≤ gt
  bf : B ≤ gf
theorem ground_Regions.Wt.below {B go gv gf gt gw capw : Nat} {i : Int} {W W' : World} {wait : List Int} (h : ground_Regions.Wt B go gv gf gt gw capw i W wait) (hb : Below W.heap.size W W') : ground_Regions.Wt B go gv gf gt gw capw i W' wait :=
  ⟨blk_below h.f hb, blk_below h.t hb, Kd.R_below h.r hb, h.no, h.wv, h.wf, h.fv, h.bt, h.bf⟩
/-- The box of those that wait is no other. -/
theorem ground_Regions.St.far {w wb : World} {gm gg go gv capv cg : Nat} {a0 a1 a2 : Int} {A0 : Option Addr} {n0 c0 : Nat} {Ag : Option Addr} {n : Nat} {W : World} {out : List Int}
    (h : ground_Regions.St w wb gm gg go gv capv cg a0 a1 a2 A0 n0 c0 Ag n W out) {g : Nat} {cs : Array Value} (hg : W.heap[g]? = some (.cells cs 37 (0, 0))) (ho : g ≠ go) (hb : wb.heap.size ≤ g) (hw : w.heap.size ≤ wb.heap.size) (u : Value) (j : Nat) :
    ground_Regions.St w wb gm gg go gv capv cg a0 a1 a2 A0 n0 c0 Ag n (W.setCell ⟨g, j, none⟩ u) out := by
  have nm : gm ≠ g := blk_ne h.m hg (by decide)
  have ng : gg ≠ g := blk_ne h.g hg (by decide)
  have nv : gv ≠ g := by
    obtain ⟨cells, hc⟩ := Kd.R_typed h.v gv rfl
    exact blk_ne hc hg (by decide)
  exact ⟨blk_far h.m nm _, blk_far h.g ng _, blk_far h.o (Ne.symm ho) _, Kd.R_far h.v (fun k hk => by rw [hk]; exact nv) _, h.b.setCell (Nat.le_trans hw hb) _, h.c.setCell hb _⟩
theorem ground_Regions.Wt.put {B go gv gf gt gw capw gw' capw' : Nat} {i : Int} {W : World} {wait wait' : List Int} (h : ground_Regions.Wt B go gv gf gt gw capw i W wait)
    (hr : Kd.R (Kd.int .i64) 3 W B (fun k => k = gw') (.slice (some ⟨gw', 0, none⟩) wait'.length capw') wait') (wv : gw' ≠ gv) (wf : gw' ≠ gf) :
    ground_Regions.Wt B go gv gf gt gw' capw' i (W.setCell ⟨gt, 0, none⟩ (.slice (some ⟨gw', 0, none⟩) wait'.length capw')) wait' := by
  have nf : gf ≠ gt := blk_ne h.f h.t (by decide)
  have nw : gw' ≠ gt := by
    obtain ⟨cells, hc⟩ := Kd.R_typed hr gw' rfl
    exact blk_ne hc h.t (by decide)
  refine ⟨blk_far h.f nf _, ?_, Kd.R_far hr (fun k hk => by rw [hk]; exact nw) _, h.no, wv, wf, h.fv, h.bt, h.bf⟩
  exact blk_set h.t 0 _
/-- The answer's row is no row of those that wait. -/
theorem ground_Regions.Wt.far {B go gv gf gt gw capw : Nat} {i : Int} {W : World} {wait : List Int} (h : ground_Regions.Wt B go gv gf gt gw capw i W wait) (hv : ∃ cells, W.heap[gv]? = some (.cells cells 3 (0, 0))) (j : Nat) (u : Value) :
    ground_Regions.Wt B go gv gf gt gw capw i (W.setCell ⟨gv, j, none⟩ u) wait := by
  obtain ⟨cells, hc⟩ := hv
  exact ⟨blk_far h.f h.fv _, blk_far h.t (blk_ne h.t hc (by decide)) _, Kd.R_far h.r (fun k hk => by rw [hk]; exact h.wv) _, h.no, h.wv, h.wf, h.fv, h.bt, h.bf⟩
/-- Where those that wait lie in a new box. -/
theorem ground_Regions.Wt.move {B go gv gf gt gw capw gt' : Nat} {i : Int} {W : World} {wait : List Int} (h : ground_Regions.Wt B go gv gf gt gw capw i W wait)
    (ht : W.heap[gt']? = some (.cells #[.slice (some ⟨gw, 0, none⟩) wait.length capw] 37 (0, 0))) (no : gt' ≠ go) (bt : B ≤ gt') : ground_Regions.Wt B go gv gf gt' gw capw i W wait :=
  ⟨h.f, ht, h.r, no, h.wv, h.wf, h.fv, bt, h.bf⟩
theorem ground_Regions.St.own {w wb : World} {gm gg go gv capv cg : Nat} {a0 a1 a2 : Int} {A0 : Option Addr} {n0 c0 : Nat} {Ag : Option Addr} {n D : Nat} {A B : World} {row : Option Nat} {out : List Int}
    (h : ground_Regions.St w wb gm gg go gv capv cg a0 a1 a2 A0 n0 c0 Ag n A out) (hg : A.grownBy B row) (hr : ∀ r, row = some r → D ≤ r ∧ ∃ o : Obj, A.heap[r]? = some o ∧ o.isCells = false) (hD : w.heap.size ≤ D) (hE : wb.heap.size ≤ D) :
    ground_Regions.St w wb gm gg go gv capv cg a0 a1 a2 A0 n0 c0 Ag n B out :=
  ⟨own_blk gm _ (fun (_ : Unit) => _) () A B row h.m hg (fun r e => (hr r e).2), own_blk gg _ (fun (_ : Unit) => _) () A B row h.g hg (fun r e => (hr r e).2), own_blk go _ (fun (_ : Unit) => _) () A B row h.o hg (fun r e => (hr r e).2),
   own_row _ _ _ _ _ (fun (_ : Unit) => out) () A B row h.v hg (fun r e => (hr r e).2), ownFrom_below (Nat.le_refl _) hD () A B row h.b hg hr, ownFrom_below (Nat.le_refl _) hE () A B row h.c hg hr⟩
theorem ground_Regions.Wt.own {B go gv gf gt gw capw : Nat} {i : Int} {A C : World} {row : Option Nat} {wait : List Int} (h : ground_Regions.Wt B go gv gf gt gw capw i A wait) (hg : A.grownBy C row) (hr : ∀ r, row = some r → ∃ o : Obj, A.heap[r]? = some o ∧ o.isCells = false) :
    ground_Regions.Wt B go gv gf gt gw capw i C wait :=
  ⟨own_blk gf _ (fun (_ : Unit) => _) () A C row h.f hg hr, own_blk gt _ (fun (_ : Unit) => _) () A C row h.t hg hr, own_row _ _ _ _ _ (fun (_ : Unit) => wait) () A C row h.r hg hr, h.no, h.wv, h.wf, h.fv, h.bt, h.bf⟩
theorem ground_Regions.Mk.own {B D : Nat} {Ds : List Nat} {A C : World} {row : Option Nat} (h : ground_Regions.Mk B Ds A) (hl : ∀ d ∈ Ds, d < D) (hg : A.grownBy C row) (hr : ∀ r, row = some r → D ≤ r) : ground_Regions.Mk B Ds C :=
  ⟨h.1, fun d hd => ⟨(h.2 d hd).1, (hg.block d (blk_lt (h.2 d hd).2) (fun e => by have := hr d e.symm; have := hl d hd; omega)).trans (h.2 d hd).2⟩⟩
theorem ground_Regions.Mk.lt {B : Nat} {Ds : List Nat} {W : World} (h : ground_Regions.Mk B Ds W) : ∀ d ∈ Ds, d < W.heap.size := fun d hd => blk_lt (h.2 d hd).2
theorem ground_Regions.Mk.cons {B D : Nat} {Ds : List Nat} {W : World} (h : ground_Regions.Mk B Ds W) (hl : ∀ d ∈ Ds, d < D) (hB : B ≤ D) (hD : W.heap[D]? = some (.deferred (some []))) : ground_Regions.Mk B (D :: Ds) W :=
  ⟨List.nodup_cons.2 ⟨fun e => absurd (hl D e) (Nat.lt_irrefl _), h.1⟩, fun d hd => by
    rcases List.mem_cons.1 hd with rfl | e
    · exact ⟨hB, hD⟩
    · exact h.2 d e⟩
theorem ground_Regions.grownSet (W : World) (b i : Nat) (v : Value) : W.grownBy (W.setCell ⟨b, i, none⟩ v) (some b) :=
  ⟨rfl, rfl, rfl, by simp [World.setCell], fun k _ hne => Below.heap_setCell W ⟨b, i, none⟩ v k (fun e => hne (by rw [e]))⟩
theorem ground_Regions.keeps {B : Nat} {W W' : World} {g t : Nat} {cells : Array Value} (hg : W.grownBy W' (some g)) (hc : W.heap[g]? = some (.cells cells t (0, 0))) : KeepsFrom B W W' :=
  ⟨hg.size, fun k o _ hk ho => (hg.block k (blk_lt hk) (fun e => by cases e; rw [hk] at hc; cases hc; cases ho)).trans hk⟩
theorem ground_Regions.keep4 {B gv gt gw j i' ty t' : Nat} {cs cells : Array Value} {W W3 : World} {u : Value} (hg : ((W.setCell ⟨gv, j, none⟩ u).alloc (.cells cs ty)).grownBy W3 (some gw)) (hc : ((W.setCell ⟨gv, j, none⟩ u).alloc (.cells cs ty)).heap[gw]? = some (.cells cells t' (0, 0)))
    (h1 : gv < B) (h2 : gt < B) (v : Value) : KeepsFrom B W (W3.setCell ⟨gt, i', none⟩ v) :=
  ((KeepsFrom.of_grownBy (ground_Regions.grownSet W gv j u) (fun j e => Option.some.inj e ▸ h1)).trans (keepsFrom_below (below_alloc (Below.refl _ _) (.cells cs ty)))).trans ((ground_Regions.keeps hg hc).trans (KeepsFrom.of_grownBy (ground_Regions.grownSet W3 gt i' v) (fun j e => Option.some.inj e ▸ h2)))
def ground_Regions.Halt (p : Prop) : Prop := p
theorem ground_Regions.halt {p : Prop} (h : ground_Regions.Halt p) : p := h
theorem ground_Regions.wpIn_append_at {F : Fence} {n : Nat} {P : Program} (w : World) {ops : Array Oper} {rest : List Oper} {o : Oper} {a : Act} {Q : Exit → Act → World → Prop}
    (hg : o.guard = none) (s x : Operand) (t : TypeId) (hop : o.op = Op.call { callee := Callee.builtin Builtin.append, args := #[s, x], argTypes := #[t, t] })
    (base : Nat) (e : TypeId) (i : TypeInfo) (z : Value) (size bytes : Nat) (h1 : P.underlying t = some (.slice e)) (h2 : P.info? e = some i) (h3 : i.zero = some z) (h4 : i.size = size) (h5 : i.bytes = bytes) (h6 : z.cells.size = size) (h7 : 0 < size)
    (v : Value) (k : Nat) (xs : List Value) (hs : a.eval s = v) (hown : w.ownsRow base e size v k xs) (ad : Addr) (m c : Nat) (news : List Value) (hx : a.eval x = .slice (some ad) m c) (hn : news.length = m * size)
    (hc : ∀ j u, news[j]? = some u → w.cell? (ad.add j) = some u) (h1c : ∀ u ∈ news, u.oneCell' = true) (b1 : k + m ≤ maxLen) (b2 : (k + m) * bytes ≤ 140737488355328) (b3 : base ≤ w.heap.size)
    (hK : ∀ v' w', w'.ownsRow base e size v' (k + m) (xs ++ news) → w.grownBy w' v.ownBlock → (v'.ownBlock = v.ownBlock ∨ v'.ownBlock = some w.heap.size) → wpListIn F n P ops Q rest (a.put o.dst v') w') :
    wpListIn F n P ops Q (o :: rest) a w := by
  refine wpListIn_plain hg fun K hK' => ?_
  obtain ⟨v', w', hrun, r1, r2, _, r3⟩ := run_append_own_at (P := P) w base t o.type e i z size bytes h1 h2 h3 h4 h5 h6 h7 v k xs hown ad m c news hn hc h1c b1 b2 b3
  unfold Oper.wpIn
  refine ⟨?_, ?_⟩
  · simp [Oper.about, hop, resolve, Target.leads, Sem.run_pure]
  · rw [Oper.semAt_plain F _ _ (by rw [hop]; intro c hc'; cases hc')]
    simp [execOp, hop, resolve, invoke, builtin, hs, hx, hrun, Result.andThen]
    exact hK' _ _ (hK v' w' r1 r2 r3)
theorem ground_Regions.Kp.grown {a b c : Nat} {X Y Z : World} (h : ground_Regions.Kp a b c X Y) {row : Option Nat} (hg : Y.grownBy Z row) (l1 : a < Y.heap.size) (l2 : b < Y.heap.size) (l3 : c < Y.heap.size) (h1 : some a ≠ row) (h2 : some b ≠ row) (h3 : some c ≠ row) : ground_Regions.Kp a b c X Z :=
  ⟨(hg.block _ l1 h1).trans h.a, (hg.block _ l2 h2).trans h.b, (hg.block _ l3 h3).trans h.c⟩
theorem ground_Regions.kp4 {b gv gt gw j i' ty : Nat} {cs : Array Value} {W W3 : World} {u : Value} (hg : ((W.setCell ⟨gv, j, none⟩ u).alloc (.cells cs ty)).grownBy W3 (some gw))
    (q1 : b ≠ gv ∧ b + 1 ≠ gv ∧ b + 1 + 1 ≠ gv ∧ b ≠ gt ∧ b + 1 ≠ gt ∧ b + 1 + 1 ≠ gt) (q2 : gw ≠ b ∧ gw ≠ b + 1 ∧ gw ≠ b + 1 + 1) (q3 : b + 1 + 1 < W.heap.size) (v : Value) :
    ground_Regions.Kp b (b + 1) (b + 1 + 1) W (W3.setCell ⟨gt, i', none⟩ v) := by
  have k1 : ground_Regions.Kp b (b + 1) (b + 1 + 1) W (W.setCell ⟨gv, j, none⟩ u) := ground_Regions.Kp.set (B := 0) ⟨rfl, rfl, rfl⟩ _ _ q1.1 q1.2.1 q1.2.2.1
  have e1 : (W.setCell ⟨gv, j, none⟩ u).heap.size = W.heap.size := by simp
  have hb : Below (W.setCell ⟨gv, j, none⟩ u).heap.size (W.setCell ⟨gv, j, none⟩ u) ((W.setCell ⟨gv, j, none⟩ u).alloc (.cells cs ty)) := below_alloc (Below.refl _ _) _
  have k2 := k1.trans (ground_Regions.Kp.below hb (by rw [e1]; omega) (by rw [e1]; omega) (by rw [e1]; omega))
  have hz := hb.size
  have k3 := k2.grown hg (by omega) (by omega) (by omega) (fun e => q2.1 (Option.some.inj e).symm) (fun e => q2.2.1 (Option.some.inj e).symm) (fun e => q2.2.2 (Option.some.inj e).symm)
  exact k3.set (B := 0) _ _ q1.2.2.2.1 q1.2.2.2.2.1 q1.2.2.2.2.2
theorem ground_Regions.range {g : Operand} {assign body : Code} {Q : Exit → Act → World → Prop} {a : Act} {w : World} {n k wd : Int} {b : Nat}
    (hg : a.eval g = .func (.func 29) #[] #[.pointer (some ⟨b, 0, none⟩), .pointer (some ⟨b + 1, 0, none⟩), .pointer (some ⟨b + 1 + 1, 0, none⟩)])
    (hseq : SeqStopsK Fence.wide 11 Try.prog 29 #[.pointer (some ⟨b, 0, none⟩), .pointer (some ⟨b + 1, 0, none⟩), .pointer (some ⟨b + 1 + 1, 0, none⟩)] (fun x : ground_Regions.Cell n => #[Value.int .i64 x.1]) (ground_Regions.Kp b (b + 1) (b + 1 + 1))
      (fun ys => ys.map Subtype.val = ground_Regions.nbs wd n k) (fun _ => True) 4 w) (hb : b + 1 + 1 < w.heap.size)
    (I : List (ground_Regions.Cell n) → World → Prop) (hI : OwnFrom w.heap.size I) (h0 : I [] w)
    (hassign : ∀ (l : Nat) (x : ground_Regions.Cell n) (W : World) (K : Act → World → Prop), K { tmps := (a.tmps.setIfInBounds 78 (.int .i64 x.1)).setIfInBounds 14 (.int .i64 x.1), defers := [] } W →
      assign.wpIn (Fence.wide.inRound l) 10 Try.prog (Exit.then K (fun _ _ _ => False)) { tmps := a.tmps.setIfInBounds 78 (.int .i64 x.1), defers := [] } W)
    (hbody : ∀ (l : Nat) (pre : List (ground_Regions.Cell n)) (x : ground_Regions.Cell n) (W : World), I pre W → pre.length < 4 → body.wpIn (Fence.wide.inRound l) 10 Try.prog (ownPostG w.heap.size (ground_Regions.Kp b (b + 1) (b + 1 + 1)) I (fun _ _ _ => False) (pre ++ [x]) W) { tmps := (a.tmps.setIfInBounds 78 (.int .i64 x.1)).setIfInBounds 14 (.int .i64 x.1), defers := [] } W)
    (hdone : ∀ (D : Nat) (xs : List (ground_Regions.Cell n)) (W : World), w.heap.size ≤ D → xs.map Subtype.val = ground_Regions.nbs wd n k → I xs W → W.heap[D]? = some (.deferred (some [])) → Q .normal { a with defers := { target := .collected D, args := #[] } :: a.defers } W) :
    (Code.rangeFunc g #[78] assign body).wp Try.prog Q a w := by
  refine (wpIn_wide (n := 12)).1 ?_
  refine wpIn_rangeFunc_ownG (F := Fence.wide) (n := 12) rfl (by omega) (gf := 29) (lb := #[.pointer (some ⟨b, 0, none⟩), .pointer (some ⟨b + 1, 0, none⟩), .pointer (some ⟨b + 1 + 1, 0, none⟩)]) hg trivial (enters_of Try.func29 (by kernel_rfl) rfl)
    hseq (fun h k => h.trans k) (fun W l o o' hl _ _ _ => ⟨World.putObj_heap_other (by omega), World.putObj_heap_other (by omega), World.putObj_heap_other (by omega)⟩) (Below.refl _ _) (fun _ => rfl)
    I (fun _ _ _ => False) hI (fun _ _ _ _ _ hs _ _ => hs) h0 (fun x => { tmps := (a.tmps.setIfInBounds 78 (.int .i64 x.1)).setIfInBounds 14 (.int .i64 x.1), defers := [] }) ?_ hbody hdone (fun _ _ _ _ _ _ h _ => h.elim)
  intro l x W K hK
  have e : ((#[78] : Array Tmp).zip #[Value.int .i64 x.1]).foldl (fun t (p, v) => t.setIfInBounds p v) a.tmps = a.tmps.setIfInBounds 78 (.int .i64 x.1) := by simp
  have h := hassign l x W K hK
  rw [← e] at h
  exact h
theorem ground_Regions.St.grown {w wb : World} {gm gg go gv capv cg : Nat} {a0 a1 a2 : Int} {A0 : Option Addr} {n0 c0 : Nat} {Ag : Option Addr} {n : Nat} {A C : World} {out : List Int} {g : Nat}
    (h : ground_Regions.St w wb gm gg go gv capv cg a0 a1 a2 A0 n0 c0 Ag n A out) (hg : A.grownBy C (some g)) (ht : ∃ cells, A.heap[g]? = some (.cells cells 3 (0, 0))) (hv : g ≠ gv) (hb : wb.heap.size ≤ g) (hw : w.heap.size ≤ wb.heap.size) :
    ground_Regions.St w wb gm gg go gv capv cg a0 a1 a2 A0 n0 c0 Ag n C out := by
  obtain ⟨cells, hc⟩ := ht
  have ne : ∀ {x y : Nat}, x ≠ y → some x ≠ some y := fun h e => h (Option.some.inj e)
  exact ⟨blk_grown h.m hg (ne (blk_ne h.m hc (by decide))), blk_grown h.g hg (ne (blk_ne h.g hc (by decide))), blk_grown h.o hg (ne (blk_ne h.o hc (by decide))), Kd.R_grown h.v hg (fun k hk => by rw [hk]; exact ne hv.symm),
    h.b.grown hg h.b.size (fun k e => by cases e; omega), h.c.grown hg h.c.size (fun k e => by cases e; omega)⟩
theorem ground_Regions.Mk.grown {B : Nat} {Ds : List Nat} {A C : World} {g t : Nat} (h : ground_Regions.Mk B Ds A) (hg : A.grownBy C (some g)) (ht : ∃ cells, A.heap[g]? = some (.cells cells t (0, 0))) : ground_Regions.Mk B Ds C :=
  ⟨h.1, fun d hd => ⟨(h.2 d hd).1, blk_grown (h.2 d hd).2 hg (fun e => by
    obtain ⟨cells, hc⟩ := ht
    have h2 := (h.2 d hd).2
    rw [show d = g from Option.some.inj e, hc] at h2
    cases h2)⟩⟩
section
attribute [local go_sem] Oper.semAt_some
set_option maxRecDepth 100000 in
set_option maxHeartbeats 4000000 in
theorem ground_Regions.calls (k : Nat) (a0_0 : Int) (a0_1 : Int) (a0_2 : Int) (A0_3 : Option Addr) (c0_3 : Nat) (l0_3 : List Int) (a1 : Int) (r1 : List Int) (r2 : Int) (w : World) (hr0_3 : Kd.C (Kd.int .u8) w A0_3 l0_3.length l0_3) (hc0_3 : l0_3.length ≤ c0_3) (h : ground_Regions.f k a0_0 a0_1 a0_2 l0_3 a1 = some (r1, r2)) :
    Calls Try.prog 10 #[.agg #[.int .i64 a0_0, .int .i64 a0_1, .int .i64 a0_2, .slice A0_3 l0_3.length c0_3], .int .i64 a1] w fun e w' => ∃ v0_ : Value, e = .returned (.tuple #[v0_, .int .i64 r2]) ∧ Kd.R (Kd.int .i64) 3 w' w.heap.size (fun _ => True) v0_ r1 ∧ Below w.heap.size w w' := by
  have HR := Aside0.mk hr0_3
  clear hr0_3
  have HB := Aside0.mk (Below.refl w.heap.size w)
  unfold ground_Regions.f at h
  replace h := Option.bind_eq_some_iff.1 h
  obtain ⟨⟨gl, er⟩, hG, h⟩ := h
  have HG := Aside0.mk hG
  clear hG
  have h0 := Aside0.mk h
  clear h
  refine (callsIn_wide (n := 12)).1 ?_
  refine callsIn_of_wp_marks Try.func10 rfl trivial ?_ rfl
  simp only [Try.ntmps10, List.size_toArray, List.length_cons, List.length_nil, Nat.reduceAdd, Nat.reduceSub, Array.replicate_succ, Array.replicate_zero, List.push_toArray, List.append_toArray, List.nil_append, List.cons_append]
  refine (wpIn_wide (n := 12)).2 ?_
  have h := h0.out
  clear h0
  dsimp only at h
  by_cases c0 : er = 0
  case neg =>
    rw [if_neg c0] at h
    have c1 : (er == 0) = false := beq_eq_false_iff_ne.mpr c0
    have c2 : (er != 0) = true := bne_iff_ne.mpr c0
    clear c0
    simp only [Option.some.injEq, Prod.mk.injEq] at h
    obtain ⟨h1, h2⟩ := h
    subst h1
    subst h2
    go_wp2_with (first | ((with_reducible refine gate_dst (N := 2) rfl ?_); refine box_event ?hg (N := 2) ?hd (cs := #[.int .i64 a0_0, .int .i64 a0_1, .int .i64 a0_2, .slice A0_3 l0_3.length c0_3]) (t := 24) ?hr ?_; (case hd => rfl); (case hg => rfl); (case hr => first | (go_simp; done) | (go_simp; rfl)); intro gm hg ww1 hbox hb; have Gm : Aside0 (w.heap.size ≤ gm) := ⟨by have := HB.out.size; omega⟩; have Km := Aside0.mk hbox; have KK := Aside0.mk (below_step HB.out hb); clear HB; have HB := KK; clear KK; clear hb hbox hg; have zm_0 : ww1.cell? ⟨gm, 0, none⟩ = some (.int .i64 a0_0) := (blk_cell Km.out 0).trans rfl; have fm_0 := blk_frozen Km.out 0; have zm_1 : ww1.cell? ⟨gm, 1, none⟩ = some (.int .i64 a0_1) := (blk_cell Km.out 1).trans rfl; have fm_1 := blk_frozen Km.out 1; have zm_2 : ww1.cell? ⟨gm, 2, none⟩ = some (.int .i64 a0_2) := (blk_cell Km.out 2).trans rfl; have fm_2 := blk_frozen Km.out 2; have zm_3 : ww1.cell? ⟨gm, 3, none⟩ = some (.slice A0_3 l0_3.length c0_3) := (blk_cell Km.out 3).trans rfl; have fm_3 := blk_frozen Km.out 3) | (go_at_call 6; refine (ground_Grid.calls k a0_0 a0_1 a0_2 _ _ l0_3 a1 gl er _ (Kd.C_below HR.out HB.out) hc0_3 HG.out).mono ?_; rintro e ww2 ⟨vg, rfl, hvg, hb⟩; obtain ⟨Ag, cg, rfl⟩ := Kd.R_slice hvg; have HGR := Aside0.mk (Kd.R_reads' hvg).2.2; have HWB := Aside0.mk (Below.refl ww2.heap.size ww2); have HWW : Aside0 (w.heap.size ≤ ww2.heap.size) := ⟨Nat.le_trans HB.out.size hb.size⟩; clear hvg; have KK := Aside0.mk (blk_below Km.out hb); clear Km; have Km := KK; clear KK; have KK := Aside0.mk (below_step HB.out hb); clear HB; have HB := KK; clear KK; clear hb; clear zm_0 fm_0 zm_1 fm_1 zm_2 fm_2 zm_3 fm_3; have zm_0 : ww2.cell? ⟨gm, 0, none⟩ = some (.int .i64 a0_0) := (blk_cell Km.out 0).trans rfl; have zm_1 : ww2.cell? ⟨gm, 1, none⟩ = some (.int .i64 a0_1) := (blk_cell Km.out 1).trans rfl; have zm_2 : ww2.cell? ⟨gm, 2, none⟩ = some (.int .i64 a0_2) := (blk_cell Km.out 2).trans rfl; have zm_3 : ww2.cell? ⟨gm, 3, none⟩ = some (.slice A0_3 l0_3.length c0_3) := (blk_cell Km.out 3).trans rfl) | ((with_reducible refine gate_dst (N := 6) rfl ?_); refine box_event ?hg (N := 6) ?hd (cs := #[.slice none 0 0]) (t := 29) ?hr ?_; (case hd => rfl); (case hg => rfl); (case hr => first | (go_simp; done) | (go_simp; rfl)); intro gg hg ww3 hbox hb; have P_g := Aside0.mk hb; have PG_g : Aside0 (_ ≤ gg) := ⟨Nat.le_of_eq hg.symm⟩; have P_g_HWB := HWB; have Nm_g : Aside0 (gm ≠ gg) := ⟨by have := blk_lt Km.out; omega⟩; have KK := Aside0.mk (blk_below Km.out hb); clear Km; have Km := KK; clear KK; have KK := Aside0.mk (below_step HWB.out hb); clear HWB; have HWB := KK; clear KK; have Gg : Aside0 (w.heap.size ≤ gg) := ⟨by have := HB.out.size; omega⟩; have Kg := Aside0.mk hbox; have KK := Aside0.mk (below_step HB.out hb); clear HB; have HB := KK; clear KK; clear hb hbox hg; clear zm_0 zm_1 zm_2 zm_3; have zm_0 : ww3.cell? ⟨gm, 0, none⟩ = some (.int .i64 a0_0) := (blk_cell Km.out 0).trans rfl; have zm_1 : ww3.cell? ⟨gm, 1, none⟩ = some (.int .i64 a0_1) := (blk_cell Km.out 1).trans rfl; have zm_2 : ww3.cell? ⟨gm, 2, none⟩ = some (.int .i64 a0_2) := (blk_cell Km.out 2).trans rfl; have zm_3 : ww3.cell? ⟨gm, 3, none⟩ = some (.slice A0_3 l0_3.length c0_3) := (blk_cell Km.out 3).trans rfl; have zg_0 : ww3.cell? ⟨gg, 0, none⟩ = some (.slice none 0 0) := (blk_cell Kg.out 0).trans rfl; have fg_0 := blk_frozen Kg.out 0) | ((with_reducible refine gate_store (t := 29) (p := 6) rfl ?_); refine store_event (t := 29) (p := 6) (v := ?vo_ww4) (w1 := (ww3.setCell ⟨gg, 0, none⟩ (.slice Ag gl.length cg))) ?hg ?ho ?hn ?hr ?_; (case ho => rfl); (case hg => rfl); (case hn => rfl); (case hr => first | (go_simp; done) | (go_simp; rfl)); intro ww4 hw; have nem : gm ≠ gg := Nm_g.out; have hb : Below w.heap.size w ww4 := (by subst hw; exact below_set HB.out Gg.out); have KK := Aside0.mk (show ww4.heap[gm]? = some (.cells #[.int .i64 a0_0, .int .i64 a0_1, .int .i64 a0_2, .slice A0_3 l0_3.length c0_3] 24 (0, 0)) by subst hw; exact blk_far Km.out nem _); clear Km; have Km := KK; clear KK; have KK := Aside0.mk (show ww4.heap[gg]? = some (.cells #[.slice Ag gl.length cg] 29 (0, 0)) by subst hw; exact blk_put Kg.out 0 _ rfl); clear Kg; have Kg := KK; clear KK; have KK := Aside0.mk (below_step P_g_HWB.out (show Below _ _ ww4 from (by subst hw; exact below_set P_g.out PG_g.out))); clear HWB P_g_HWB; have HWB := KK; clear KK; clear HB; have HB := Aside0.mk hb; clear hb hw nem; clear zm_0 zm_1 zm_2 zm_3 zg_0 fg_0; have zm_0 : ww4.cell? ⟨gm, 0, none⟩ = some (.int .i64 a0_0) := (blk_cell Km.out 0).trans rfl; have zm_1 : ww4.cell? ⟨gm, 1, none⟩ = some (.int .i64 a0_1) := (blk_cell Km.out 1).trans rfl; have zm_2 : ww4.cell? ⟨gm, 2, none⟩ = some (.int .i64 a0_2) := (blk_cell Km.out 2).trans rfl; have zm_3 : ww4.cell? ⟨gm, 3, none⟩ = some (.slice A0_3 l0_3.length c0_3) := (blk_cell Km.out 3).trans rfl; have zg_0 : ww4.cell? ⟨gg, 0, none⟩ = some (.slice Ag gl.length cg) := (blk_cell Kg.out 0).trans rfl))
    refine ⟨_, results_tmp2 rfl _ _ _, _, rfl, Kd.R_nil _ _ _ _ _, HB.out⟩
  subst c0
  rw [if_pos rfl] at h
  by_cases hg0 : 1 ≤ a0_0 ∧ a0_0 ≤ 64 ∧ 1 ≤ gl.length ∧ gl.length ≤ 4096 ∧ (gl.length : Int) = a0_0 * a0_1
  case neg => rw [if_neg hg0] at h; exact absurd h (by simp)
  rw [if_pos hg0] at h
  replace h := Option.bind_eq_some_iff.1 h
  obtain ⟨out, hO, h⟩ := h
  simp only [Option.some.injEq, Prod.mk.injEq] at h
  obtain ⟨rfl, rfl⟩ := h
  have HO := Aside0.mk hO
  have HL : Aside0 (1 ≤ gl.length ∧ gl.length ≤ 4096) := ⟨hg0.2.2.1, hg0.2.2.2.1⟩
  have HS := Aside0.mk hg0
  clear hO hg0
  go_wp2_with (first | ((with_reducible refine gate_dst (N := 2) rfl ?_); refine box_event ?hg (N := 2) ?hd (cs := #[.int .i64 a0_0, .int .i64 a0_1, .int .i64 a0_2, .slice A0_3 l0_3.length c0_3]) (t := 24) ?hr ?_; (case hd => rfl); (case hg => rfl); (case hr => first | (go_simp; done) | (go_simp; rfl)); intro gm hg ww1 hbox hb; have Gm : Aside0 (w.heap.size ≤ gm) := ⟨by have := HB.out.size; omega⟩; have Km := Aside0.mk hbox; have KK := Aside0.mk (below_step HB.out hb); clear HB; have HB := KK; clear KK; clear hb hbox hg; have zm_0 : ww1.cell? ⟨gm, 0, none⟩ = some (.int .i64 a0_0) := (blk_cell Km.out 0).trans rfl; have fm_0 := blk_frozen Km.out 0; have zm_1 : ww1.cell? ⟨gm, 1, none⟩ = some (.int .i64 a0_1) := (blk_cell Km.out 1).trans rfl; have fm_1 := blk_frozen Km.out 1; have zm_2 : ww1.cell? ⟨gm, 2, none⟩ = some (.int .i64 a0_2) := (blk_cell Km.out 2).trans rfl; have fm_2 := blk_frozen Km.out 2; have zm_3 : ww1.cell? ⟨gm, 3, none⟩ = some (.slice A0_3 l0_3.length c0_3) := (blk_cell Km.out 3).trans rfl; have fm_3 := blk_frozen Km.out 3) | (go_at_call 6; refine (ground_Grid.calls k a0_0 a0_1 a0_2 _ _ l0_3 a1 gl 0 _ (Kd.C_below HR.out HB.out) hc0_3 HG.out).mono ?_; rintro e ww2 ⟨vg, rfl, hvg, hb⟩; obtain ⟨Ag, cg, rfl⟩ := Kd.R_slice hvg; have HGR := Aside0.mk (Kd.R_reads' hvg).2.2; have HWB := Aside0.mk (Below.refl ww2.heap.size ww2); have HWW : Aside0 (w.heap.size ≤ ww2.heap.size) := ⟨Nat.le_trans HB.out.size hb.size⟩; clear hvg; have KK := Aside0.mk (blk_below Km.out hb); clear Km; have Km := KK; clear KK; have KK := Aside0.mk (below_step HB.out hb); clear HB; have HB := KK; clear KK; clear hb; clear zm_0 fm_0 zm_1 fm_1 zm_2 fm_2 zm_3 fm_3; have zm_0 : ww2.cell? ⟨gm, 0, none⟩ = some (.int .i64 a0_0) := (blk_cell Km.out 0).trans rfl; have zm_1 : ww2.cell? ⟨gm, 1, none⟩ = some (.int .i64 a0_1) := (blk_cell Km.out 1).trans rfl; have zm_2 : ww2.cell? ⟨gm, 2, none⟩ = some (.int .i64 a0_2) := (blk_cell Km.out 2).trans rfl; have zm_3 : ww2.cell? ⟨gm, 3, none⟩ = some (.slice A0_3 l0_3.length c0_3) := (blk_cell Km.out 3).trans rfl) | ((with_reducible refine gate_dst (N := 6) rfl ?_); refine box_event ?hg (N := 6) ?hd (cs := #[.slice none 0 0]) (t := 29) ?hr ?_; (case hd => rfl); (case hg => rfl); (case hr => first | (go_simp; done) | (go_simp; rfl)); intro gg hg ww3 hbox hb; have P_g := Aside0.mk hb; have PG_g : Aside0 (_ ≤ gg) := ⟨Nat.le_of_eq hg.symm⟩; have P_g_HWB := HWB; have Nm_g : Aside0 (gm ≠ gg) := ⟨by have := blk_lt Km.out; omega⟩; have KK := Aside0.mk (blk_below Km.out hb); clear Km; have Km := KK; clear KK; have KK := Aside0.mk (below_step HWB.out hb); clear HWB; have HWB := KK; clear KK; have Gg : Aside0 (w.heap.size ≤ gg) := ⟨by have := HB.out.size; omega⟩; have Kg := Aside0.mk hbox; have KK := Aside0.mk (below_step HB.out hb); clear HB; have HB := KK; clear KK; clear hb hbox hg; clear zm_0 zm_1 zm_2 zm_3; have zm_0 : ww3.cell? ⟨gm, 0, none⟩ = some (.int .i64 a0_0) := (blk_cell Km.out 0).trans rfl; have zm_1 : ww3.cell? ⟨gm, 1, none⟩ = some (.int .i64 a0_1) := (blk_cell Km.out 1).trans rfl; have zm_2 : ww3.cell? ⟨gm, 2, none⟩ = some (.int .i64 a0_2) := (blk_cell Km.out 2).trans rfl; have zm_3 : ww3.cell? ⟨gm, 3, none⟩ = some (.slice A0_3 l0_3.length c0_3) := (blk_cell Km.out 3).trans rfl; have zg_0 : ww3.cell? ⟨gg, 0, none⟩ = some (.slice none 0 0) := (blk_cell Kg.out 0).trans rfl; have fg_0 := blk_frozen Kg.out 0) | ((with_reducible refine gate_store (t := 29) (p := 6) rfl ?_); refine store_event (t := 29) (p := 6) (v := ?vo_ww4) (w1 := (ww3.setCell ⟨gg, 0, none⟩ (.slice Ag gl.length cg))) ?hg ?ho ?hn ?hr ?_; (case ho => rfl); (case hg => rfl); (case hn => rfl); (case hr => first | (go_simp; done) | (go_simp; rfl)); intro ww4 hw; have nem : gm ≠ gg := Nm_g.out; have hb : Below w.heap.size w ww4 := (by subst hw; exact below_set HB.out Gg.out); have KK := Aside0.mk (show ww4.heap[gm]? = some (.cells #[.int .i64 a0_0, .int .i64 a0_1, .int .i64 a0_2, .slice A0_3 l0_3.length c0_3] 24 (0, 0)) by subst hw; exact blk_far Km.out nem _); clear Km; have Km := KK; clear KK; have KK := Aside0.mk (show ww4.heap[gg]? = some (.cells #[.slice Ag gl.length cg] 29 (0, 0)) by subst hw; exact blk_put Kg.out 0 _ rfl); clear Kg; have Kg := KK; clear KK; have KK := Aside0.mk (below_step P_g_HWB.out (show Below _ _ ww4 from (by subst hw; exact below_set P_g.out PG_g.out))); clear HWB P_g_HWB; have HWB := KK; clear KK; clear HB; have HB := Aside0.mk hb; clear hb hw nem; clear zm_0 zm_1 zm_2 zm_3 zg_0 fg_0; have zm_0 : ww4.cell? ⟨gm, 0, none⟩ = some (.int .i64 a0_0) := (blk_cell Km.out 0).trans rfl; have zm_1 : ww4.cell? ⟨gm, 1, none⟩ = some (.int .i64 a0_1) := (blk_cell Km.out 1).trans rfl; have zm_2 : ww4.cell? ⟨gm, 2, none⟩ = some (.int .i64 a0_2) := (blk_cell Km.out 2).trans rfl; have zm_3 : ww4.cell? ⟨gm, 3, none⟩ = some (.slice A0_3 l0_3.length c0_3) := (blk_cell Km.out 3).trans rfl; have zg_0 : ww4.cell? ⟨gg, 0, none⟩ = some (.slice Ag gl.length cg) := (blk_cell Kg.out 0).trans rfl) | ((with_reducible refine gate_dst (N := 26) rfl ?_); refine Kd.R_make (Kd.int .i64) _ 3 rfl (N := 26) rfl 37 _ _ rfl (gl.length : Int) rfl rfl Try.underlying37 (.int .i64 0) 8 ground_Regions.info rfl (by decide) (by decide) 0 (ok := fun _ => True) (okp := fun _ => True) rfl (fun _ hk => hk) trivial (by omega) (by have := HL.out; omega) (Below.refl _ _) (Nat.le_refl _) ?_; intro v1 ww5 ho hb hg_ hnew_; rw [show ((gl.length : Int)).toNat = gl.length from Int.toNat_natCast _] at ho; obtain ⟨gv, capv, ev, x1, x2, x3⟩ := Kd.R_form ho (by rw [List.length_replicate]; have := HL.out; omega); rw [List.length_replicate] at ev; subst ev; have Gv : Aside0 (w.heap.size ≤ gv) := ⟨by have := HB.out.size; omega⟩; have Nm_v : Aside0 (gm ≠ gv) := ⟨by have := blk_lt Km.out; omega⟩; have Ng_v : Aside0 (gg ≠ gv) := ⟨by have := blk_lt Kg.out; omega⟩; have hV0 : Kd.R (Kd.int .i64) 3 ww5 _ (fun k => k = gv) (.slice (some ⟨gv, 0, none⟩) gl.length capv) (List.replicate gl.length 0) := Kd.R_of_own (Kd.own_of_R ho) (fun k hk => (by simpa [Value.ownBlock] using hk.symm)); have HV := Aside0.mk (Kd.R_lower (base' := w.heap.size) hV0 HB.out.size); clear hV0; have HX5 := Aside0.mk (show ww2.heap.size ≤ gv by have := HWB.out.size; omega); clear ho hg_ hnew_ x1 x2 x3; have KK := Aside0.mk (blk_below Km.out hb); clear Km; have Km := KK; clear KK; have KK := Aside0.mk (blk_below Kg.out hb); clear Kg; have Kg := KK; clear KK; have KK := Aside0.mk (below_step HWB.out hb); clear HWB; have HWB := KK; clear KK; have KK := Aside0.mk (below_step HB.out hb); clear HB; have HB := KK; clear KK; clear hb; clear zm_0 zm_1 zm_2 zm_3 zg_0; have zm_0 : ww5.cell? ⟨gm, 0, none⟩ = some (.int .i64 a0_0) := (blk_cell Km.out 0).trans rfl; have zm_1 : ww5.cell? ⟨gm, 1, none⟩ = some (.int .i64 a0_1) := (blk_cell Km.out 1).trans rfl; have zm_2 : ww5.cell? ⟨gm, 2, none⟩ = some (.int .i64 a0_2) := (blk_cell Km.out 2).trans rfl; have zm_3 : ww5.cell? ⟨gm, 3, none⟩ = some (.slice A0_3 l0_3.length c0_3) := (blk_cell Km.out 3).trans rfl; have zg_0 : ww5.cell? ⟨gg, 0, none⟩ = some (.slice Ag gl.length cg) := (blk_cell Kg.out 0).trans rfl) | ((with_reducible refine gate_dst (N := 8) rfl ?_); refine box_event ?hg (N := 8) ?hd (cs := #[.slice none 0 0]) (t := 37) ?hr ?_; (case hd => rfl); (case hg => rfl); (case hr => first | (go_simp; done) | (go_simp; rfl)); intro go hg ww6 hbox hb; have No_v : Aside0 (go ≠ gv) := ⟨by have := Kd.R_lt HV.out gv rfl; omega⟩; have P_o := Aside0.mk hb; have PG_o : Aside0 (_ ≤ go) := ⟨Nat.le_of_eq hg.symm⟩; have P_o_HWB := HWB; have P_o_HV := HV; have Nm_o : Aside0 (gm ≠ go) := ⟨by have := blk_lt Km.out; omega⟩; have Ng_o : Aside0 (gg ≠ go) := ⟨by have := blk_lt Kg.out; omega⟩; have KK := Aside0.mk (blk_below Km.out hb); clear Km; have Km := KK; clear KK; have KK := Aside0.mk (blk_below Kg.out hb); clear Kg; have Kg := KK; clear KK; have KK := Aside0.mk (below_step HWB.out hb); clear HWB; have HWB := KK; clear KK; have KK := Aside0.mk (Kd.R_below HV.out hb); clear HV; have HV := KK; clear KK; have Go : Aside0 (w.heap.size ≤ go) := ⟨by have := HB.out.size; omega⟩; have Ko := Aside0.mk hbox; have KK := Aside0.mk (below_step HB.out hb); clear HB; have HB := KK; clear KK; clear hb hbox hg; clear zm_0 zm_1 zm_2 zm_3 zg_0; have zm_0 : ww6.cell? ⟨gm, 0, none⟩ = some (.int .i64 a0_0) := (blk_cell Km.out 0).trans rfl; have zm_1 : ww6.cell? ⟨gm, 1, none⟩ = some (.int .i64 a0_1) := (blk_cell Km.out 1).trans rfl; have zm_2 : ww6.cell? ⟨gm, 2, none⟩ = some (.int .i64 a0_2) := (blk_cell Km.out 2).trans rfl; have zm_3 : ww6.cell? ⟨gm, 3, none⟩ = some (.slice A0_3 l0_3.length c0_3) := (blk_cell Km.out 3).trans rfl; have zg_0 : ww6.cell? ⟨gg, 0, none⟩ = some (.slice Ag gl.length cg) := (blk_cell Kg.out 0).trans rfl; have zo_0 : ww6.cell? ⟨go, 0, none⟩ = some (.slice none 0 0) := (blk_cell Ko.out 0).trans rfl; have fo_0 := blk_frozen Ko.out 0) | ((with_reducible refine gate_store (t := 37) (p := 8) rfl ?_); refine store_event (t := 37) (p := 8) (v := ?vo_ww7) (w1 := (ww6.setCell ⟨go, 0, none⟩ (.slice (some ⟨gv, 0, none⟩) gl.length capv))) ?hg ?ho ?hn ?hr ?_; (case ho => rfl); (case hg => rfl); (case hn => rfl); (case hr => first | (go_simp; done) | (go_simp; rfl)); intro ww7 hw; have nem : gm ≠ go := Nm_o.out; have neg : gg ≠ go := Ng_o.out; have hb : Below w.heap.size w ww7 := (by subst hw; exact below_set HB.out Go.out); have KK := Aside0.mk (show ww7.heap[gm]? = some (.cells #[.int .i64 a0_0, .int .i64 a0_1, .int .i64 a0_2, .slice A0_3 l0_3.length c0_3] 24 (0, 0)) by subst hw; exact blk_far Km.out nem _); clear Km; have Km := KK; clear KK; have KK := Aside0.mk (show ww7.heap[gg]? = some (.cells #[.slice Ag gl.length cg] 29 (0, 0)) by subst hw; exact blk_far Kg.out neg _); clear Kg; have Kg := KK; clear KK; have KK := Aside0.mk (show ww7.heap[go]? = some (.cells #[.slice (some ⟨gv, 0, none⟩) gl.length capv] 37 (0, 0)) by subst hw; exact blk_put Ko.out 0 _ rfl); clear Ko; have Ko := KK; clear KK; have KK := Aside0.mk (below_step P_o_HWB.out (show Below _ _ ww7 from (by subst hw; exact below_set P_o.out PG_o.out))); clear HWB P_o_HWB; have HWB := KK; clear KK; have KK := Aside0.mk (Kd.R_below P_o_HV.out (show Below _ _ ww7 from (by subst hw; exact below_set P_o.out PG_o.out))); clear HV P_o_HV; have HV := KK; clear KK; clear HB; have HB := Aside0.mk hb; clear hb hw nem neg; clear zm_0 zm_1 zm_2 zm_3 zg_0 zo_0 fo_0; have zm_0 : ww7.cell? ⟨gm, 0, none⟩ = some (.int .i64 a0_0) := (blk_cell Km.out 0).trans rfl; have zm_1 : ww7.cell? ⟨gm, 1, none⟩ = some (.int .i64 a0_1) := (blk_cell Km.out 1).trans rfl; have zm_2 : ww7.cell? ⟨gm, 2, none⟩ = some (.int .i64 a0_2) := (blk_cell Km.out 2).trans rfl; have zm_3 : ww7.cell? ⟨gm, 3, none⟩ = some (.slice A0_3 l0_3.length c0_3) := (blk_cell Km.out 3).trans rfl; have zg_0 : ww7.cell? ⟨gg, 0, none⟩ = some (.slice Ag gl.length cg) := (blk_cell Kg.out 0).trans rfl; have zo_0 : ww7.cell? ⟨go, 0, none⟩ = some (.slice (some ⟨gv, 0, none⟩) gl.length capv) := (blk_cell Ko.out 0).trans rfl))
  have hst : ground_Regions.St w ww2 gm gg go gv capv cg a0_0 a0_1 a0_2 A0_3 l0_3.length c0_3 Ag gl.length ww7 (List.replicate gl.length 0) := ⟨Km.out, Kg.out, Ko.out, HV.out, HB.out, HWB.out⟩
  have HST := Aside0.mk hst
  have HGV : Aside0 (ww2.heap.size ≤ gv) := ⟨by have := HX5.out; omega⟩
  clear hst Km Kg Ko HV HB HWB
  go_loopw [29] (fun v wr => ∃ i : Nat, v = .int .i64 i ∧ i ≤ gl.length ∧ ground_Regions.St w ww2 gm gg go gv capv cg a0_0 a0_1 a0_2 A0_3 l0_3.length c0_3 Ag gl.length wr (List.replicate i (-1) ++ List.replicate (gl.length - i) 0))
    (fun v _ => (gl.length - (intOf v).toNat))
  case atStart => exact ⟨0, by simp, Nat.zero_le _, by simpa using HST.out⟩
  case round =>
    clear HST
    obtain ⟨i, rfl, hi, hS⟩ := hrel
    have HS1 := Aside0.mk hS
    clear hS
    by_cases ti : i < gl.length
    · have tib : decide ((i : Int) < (gl.length : Int)) = true := decide_eq_true (by omega)
      have hl1 : (List.replicate i (-1 : Int) ++ List.replicate (gl.length - i) 0).length = gl.length := by simp; omega
      have z0 : wr.cell? ⟨go, 0, none⟩ = some (.slice (some ⟨gv, 0, none⟩) gl.length capv) := (blk_cell HS1.out.o 0).trans rfl
      have x0 := (Kd.R_celln 0 HS1.out.v i (by omega) (by omega)).1
      have x1 := (Kd.R_celln 0 HS1.out.v i (by omega) (by omega)).2
      simp only [Int.toNat_natCast] at x0 x1
      have HT := Aside0.mk ti
      have HL1 := Aside0.mk hl1
      have hw : wrap64 ((i : Int) + 1) = ((i + 1 : Nat) : Int) := by have := HL.out; unfold wrap64; omega
      have HW := Aside0.mk hw
      clear hl1 hi hw
      go_wp2
      go_roundw
      case rel =>
        refine ⟨i + 1, by rw [HW.out], by have := HT.out; omega, ?_⟩
        have h := HS1.out.put Nm_v.out Ng_v.out No_v.out Gv.out HGV.out i (-1)
        have e : (List.replicate i (-1 : Int) ++ List.replicate (gl.length - i) 0).set (i : Int).toNat (-1) = List.replicate (i + 1) (-1) ++ List.replicate (gl.length - (i + 1)) 0 := ground_Regions.set_rep HT.out
        rw [e, Int.toNat_natCast] at h
        exact h
      case measure =>
        rw [HW.out]
        have := HT.out
        simp only [intOf]
        omega
    · have tib : decide ((i : Int) < (gl.length : Int)) = false := decide_eq_false (by omega)
      obtain rfl : i = gl.length := by omega
      have HS2 : Aside0 (ground_Regions.St w ww2 gm gg go gv capv cg a0_0 a0_1 a0_2 A0_3 l0_3.length c0_3 Ag gl.length wr (List.replicate gl.length (-1))) := ⟨by have h := HS1.out; rw [Nat.sub_self, List.replicate_zero, List.append_nil] at h; exact h⟩
      have zg : wr.cell? ⟨gg, 0, none⟩ = some (.slice Ag gl.length cg) := (blk_cell HS2.out.g 0).trans rfl
      clear ti hi HS1
      go_wp2
      clear zg
      refine wp_loop_ghost_k (fun kq a' wr => ∃ (i : Nat) (o1 : List Int) (Ds : List Nat) (u9 u10 u11 u12 u13 u14 u15 u16 u17 u18 u19 u20 u21 u22 u23 u24 u25 u26 u27 u28 u29 u30 u31 u32 u33 u34 u35 u39 u40 u41 u42 u43 u44 u45 u46 u47 u48 u49 u50 u51 u52 u53 u54 u55 u56 u57 u58 u59 u60 u61 u62 u63 u64 u65 u66 u67 u68 u69 u70 u71 u72 u73 u74 u75 u76 u77 u78 u79 u80 u81 u82 u83 u84 u85 u86 u87 u88 u89 u90 u91 u92 u93 u94 u95 u96 u97 u98 u99 u100 : Value), (Aside0 (ground_Regions.l1 kq gl a0_0 i o1 = some out) ∧ Aside0 (i ≤ gl.length) ∧ Aside0 (ground_Regions.St w ww2 gm gg go gv capv cg a0_0 a0_1 a0_2 A0_3 l0_3.length c0_3 Ag gl.length wr o1) ∧ Aside0 (ground_Regions.Mk ww2.heap.size Ds wr)) ∧ a' = { tmps := #[.agg #[.int .i64 a0_0, .int .i64 a0_1, .int .i64 a0_2, .slice A0_3 l0_3.length c0_3], .int .i64 a1, .pointer (some ⟨gm, 0, none⟩), undef, .slice none 0 0, .int .i64 0, .pointer (some ⟨gg, 0, none⟩), .int .i64 0, .pointer (some ⟨go, 0, none⟩), u9, u10, u11, u12, u13, u14, u15, u16, u17, u18, u19, u20, u21, u22, u23, u24, u25, u26, u27, u28, u29, u30, u31, u32, u33, u34, u35, .slice Ag gl.length cg, .int .i64 (gl.length : Int), .int .i64 (i : Int), u39, u40, u41, u42, u43, u44, u45, u46, u47, u48, u49, u50, u51, u52, u53, u54, u55, u56, u57, u58, u59, u60, u61, u62, u63, u64, u65, u66, u67, u68, u69, u70, u71, u72, u73, u74, u75, u76, u77, u78, u79, u80, u81, u82, u83, u84, u85, u86, u87, u88, u89, u90, u91, u92, u93, u94, u95, u96, u97, u98, u99, u100], defers := ground_Regions.marks Ds }) k ?h0 ?round
      case h0 =>
        refine ⟨0, List.replicate gl.length (-1), [], ?_⟩
        repeat apply Exists.intro
        exact ⟨⟨⟨HO.out⟩, ⟨Nat.zero_le _⟩, HS2, ⟨List.nodup_nil, fun D hD => by cases hD⟩⟩, rfl⟩
      case round =>
        clear HS2 HO
        intro kq a' wr hI J K hJ hK
        obtain ⟨i, o1, Ds, hI⟩ := hI
        obtain ⟨u9, hI⟩ := hI
        obtain ⟨u10, hI⟩ := hI
        obtain ⟨u11, hI⟩ := hI
        obtain ⟨u12, hI⟩ := hI
        obtain ⟨u13, hI⟩ := hI
        obtain ⟨u14, hI⟩ := hI
        obtain ⟨u15, hI⟩ := hI
        obtain ⟨u16, hI⟩ := hI
        obtain ⟨u17, hI⟩ := hI
        obtain ⟨u18, hI⟩ := hI
        obtain ⟨u19, hI⟩ := hI
        obtain ⟨u20, hI⟩ := hI
        obtain ⟨u21, hI⟩ := hI
        obtain ⟨u22, hI⟩ := hI
        obtain ⟨u23, hI⟩ := hI
        obtain ⟨u24, hI⟩ := hI
        obtain ⟨u25, hI⟩ := hI
        obtain ⟨u26, hI⟩ := hI
        obtain ⟨u27, hI⟩ := hI
        obtain ⟨u28, hI⟩ := hI
        obtain ⟨u29, hI⟩ := hI
        obtain ⟨u30, hI⟩ := hI
        obtain ⟨u31, hI⟩ := hI
        obtain ⟨u32, hI⟩ := hI
        obtain ⟨u33, hI⟩ := hI
        obtain ⟨u34, hI⟩ := hI
        obtain ⟨u35, hI⟩ := hI
        obtain ⟨u39, hI⟩ := hI
        obtain ⟨u40, hI⟩ := hI
        obtain ⟨u41, hI⟩ := hI
        obtain ⟨u42, hI⟩ := hI
        obtain ⟨u43, hI⟩ := hI
        obtain ⟨u44, hI⟩ := hI
        obtain ⟨u45, hI⟩ := hI
        obtain ⟨u46, hI⟩ := hI
        obtain ⟨u47, hI⟩ := hI
        obtain ⟨u48, hI⟩ := hI
        obtain ⟨u49, hI⟩ := hI
        obtain ⟨u50, hI⟩ := hI
        obtain ⟨u51, hI⟩ := hI
        obtain ⟨u52, hI⟩ := hI
        obtain ⟨u53, hI⟩ := hI
        obtain ⟨u54, hI⟩ := hI
        obtain ⟨u55, hI⟩ := hI
        obtain ⟨u56, hI⟩ := hI
        obtain ⟨u57, hI⟩ := hI
        obtain ⟨u58, hI⟩ := hI
        obtain ⟨u59, hI⟩ := hI
        obtain ⟨u60, hI⟩ := hI
        obtain ⟨u61, hI⟩ := hI
        obtain ⟨u62, hI⟩ := hI
        obtain ⟨u63, hI⟩ := hI
        obtain ⟨u64, hI⟩ := hI
        obtain ⟨u65, hI⟩ := hI
        obtain ⟨u66, hI⟩ := hI
        obtain ⟨u67, hI⟩ := hI
        obtain ⟨u68, hI⟩ := hI
        obtain ⟨u69, hI⟩ := hI
        obtain ⟨u70, hI⟩ := hI
        obtain ⟨u71, hI⟩ := hI
        obtain ⟨u72, hI⟩ := hI
        obtain ⟨u73, hI⟩ := hI
        obtain ⟨u74, hI⟩ := hI
        obtain ⟨u75, hI⟩ := hI
        obtain ⟨u76, hI⟩ := hI
        obtain ⟨u77, hI⟩ := hI
        obtain ⟨u78, hI⟩ := hI
        obtain ⟨u79, hI⟩ := hI
        obtain ⟨u80, hI⟩ := hI
        obtain ⟨u81, hI⟩ := hI
        obtain ⟨u82, hI⟩ := hI
        obtain ⟨u83, hI⟩ := hI
        obtain ⟨u84, hI⟩ := hI
        obtain ⟨u85, hI⟩ := hI
        obtain ⟨u86, hI⟩ := hI
        obtain ⟨u87, hI⟩ := hI
        obtain ⟨u88, hI⟩ := hI
        obtain ⟨u89, hI⟩ := hI
        obtain ⟨u90, hI⟩ := hI
        obtain ⟨u91, hI⟩ := hI
        obtain ⟨u92, hI⟩ := hI
        obtain ⟨u93, hI⟩ := hI
        obtain ⟨u94, hI⟩ := hI
        obtain ⟨u95, hI⟩ := hI
        obtain ⟨u96, hI⟩ := hI
        obtain ⟨u97, hI⟩ := hI
        obtain ⟨u98, hI⟩ := hI
        obtain ⟨u99, hI⟩ := hI
        obtain ⟨u100, hI⟩ := hI
        obtain ⟨hI, ha⟩ := hI
        subst ha
        obtain ⟨H1, HI, HS2, HM⟩ := hI
        cases kq with
        | zero => exact absurd H1.out (by simp [ground_Regions.l1])
        | succ kq =>
          have h1 := H1.out
          simp only [ground_Regions.l1] at h1
          by_cases ti : (i : Int) < (gl.length : Int)
          · rw [if_pos ti] at h1
            have tib : decide ((i : Int) < (gl.length : Int)) = true := decide_eq_true ti
            have ti2 : i < gl.length := by omega
            have tib2 : decide (i < gl.length) = true := decide_eq_true ti2
            have H1 := Aside0.mk h1
            have HTI := Aside0.mk ti
            clear h1 ti
            obtain ⟨adg, eg, xg⟩ := Kd.at_bool (Kd.C_below HGR.out HS2.out.c) (i : Int) (by omega) (by omega)
            subst eg
            simp only [Int.toNat_natCast] at xg
            obtain ⟨b, hb⟩ : ∃ b, rdOf false gl (i : Int) = b := ⟨_, rfl⟩
            rw [hb] at xg
            have HBB := Aside0.mk hb
            clear hb
            go_upto_region 13 with fail
            clear xg
            obtain ⟨w1, hw1⟩ : ∃ w1, wr.alloc (.cells #[.int .i64 (i : Int)] 3) = w1 := ⟨_, rfl⟩
            have hbx : w1.heap[wr.heap.size]? = some (.cells #[.int .i64 (i : Int)] 3 (0, 0)) := by rw [← hw1]; exact blk_new _ _
            have hbl : Below wr.heap.size wr w1 := by rw [← hw1]; exact below_alloc (Below.refl _ _) _
            have HS3 := Aside0.mk (HS2.out.below hbl)
            have HM3 := Aside0.mk (HM.out.below hbl)
            rw [hw1]
            obtain ⟨gf, hgf⟩ : ∃ g, wr.heap.size = g := ⟨_, rfl⟩
            rw [hgf] at hbx ⊢
            have HF := Aside0.mk hbx
            have NF : Aside0 (gf ≠ gv ∧ gf ≠ go ∧ gf ≠ gg ∧ gf ≠ gm) := ⟨by
              have := Kd.R_lt HS2.out.v gv rfl
              have := blk_lt HS2.out.m
              have := blk_lt HS2.out.g
              have := blk_lt HS2.out.o
              omega⟩
            have GF : Aside0 (ww2.heap.size ≤ gf) := ⟨by have := HS2.out.c.size; omega⟩
            clear hw1 hgf hbl hbx HS2 HM
            have zo : w1.cell? ⟨go, 0, none⟩ = some (.slice (some ⟨gv, 0, none⟩) gl.length capv) := (blk_cell HS3.out.o 0).trans rfl
            have zf : w1.cell? ⟨gf, 0, none⟩ = some (.int .i64 (i : Int)) := (blk_cell HF.out 0).trans rfl
            have x0 := (Kd.R_celln 0 HS3.out.v (i : Int) (by omega) (by omega)).1
            have x1 := (Kd.R_celln 0 HS3.out.v (i : Int) (by omega) (by omega)).2
            simp only [Int.toNat_natCast] at x0 x1
            obtain ⟨c, hc⟩ : ∃ c, rdOf 0 o1 (i : Int) = c := ⟨_, rfl⟩
            rw [hc] at x0
            have HCC := Aside0.mk hc
            clear hc
            have hw : wrap64 ((i : Int) + 1) = ((i + 1 : Nat) : Int) := by have := HL.out; unfold wrap64; omega
            have HW := Aside0.mk hw
            clear hw
            by_cases hfl : b = true ∧ c < 0
            · obtain ⟨rfl, hc0⟩ := hfl
              have h1 := H1.out
              rw [if_pos ⟨HBB.out, by have e := HCC.out; unfold rdOf at e; rw [e]; exact hc0⟩] at h1
              have d0 : decide (0 ≤ c) = false := decide_eq_false (by omega)
              have H2 := Aside0.mk h1
              have HN0 := Aside0.mk hc0
              clear h1 H1 hc0
              have nf1 : gf ≠ gv := NF.out.1
              have nf2 : gv ≠ gf := fun h => nf1 h.symm
              go_upto_region 15 with fail
              clear x0 x1 zo zf
              obtain ⟨w2, hw2⟩ : ∃ x, w1.setCell ⟨gv, i, none⟩ (.int .i64 (i : Int)) = x := ⟨_, rfl⟩
              have hS4 := HS3.out.put Nm_v.out Ng_v.out No_v.out Gv.out HGV.out (i : Int) (i : Int)
              rw [Int.toNat_natCast, hw2] at hS4
              have hM4 : ground_Regions.Mk ww2.heap.size Ds w2 := by rw [← hw2]; exact HM3.out.set (Kd.R_typed HS3.out.v gv rfl)
              have hF4 : w2.heap[gf]? = some (.cells #[.int .i64 (i : Int)] 3 (0, 0)) := by rw [← hw2]; exact blk_far HF.out nf1 _
              rw [hw2]
              have HS4 := Aside0.mk hS4
              have HM4 := Aside0.mk hM4
              have HF4 := Aside0.mk hF4
              clear hw2 hS4 hM4 hF4 HS3 HM3 HF
              have zf : w2.cell? ⟨gf, 0, none⟩ = some (.int .i64 (i : Int)) := (blk_cell HF4.out 0).trans rfl
              go_upto_region 16 with fail
              clear zf
              obtain ⟨o3, hl0, hrest⟩ := Option.bind_eq_some_iff.1 H2.out
              have HL0 := Aside0.mk hl0
              have HRE := Aside0.mk hrest
              clear hl0 hrest H2
              obtain ⟨w3, hw3⟩ : ∃ x, (w2.alloc (.cells #[.int .i64 (i : Int)] 3)).alloc (.cells #[.slice (some ⟨w2.heap.size, 0, none⟩) 1 1] 37) = x := ⟨_, rfl⟩
              have hb3 : Below w2.heap.size w2 w3 := by rw [← hw3]; exact below_alloc (below_alloc (Below.refl _ _) _) _
              have hbw : w3.heap[w2.heap.size]? = some (.cells #[.int .i64 (i : Int)] 3 (0, 0)) := by rw [← hw3]; exact blk_alloc (blk_new _ _) _
              have hbt : w3.heap[w2.heap.size + 1]? = some (.cells #[.slice (some ⟨w2.heap.size, 0, none⟩) 1 1] 37 (0, 0)) := by
                have h := blk_new (w2.alloc (.cells #[.int .i64 (i : Int)] 3)) (.cells #[.slice (some ⟨w2.heap.size, 0, none⟩) 1 1] 37)
                rw [World.size_alloc, hw3] at h
                exact h
              rw [hw3]
              have hsz := HS4.out.c.size
              have hlt := Kd.R_lt HS4.out.v gv rfl
              have hlf := blk_lt HF4.out
              have hlo := blk_lt HS4.out.o
              have hrow : Kd.R (Kd.int .i64) 3 w3 ww2.heap.size (fun k => k = w2.heap.size) (.slice (some ⟨w2.heap.size, 0, none⟩) [(i : Int)].length 1) [(i : Int)] :=
                Kd.R_of_own ⟨rfl, .inr ⟨w2.heap.size, 1, #[.int .i64 (i : Int)], rfl, hsz, hbw, Nat.le_refl _, by decide, rfl, rfl⟩⟩ (fun k hk => by simpa [Value.ownBlock] using hk.symm)
              have HWT : Aside0 (ground_Regions.Wt ww2.heap.size go gv gf (w2.heap.size + 1) w2.heap.size 1 (i : Int) w3 [(i : Int)]) := ⟨blk_below HF4.out hb3, hbt, hrow, by omega, by omega, by omega, nf1, by omega, GF.out⟩
              have HS5 := Aside0.mk (HS4.out.below hb3)
              have HM5 := Aside0.mk (HM4.out.below hb3)
              clear hrow hsz hlt hlf hlo hbt hbw hb3 hw3 HS4 HM4 HF4
              obtain ⟨gw, hgw⟩ : ∃ g, w2.heap.size = g := ⟨_, rfl⟩
              rw [hgw] at HWT ⊢
              obtain ⟨gt, hgt⟩ : ∃ g, gw + 1 = g := ⟨_, rfl⟩
              rw [hgt] at HWT ⊢
              clear hgw hgt
              refine wp_loop_ghost_k (fun kr a' wr => ∃ (gt gw capw : Nat) (wait o2 : List Int) (Ds : List Nat) (u9 u11 u13 u14 u15 u16 u17 u18 u19 u20 u21 u22 u23 u24 u25 u26 u27 u28 u29 u30 u31 u32 u33 u34 u35 u39 u40 u41 u42 u43 u44 u45 u46 u47 u48 u49 u50 u51 u52 u53 u54 u55 u56 u57 u58 u59 u60 u61 u62 u63 u64 u65 u66 u67 u68 u69 u70 u71 u72 u73 u74 u75 u76 u77 u78 u79 u80 u81 u82 u83 u84 u85 u86 u87 u88 u89 u90 u91 u92 u93 u94 u95 u96 u97 u98 u99 u100 : Value), (Aside0 (ground_Regions.l0 kr gl a0_0 i o2 wait = some o3) ∧ Aside0 (ground_Regions.St w ww2 gm gg go gv capv cg a0_0 a0_1 a0_2 A0_3 l0_3.length c0_3 (some adg) gl.length wr o2) ∧ Aside0 (ground_Regions.Wt ww2.heap.size go gv gf gt gw capw (i : Int) wr wait) ∧ Aside0 (ground_Regions.Mk ww2.heap.size Ds wr)) ∧ a' = { tmps := #[.agg #[.int .i64 a0_0, .int .i64 a0_1, .int .i64 a0_2, .slice A0_3 l0_3.length c0_3], .int .i64 a1, .pointer (some ⟨gm, 0, none⟩), undef, .slice none 0 0, .int .i64 0, .pointer (some ⟨gg, 0, none⟩), .int .i64 0, .pointer (some ⟨go, 0, none⟩), u9, .pointer (some ⟨gf, 0, none⟩), u11, .pointer (some ⟨gt, 0, none⟩), u13, u14, u15, u16, u17, u18, u19, u20, u21, u22, u23, u24, u25, u26, u27, u28, u29, u30, u31, u32, u33, u34, u35, .slice (some adg) gl.length cg, .int .i64 (gl.length : Int), .int .i64 (i : Int), u39, u40, u41, u42, u43, u44, u45, u46, u47, u48, u49, u50, u51, u52, u53, u54, u55, u56, u57, u58, u59, u60, u61, u62, u63, u64, u65, u66, u67, u68, u69, u70, u71, u72, u73, u74, u75, u76, u77, u78, u79, u80, u81, u82, u83, u84, u85, u86, u87, u88, u89, u90, u91, u92, u93, u94, u95, u96, u97, u98, u99, u100], defers := ground_Regions.marks Ds }) kq ?h0 ?round
              case h0 =>
                refine ⟨gt, gw, 1, [(i : Int)], o1.set (i : Int).toNat (i : Int), Ds, ?_⟩
                repeat apply Exists.intro
                exact ⟨⟨HL0, by rw [Int.toNat_natCast]; exact HS5, HWT, HM5⟩, rfl⟩
              case round =>
                clear HS5 HWT HM5 HL0 gt gw
                intro kr a' wr hI J2 K2 hJ2 hK2
                obtain ⟨gt, gw, capw, wait, o2, Ds, hI⟩ := hI
                obtain ⟨u9, hI⟩ := hI
                obtain ⟨u11, hI⟩ := hI
                obtain ⟨u13, hI⟩ := hI
                obtain ⟨u14, hI⟩ := hI
                obtain ⟨u15, hI⟩ := hI
                obtain ⟨u16, hI⟩ := hI
                obtain ⟨u17, hI⟩ := hI
                obtain ⟨u18, hI⟩ := hI
                obtain ⟨u19, hI⟩ := hI
                obtain ⟨u20, hI⟩ := hI
                obtain ⟨u21, hI⟩ := hI
                obtain ⟨u22, hI⟩ := hI
                obtain ⟨u23, hI⟩ := hI
                obtain ⟨u24, hI⟩ := hI
                obtain ⟨u25, hI⟩ := hI
                obtain ⟨u26, hI⟩ := hI
                obtain ⟨u27, hI⟩ := hI
                obtain ⟨u28, hI⟩ := hI
                obtain ⟨u29, hI⟩ := hI
                obtain ⟨u30, hI⟩ := hI
                obtain ⟨u31, hI⟩ := hI
                obtain ⟨u32, hI⟩ := hI
                obtain ⟨u33, hI⟩ := hI
                obtain ⟨u34, hI⟩ := hI
                obtain ⟨u35, hI⟩ := hI
                obtain ⟨u39, hI⟩ := hI
                obtain ⟨u40, hI⟩ := hI
                obtain ⟨u41, hI⟩ := hI
                obtain ⟨u42, hI⟩ := hI
                obtain ⟨u43, hI⟩ := hI
                obtain ⟨u44, hI⟩ := hI
                obtain ⟨u45, hI⟩ := hI
                obtain ⟨u46, hI⟩ := hI
                obtain ⟨u47, hI⟩ := hI
                obtain ⟨u48, hI⟩ := hI
                obtain ⟨u49, hI⟩ := hI
                obtain ⟨u50, hI⟩ := hI
                obtain ⟨u51, hI⟩ := hI
                obtain ⟨u52, hI⟩ := hI
                obtain ⟨u53, hI⟩ := hI
                obtain ⟨u54, hI⟩ := hI
                obtain ⟨u55, hI⟩ := hI
                obtain ⟨u56, hI⟩ := hI
                obtain ⟨u57, hI⟩ := hI
                obtain ⟨u58, hI⟩ := hI
                obtain ⟨u59, hI⟩ := hI
                obtain ⟨u60, hI⟩ := hI
                obtain ⟨u61, hI⟩ := hI
                obtain ⟨u62, hI⟩ := hI
                obtain ⟨u63, hI⟩ := hI
                obtain ⟨u64, hI⟩ := hI
                obtain ⟨u65, hI⟩ := hI
                obtain ⟨u66, hI⟩ := hI
                obtain ⟨u67, hI⟩ := hI
                obtain ⟨u68, hI⟩ := hI
                obtain ⟨u69, hI⟩ := hI
                obtain ⟨u70, hI⟩ := hI
                obtain ⟨u71, hI⟩ := hI
                obtain ⟨u72, hI⟩ := hI
                obtain ⟨u73, hI⟩ := hI
                obtain ⟨u74, hI⟩ := hI
                obtain ⟨u75, hI⟩ := hI
                obtain ⟨u76, hI⟩ := hI
                obtain ⟨u77, hI⟩ := hI
                obtain ⟨u78, hI⟩ := hI
                obtain ⟨u79, hI⟩ := hI
                obtain ⟨u80, hI⟩ := hI
                obtain ⟨u81, hI⟩ := hI
                obtain ⟨u82, hI⟩ := hI
                obtain ⟨u83, hI⟩ := hI
                obtain ⟨u84, hI⟩ := hI
                obtain ⟨u85, hI⟩ := hI
                obtain ⟨u86, hI⟩ := hI
                obtain ⟨u87, hI⟩ := hI
                obtain ⟨u88, hI⟩ := hI
                obtain ⟨u89, hI⟩ := hI
                obtain ⟨u90, hI⟩ := hI
                obtain ⟨u91, hI⟩ := hI
                obtain ⟨u92, hI⟩ := hI
                obtain ⟨u93, hI⟩ := hI
                obtain ⟨u94, hI⟩ := hI
                obtain ⟨u95, hI⟩ := hI
                obtain ⟨u96, hI⟩ := hI
                obtain ⟨u97, hI⟩ := hI
                obtain ⟨u98, hI⟩ := hI
                obtain ⟨u99, hI⟩ := hI
                obtain ⟨u100, hI⟩ := hI
                obtain ⟨hI, ha⟩ := hI
                subst ha
                obtain ⟨H1, HS6, HWT, HM6⟩ := hI
                cases kr with
                | zero => exact absurd H1.out (by simp [ground_Regions.l0])
                | succ kr =>
                  have h1 := H1.out
                  simp only [ground_Regions.l0] at h1
                  have zt : wr.cell? ⟨gt, 0, none⟩ = some (.slice (some ⟨gw, 0, none⟩) wait.length capw) := (blk_cell HWT.out.t 0).trans rfl
                  by_cases he : wait = []
                  · rw [if_pos he] at h1
                    obtain rfl := Option.some.inj h1
                    have tl : decide (0 < (wait.length : Int)) = false := decide_eq_false (by rw [he]; decide)
                    have tl2 : decide (0 < wait.length) = false := decide_eq_false (by rw [he]; decide)
                    clear h1 he H1
                    go_wp2
                    rw [HW.out]
                    refine Handed.intro kq (by omega) (hJ _ _ _ ⟨i + 1, o2, Ds, ?_⟩)
                    repeat apply Exists.intro
                    exact ⟨⟨⟨HRE.out⟩, ⟨ti2⟩, HS6, HM6⟩, rfl⟩
                  · rw [if_neg he] at h1
                    by_cases hg0 : 0 ≤ wait.getLastD 0 ∧ wait.getLastD 0 < (gl.length : Int) ∧ wait.length ≤ 4096 ∧ o2.length = gl.length
                    case neg => rw [if_neg hg0] at h1; exact absurd h1 (by simp)
                    rw [if_pos hg0] at h1
                    have hlp : 0 < wait.length := List.length_pos_iff.2 he
                    obtain ⟨c0, hc0⟩ : ∃ c, wait.getLastD 0 = c := ⟨_, rfl⟩
                    rw [hc0] at hg0 h1
                    have H2 := Aside0.mk h1
                    have HG0 := Aside0.mk hg0
                    obtain ⟨j, hj⟩ : ∃ j : Int, (wait.length : Int) - 1 = j := ⟨_, rfl⟩
                    have hjl : rdOf 0 wait j = c0 := by
                      rw [← hc0, List.getLastD_eq_getLast?, List.getLast?_eq_getElem?]
                      unfold rdOf
                      rw [List.getD_eq_getElem?_getD, show j.toNat = wait.length - 1 by omega]
                    have x0 := (Kd.R_celln 0 HWT.out.r j (by omega) (by omega)).1
                    have x1 := (Kd.R_celln 0 HWT.out.r j (by omega) (by omega)).2
                    rw [hjl] at x0
                    have hcap : wait.length ≤ capw := (Kd.R_reads' HWT.out.r).2.1
                    obtain ⟨i03, hi03, _⟩ := info_parts ground_Regions.info
                    have hcut := cut_to (P := Try.prog) 37 3 .i64 Try.underlying37 hi03 (some ⟨gw, 0, none⟩) wait.length capw j (by omega) (by omega) hcap
                    have hwj : wrap64 ((wait.length : Int) - 1) = j := by have := hg0.2.2.1; unfold wrap64; omega
                    have tl : decide (0 < (wait.length : Int)) = true := decide_eq_true (by omega)
                    have tl2 : decide (0 < wait.length) = true := decide_eq_true hlp
                    have hrt := Kd.R_take (m := j.toNat) HWT.out.r (by omega)
                    rw [show wait.take j.toNat = wait.dropLast by rw [List.dropLast_eq_take, show j.toNat = wait.length - 1 by omega]] at hrt
                    have hdl : j.toNat = wait.dropLast.length := by rw [List.length_dropLast]; omega
                    have HRT := Aside0.mk hrt
                    have HDL := Aside0.mk hdl
                    have hj0 : 0 ≤ j := by omega
                    have hj1 : j < (wait.length : Int) := by omega
                    clear hg0 h1 H1 he hjl hrt hdl hc0 hj hcap hi03
                    have zt2 : wr.frozen? ⟨gt, 0, none⟩ = false := blk_frozen HWT.out.t 0
                    go_upto_region 19 with fail
                    clear zt zt2 x0 x1 hcut hwj tl tl2 hj0 hj1
                    rw [HDL.out]
                    obtain ⟨wd, hwd⟩ : ∃ x, wait.dropLast = x := ⟨_, rfl⟩
                    have h2 := H2.out
                    have hrt := HRT.out
                    rw [HDL.out] at hrt
                    rw [hwd] at h2 hrt ⊢
                    have hwl : wd.length ≤ 4096 := by rw [← hwd, List.length_dropLast]; have := HG0.out.2.2.1; omega
                    have h01 := HG0.out.1
                    have h02 := HG0.out.2.1
                    have hol := HG0.out.2.2.2
                    clear HG0 HRT H2 HDL hwd hlp
                    obtain ⟨w4, hw4⟩ : ∃ x, wr.setCell ⟨gt, 0, none⟩ (.slice (some ⟨gw, 0, none⟩) wd.length capw) = x := ⟨_, rfl⟩
                    have hS7 := HS6.out.far (g := gt) HWT.out.t HWT.out.no HWT.out.bt HWW.out (.slice (some ⟨gw, 0, none⟩) wd.length capw) 0
                    have hW7 := HWT.out.put hrt HWT.out.wv HWT.out.wf
                    have hM7 := HM6.out.set (g := gt) (j := 0) (u := .slice (some ⟨gw, 0, none⟩) wd.length capw) ⟨_, HWT.out.t⟩
                    rw [hw4] at hS7 hW7 hM7 ⊢
                    have zm : w4.cell? ⟨gm, 0, none⟩ = some (.int .i64 a0_0) := (blk_cell hS7.m 0).trans rfl
                    have zg : w4.cell? ⟨gg, 0, none⟩ = some (.slice (some adg) gl.length cg) := (blk_cell hS7.g 0).trans rfl
                    clear HS6 HWT HM6 hw4 hrt
                    have HS7 := Aside0.mk hS7
                    have HW7 := Aside0.mk hW7
                    have HM7 := Aside0.mk hM7
                    have H3 := Aside0.mk h2
                    have HC := Aside0.mk (show 0 ≤ c0 ∧ c0 < (gl.length : Int) from ⟨h01, h02⟩)
                    have HOL := Aside0.mk hol
                    have HWL := Aside0.mk hwl
                    clear hS7 hW7 hM7 h2 h01 h02 hol hwl
                    go_wp2_with fail
                    clear zm zg
                    refine (ground_Regions.nbcall c0 a0_0 (gl.length : Int) w4).mono ?_
                    rintro e w5 ⟨rfl, hw5⟩
                    have hb5 : Below w4.heap.size w4 w5 := by rw [hw5]; exact below_alloc (below_alloc (below_alloc (Below.refl _ _) _) _) _
                    have hk5 : w5.heap[w4.heap.size]? = some (.cells #[.int .i64 c0] 3 (0, 0)) := by rw [hw5]; exact blk_alloc (blk_alloc (blk_new _ _) _) _
                    have hx5 : w5.heap[w4.heap.size + 1]? = some (.cells #[.int .i64 a0_0] 3 (0, 0)) := by
                      have h := blk_new (w4.alloc (.cells #[.int .i64 c0] 3)) (.cells #[.int .i64 a0_0] 3)
                      rw [World.size_alloc] at h
                      rw [hw5]
                      exact blk_alloc h _
                    have hn5 : w5.heap[w4.heap.size + 1 + 1]? = some (.cells #[.int .i64 (gl.length : Int)] 3 (0, 0)) := by
                      have h := blk_new ((w4.alloc (.cells #[.int .i64 c0] 3)).alloc (.cells #[.int .i64 a0_0] 3)) (.cells #[.int .i64 (gl.length : Int)] 3)
                      rw [World.size_alloc, World.size_alloc] at h
                      rw [hw5]
                      exact h
                    have HB5 := Aside0.mk hb5
                    have HK5 := Aside0.mk hk5
                    have HX5 := Aside0.mk hx5
                    have HN5 := Aside0.mk hn5
                    clear hw5 hb5 hk5 hx5 hn5
                    dsimp only
                    go_wp2
                    have hlv := Kd.R_lt HS7.out.v gv rfl
                    have hlf := blk_lt HW7.out.f
                    have hlt := blk_lt HW7.out.t
                    have hlw := Kd.R_lt HW7.out.r gw rfl
                    have hln := blk_lt HN5.out
                    have hlo := blk_lt HS7.out.o
                    have hls := HS7.out.c.size
                    refine ground_Regions.range (n := (gl.length : Int)) (k := c0) (wd := a0_0) (b := w4.heap.size) rfl
                      (ground_Regions.stops 11 (by omega) _ _ _ c0 a0_0 (gl.length : Int) w5 HK5.out HX5.out HN5.out HC.out.1 HC.out.2 HS.out.1 HS.out.2.1 (by have := HS.out.2.2.2.1; omega)
                        (fun x hx => by have hwH := HS.out.2.2.2.2; have hc1 := HC.out.2; rw [hwH] at hx hc1 ⊢; exact ground_Regions.nbs_in (by have := HS.out.1; omega) HC.out.1 hc1 hx)) hln
                      (fun pre W => ∃ (gw' capw' : Nat) (wait' o' : List Int), (pre.map Subtype.val).foldl (ground_Regions.push gl (i : Int)) (o2, wd) = (o', wait') ∧ wait'.length ≤ wd.length + pre.length ∧ (gw' < w4.heap.size ∨ w5.heap.size ≤ gw') ∧ w5.heap.size ≤ W.heap.size ∧
                        ground_Regions.St w ww2 gm gg go gv capv cg a0_0 a0_1 a0_2 A0_3 l0_3.length c0_3 (some adg) gl.length W o' ∧ ground_Regions.Wt ww2.heap.size go gv gf gt gw' capw' (i : Int) W wait' ∧ ground_Regions.Mk ww2.heap.size Ds W) ?own ?h0 ?assign ?body ?done
                    case own =>
                      rintro s A B row ⟨gw', capw', wait', o', h1, h2, h3, h4, h5, h6, h7⟩ hg hr
                      exact ⟨gw', capw', wait', o', h1, h2, h3, Nat.le_trans h4 hg.size, h5.own hg hr (by have := HS7.out.b.size; have := HB5.out.size; omega) (by have := HB5.out.size; omega), h6.own hg (fun r e => (hr r e).2),
                        h7.own (fun d hd => by have := HM7.out.lt d hd; have := HB5.out.size; omega) hg (fun r e => (hr r e).1)⟩
                    case h0 => exact ⟨gw, capw, wd, o2, rfl, Nat.le_add_right _ _, .inl hlw, Nat.le_refl _, HS7.out.below HB5.out, HW7.out.below HB5.out, HM7.out.below HB5.out⟩
                    case assign =>
                      intro l x W K hK
                      gi_wp2
                      exact hK
                    case body =>
                      rintro l pre ⟨x, hx0, hx1⟩ W ⟨gw', capw', wait', o', h1, h2, h3, h4, h5, h6, h7⟩ hlp
                      have HS8 := Aside0.mk h5
                      have HW8 := Aside0.mk h6
                      have HM8 := Aside0.mk h7
                      have HF8 := Aside0.mk h1
                      have HN8 := Aside0.mk (And.intro h2 (And.intro h3 (And.intro h4 hlp)))
                      have HL8 : Aside0 (gv < w4.heap.size ∧ gf < w4.heap.size ∧ gt < w4.heap.size ∧ w4.heap.size + 1 + 1 < w5.heap.size) := ⟨hlv, hlf, hlt, hln⟩
                      clear h1 h2 h3 h4 h5 h6 h7 hlp hlv hlf hlt hlw hln hlo hls
                      have zg : W.cell? ⟨gg, 0, none⟩ = some (.slice (some adg) gl.length cg) := (blk_cell HS8.out.g 0).trans rfl
                      have zo : W.cell? ⟨go, 0, none⟩ = some (.slice (some ⟨gv, 0, none⟩) gl.length capv) := (blk_cell HS8.out.o 0).trans rfl
                      obtain ⟨ad2, eg, xg⟩ := Kd.at_bool (Kd.C_below HGR.out HS8.out.c) x hx0 hx1
                      obtain rfl := Option.some.inj eg
                      clear eg
                      have x0 := (Kd.R_celln 0 HS8.out.v x hx0 hx1).1
                      have x1 := (Kd.R_celln 0 HS8.out.v x hx0 hx1).2
                      obtain ⟨b, hb⟩ : ∃ b, rdOf false gl x = b := ⟨_, rfl⟩
                      obtain ⟨c, hc⟩ : ∃ c, rdOf 0 o' x = c := ⟨_, rfl⟩
                      rw [hb] at xg
                      rw [hc] at x0
                      have HBC := Aside0.mk (And.intro hb hc)
                      clear hb hc
                      by_cases hfl : b = true ∧ c < 0
                      · obtain ⟨rfl, hc0⟩ := hfl
                        have d0 : decide (c < 0) = true := decide_eq_true hc0
                        have zf : W.cell? ⟨gf, 0, none⟩ = some (.int .i64 (i : Int)) := (blk_cell HW8.out.f 0).trans rfl
                        have HC0 := Aside0.mk hc0
                        clear hc0
                        have nt : gt ≠ gv := blk_ne HW8.out.t (Kd.R_typed HS8.out.v gv rfl).choose_spec (by decide)
                        have nt2 : gv ≠ gt := fun e => nt e.symm
                        have zt : W.cell? ⟨gt, 0, none⟩ = some (.slice (some ⟨gw', 0, none⟩) wait'.length capw') := (blk_cell HW8.out.t 0).trans rfl
                        have zt2 : W.frozen? ⟨gt, 0, none⟩ = false := blk_frozen HW8.out.t 0
                        have hA := HW8.out.far (Kd.R_typed HS8.out.v gv rfl) x.toNat (.int .i64 (i : Int))
                        have HA := Aside0.mk hA
                        clear hA
                        obtain ⟨i0, hi0, hz0, hz1, hz2⟩ := info_parts ground_Regions.info
                        have hbs : ww2.heap.size ≤ ((W.setCell ⟨gv, x.toNat, none⟩ (.int .i64 (i : Int))).alloc (.cells #[.int .i64 x] 3)).heap.size := by
                          have := HS8.out.c.size
                          simp
                          omega
                        have hll : wait'.length + 1 ≤ 5000 := by have := HN8.out.1; have := HN8.out.2.2.2; have := HWL.out; omega
                        have HLL := Aside0.mk hll
                        have HBS := Aside0.mk hbs
                        clear hll hbs
                        gi_wp2_with (gi_at_builtin; refine ground_Regions.halt ?_)
                        unfold ground_Regions.Halt
                        have hnew := cell_one_new (W.setCell ⟨gv, x.toNat, none⟩ (.int .i64 (i : Int))) (.int .i64 x) 3
                        rw [show (W.setCell ⟨gv, x.toNat, none⟩ (.int .i64 (i : Int))).heap.size = W.heap.size by simp] at hnew
                        refine ground_Regions.wpIn_append_at _ rfl _ _ 37 rfl ww2.heap.size 3 i0 (.int .i64 0) 1 8 Try.underlying37 hi0 hz0 hz1 hz2 rfl (by decide) (.slice (some ⟨gw', 0, none⟩) wait'.length capw') wait'.length _ rfl ((Kd.own_of_R HA.out.r).alloc _) ⟨W.heap.size, 0, none⟩ 1 1 [.int .i64 x] rfl rfl hnew (by simp [Value.oneCell']) (by unfold maxLen; have := HLL.out; omega) (by have := HLL.out; omega) HBS.out ?_
                        intro v' W3 r1 r2 r3
                        obtain ⟨g3, cap3, rfl⟩ := ownsRow_succ r1
                        have hr3 : Kd.R (Kd.int .i64) 3 W3 ww2.heap.size (fun k => k = g3) (.slice (some ⟨g3, 0, none⟩) (wait' ++ [x]).length cap3) (wait' ++ [x]) :=
                          Kd.R_of_own (by rw [List.length_append]; simpa [encs] using r1) (fun k hk => (by simpa [Value.ownBlock] using hk.symm))
                        have hg3 : g3 = gw' ∨ g3 = ((W.setCell ⟨gv, x.toNat, none⟩ (.int .i64 (i : Int))).alloc (.cells #[.int .i64 x] 3)).heap.size := by
                          rcases r3 with h | h
                          · exact .inl (Option.some.inj h)
                          · exact .inr (Option.some.inj h)
                        have hgr : ((W.setCell ⟨gv, x.toNat, none⟩ (.int .i64 (i : Int))).alloc (.cells #[.int .i64 x] 3)).grownBy W3 (some gw') := r2
                        have R3 := Aside0.mk hr3
                        have G3 := Aside0.mk hg3
                        have GR := Aside0.mk hgr
                        clear r1 r2 r3 hr3 hg3 hgr
                        have hsz : W.heap.size < ((W.setCell ⟨gv, x.toNat, none⟩ (.int .i64 (i : Int))).alloc (.cells #[.int .i64 x] 3)).heap.size := by simp
                        have hlv := Kd.R_lt HS8.out.v gv rfl
                        have hlf := blk_lt HW8.out.f
                        have hlt := blk_lt HW8.out.t
                        have hlw := Kd.R_lt HW8.out.r gw' rfl
                        have hS9 := (HS8.out.put Nm_v.out Ng_v.out No_v.out Gv.out HGV.out x (i : Int)).below (below_alloc (Below.refl _ _) (.cells #[.int .i64 x] 3))
                        have hW9 := HA.out.below (below_alloc (Below.refl _ _) (.cells #[.int .i64 x] 3))
                        have hM9 := (HM8.out.set (g := gv) (j := x.toNat) (u := .int .i64 (i : Int)) (Kd.R_typed HS8.out.v gv rfl)).below (below_alloc (Below.refl _ _) (.cells #[.int .i64 x] 3))
                        have hty := Kd.R_typed hW9.r gw' rfl
                        have hgb : ww2.heap.size ≤ gw' := ((Kd.R_bound HW8.out.r).1 gw' rfl).2.1
                        have hS10 := hS9.grown GR.out hty HW8.out.wv hgb HWW.out
                        have hM10 := hM9.grown GR.out hty
                        have hf10 := blk_grown hW9.f GR.out (fun e => HW8.out.wf (Option.some.inj e).symm)
                        have ht10 := blk_grown hW9.t GR.out (fun e => by
                          obtain ⟨cells, hc⟩ := hty
                          exact blk_ne hW9.t hc (by decide) (Option.some.inj e))
                        have hnm : (gw' < w4.heap.size ∨ w5.heap.size ≤ gw') := HN8.out.2.1
                        have hws : w5.heap.size ≤ W.heap.size := HN8.out.2.2.1
                        have hl8 := HL8.out
                        have h3n : g3 < w4.heap.size ∨ w5.heap.size ≤ g3 := by
                          rcases G3.out with h | h
                          · rw [h]; exact hnm
                          · right; omega
                        have h3v : g3 ≠ gv := by
                          rcases G3.out with h | h
                          · rw [h]; exact HW8.out.wv
                          · omega
                        have h3f : g3 ≠ gf := by
                          rcases G3.out with h | h
                          · rw [h]; exact HW8.out.wf
                          · omega
                        have hW10 : ground_Regions.Wt ww2.heap.size go gv gf gt gw' capw' (i : Int) W3 wait' → True := fun _ => trivial
                        have hS11 := hS10.far (g := gt) ht10 HW8.out.no HW8.out.bt HWW.out (.slice (some ⟨g3, 0, none⟩) (wait' ++ [x]).length cap3) 0
                        have nf : gf ≠ gt := blk_ne hf10 ht10 (by decide)
                        have nw : g3 ≠ gt := by
                          obtain ⟨cells, hc⟩ := Kd.R_typed R3.out g3 rfl
                          exact blk_ne hc ht10 (by decide)
                        have hW11 : ground_Regions.Wt ww2.heap.size go gv gf gt g3 cap3 (i : Int) (W3.setCell ⟨gt, 0, none⟩ (.slice (some ⟨g3, 0, none⟩) (wait' ++ [x]).length cap3)) (wait' ++ [x]) :=
                          ⟨blk_far hf10 nf _, blk_set ht10 0 _, Kd.R_far R3.out (fun k hk => by rw [hk]; exact nw) _, HW8.out.no, h3v, h3f, HW8.out.fv, HW8.out.bt, HW8.out.bf⟩
                        have hM11 := hM10.set (g := gt) (j := 0) (u := .slice (some ⟨g3, 0, none⟩) (wait' ++ [x]).length cap3) ⟨_, ht10⟩
                        have hkp : ground_Regions.Kp w4.heap.size (w4.heap.size + 1) (w4.heap.size + 1 + 1) W (W3.setCell ⟨gt, 0, none⟩ (.slice (some ⟨g3, 0, none⟩) (wait' ++ [x]).length cap3)) := by
                          have q1 : w4.heap.size ≠ gv ∧ w4.heap.size + 1 ≠ gv ∧ w4.heap.size + 1 + 1 ≠ gv ∧ w4.heap.size ≠ gt ∧ w4.heap.size + 1 ≠ gt ∧ w4.heap.size + 1 + 1 ≠ gt := by clear hS10 hM10; omega
                          have q2 : gw' ≠ w4.heap.size ∧ gw' ≠ w4.heap.size + 1 ∧ gw' ≠ w4.heap.size + 1 + 1 := by clear hS10 hM10; omega
                          have q3 : w4.heap.size + 1 + 1 < W.heap.size := by clear hS10 hM10; omega
                          exact ground_Regions.kp4 GR.out q1 q2 q3 _
                        have hkf : KeepsFrom w5.heap.size W (W3.setCell ⟨gt, 0, none⟩ (.slice (some ⟨g3, 0, none⟩) (wait' ++ [x]).length cap3)) := by
                          obtain ⟨cells, hc⟩ := hty
                          exact ground_Regions.keep4 GR.out hc (by clear hS10 hM10; omega) (by clear hS10 hM10; omega) _
                        have hws11 : w5.heap.size ≤ (W3.setCell ⟨gt, 0, none⟩ (.slice (some ⟨g3, 0, none⟩) (wait' ++ [x]).length cap3)).heap.size := by
                          have := hkf.size
                          omega
                        have hp : ground_Regions.push gl (i : Int) (o', wait') x = (o'.set x.toNat (i : Int), wait' ++ [x]) := by
                          unfold ground_Regions.push
                          refine if_pos ⟨HBC.out.1, ?_⟩
                          have e := HBC.out.2
                          unfold rdOf at e
                          rw [e]
                          exact HC0.out
                        have zt3 : W3.cell? ⟨gt, 0, none⟩ = some (.slice (some ⟨gw', 0, none⟩) wait'.length capw') := (blk_cell ht10 0).trans rfl
                        have zt4 : W3.frozen? ⟨gt, 0, none⟩ = false := blk_frozen ht10 0
                        have HS11 := Aside0.mk hS11
                        have HW11 := Aside0.mk hW11
                        have HM11 := Aside0.mk hM11
                        have HKP := Aside0.mk hkp
                        have HKF := Aside0.mk hkf
                        have HWS := Aside0.mk hws11
                        have HPP := Aside0.mk hp
                        have H3N := Aside0.mk h3n
                        have hll : (wait' ++ [x]).length = wait'.length + 1 := by simp
                        have HLN := Aside0.mk hll
                        clear hW10 hS9 hW9 hM9 hty hgb hS10 hM10 hf10 ht10 hnm hws hl8 h3n h3v h3f hS11 nf nw hW11 hM11 hkp hkf hws11 hp hsz hlv hlf hlt hlw hll
                        clear zf zt zt2 zg zo x0 x1 xg d0 nt nt2 hi0 hz0 hz1 hz2
                        gi_wp2
                        rw [← HLN.out]
                        exact ⟨HKF.out, HKP.out, g3, cap3, wait' ++ [x], o'.set x.toNat (i : Int), by rw [List.map_append, List.foldl_append, HF8.out]; exact HPP.out, by rw [List.length_append, List.length_append]; have := HN8.out.1; simp only [List.length_cons, List.length_nil]; omega, H3N.out, HWS.out, HS11.out, HW11.out, HM11.out⟩
                      · have hp : ground_Regions.push gl (i : Int) (o', wait') x = (o', wait') := by
                          unfold ground_Regions.push
                          exact if_neg (fun h => hfl ⟨HBC.out.1.symm.trans h.1, by have e := HBC.out.2; unfold rdOf at e; rw [← e]; exact h.2⟩)
                        have HP := Aside0.mk hp
                        clear hp
                        cases b
                        · clear hfl
                          gi_wp2
                          exact ⟨KeepsFrom.refl _ _, ⟨rfl, rfl, rfl⟩, gw', capw', wait', o', by rw [List.map_append, List.foldl_append, HF8.out]; exact HP.out, by rw [List.length_append]; have := HN8.out.1; omega, HN8.out.2.1, HN8.out.2.2.1, HS8.out, HW8.out, HM8.out⟩
                        · have d0 : decide (c < 0) = false := decide_eq_false (fun h => hfl ⟨rfl, h⟩)
                          clear hfl
                          gi_wp2
                          exact ⟨KeepsFrom.refl _ _, ⟨rfl, rfl, rfl⟩, gw', capw', wait', o', by rw [List.map_append, List.foldl_append, HF8.out]; exact HP.out, by rw [List.length_append]; have := HN8.out.1; omega, HN8.out.2.1, HN8.out.2.2.1, HS8.out, HW8.out, HM8.out⟩
                    case done =>
                      rintro D xs W hD hxs ⟨gw', capw', wait', o', h1, h2, h3, h4, h5, h6, h7⟩ hK
                      have h8 := H3.out
                      rw [← hxs, h1] at h8
                      have H4 := Aside0.mk h8
                      have HS8 := Aside0.mk h5
                      have HW8 := Aside0.mk h6
                      have hM8 : ground_Regions.Mk ww2.heap.size (D :: Ds) W := h7.cons (fun d hd => by have := HM7.out.lt d hd; have := HB5.out.size; omega) (by have := HB5.out.size; omega) hK
                      have HM8 := Aside0.mk hM8
                      have zt : W.cell? ⟨gt, 0, none⟩ = some (.slice (some ⟨gw', 0, none⟩) wait'.length capw') := (blk_cell HW8.out.t 0).trans rfl
                      clear h1 h2 h3 h4 h5 h6 h7 h8 hM8 hK hlv hlf hlt hlw hln hlo hls hxs
                      go_wp2
                      have hbn : Below W.heap.size W (W.alloc (.cells #[.slice (some ⟨gw', 0, none⟩) wait'.length capw'] 37)) := below_alloc (Below.refl _ _) _
                      refine Handed.intro kr (by omega) (hJ2 _ _ _ ⟨W.heap.size, gw', capw', wait', o', D :: Ds, ?_⟩)
                      repeat apply Exists.intro
                      exact ⟨⟨H4, ⟨HS8.out.below hbn⟩, ⟨(HW8.out.below hbn).move (blk_new _ _) (by have := blk_lt HS8.out.o; omega) HS8.out.c.size⟩, ⟨HM8.out.below hbn⟩⟩, rfl⟩
            · have h1 := H1.out
              rw [if_neg (fun h => hfl ⟨HBB.out.symm.trans h.1, by have e := HCC.out; unfold rdOf at e; rw [← e]; exact h.2⟩)] at h1
              have H2 := Aside0.mk h1
              clear h1 H1
              cases b
              · clear hfl
                go_wp2
                rw [HW.out]
                refine Handed.intro kq (by omega) (hJ _ _ _ ⟨i + 1, o1, Ds, ?_⟩)
                repeat apply Exists.intro
                exact ⟨⟨⟨H2.out⟩, ⟨ti2⟩, HS3, HM3⟩, rfl⟩
              · have d0 : decide (0 ≤ c) = true := decide_eq_true (by
                  rcases (by omega : c < 0 ∨ 0 ≤ c) with h | h
                  · exact absurd ⟨rfl, h⟩ hfl
                  · exact h)
                clear hfl
                go_wp2
                rw [HW.out]
                refine Handed.intro kq (by omega) (hJ _ _ _ ⟨i + 1, o1, Ds, ?_⟩)
                repeat apply Exists.intro
                exact ⟨⟨⟨H2.out⟩, ⟨ti2⟩, HS3, HM3⟩, rfl⟩
          · rw [if_neg ti] at h1
            have tib : decide ((i : Int) < (gl.length : Int)) = false := decide_eq_false ti
            have tib2 : decide (i < gl.length) = false := decide_eq_false (by omega)
            obtain rfl := Option.some.inj h1
            have zo : wr.cell? ⟨go, 0, none⟩ = some (.slice (some ⟨gv, 0, none⟩) gl.length capv) := (blk_cell HS2.out.o 0).trans rfl
            clear ti h1 H1
            go_wp2
            exact ground_Regions.leaves (p := fun W => Kd.R (Kd.int .i64) 3 W w.heap.size (fun _ => True) (.slice (some ⟨gv, 0, none⟩) gl.length capv) o1 ∧ Below w.heap.size w W) (B := ww2.heap.size)
              (fun W D hD hK h => ⟨row_taken h.1 hK, below_taken h.2 (Nat.le_trans HWW.out hD) hK⟩) (fun W h => ⟨_, results_tmp2 rfl _ _ _, _, rfl, h.1, h.2⟩) Ds _ HM.out ⟨Kd.R_mono HS2.out.v (fun _ _ => trivial), HS2.out.b⟩
end

end Go.Proofs.Ytdmmlidgipedaaa.PA
