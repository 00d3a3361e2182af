/- The contract of route_Costs: what its call comes to, for every argument, in any memory. -/
import Derived.Test.YtdmmlidgipedaaaPAx0
import Derived.Test.YtdmmlidgipedaaaPAx17
import Derived.Test.YtdmmlidgipedaaaPAx18
import Derived.Test.YtdmmlidgipedaaaGAgroundJoined
import Derived.Test.YtdmmlidgipedaaaGAgroundRegions
import Derived.Test.YtdmmlidgipedaaaGAreliefDepth
import Derived.Test.YtdmmlidgipedaaaGAreliefSlope
import Derived.BigQuiet
import Derived.BigRegion
import Derived.Deep.RegionHeld3
import Derived.Deep.RegionLaw
import Derived.Laws.CopyOwn
import Derived.StillTailTactics
import Derived.WalkMore
namespace Go.Proofs.Ytdmmlidgipedaaa.PA
open Go.RowKit Go.Proofs.YtdmmlidgipedaaaW.PrintWords Go.Proofs.YtdmmlidgipedaaaW.PrintLast Go.Proofs.YtdmmlidgipedaaaW.PrintMore
set_option linter.unusedVariables false
set_option linter.unusedSimpArgs false

--import Derived.Deep.RegionHeld3
--import Derived.Deep.RegionLaw
--import Derived.BigRegion
--import Derived.BigQuiet
--import Derived.StillTailTactics
--import Derived.Laws.CopyOwn
--import Derived.WalkMore
/-- A heap's things, as cells. -/
def hEnc : List (Int × Int) → List Value
  | [] => []
  | p :: l => .int .i64 p.1 :: .int .i64 p.2 :: hEnc l
theorem hEnc_len : ∀ xs : List (Int × Int), (hEnc xs).length = xs.length * 2
  | [] => rfl
  | _ :: l => by simp only [hEnc, List.length_cons, hEnc_len l]; omega
theorem hEnc_get : ∀ (xs : List (Int × Int)) (k : Nat), k < xs.length → (hEnc xs)[2 * k]? = some (.int .i64 (xs.getD k (0, 0)).1) ∧ (hEnc xs)[2 * k + 1]? = some (.int .i64 (xs.getD k (0, 0)).2)
  | [], _, h => absurd h (by simp)
  | _ :: _, 0, _ => ⟨rfl, rfl⟩
  | _ :: l, k + 1, h => by
    have := hEnc_get l k (by simpa using h)
    rw [show 2 * (k + 1) = 2 * k + 1 + 1 by omega]
    simpa [hEnc] using this
theorem hEnc_set : ∀ (xs : List (Int × Int)) (k : Nat) (p : Int × Int), k < xs.length → ((hEnc xs).set (2 * k) (.int .i64 p.1)).set (2 * k + 1) (.int .i64 p.2) = hEnc (xs.set k p)
  | [], _, _, h => absurd h (by simp)
  | _ :: _, 0, _, _ => rfl
  | _ :: l, k + 1, p, h => by
    have := hEnc_set l k p (by simpa using h)
    rw [show 2 * (k + 1) = 2 * k + 1 + 1 by omega]
    simpa [hEnc] using this
theorem hEnc_app : ∀ (xs ys : List (Int × Int)), hEnc (xs ++ ys) = hEnc xs ++ hEnc ys
  | [], _ => rfl
  | p :: l, ys => by simp [hEnc, hEnc_app l ys]
theorem hEnc_take : ∀ (xs : List (Int × Int)) (n : Nat), hEnc (xs.take n) = (hEnc xs).take (n * 2)
  | [], n => by simp [hEnc]
  | _ :: _, 0 => by simp [hEnc]
  | p :: l, n + 1 => by rw [show (n + 1) * 2 = n * 2 + 1 + 1 by omega]; simp [hEnc, hEnc_take l n]

/-- What costs a heap's thing. -/
def hCst (xs : List (Int × Int)) (i : Nat) : Int := (xs.getD i (0, 0)).2
def hSwp (xs : List (Int × Int)) (i j : Nat) : List (Int × Int) := (xs.set i (xs.getD j (0, 0))).set j (xs.getD i (0, 0))
theorem hSwp_len (xs : List (Int × Int)) (i j : Nat) : (hSwp xs i j).length = xs.length := by simp [hSwp]
def hUp : Nat → Nat → List (Int × Int) → List (Int × Int)
  | 0, _, xs => xs
  | f + 1, k, xs => if 0 < k ∧ hCst xs k < hCst xs ((k - 1) / 2) then hUp f ((k - 1) / 2) (hSwp xs k ((k - 1) / 2)) else xs
theorem hUp_len : ∀ (f k : Nat) (xs : List (Int × Int)), (hUp f k xs).length = xs.length
  | 0, _, _ => rfl
  | f + 1, k, xs => by
    unfold hUp
    split
    · rw [hUp_len f, hSwp_len]
    · rfl
def hPush (xs : List (Int × Int)) (x : Int × Int) : List (Int × Int) := hUp xs.length xs.length (xs ++ [x])
theorem hPush_len (xs : List (Int × Int)) (x : Int × Int) : (hPush xs x).length = xs.length + 1 := by unfold hPush; rw [hUp_len]; simp
/-- The child that costs less. -/
def hKid (xs : List (Int × Int)) (last k : Nat) : Nat := if 2 * k + 2 < last ∧ hCst xs (2 * k + 2) < hCst xs (2 * k + 1) then 2 * k + 2 else 2 * k + 1
def hDown : Nat → Nat → Nat → List (Int × Int) → List (Int × Int)
  | 0, _, _, xs => xs
  | f + 1, last, k, xs => if 2 * k + 1 < last then (if hCst xs (hKid xs last k) < hCst xs k then hDown f last (hKid xs last k) (hSwp xs k (hKid xs last k)) else xs) else xs
theorem hDown_len : ∀ (f last k : Nat) (xs : List (Int × Int)), (hDown f last k xs).length = xs.length
  | 0, _, _, _ => rfl
  | f + 1, last, k, xs => by
    unfold hDown
    split
    · split
      · rw [hDown_len f, hSwp_len]
      · rfl
    · rfl
def hPop (xs : List (Int × Int)) : List (Int × Int) := hDown xs.length (xs.length - 1) 0 ((xs.set 0 (xs.getD (xs.length - 1) (0, 0))).take (xs.length - 1))
theorem hPop_len (xs : List (Int × Int)) : (hPop xs).length = xs.length - 1 := by unfold hPop; rw [hDown_len]; simp

/-- The row of a heap's things. -/
def HRow (W : World) (B : Nat) (v : Value) (xs : List (Int × Int)) : Prop := W.ownsRow B 61 2 v xs.length (hEnc xs)
theorem HRow.at {W : World} {B g n cap : Nat} {xs : List (Int × Int)} (h : HRow W B (.slice (some ⟨g, 0, none⟩) n cap) xs) (hn : n = xs.length) {k : Nat} (hk : k < n) :
    W.cell? ⟨g, k * 2, none⟩ = some (.int .i64 (xs.getD k (0, 0)).1) ∧ W.cell? ⟨g, k * 2 + 1, none⟩ = some (.int .i64 (xs.getD k (0, 0)).2) := by
  subst hn
  have a := hEnc_get xs k hk
  rw [Nat.mul_comm k 2]
  exact ⟨(World.ownsRow.cellAt h (2 * k) (by omega)).trans a.1, (World.ownsRow.cellAt h (2 * k + 1) (by omega)).trans a.2⟩
theorem HRow.put {W : World} {B g n cap : Nat} {xs : List (Int × Int)} (h : HRow W B (.slice (some ⟨g, 0, none⟩) n cap) xs) (hn : n = xs.length) {k : Nat} (hk : k < n) (p : Int × Int) :
    HRow ((W.setCell ⟨g, k * 2, none⟩ (.int .i64 p.1)).setCell ⟨g, k * 2 + 1, none⟩ (.int .i64 p.2)) B (.slice (some ⟨g, 0, none⟩) n cap) (xs.set k p) := by
  subst hn
  have a := World.ownsRow.stored h (2 * k) (.int .i64 p.1)
  have b := World.ownsRow.stored a.1 (2 * k + 1) (.int .i64 p.2)
  unfold HRow
  rw [List.length_set, ← hEnc_set xs k p hk, Nat.mul_comm k 2]
  exact b.1
theorem HRow.fro {W : World} {B g n cap : Nat} {xs : List (Int × Int)} (h : HRow W B (.slice (some ⟨g, 0, none⟩) n cap) xs) (hn : n = xs.length) (j : Nat) : W.frozen? ⟨g, j, none⟩ = false := by
  subst hn
  exact World.ownsRow.frozenAt h j
theorem HRow.mid {W : World} {B g n cap : Nat} {xs : List (Int × Int)} (h : HRow W B (.slice (some ⟨g, 0, none⟩) n cap) xs) (hn : n = xs.length) {j : Nat} (hj : j < n) (u : Value) :
    (W.setCell ⟨g, j * 2, none⟩ u).cell? ⟨g, j * 2 + 1, none⟩ = some (.int .i64 (xs.getD j (0, 0)).2) ∧ (W.setCell ⟨g, j * 2, none⟩ u).frozen? ⟨g, j * 2 + 1, none⟩ = false := by
  subst hn
  have a := World.ownsRow.stored h (j * 2) u
  refine ⟨?_, World.ownsRow.frozenAt a.1 _⟩
  rw [World.ownsRow.cellAt a.1 (j * 2 + 1) (by omega), List.getElem?_set_ne (by omega), Nat.mul_comm j 2]
  exact (hEnc_get xs j hj).2
/-- What the two stores of an exchange meet. -/
theorem HRow.swap {W : World} {B g n cap : Nat} {xs : List (Int × Int)} (h : HRow W B (.slice (some ⟨g, 0, none⟩) n cap) xs) (hn : n = xs.length) {k j : Nat} (hk : k < n) (hj : j < n) (hne : j ≠ k) {p0 p1 q0 q1 : Int} (hp : xs.getD k (0, 0) = (p0, p1)) (hq : xs.getD j (0, 0) = (q0, q1)) :
    ((W.setCell ⟨g, k * 2, none⟩ (.int .i64 q0)).setCell ⟨g, k * 2 + 1, none⟩ (.int .i64 q1)).cell? ⟨g, j * 2, none⟩ = some (.int .i64 q0) ∧
    ((W.setCell ⟨g, k * 2, none⟩ (.int .i64 q0)).setCell ⟨g, k * 2 + 1, none⟩ (.int .i64 q1)).frozen? ⟨g, j * 2, none⟩ = false ∧
    (((W.setCell ⟨g, k * 2, none⟩ (.int .i64 q0)).setCell ⟨g, k * 2 + 1, none⟩ (.int .i64 q1)).setCell ⟨g, j * 2, none⟩ (.int .i64 p0)).cell? ⟨g, j * 2 + 1, none⟩ = some (.int .i64 q1) ∧
    (((W.setCell ⟨g, k * 2, none⟩ (.int .i64 q0)).setCell ⟨g, k * 2 + 1, none⟩ (.int .i64 q1)).setCell ⟨g, j * 2, none⟩ (.int .i64 p0)).frozen? ⟨g, j * 2 + 1, none⟩ = false ∧
    HRow ((((W.setCell ⟨g, k * 2, none⟩ (.int .i64 q0)).setCell ⟨g, k * 2 + 1, none⟩ (.int .i64 q1)).setCell ⟨g, j * 2, none⟩ (.int .i64 p0)).setCell ⟨g, j * 2 + 1, none⟩ (.int .i64 p1)) B (.slice (some ⟨g, 0, none⟩) n cap) ((xs.set k (q0, q1)).set j (p0, p1)) := by
  have a := HRow.put h hn hk (q0, q1)
  have e : (xs.set k (q0, q1)).getD j (0, 0) = (q0, q1) := by rw [← hq, List.getD_eq_getElem?_getD, List.getElem?_set_ne (Ne.symm hne), List.getD_eq_getElem?_getD]
  have hn2 : n = (xs.set k (q0, q1)).length := by rw [List.length_set]; exact hn
  have b := HRow.at a hn2 hj
  have c := HRow.mid a hn2 hj (.int .i64 p0)
  rw [e] at b c
  exact ⟨b.1, HRow.fro a hn2 _, c.1, c.2, HRow.put a hn2 hj (p0, p1)⟩
theorem HRow.nil (W : World) (B : Nat) : HRow W B (.slice none 0 0) [] := World.ownsRow_nil W B _ 2
theorem HRow.below {W W' : World} {B : Nat} {v : Value} {xs : List (Int × Int)} (h : HRow W B v xs) (hb : Below W.heap.size W W') : HRow W' B v xs :=
  World.ownsRow.kept h (row := none) ⟨hb.os, hb.tape, hb.output, hb.size, fun k hk _ => hb.block k hk⟩ (by cases hv : v.ownBlock <;> simp)
theorem HRow.far {W : World} {B : Nat} {v : Value} {xs : List (Int × Int)} (h : HRow W B v xs) {p : Addr} (hp : v.ownBlock ≠ some p.block) (u : Value) : HRow (W.setCell p u) B v xs := ownsRow_setCell_other h hp u
theorem HRow.shape {W : World} {B : Nat} {v : Value} {xs : List (Int × Int)} (h : HRow W B v xs) (hx : 0 < xs.length) : ∃ g cap, v = .slice (some ⟨g, 0, none⟩) xs.length cap := by
  rcases h.2 with ⟨_, h2⟩ | ⟨g, cap, cur, hv, _⟩
  · omega
  · exact ⟨g, cap, hv⟩
/-- What a heap's row leaves behind is of no other type. -/
theorem HRow.ne {W : World} {B g t : Nat} {v : Value} {xs : List (Int × Int)} {cs : Array Value} (h : HRow W B v xs) (hg : W.heap[g]? = some (.cells cs t (0, 0))) (ht : t ≠ 61) : v.ownBlock ≠ some g := by
  intro e
  rcases h.2 with ⟨h1, _⟩ | ⟨g', cap, cur, h1, _, h2, _⟩
  · subst h1; simp [Value.ownBlock] at e
  · subst h1
    simp [Value.ownBlock] at e
    subst e
    rw [h2] at hg
    cases hg
    exact ht rfl
/-- The function value that says which of two things costs less. -/
abbrev hLess (gn : Nat) : Value := .func (.func 30) #[] #[.pointer (some ⟨gn, 0, none⟩)]
abbrev hNum : Value := .func (.func 22) #[] #[]
set_option maxHeartbeats 4000000 in
set_option maxRecDepth 100000 in
theorem hNum_calls (a b : Int) (w : World) : Calls Try.prog 22 #[.agg #[.int .i64 a, .int .i64 b]] w fun e w' => e = .returned (.int .i64 b) ∧ Below w.heap.size w w' := by
  have HB := Aside0.mk (Below.refl w.heap.size w)
  go_enter Try.func22, Try.ntmps22
  go_wp2_with (first | ((with_reducible refine gate_dst (N := 1) rfl ?_); refine box_event ?hg (N := 1) ?hd (cs := #[.int .i64 a, .int .i64 b]) (t := 61) ?hr ?_; (case hd => rfl); (case hg => rfl); (case hr => first | (go_simp; done) | (go_simp; rfl)); intro g hg w1 hbox hb; have K := Aside0.mk (below_step HB.out hb); clear HB; have HB := K; clear K; have KB := Aside0.mk hbox; have z1 := (blk_cell KB.out 1).trans rfl; clear hb hbox hg))
  go_ret
  exact ⟨rfl, HB.out⟩

set_option maxHeartbeats 8000000 in
set_option maxRecDepth 100000 in
theorem hLess_calls (a0 a1 b0 b1 : Int) (gn : Nat) (w : World) (hn : w.heap[gn]? = some (.cells #[hNum] 62 (0, 0))) :
    Calls Try.prog 30 #[.agg #[.int .i64 a0, .int .i64 a1], .agg #[.int .i64 b0, .int .i64 b1], .pointer (some ⟨gn, 0, none⟩)] w fun e w' => e = .returned (.bool (decide (a1 < b1))) ∧ Below w.heap.size w w' := by
  have HB := Aside0.mk (Below.refl w.heap.size w)
  have HN := Aside0.mk hn
  clear hn
  go_enter Try.func30, Try.ntmps30
  go_wp2_with (first | ((with_reducible refine gate_dst (N := 3) rfl ?_); refine box_event ?hg (N := 3) ?hd (cs := #[.int .i64 a0, .int .i64 a1]) (t := 61) ?hr ?_; (case hd => rfl); (case hg => rfl); (case hr => first | (go_simp; done) | (go_simp; rfl)); intro ga hga w1 hbox hb; have K := Aside0.mk (below_step HB.out hb); clear HB; have HB := K; clear K; have KN := Aside0.mk (blk_below HN.out hb); have KA := Aside0.mk hbox; clear HN hb hbox hga) | ((with_reducible refine gate_dst (N := 4) rfl ?_); refine box_event ?hg2 (N := 4) ?hd2 (cs := #[.int .i64 b0, .int .i64 b1]) (t := 61) ?hr2 ?_; (case hd2 => rfl); (case hg2 => rfl); (case hr2 => first | (go_simp; done) | (go_simp; rfl)); intro gb hgb w2 hbox hb; have K := Aside0.mk (below_drew1 (below_step HB.out hb)); clear HB; have HB := K; clear K; have z0 : w2.cell? ⟨gn, 0, none⟩ = some hNum := (blk_cell (blk_below KN.out hb) 0).trans rfl; have z1 : w2.cell? ⟨ga, 0, none⟩ = some (.int .i64 a0) := (blk_cell (blk_below KA.out hb) 0).trans rfl; have z2 : w2.cell? ⟨ga, 1, none⟩ = some (.int .i64 a1) := (blk_cell (blk_below KA.out hb) 1).trans rfl; have z3 : w2.cell? ⟨gb, 0, none⟩ = some (.int .i64 b0) := (blk_cell hbox 0).trans rfl; have z4 : w2.cell? ⟨gb, 1, none⟩ = some (.int .i64 b1) := (blk_cell hbox 1).trans rfl; clear KN KA hb hbox hgb))
  go_region_held3 (fun W => W.cell? ⟨gn, 0, none⟩ = some hNum ∧ W.cell? ⟨ga, 0, none⟩ = some (.int .i64 a0) ∧ W.cell? ⟨ga, 1, none⟩ = some (.int .i64 a1) ∧ W.cell? ⟨gb, 0, none⟩ = some (.int .i64 b0) ∧ W.cell? ⟨gb, 1, none⟩ = some (.int .i64 b1)) (go_keep)
    (first | (go_at_call 22; refine (hNum_calls _ _ _).mono ?_; rintro e w3 ⟨rfl, hb⟩; have y0 := pw_cell_below hb z0; have y1 := pw_cell_below hb z1; have y2 := pw_cell_below hb z2; have y3 := pw_cell_below hb z3; have y4 := pw_cell_below hb z4; clear z0 z1 z2 z3 z4; have z0 := y0; have z1 := y1; have z2 := y2; have z3 := y3; have z4 := y4; clear y0 y1 y2 y3 y4; have K := Aside0.mk (below_step HB.out hb); clear HB; have HB := K; clear K hb))
  all_goals
    go_wp2
    go_ret
    exact ⟨rfl, HB.out⟩

/-- A heap: its struct, its number function, its row. -/
structure HS (W : World) (B gh gn : Nat) (v : Value) (xs : List (Int × Int)) : Prop where
  h : W.heap[gh]? = some (.cells #[v, hLess gn] 67 (0, 0))
  n : W.heap[gn]? = some (.cells #[hNum] 62 (0, 0))
  r : HRow W B v xs
theorem HS.below {W W' : World} {B gh gn : Nat} {v : Value} {xs : List (Int × Int)} (h : HS W B gh gn v xs) (hb : Below W.heap.size W W') : HS W' B gh gn v xs := ⟨blk_below h.h hb, blk_below h.n hb, h.r.below hb⟩
theorem HS.drew {W : World} {B gh gn : Nat} {v : Value} {xs : List (Int × Int)} (h : HS W B gh gn v xs) : HS W.drew B gh gn v xs := ⟨h.h, h.n, h.r⟩
/-- What a heap's method leaves of the other blocks: all but the heap's struct and its row. -/
structure HFr (w w' : World) (gh : Nat) (o : Option Nat) : Prop where
  os : w'.os = w.os
  tape : w'.tape = w.tape
  output : w'.output = w.output
  size : w.heap.size ≤ w'.heap.size
  block : ∀ k, k < w.heap.size → k ≠ gh → some k ≠ o → w'.heap[k]? = w.heap[k]?
theorem HFr.refl (w : World) (gh : Nat) (o : Option Nat) : HFr w w gh o := ⟨rfl, rfl, rfl, Nat.le_refl _, fun _ _ _ _ => rfl⟩
theorem HFr.below {w A C : World} {gh : Nat} {o : Option Nat} (h : HFr w A gh o) (hb : Below A.heap.size A C) : HFr w C gh o :=
  ⟨hb.os.trans h.os, hb.tape.trans h.tape, hb.output.trans h.output, Nat.le_trans h.size hb.size, fun k hk h1 h2 => (hb.block k (Nat.lt_of_lt_of_le hk h.size)).trans (h.block k hk h1 h2)⟩
theorem HFr.drew {w A : World} {gh : Nat} {o : Option Nat} (h : HFr w A gh o) : HFr w A.drew gh o := ⟨h.os, h.tape, h.output, h.size, h.block⟩
theorem HFr.set {w A : World} {gh : Nat} {o : Option Nat} (h : HFr w A gh o) (p : Addr) (u : Value) (hp : p.block = gh ∨ some p.block = o ∨ w.heap.size ≤ p.block) : HFr w (A.setCell p u) gh o :=
  ⟨h.os, h.tape, h.output, by simpa using h.size, fun k hk h1 h2 => (Below.heap_setCell A p u k (by rcases hp with hp | hp | hp <;> intro e <;> subst e <;> first | exact h1 hp | exact h2 hp | omega)).trans (h.block k hk h1 h2)⟩
theorem HFr.grown {w A C : World} {gh : Nat} {o r : Option Nat} (h : HFr w A gh o) (hg : A.grownBy C r) (hr : r = o ∨ ∀ b, r = some b → w.heap.size ≤ b) : HFr w C gh o :=
  ⟨hg.os.trans h.os, hg.tape.trans h.tape, hg.output.trans h.output, Nat.le_trans h.size hg.size, fun k hk h1 h2 => (hg.block k (Nat.lt_of_lt_of_le hk h.size) (by
    rcases hr with rfl | hr
    · exact h2
    · intro e; have := hr k e.symm; omega)).trans (h.block k hk h1 h2)⟩
theorem HFr.to_below {w C : World} {gh : Nat} {o : Option Nat} {B : Nat} (h : HFr w C gh o) (hg : B ≤ gh) (ho : ∀ b, o = some b → B ≤ b) (hB : B ≤ w.heap.size) {w0 : World} (h0 : Below B w0 w) : Below B w0 C :=
  ⟨h.os.trans h0.os, h.tape.trans h0.tape, h.output.trans h0.output, Nat.le_trans h0.size h.size, fun k hk => (h.block k (by omega) (by omega) (fun e => by have := ho k e.symm; omega)).trans (h0.block k hk)⟩
theorem hInfo : (Try.prog.info? 61).map (fun i => (i.zero, i.size, i.bytes)) = some (some (.agg #[.int .i64 0, .int .i64 0]), 2, 16) := by kernel_rfl
theorem hUnd64 : Try.prog.underlying 64 = some (.slice 61) := by kernel_rfl
theorem hArith {k j n : Nat} (h : k ≤ n) (hn : n < 1000000) (hk : 0 < k) (hj : (k - 1) / 2 = j) : wrap64 ((k : Int) - 1) = (k : Int) - 1 ∧ Int.tdiv ((k : Int) - 1) 2 = (j : Int) ∧ wrap64 (j : Int) = (j : Int) := by
  have h0 : (k : Int) < 1000000 := by omega
  have h1 : (0 : Int) < (k : Int) := by omega
  have h2 : (j : Int) < 1000000 := by omega
  refine ⟨?_, ?_, ?_⟩
  · unfold wrap64; omega
  · rw [Int.tdiv_eq_ediv_of_nonneg (by omega)]; omega
  · unfold wrap64; omega
theorem hBounds {k j n : Nat} (h : k ≤ n) (hjk : j < k) : ((0 : Int) ≤ (k : Int) ∧ (k : Int) < ((n + 1 : Nat) : Int) ∧ (k : Int) < (n : Int) + 1) ∧ ((0 : Int) ≤ (j : Int) ∧ (j : Int) < ((n + 1 : Nat) : Int) ∧ (j : Int) < (n : Int) + 1) := by omega
theorem HS.exch {W : World} {B gh gn g n cap : Nat} {xs ys : List (Int × Int)} (h : HS W B gh gn (.slice (some ⟨g, 0, none⟩) n cap) xs) {a b c d : Nat} {u1 u2 u3 u4 : Value}
    (hr : HRow ((((W.setCell ⟨g, a, none⟩ u1).setCell ⟨g, b, none⟩ u2).setCell ⟨g, c, none⟩ u3).setCell ⟨g, d, none⟩ u4) B (.slice (some ⟨g, 0, none⟩) n cap) ys) :
    HS ((((W.setCell ⟨g, a, none⟩ u1).setCell ⟨g, b, none⟩ u2).setCell ⟨g, c, none⟩ u3).setCell ⟨g, d, none⟩ u4).drew B gh gn (.slice (some ⟨g, 0, none⟩) n cap) ys := by
  have n1 : gh ≠ g := fun e => h.r.ne h.h (by decide) (by rw [e]; rfl)
  have n2 : gn ≠ g := fun e => h.r.ne h.n (by decide) (by rw [e]; rfl)
  exact ⟨blk_far (blk_far (blk_far (blk_far h.h n1 _) n1 _) n1 _) n1 _, blk_far (blk_far (blk_far (blk_far h.n n2 _) n2 _) n2 _) n2 _, hr⟩
theorem HFr.exch {w W : World} {gh g : Nat} {o : Option Nat} (h : HFr w W gh o) (hg : some g = o ∨ w.heap.size ≤ g) (a b c d : Nat) (u1 u2 u3 u4 : Value) :
    HFr w ((((W.setCell ⟨g, a, none⟩ u1).setCell ⟨g, b, none⟩ u2).setCell ⟨g, c, none⟩ u3).setCell ⟨g, d, none⟩ u4).drew gh o :=
  ((((h.set _ _ (Or.inr hg)).set _ _ (Or.inr hg)).set _ _ (Or.inr hg)).set _ _ (Or.inr hg)).drew
theorem hRel {k j d n : Nat} (h1 : j < k) (h2 : n = d + 1) (h3 : k ≤ n) : j ≤ d := by omega

set_option maxHeartbeats 8000000 in
set_option maxRecDepth 1000000 in
theorem hPush_calls (B gh gn : Nat) (v : Value) (xs : List (Int × Int)) (x0 x1 : Int) (w : World) (hs : HS w B gh gn v xs) (hB : B ≤ w.heap.size) (hl : xs.length < 1000000) :
    Calls Try.prog 23 #[.pointer (some ⟨gh, 0, none⟩), .agg #[.int .i64 x0, .int .i64 x1]] w fun e w' => (∃ u, e = .returned u) ∧ HFr w w' gh v.ownBlock ∧
      ∃ v', HS w' B gh gn v' (hPush xs (x0, x1)) ∧ (v'.ownBlock = v.ownBlock ∨ ∃ b, v'.ownBlock = some b ∧ w.heap.size ≤ b) := by
  have HB := Aside0.mk (Below.refl w.heap.size w)
  have HH := Aside0.mk hs
  have HBB := Aside0.mk hB
  have HL := Aside0.mk hl
  clear hs hB hl
  go_enter Try.func23, Try.ntmps23
  go_wp2_with (first | ((with_reducible refine gate_dst (N := 3) rfl ?_); refine box_event ?hg (N := 3) ?hd (cs := #[.int .i64 x0, .int .i64 x1]) (t := 61) ?hr ?_; (case hd => rfl); (case hg => rfl); (case hr => first | (go_simp; done) | (go_simp; rfl)); intro gx hg w1 hbox hb; have GX : Aside0 (gx = w.heap.size) := ⟨hg⟩; have K := Aside0.mk (below_step HB.out hb); clear HB; have HB := K; clear K; have K := Aside0.mk (HH.out.below hb); clear HH; have HH := K; clear K; have KX := Aside0.mk hbox; clear hg hb hbox))
  have zh := (blk_cell HH.out.h 0).trans rfl
  have zx0 : w1.cell? ⟨gx, 0, none⟩ = some (.int .i64 x0) := (blk_cell KX.out 0).trans rfl
  have zx1 : w1.cell? ⟨gx, 1, none⟩ = some (.int .i64 x1) := (blk_cell KX.out 1).trans rfl
  have fh : w1.frozen? ⟨gh, 0, none⟩ = false := blk_frozen HH.out.h 0
  have za : (w1.alloc (.cells #[.int .i64 x0, .int .i64 x1] 61)).cell? ⟨gh, 0, none⟩ = some v := pw_cell_below (below_alloc (Below.refl _ _) _) ((blk_cell HH.out.h 0).trans rfl)
  go_region_law (refine step_append_cells (w0 := w) B (by rfl) (.tmp 9) (.tmp 11) 64 61 (.agg #[.int .i64 0, .int .i64 0]) 2 16 rfl hUnd64 hInfo rfl (by decide) (by decide) v xs.length (hEnc xs) [.int .i64 x0, .int .i64 x1] rfl rfl rfl (by simp [Value.oneCell']) HH.out.drew.r (Below.mono (below_drew1 HB.out) HBB.out) (by have := HB.out.size; have := HBB.out; show B ≤ w1.heap.size; omega) (by have := HL.out; omega) ?_; intro v1 w2 ho hb hg hat; have hr : HRow w2 B v1 (xs ++ [(x0, x1)]) := (by unfold HRow; rw [List.length_append, hEnc_app]; exact ho); obtain ⟨g1, cap1, rfl⟩ := hr.shape (by simp); have q := blk_grown (show w1.drew.heap[gh]? = _ from HH.out.h) hg (fun e => HH.out.r.ne HH.out.h (by decide) e.symm); have f2 : w2.frozen? ⟨gh, 0, none⟩ = false := blk_frozen q 0; have z2 := (blk_cell q 0).trans rfl)
  all_goals
    have hn := blk_grown (show w1.drew.heap[gn]? = _ from HH.out.n) hg (fun e => HH.out.r.ne HH.out.n (by decide) e.symm)
    have hr' : HRow w2 B (.slice (some ⟨g1, 0, none⟩) (xs.length + 1) cap1) (xs ++ [(x0, x1)]) := by rw [List.length_append] at hr; exact hr
    have hs3 : HS (w2.setCell ⟨gh, 0, none⟩ (.slice (some ⟨g1, 0, none⟩) (xs.length + 1) cap1)) B gh gn (.slice (some ⟨g1, 0, none⟩) (xs.length + 1) cap1) (xs ++ [(x0, x1)]) :=
      ⟨blk_put q 0 _ rfl, blk_far hn (blk_ne hn q (by decide)) _, hr'.far (p := ⟨gh, 0, none⟩) (hr'.ne q (by decide)) _⟩
    have hf3 : HFr w (w2.setCell ⟨gh, 0, none⟩ (.slice (some ⟨g1, 0, none⟩) (xs.length + 1) cap1)) gh v.ownBlock := (((HFr.refl w gh v.ownBlock).below HB.out).drew.grown hg (Or.inl rfl)).set _ _ (Or.inl rfl)
    have ha3 : some g1 = v.ownBlock ∨ w.heap.size ≤ g1 := by
      rcases hat with h | ⟨b, h, h2⟩
      · exact Or.inl h
      · have e : g1 = b := Option.some.inj h
        have := HB.out.size
        exact Or.inr (by rw [e]; exact Nat.le_trans this h2)
    have HS3 := Aside0.mk hs3
    have HF3 := Aside0.mk hf3
    have HA3 := Aside0.mk ha3
    clear hn hr' hs3 hf3 ha3 ho hb hg hat hr q f2 z2 HH HB KX zh zx0 zx1 fh za GX
    generalize w2.setCell ⟨gh, 0, none⟩ (.slice (some ⟨g1, 0, none⟩) (xs.length + 1) cap1) = w3 at HS3 HF3 ⊢
    have z0 : w3.cell? ⟨gh, 0, none⟩ = some (.slice (some ⟨g1, 0, none⟩) (xs.length + 1) cap1) := (blk_cell HS3.out.h 0).trans rfl
    have e0 : wrap64 (xs.length : Int) = xs.length := by have := HL.out; unfold wrap64; omega
    go_wp2
    clear z0
    go_loopg [4] xs.length (fun kq v4 w' => ∃ (k : Nat) (ys : List (Int × Int)), v4 = .int .i64 (k : Int) ∧ Aside0 (k ≤ kq ∧ k < ys.length ∧ ys.length = xs.length + 1) ∧ Aside0 (hUp kq k ys = hPush xs (x0, x1)) ∧ Aside0 (HS w' B gh gn (.slice (some ⟨g1, 0, none⟩) (xs.length + 1) cap1) ys) ∧ Aside0 (HFr w w' gh v.ownBlock))
    case atStart => exact ⟨xs.length, _, (by rw [e0]), ⟨Nat.le_refl _, by simp, by simp⟩, ⟨rfl⟩, HS3, HF3⟩
    case round =>
      clear HS3 HF3 e0
      obtain ⟨k, ys, rfl, HK, HU, HSr, HFR⟩ := hrel
      have hu := HU.out
      by_cases hk : 0 < k
      rotate_left
      · have d0 : decide (0 < k) = false := decide_eq_false hk
        have hu2 : ys = hPush xs (x0, x1) := by
          cases gk
          · exact hu
          · simp only [hUp] at hu; rw [if_neg (fun h => hk h.1)] at hu; exact hu
        subst hu2
        clear hu hk
        go_wp2_with fail
        refine wp_region_quiet_lit (by kernel_rfl) (by as_aux_lemma => kernel_rfl) ?_
        repeat (go_big_quiet_step (fail))
        refine wpQuiet_nil ?_
        rintro w6 ⟨nn, rfl⟩
        have H6 : Aside0 (HFr w (wr.drewN nn) gh v.ownBlock ∧ HS (wr.drewN nn) B gh gn (.slice (some ⟨g1, 0, none⟩) (xs.length + 1) cap1) (hPush xs (x0, x1))) := ⟨⟨HFR.out.os, HFR.out.tape, HFR.out.output, HFR.out.size, HFR.out.block⟩, ⟨HSr.out.h, HSr.out.n, HSr.out.r⟩⟩
        go_wp2
        go_end0
        exact ⟨⟨_, rfl⟩, H6.out.1, _, H6.out.2, HA3.out.elim (fun h => Or.inl h) (fun h => Or.inr ⟨g1, rfl, h⟩)⟩
      obtain ⟨d, hd⟩ : ∃ d, gk = d + 1 := ⟨gk - 1, by have := HK.out; omega⟩
      obtain ⟨j, hj⟩ : ∃ j, (k - 1) / 2 = j := ⟨_, rfl⟩
      have hjk : j < k := by omega
      rw [hd] at hu
      simp only [hUp] at hu
      rw [hj] at hu
      have hkl := HK.out.2.1
      have hrow := HSr.out.r
      have a0 := hrow.at HK.out.2.2.symm (k := k) (by have := HK.out.2; omega)
      have a1 := hrow.at HK.out.2.2.symm (k := j) (by have := HK.out.2; omega)
      have hck : hCst ys k = (ys.getD k (0, 0)).2 := rfl
      have hcj : hCst ys j = (ys.getD j (0, 0)).2 := rfl
      have hsw : hSwp ys k j = (ys.set k (ys.getD j (0, 0))).set j (ys.getD k (0, 0)) := rfl
      rw [hck, hcj, hsw] at hu
      obtain ⟨⟨p0, p1⟩, hp⟩ : ∃ p, ys.getD k (0, 0) = p := ⟨_, rfl⟩
      obtain ⟨⟨q0, q1⟩, hq⟩ : ∃ p, ys.getD j (0, 0) = p := ⟨_, rfl⟩
      rw [hp, hq] at hu
      rw [hp] at a0
      rw [hq] at a1
      have z1 : wr.cell? ⟨g1, k * 2, none⟩ = some (.int .i64 p0) := a0.1
      have z2 : wr.cell? ⟨g1, k * 2 + 1, none⟩ = some (.int .i64 p1) := a0.2
      have z3 : wr.cell? ⟨g1, j * 2, none⟩ = some (.int .i64 q0) := a1.1
      have z4 : wr.cell? ⟨g1, j * 2 + 1, none⟩ = some (.int .i64 q1) := a1.2
      have z5 : wr.cell? ⟨gh, 0, none⟩ = some (.slice (some ⟨g1, 0, none⟩) (xs.length + 1) cap1) := (blk_cell HSr.out.h 0).trans rfl
      have z6 : wr.cell? ⟨gh, 1, none⟩ = some (hLess gn) := (blk_cell HSr.out.h 1).trans rfl
      have d0 : decide (0 < k) = true := decide_eq_true hk
      have hkn : k ≤ xs.length := by have h := HK.out.2.1; rw [HK.out.2.2] at h; exact Nat.le_of_lt_succ h
      obtain ⟨e1, e2, e3⟩ := hArith hkn HL.out hk hj
      have r1 : IntKind.i64.wrap ((k : Int) - 1) = (k : Int) - 1 := by rw [i64_w]; exact e1
      have r3 : IntKind.i64.wrap (j : Int) = (j : Int) := by rw [i64_w]; exact e3
      obtain ⟨⟨i0, i1, i4⟩, i2, i3, i5⟩ := hBounds hkn hjk
      have HU2 := Aside0.mk hu
      have HJ := Aside0.mk (And.intro hk (And.intro hj (And.intro hjk (And.intro hd (And.intro hp hq)))))
      have HK2 : Aside0 (k < xs.length + 1 ∧ j < xs.length + 1 ∧ ys.length = xs.length + 1) := ⟨Nat.lt_succ_of_le hkn, Nat.lt_succ_of_lt (Nat.lt_of_lt_of_le hjk hkn), HK.out.2.2⟩
      clear hu hk hj hjk hkn hd hp hq a0 a1 hrow hkl hck hcj hsw HU
      go_wp2_with fail
      refine wp_region_still_tail 23 (by kernel_rfl) (by kernel_rfl) ?_
      simp only [List.take_succ_cons, List.take_zero, List.drop_succ_cons, List.drop_zero]
      iterate 23 still_step
      refine wpStill_nil ?_
      have HCALL : Aside0 (∀ w5, Below wr.drew.heap.size wr.drew w5 → HS w5 B gh gn (.slice (some ⟨g1, 0, none⟩) (xs.length + 1) cap1) ys ∧ HFr w w5 gh v.ownBlock) := ⟨fun w5 hb => ⟨HSr.out.drew.below hb, HFR.out.drew.below hb⟩⟩
      by_cases hc : p1 < q1
      rotate_left
      · have d1 : decide (p1 < q1) = false := decide_eq_false hc
        have hu := HU2.out
        rw [if_neg (fun h => hc h.2)] at hu
        subst hu
        clear hc
        go_wp2_with (go_at_call 30; refine (hLess_calls _ _ _ _ gn _ HSr.out.drew.n).mono ?_; rintro e w5 ⟨rfl, hb⟩; have H5 := Aside0.mk (HCALL.out w5 hb); clear hb)
        go_end0
        exact ⟨⟨_, rfl⟩, H5.out.2, _, H5.out.1, HA3.out.elim (fun h => Or.inl h) (fun h => Or.inr ⟨g1, rfl, h⟩)⟩
      have d1 : decide (p1 < q1) = true := decide_eq_true hc
      have hu := HU2.out
      rw [if_pos ⟨HJ.out.1, hc⟩] at hu
      have HU3 := Aside0.mk hu
      clear hu hc
      go_wp2_with (go_at_call 30; refine (hLess_calls _ _ _ _ gn _ HSr.out.drew.n).mono ?_; rintro e w5 ⟨rfl, hb⟩; have H5 := Aside0.mk (HCALL.out w5 hb); clear hb)
      clear z1 z2 z3 z4 z5 z6 HCALL d1 HSr HFR HU2
      have hrow := H5.out.1.r
      have hx := HK2.out
      have fr := fun t => hrow.fro hx.2.2.symm t
      have a0 := hrow.at hx.2.2.symm (k := k) hx.1
      have a1 := hrow.at hx.2.2.symm (k := j) hx.2.1
      rw [HJ.out.2.2.2.2.1] at a0
      rw [HJ.out.2.2.2.2.2] at a1
      have z1 : w5.cell? ⟨g1, k * 2, none⟩ = some (.int .i64 p0) := a0.1
      have z2 : w5.cell? ⟨g1, k * 2 + 1, none⟩ = some (.int .i64 p1) := a0.2
      have z3 : w5.cell? ⟨g1, j * 2, none⟩ = some (.int .i64 q0) := a1.1
      have z4 : w5.cell? ⟨g1, j * 2 + 1, none⟩ = some (.int .i64 q1) := a1.2
      have z5 : w5.cell? ⟨gh, 0, none⟩ = some (.slice (some ⟨g1, 0, none⟩) (xs.length + 1) cap1) := (blk_cell H5.out.1.h 0).trans rfl
      have f1 := fr (k * 2)
      have f2 := fr (k * 2 + 1)
      have f3 := fr (j * 2)
      have f4 := fr (j * 2 + 1)
      obtain ⟨t1, t2, t3, t4, HRW⟩ := hrow.swap hx.2.2.symm hx.1 hx.2.1 (Nat.ne_of_lt HJ.out.2.2.1) HJ.out.2.2.2.2.1 HJ.out.2.2.2.2.2
      have HRW := Aside0.mk HRW
      clear hrow hx fr a0 a1
      go_region
      have hs6 := H5.out.1.exch HRW.out
      have hf6 := H5.out.2.exch HA3.out (k * 2) (k * 2 + 1) (j * 2) (j * 2 + 1) (.int .i64 q0) (.int .i64 q1) (.int .i64 p0) (.int .i64 p1)
      have HS6 := Aside0.mk hs6
      have HF6 := Aside0.mk hf6
      clear hs6 hf6 HRW H5 z1 z2 z3 z4 z5 f1 f2 f3 f4 t1 t2 t3 t4
      generalize ((((w5.setCell ⟨g1, k * 2, none⟩ (.int .i64 q0)).setCell ⟨g1, k * 2 + 1, none⟩ (.int .i64 q1)).setCell ⟨g1, j * 2, none⟩ (.int .i64 p0)).setCell ⟨g1, j * 2 + 1, none⟩ (.int .i64 p1)).drew = w6 at HS6 HF6 ⊢
      go_wp2
      go_roundg d
      case measure => rw [HJ.out.2.2.2.1]; exact Nat.lt_succ_self d
      case rel => exact ⟨j, _, rfl, ⟨hRel HJ.out.2.2.1 HJ.out.2.2.2.1 HK.out.1, by rw [List.length_set, List.length_set, HK2.out.2.2]; exact HK2.out.2.1, by rw [List.length_set, List.length_set]; exact HK2.out.2.2⟩, HU3, HS6, HF6⟩

end Go.Proofs.Ytdmmlidgipedaaa.PA
