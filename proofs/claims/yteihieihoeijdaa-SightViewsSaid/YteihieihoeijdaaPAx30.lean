-- WRITTEN BY A PROGRAM OF THIS SESSION (a turned copy of the kit's printer), for this claim. Nothing here is trusted: Lean checks it.
import Derived.Test.YteihieihoeijdaaPAx0
import Derived.Test.YteihieihoeijdaaPAx25
import Derived.Test.YteihieihoeijdaaPAxS
import Derived.Test.YteihieihoeijdaaGAsightView
namespace Go.Proofs.Yteihieihoeijdaa.PA
open Go.RowKit Go.Proofs.YteihieihoeijdaaW.PrintWords Go.Proofs.YteihieihoeijdaaW.PrintLast Go.Proofs.YteihieihoeijdaaW.PrintMore
attribute [local go_sem] max2_int min2_int max_two min_two max_three min_three max_four min_four   -- for this text's walks alone
set_option linter.unusedVariables false
set_option linter.unusedSimpArgs false

theorem k27_any (w w' : World) (x : S27) (cs : List Value) (h : k27.K w x cs) : k27.K w' x cs := by
  obtain rfl := k27_open h
  exact k27_mk w' x
/-- append to a slice of the call's own: what was read of it before is read behind it, too. -/
theorem R_append_keep {α : Type} {P : Program} {ops : Array Oper} {o : Oper} {a : Act} {Q : Exit → Act → World → Prop} {Kc : Act → World → Prop} (d : Kd α) (hE : ∀ (w w' : World) (x : α) (cs : List Value), d.K w x cs → d.K w' x cs) {w0 W : World} (base : Nat) (hw : Region.wanted o (yielded ops a.tmps) = true) (s x : Operand) (t e : TypeId) (z : Value) (bytes : Nat)
    (ho : o.op = .call { callee := .builtin .append, args := #[s, x], argTypes := #[t, t] })
    (ht : P.underlying t = some (.slice e)) (hinfo : (P.info? e).map (fun i => (i.zero, i.size, i.bytes)) = some (some z, d.sz, bytes)) (hz : z.cells.size = d.sz) (hs0 : 0 < d.sz) (hb0 : 0 < bytes)
    (v : Value) (xs : List α) (p : α) (cs : List Value) (ok okp : Nat → Prop) (hs : a.eval s = v) (hx : a.eval x = .slice (some ⟨W.heap.size, 0, none⟩) 1 1) (hp : d.M W base okp p cs) (hokp : ∀ k, okp k → ok k ∧ some k ≠ v.ownBlock) (hfresh : ∀ k, W.heap.size ≤ k → ok k)
    (HO : d.R e W base ok v xs) (HB : Below base w0 W) (hbase : base ≤ W.heap.size) (hl : (xs.length + 1) * bytes ≤ 140737488355328)
    (h : ∀ v1 w1, d.R e w1 base ok v1 (xs ++ [p]) → Below base w0 w1 → W.grownBy w1 v.ownBlock → (v1.ownBlock = v.ownBlock ∨ ∃ b, v1.ownBlock = some b ∧ W.heap.size ≤ b) → (∀ A n c, v = .slice A n c → d.C w1 A n xs) → Kc (a.put o.dst v1) w1) :
    if Region.wanted o (yielded ops a.tmps) = true then Oper.wp P o a (W.alloc (.cells cs.toArray e)) Kc Q else Kc (a.put o.dst undef) (W.alloc (.cells cs.toArray e)) := by
  have HO2 := Kd.R_slice HO
  obtain ⟨h0, inner, hown, hr⟩ := HO
  obtain ⟨i0, hi, hzz⟩ := Option.map_eq_some_iff.1 hinfo
  simp only [Prod.mk.injEq] at hzz
  obtain ⟨hz0, hz1, hz2⟩ := hzz
  have hlen : xs.length + 1 ≤ 140737488355328 := Nat.le_trans (Nat.le_mul_of_pos_right _ hb0) hl
  have hcl : cs.length = 1 * i0.size := by rw [d.K_len (d.K_of_M hp), hz1]; simp
  have hnews : ∀ j u, cs[j]? = some u → (W.alloc (.cells cs.toArray e)).cell? ((⟨W.heap.size, 0, none⟩ : Addr).add j) = some u := by simpa using World.news_of_block (cs := cs.toArray) (t := e) (fr := (0, 0)) (heap_alloc_new W (.cells cs.toArray e))
  rw [if_pos hw]
  obtain ⟨v1, w1, hrun, hown1, hg, _, hat⟩ := run_append_own_at (P := P) (W.alloc (.cells cs.toArray e)) base t o.type e i0 z d.sz bytes ht hi hz0 hz1 hz2 hz hs0 v xs.length inner (hown.alloc _) ⟨W.heap.size, 0, none⟩ 1 1 cs (by rw [d.K_len (d.K_of_M hp)]; simp)
    hnews (d.K_one (d.K_of_M hp)) (by simp only [maxLen]; omega) hl (by simp; omega)
  have keep : ∀ g, v.ownBlock = some g → ∀ j u, inner[j]? = some u → w1.cell? ((⟨g, 0, none⟩ : Addr).add j) = some u := by
    intro g hgv j u hu
    rcases hat with hat | hat
    · exact hown1.cells (g := g) (hat.trans hgv) j u (by rw [List.getElem?_append_left (List.getElem?_eq_some_iff.1 hu).1]; exact hu)
    · have hold := (hown.alloc (.cells cs.toArray e)).cells (g := g) hgv
      rcases (hown.alloc (.cells cs.toArray e)).2 with ⟨rfl, _⟩ | ⟨g', cap, cur, rfl, hbg, hgh, hnc, hcm, hcs, htake⟩
      · simp [Value.ownBlock] at hgv
      · obtain rfl : g' = g := by simpa [Value.ownBlock] using hgv
        have hlt : g' < (W.alloc (.cells cs.toArray e)).heap.size := (Array.getElem?_eq_some_iff.1 hgh).1
        by_cases hroom : xs.length + 1 ≤ cap
        · have hfit : xs.length * i0.size + cs.length ≤ cur.size := by rw [hcl, hcs, hz1, ← Nat.add_mul]; exact Nat.mul_le_mul_right _ hroom
          have hr2 := run_append_room (P := P) (ty := o.type) (W.alloc (.cells cs.toArray e)) t e i0 ht hi g' xs.length cap cur hgh ⟨W.heap.size, 0, none⟩ 1 1 cs hcl hnews (d.K_one (d.K_of_M hp)) hroom hfit
          rw [hrun] at hr2
          injection hr2 with e1 e2
          rw [e1] at hat
          simp [Value.ownBlock] at hat
          simp at hlt
          omega
        · have hr2 := run_append_grow (P := P) (ty := o.type) (W.alloc (.cells cs.toArray e)) t e i0 z ht hi hz0 ⟨g', 0, none⟩ xs.length cap inner (by rw [hr.1, hz1]) hold ⟨W.heap.size, 0, none⟩ 1 1 cs hcl hnews (by omega) (by omega) (growslice_fits (by omega) (by rw [hz2]; exact hl))
          rw [hrun] at hr2
          injection hr2 with e1 e2
          rw [e2]
          exact (World.cell?_of_block (heap_alloc_old (W.alloc (.cells cs.toArray e)).drew _ (by rw [add_block]; exact hlt))).trans (hold j u hu)
  unfold Oper.wp execOp
  simp only [ho, resolve, invoke, builtin, Sem.run_bind, Sem.run_pure, Result.andThen_ok, List.map_toArray, List.map_cons, List.map_nil, hs, hx, hrun]
  have hg2 : W.grownBy w1 v.ownBlock := World.grownBy.trans (World.grownBy_alloc W _ _) hg
  have hat2 : v1.ownBlock = v.ownBlock ∨ ∃ b, v1.ownBlock = some b ∧ W.heap.size ≤ b := by
    rcases hat with hat | hat
    · exact .inl hat
    · exact .inr ⟨_, hat, by simp⟩
  refine h v1 w1 (Kd.R_appended h0 hr hp hokp hfresh hown1 hg2 hat2) ((HB.alloc hbase _).grown hg (by simp; omega) (own_base hown)) hg2 hat2 ?_
  intro A n c hv
  subst hv
  obtain ⟨A2, c2, he⟩ := HO2
  injection he with ea en ec
  subst en
  refine ⟨rfl, by omega, fun hn => ?_⟩
  rcases hown.2 with ⟨e0, e1⟩ | ⟨g, cap, cur, e0, _⟩
  · omega
  · injection e0 with f1 f2 f3
    subst f1
    refine ⟨_, rfl, fun j q hj => ⟨(inner.drop (j * d.sz)).take d.sz, d.K_len (d.K_of_M (hr.2 j q hj)), hE _ _ _ _ (d.K_of_M (hr.2 j q hj)), fun i u hu => ?_⟩⟩
    refine keep g rfl (j * d.sz + i) u ?_
    have hi2 := (List.getElem?_eq_some_iff.1 hu).1
    rw [List.length_take] at hi2
    rw [List.getElem?_take_of_lt (by omega), List.getElem?_drop] at hu
    exact hu
/-! ### bivouaclaw21_awake: function 13 -/
def bivouaclaw21_awake.f (k : Nat)  : Option (Bool) := if 8 ≤ 281474976710656 then ((some (List.replicate 8 0 : List Int)).bind fun y220 => ((some (([(⟨0, 0, 0, 0, 1, 2, 0, 0⟩ : S27)] : List (S27)) : List (S27))).bind fun y224 => ((sight_View.f k 3 1 0 y220 y224 0).bind fun bt227 => ((sight_View.f k 3 1 0 y220 y224 1).bind fun bt231 => (if y224.length < 2199023255552 then ((sight_View.f k 3 1 0 y220 (y224 ++ [(⟨1, 2, 0, 0, 0, 0, 0, 1⟩ : S27)]) 0).bind fun bt238 => ((sight_Known.f k 3 1 0 y220 y224 0 3).bind fun bt242 => ((bivouaclaw21_same.f k bt227.1 (([2, 2, 1] : List Int))).bind fun t247 => (if t247 = true then (if bt227.2 = 0 then ((bivouaclaw21_same.f k bt231.1 (([0, 0, 0] : List Int))).bind fun t251 => (if t251 = true then (if bt231.2 = 0 then ((bivouaclaw21_same.f k bt238.1 (([2, 2, 0] : List Int))).bind fun t255 => (if t255 = true then (if bt238.2 = 0 then (if bt242.2 = 4 then (some true) else (none)) else (none)) else (none))) else (none)) else (none))) else (none)) else (none))))) else (none)))))) else (none)
theorem bivouaclaw21_awake.mono : ∀ k, LeO (bivouaclaw21_awake.f k ) (bivouaclaw21_awake.f (k + 1) ) := by
 intro  k
 unfold bivouaclaw21_awake.f
 repeat' first
   | (with_reducible exact bivouaclaw21_same.mono _ _ _)
   | (with_reducible exact sight_Known.mono _ _ _ _ _ _ _ _)
   | (with_reducible exact sight_View.mono _ _ _ _ _ _ _)
   | (with_reducible exact LeO.refl _)
   | (with_reducible exact LeO.none _)
   | (with_reducible refine LeO.ite ?_ ?_)
   | (with_reducible refine LeO.bind ?_ (fun _ => ?_))
   | exact bivouaclaw21_same.mono _ _ _
   | exact sight_Known.mono _ _ _ _ _ _ _ _
   | exact sight_View.mono _ _ _ _ _ _ _
   | exact LeO.none _
   | refine LeO.ite ?_ ?_
   | refine LeO.bind ?_ (fun _ => ?_)
def bivouaclaw21_awake.T5 : Bool × List (List Nat × List Nat) := (true, [([], []), ([], []), ([], []), ([2], [2]), ([1, 3], [1, 3]), ([0, 4, 4], [0, 4]), ([5], [5]), ([6], [6]), ([6], [6]), ([7, 5, 0, 1, 2, 3, 4, 5, 6, 7], [7]), ([8, 9, 0, 1, 2, 3, 4, 5, 6, 7, 8, 9], [8])])
def bivouaclaw21_awake.B5 : List Nat := [0, 0, 0, 4, 14, 31, 63, 127, 127, 255, 1023]
theorem bivouaclaw21_awake.tab5 : rtab .any (opsOf Try.f13 5) = bivouaclaw21_awake.T5 := by kernel_rfl
theorem bivouaclaw21_awake.bits5 : waitsOk bivouaclaw21_awake.T5.2 bivouaclaw21_awake.B5 = true := by kernel_rfl
set_option maxHeartbeats 8000000 in
set_option maxRecDepth 100000 in
theorem bivouaclaw21_awake.calls (k : Nat)  (r : Bool) (w : World) (h : bivouaclaw21_awake.f k  = some r) :
  Calls Try.prog 13 #[] w fun e w' => e = .returned (.bool r) ∧ Below w.heap.size w w' := by
 have hu24 := Try.underlying24
 have hu27 := Try.underlying27
 have HB := zA (Below.refl w.heap.size w)
 have H : (if 8 ≤ 281474976710656 then ((some (List.replicate 8 0 : List Int)).bind fun y220 => ((some (([(⟨0, 0, 0, 0, 1, 2, 0, 0⟩ : S27)] : List (S27)) : List (S27))).bind fun y224 => ((sight_View.f k 3 1 0 y220 y224 0).bind fun bt227 => ((sight_View.f k 3 1 0 y220 y224 1).bind fun bt231 => (if y224.length < 2199023255552 then ((sight_View.f k 3 1 0 y220 (y224 ++ [(⟨1, 2, 0, 0, 0, 0, 0, 1⟩ : S27)]) 0).bind fun bt238 => ((sight_Known.f k 3 1 0 y220 y224 0 3).bind fun bt242 => ((bivouaclaw21_same.f k bt227.1 (([2, 2, 1] : List Int))).bind fun t247 => (if t247 = true then (if bt227.2 = 0 then ((bivouaclaw21_same.f k bt231.1 (([0, 0, 0] : List Int))).bind fun t251 => (if t251 = true then (if bt231.2 = 0 then ((bivouaclaw21_same.f k bt238.1 (([2, 2, 0] : List Int))).bind fun t255 => (if t255 = true then (if bt238.2 = 0 then (if bt242.2 = 4 then (some true) else (none)) else (none)) else (none))) else (none)) else (none))) else (none)) else (none))))) else (none)))))) else (none)) = some r := h
 clear h
 by_cases c1 : 8 ≤ 281474976710656
 ·
  rw [if_pos c1] at H
  have c1b0 := eq_true c1
  have c1b1 : decide (8 ≤ 281474976710656) = true := decide_eq_true c1
  clear c1
  obtain ⟨y220, hy220⟩ : ∃ y_ : List Int, y_ = (List.replicate 8 0) := ⟨_, rfl⟩
  replace H : ((some (([(⟨0, 0, 0, 0, 1, 2, 0, 0⟩ : S27)] : List (S27)) : List (S27))).bind fun y224 => ((sight_View.f k 3 1 0 y220 y224 0).bind fun bt227 => ((sight_View.f k 3 1 0 y220 y224 1).bind fun bt231 => (if y224.length < 2199023255552 then ((sight_View.f k 3 1 0 y220 (y224 ++ [(⟨1, 2, 0, 0, 0, 0, 0, 1⟩ : S27)]) 0).bind fun bt238 => ((sight_Known.f k 3 1 0 y220 y224 0 3).bind fun bt242 => ((bivouaclaw21_same.f k bt227.1 (([2, 2, 1] : List Int))).bind fun t247 => (if t247 = true then (if bt227.2 = 0 then ((bivouaclaw21_same.f k bt231.1 (([0, 0, 0] : List Int))).bind fun t251 => (if t251 = true then (if bt231.2 = 0 then ((bivouaclaw21_same.f k bt238.1 (([2, 2, 0] : List Int))).bind fun t255 => (if t255 = true then (if bt238.2 = 0 then (if bt242.2 = 4 then (some true) else (none)) else (none)) else (none))) else (none)) else (none))) else (none)) else (none))))) else (none))))) = some r := by first | (rw [hy220]; with_reducible exact H) | (have H2_ := (Option.bind_some _ _).symm.trans H; rw [hy220]; with_reducible exact H2_) | (have H2_ := (Option.bind_some _ _).symm.trans H; with_reducible exact H2_) | with_reducible exact H | (rw [hy220]; exact H) | exact H
  have Ny220 := zA hy220
  clear hy220
  obtain ⟨y224, hy224⟩ : ∃ y_ : List (S27), y_ = (([(⟨0, 0, 0, 0, 1, 2, 0, 0⟩ : S27)] : List (S27))) := ⟨_, rfl⟩
  replace H : ((sight_View.f k 3 1 0 y220 y224 0).bind fun bt227 => ((sight_View.f k 3 1 0 y220 y224 1).bind fun bt231 => (if y224.length < 2199023255552 then ((sight_View.f k 3 1 0 y220 (y224 ++ [(⟨1, 2, 0, 0, 0, 0, 0, 1⟩ : S27)]) 0).bind fun bt238 => ((sight_Known.f k 3 1 0 y220 y224 0 3).bind fun bt242 => ((bivouaclaw21_same.f k bt227.1 (([2, 2, 1] : List Int))).bind fun t247 => (if t247 = true then (if bt227.2 = 0 then ((bivouaclaw21_same.f k bt231.1 (([0, 0, 0] : List Int))).bind fun t251 => (if t251 = true then (if bt231.2 = 0 then ((bivouaclaw21_same.f k bt238.1 (([2, 2, 0] : List Int))).bind fun t255 => (if t255 = true then (if bt238.2 = 0 then (if bt242.2 = 4 then (some true) else (none)) else (none)) else (none))) else (none)) else (none))) else (none)) else (none))))) else (none)))) = some r := by first | (rw [hy224]; with_reducible exact H) | (have H2_ := (Option.bind_some _ _).symm.trans H; rw [hy224]; with_reducible exact H2_) | (have H2_ := (Option.bind_some _ _).symm.trans H; with_reducible exact H2_) | with_reducible exact H | (rw [hy224]; exact H) | exact H
  have Ny224 := zA hy224
  clear hy224
  replace H := Option.bind_eq_some_iff.mp H
  obtain ⟨⟨t227, t230⟩, A20, H⟩ := H
  replace H : ((sight_View.f k 3 1 0 y220 y224 1).bind fun bt231 => (if y224.length < 2199023255552 then ((sight_View.f k 3 1 0 y220 (y224 ++ [(⟨1, 2, 0, 0, 0, 0, 0, 1⟩ : S27)]) 0).bind fun bt238 => ((sight_Known.f k 3 1 0 y220 y224 0 3).bind fun bt242 => ((bivouaclaw21_same.f k t227 (([2, 2, 1] : List Int))).bind fun t247 => (if t247 = true then (if t230 = 0 then ((bivouaclaw21_same.f k bt231.1 (([0, 0, 0] : List Int))).bind fun t251 => (if t251 = true then (if bt231.2 = 0 then ((bivouaclaw21_same.f k bt238.1 (([2, 2, 0] : List Int))).bind fun t255 => (if t255 = true then (if bt238.2 = 0 then (if bt242.2 = 4 then (some true) else (none)) else (none)) else (none))) else (none)) else (none))) else (none)) else (none))))) else (none))) = some r := H
  have A2 := zA A20
  clear A20
  replace H := Option.bind_eq_some_iff.mp H
  obtain ⟨⟨t231, t234⟩, A30, H⟩ := H
  replace H : (if y224.length < 2199023255552 then ((sight_View.f k 3 1 0 y220 (y224 ++ [(⟨1, 2, 0, 0, 0, 0, 0, 1⟩ : S27)]) 0).bind fun bt238 => ((sight_Known.f k 3 1 0 y220 y224 0 3).bind fun bt242 => ((bivouaclaw21_same.f k t227 (([2, 2, 1] : List Int))).bind fun t247 => (if t247 = true then (if t230 = 0 then ((bivouaclaw21_same.f k t231 (([0, 0, 0] : List Int))).bind fun t251 => (if t251 = true then (if t234 = 0 then ((bivouaclaw21_same.f k bt238.1 (([2, 2, 0] : List Int))).bind fun t255 => (if t255 = true then (if bt238.2 = 0 then (if bt242.2 = 4 then (some true) else (none)) else (none)) else (none))) else (none)) else (none))) else (none)) else (none))))) else (none)) = some r := H
  have A3 := zA A30
  clear A30
  by_cases c4 : y224.length < 2199023255552
  ·
   rw [if_pos c4] at H
   have LMc4 := zA c4
   clear c4
   obtain ⟨y235, hy235⟩ : ∃ y_ : List (S27), y_ = (y224 ++ [(⟨1, 2, 0, 0, 0, 0, 0, 1⟩ : S27)]) := ⟨_, rfl⟩
   replace H : ((sight_View.f k 3 1 0 y220 y235 0).bind fun bt238 => ((sight_Known.f k 3 1 0 y220 y224 0 3).bind fun bt242 => ((bivouaclaw21_same.f k t227 (([2, 2, 1] : List Int))).bind fun t247 => (if t247 = true then (if t230 = 0 then ((bivouaclaw21_same.f k t231 (([0, 0, 0] : List Int))).bind fun t251 => (if t251 = true then (if t234 = 0 then ((bivouaclaw21_same.f k bt238.1 (([2, 2, 0] : List Int))).bind fun t255 => (if t255 = true then (if bt238.2 = 0 then (if bt242.2 = 4 then (some true) else (none)) else (none)) else (none))) else (none)) else (none))) else (none)) else (none))))) = some r := by first | (rw [hy235]; with_reducible exact H) | (have H2_ := (Option.bind_some _ _).symm.trans H; rw [hy235]; with_reducible exact H2_) | (have H2_ := (Option.bind_some _ _).symm.trans H; with_reducible exact H2_) | with_reducible exact H | (rw [hy235]; exact H) | exact H
   have Ny235 := zA hy235
   clear hy235
   replace H := Option.bind_eq_some_iff.mp H
   obtain ⟨⟨t238, t241⟩, A50, H⟩ := H
   replace H : ((sight_Known.f k 3 1 0 y220 y224 0 3).bind fun bt242 => ((bivouaclaw21_same.f k t227 (([2, 2, 1] : List Int))).bind fun t247 => (if t247 = true then (if t230 = 0 then ((bivouaclaw21_same.f k t231 (([0, 0, 0] : List Int))).bind fun t251 => (if t251 = true then (if t234 = 0 then ((bivouaclaw21_same.f k t238 (([2, 2, 0] : List Int))).bind fun t255 => (if t255 = true then (if t241 = 0 then (if bt242.2 = 4 then (some true) else (none)) else (none)) else (none))) else (none)) else (none))) else (none)) else (none)))) = some r := H
   have A5 := zA A50
   clear A50
   replace H := Option.bind_eq_some_iff.mp H
   obtain ⟨⟨t242, t243⟩, A60, H⟩ := H
   replace H : ((bivouaclaw21_same.f k t227 (([2, 2, 1] : List Int))).bind fun t247 => (if t247 = true then (if t230 = 0 then ((bivouaclaw21_same.f k t231 (([0, 0, 0] : List Int))).bind fun t251 => (if t251 = true then (if t234 = 0 then ((bivouaclaw21_same.f k t238 (([2, 2, 0] : List Int))).bind fun t255 => (if t255 = true then (if t241 = 0 then (if t243 = 4 then (some true) else (none)) else (none)) else (none))) else (none)) else (none))) else (none)) else (none))) = some r := H
   have A6 := zA A60
   clear A60
   obtain ⟨y244, hy244⟩ : ∃ y_ : List Int, y_ = (([2, 2, 1] : List Int)) := ⟨_, rfl⟩
   replace H : ((bivouaclaw21_same.f k t227 y244).bind fun t247 => (if t247 = true then (if t230 = 0 then ((bivouaclaw21_same.f k t231 (([0, 0, 0] : List Int))).bind fun t251 => (if t251 = true then (if t234 = 0 then ((bivouaclaw21_same.f k t238 (([2, 2, 0] : List Int))).bind fun t255 => (if t255 = true then (if t241 = 0 then (if t243 = 4 then (some true) else (none)) else (none)) else (none))) else (none)) else (none))) else (none)) else (none))) = some r := by first | (rw [hy244]; with_reducible exact H) | (have H2_ := (Option.bind_some _ _).symm.trans H; rw [hy244]; with_reducible exact H2_) | (have H2_ := (Option.bind_some _ _).symm.trans H; with_reducible exact H2_) | with_reducible exact H | (rw [hy244]; exact H) | exact H
   have Ny244 := zA hy244
   clear hy244
   replace H := Option.bind_eq_some_iff.mp H
   obtain ⟨t247, A70, H⟩ := H
   replace H : (if t247 = true then (if t230 = 0 then ((bivouaclaw21_same.f k t231 (([0, 0, 0] : List Int))).bind fun t251 => (if t251 = true then (if t234 = 0 then ((bivouaclaw21_same.f k t238 (([2, 2, 0] : List Int))).bind fun t255 => (if t255 = true then (if t241 = 0 then (if t243 = 4 then (some true) else (none)) else (none)) else (none))) else (none)) else (none))) else (none)) else (none)) = some r := H
   have A7 := zA A70
   clear A70
   by_cases c8 : t247 = true
   ·
    subst c8
    have H1 : (if t230 = 0 then ((bivouaclaw21_same.f k t231 (([0, 0, 0] : List Int))).bind fun t251 => (if t251 = true then (if t234 = 0 then ((bivouaclaw21_same.f k t238 (([2, 2, 0] : List Int))).bind fun t255 => (if t255 = true then (if t241 = 0 then (if t243 = 4 then (some true) else (none)) else (none)) else (none))) else (none)) else (none))) else (none)) = some r := by rw [if_pos rfl] at H; exact H
    clear H
    have H := H1
    clear H1
    by_cases c9 : t230 = 0
    ·
     rw [if_pos c9] at H
     have c9b0 : (t230 == 0) = true := beq_iff_eq.mpr c9
     have c9b1 : (t230 != 0) = false := bne_eq_false_iff_eq.mpr c9
     clear c9
     obtain ⟨y248, hy248⟩ : ∃ y_ : List Int, y_ = (([0, 0, 0] : List Int)) := ⟨_, rfl⟩
     replace H : ((bivouaclaw21_same.f k t231 y248).bind fun t251 => (if t251 = true then (if t234 = 0 then ((bivouaclaw21_same.f k t238 (([2, 2, 0] : List Int))).bind fun t255 => (if t255 = true then (if t241 = 0 then (if t243 = 4 then (some true) else (none)) else (none)) else (none))) else (none)) else (none))) = some r := by first | (rw [hy248]; with_reducible exact H) | (have H2_ := (Option.bind_some _ _).symm.trans H; rw [hy248]; with_reducible exact H2_) | (have H2_ := (Option.bind_some _ _).symm.trans H; with_reducible exact H2_) | with_reducible exact H | (rw [hy248]; exact H) | exact H
     have Ny248 := zA hy248
     clear hy248
     replace H := Option.bind_eq_some_iff.mp H
     obtain ⟨t251, A100, H⟩ := H
     replace H : (if t251 = true then (if t234 = 0 then ((bivouaclaw21_same.f k t238 (([2, 2, 0] : List Int))).bind fun t255 => (if t255 = true then (if t241 = 0 then (if t243 = 4 then (some true) else (none)) else (none)) else (none))) else (none)) else (none)) = some r := H
     have A10 := zA A100
     clear A100
     by_cases c11 : t251 = true
     ·
      subst c11
      have H1 : (if t234 = 0 then ((bivouaclaw21_same.f k t238 (([2, 2, 0] : List Int))).bind fun t255 => (if t255 = true then (if t241 = 0 then (if t243 = 4 then (some true) else (none)) else (none)) else (none))) else (none)) = some r := by rw [if_pos rfl] at H; exact H
      clear H
      have H := H1
      clear H1
      by_cases c12 : t234 = 0
      ·
       rw [if_pos c12] at H
       have c12b0 : (t234 == 0) = true := beq_iff_eq.mpr c12
       have c12b1 : (t234 != 0) = false := bne_eq_false_iff_eq.mpr c12
       clear c12
       obtain ⟨y252, hy252⟩ : ∃ y_ : List Int, y_ = (([2, 2, 0] : List Int)) := ⟨_, rfl⟩
       replace H : ((bivouaclaw21_same.f k t238 y252).bind fun t255 => (if t255 = true then (if t241 = 0 then (if t243 = 4 then (some true) else (none)) else (none)) else (none))) = some r := by first | (rw [hy252]; with_reducible exact H) | (have H2_ := (Option.bind_some _ _).symm.trans H; rw [hy252]; with_reducible exact H2_) | (have H2_ := (Option.bind_some _ _).symm.trans H; with_reducible exact H2_) | with_reducible exact H | (rw [hy252]; exact H) | exact H
       have Ny252 := zA hy252
       clear hy252
       replace H := Option.bind_eq_some_iff.mp H
       obtain ⟨t255, A130, H⟩ := H
       replace H : (if t255 = true then (if t241 = 0 then (if t243 = 4 then (some true) else (none)) else (none)) else (none)) = some r := H
       have A13 := zA A130
       clear A130
       by_cases c14 : t255 = true
       ·
        subst c14
        have H1 : (if t241 = 0 then (if t243 = 4 then (some true) else (none)) else (none)) = some r := by rw [if_pos rfl] at H; exact H
        clear H
        have H := H1
        clear H1
        by_cases c15 : t241 = 0
        ·
         rw [if_pos c15] at H
         have c15b0 : (t241 == 0) = true := beq_iff_eq.mpr c15
         have c15b1 : (t241 != 0) = false := bne_eq_false_iff_eq.mpr c15
         clear c15
         by_cases c16 : t243 = 4
         ·
          rw [if_pos c16] at H
          have c16b0 : (t243 == 4) = true := beq_iff_eq.mpr c16
          have c16b1 : (t243 != 4) = false := bne_eq_false_iff_eq.mpr c16
          clear c16
          obtain rfl := Option.some.inj H
          go_enter Try.func13, Try.ntmps13
          try go_wp2_with (first | ((with_reducible refine gate_dst (N := 11) rfl ?_); (try (refine gate_guard (by rfl) ?_; dsimp only)); refine Kd.R_make (Kd.int .u8) _ 5 rfl (N := 11) rfl 22 _ _ rfl 8 rfl rfl Try.underlying22 (.int .u8 0) 1 info5 rfl (by decide) (by omega) 0 (ok := fun _ => True) (okp := fun _ => True) rfl (fun _ hk => hk) trivial (by omega) (by omega) (Below.refl _ _) (Nat.le_refl _) ?_; intro v221 w17 ho18 hb hg_ hnew_; clear hg_ hnew_; (first | rw [← Ny220.out] at ho18 | (simp only [Int.reduceToNat] at ho18; rw [← Ny220.out] at ho18)); have n0_ := zA (Kd.R_lower ho18 (zK (by repeat (first | (with_reducible first | exact HB.out | apply zF | apply zB | apply zE) | exact HB.out)))); have n1_ := zA (zJ (by repeat (first | (with_reducible first | exact HB.out | apply zF | apply zB | apply zE) | exact HB.out)) hb); clear HB; have HO222 := n0_; have HB := n1_; clear n0_ n1_; clear hb ho18; obtain ⟨Ao19, co19, eo19⟩ := Kd.R_slice HO222.out; subst eo19) | ((with_reducible refine gate_dst (N := 1) rfl ?_); (try (refine gate_guard (by rfl) ?_; dsimp only)); refine box_event ?hg (N := 1) ?hd (cs := #[.int .i64 0, .int .i64 0, .int .i64 0, .slice none 0 0]) (t := 24) ?hr ?_; (case hd => rfl); (case hg => rfl); (case hr => first | (go_simp; done) | (go_simp; rfl)); intro gb223 hg w20 hbox hb; have n0_ := zA (zS (by (with_reducible repeat (first | apply zP | apply zQ | apply zR)); exact HO222.out) hb); have n1_ := zA (zJ (by repeat (first | (with_reducible first | exact HB.out | apply zF | apply zB | apply zE) | exact HB.out)) hb); have n2_ := zA (hbox); have n3_ := zA ((by rw [hg]; exact (zK (by repeat (first | (with_reducible first | exact HB.out | apply zF | apply zB | apply zE) | exact HB.out))) : w.heap.size ≤ gb223)); have n4_ := zA ((by rw [hg]; exact (zK (by repeat (first | (with_reducible first | exact HB.out | apply zF | apply zB | apply zE) | exact HB.out))) : w.heap.size ≤ gb223)); clear HO222; clear HB; have HO222 := n0_; have HB := n1_; have BK223 := n2_; have GW223 := n3_; have GE223 := n4_; clear n0_ n1_ n2_ n3_ n4_; clear hb hbox hg; have hcz21_0 : w20.cell? ⟨gb223, 0, none⟩ = some (.int .i64 0) := (zD BK223.out 0).trans rfl; have hcz21_1 : w20.cell? ⟨gb223, 1, none⟩ = some (.int .i64 0) := (zD BK223.out 1).trans rfl; have hcz21_2 : w20.cell? ⟨gb223, 2, none⟩ = some (.int .i64 0) := (zD BK223.out 2).trans rfl; have hcz21_3 : w20.cell? ⟨gb223, 3, none⟩ = some (.slice none 0 0) := (zD BK223.out 3).trans rfl; have hfz21_0 := zG BK223.out 0; have hfz21_1 := zG BK223.out 1; have hfz21_2 := zG BK223.out 2; have hfz21_3 := zG BK223.out 3) | ((with_reducible refine gate_dst (N := 14) rfl ?_); (try (refine gate_guard (by rfl) ?_; dsimp only)); refine Kd.R_lit k27 _ 27 ?hg (N := 14) ?hd (xs := ([(⟨0, 0, 0, 0, 1, 2, 0, 0⟩ : S27)] : List (S27))) (inner := [.int .i64 0, .int .i64 0, .int .i64 0, .int .i64 0, .int .i64 1, .int .i64 2, .int .i64 0, .int .i64 0]) (ok := fun _ => True) (okp := fun _ => True) ?hr ?hp (fun _ hk => hk) trivial (Below.refl _ _) (Nat.le_refl _) (by simp) ?_; (case hd => rfl); (case hg => rfl); (case hr => first | (go_simp; done) | (go_simp; rfl)); (case hp => exact (Reps.c8 (show Kd.M k27 _ _ _ (⟨0, 0, 0, 0, 1, 2, 0, 0⟩ : S27) [.int .i64 0, .int .i64 0, .int .i64 0, .int .i64 0, .int .i64 1, .int .i64 2, .int .i64 0, .int .i64 0] from (k27_mkM _ _ _ (⟨0, 0, 0, 0, 1, 2, 0, 0⟩ : S27) )) (Reps.none _ _))); intro v225 w22 ho23 hb hg_ hnew_; clear hg_ hnew_; (first | rw [← Ny224.out] at ho23 | (simp only [Int.reduceToNat] at ho23; rw [← Ny224.out] at ho23)); have n0_ := zA (zS (by (with_reducible repeat (first | apply zP | apply zQ | apply zR)); exact (Kd.R_mono (Kd.R_far (p := ⟨gb223, 3, none⟩) (Kd.R_far (p := ⟨gb223, 2, none⟩) (Kd.R_far (p := ⟨gb223, 1, none⟩) (Kd.R_far (p := ⟨gb223, 0, none⟩) (Kd.R_types HO222.out BK223.out (by decide)) (fun _ hk => hk.2) (.int .i64 3)) (fun _ hk => hk.2) (.int .i64 1)) (fun _ hk => hk.2) (.int .i64 0)) (fun _ hk => hk.2) (.slice Ao19 y220.length co19)) (fun _ h_ => h_.1))) hb); have n1_ := zA (Kd.R_lower ho23 (zK (by repeat (first | (with_reducible first | exact HB.out | apply zF | apply zB | apply zE | refine zC ?_ GE223.out) | exact HB.out)))); have n2_ := zA (zI (g := gb223) (o := .cells #[.int .i64 3, .int .i64 1, .int .i64 0, .slice Ao19 y220.length co19] 24 (0, 0)) (by (with_reducible repeat (first | refine zN ?_ _ | refine zO ?_ | refine zM ?_ _)); refine zZ (cs := #[.int .i64 3, .int .i64 1, .int .i64 0, .slice none 0 0]) ?_ 3 _ rfl; (with_reducible repeat (first | refine zN ?_ _ | refine zO ?_ | refine zM ?_ _)); refine zZ (cs := #[.int .i64 3, .int .i64 1, .int .i64 0, .slice none 0 0]) ?_ 2 _ rfl; (with_reducible repeat (first | refine zN ?_ _ | refine zO ?_ | refine zM ?_ _)); refine zZ (cs := #[.int .i64 3, .int .i64 0, .int .i64 0, .slice none 0 0]) ?_ 1 _ rfl; (with_reducible repeat (first | refine zN ?_ _ | refine zO ?_ | refine zM ?_ _)); refine zZ (cs := #[.int .i64 0, .int .i64 0, .int .i64 0, .slice none 0 0]) ?_ 0 _ rfl; (with_reducible repeat (first | refine zN ?_ _ | refine zO ?_ | refine zM ?_ _)); exact BK223.out) hb); have n3_ := zA (zJ (by repeat (first | (with_reducible first | exact HB.out | apply zF | apply zB | apply zE | refine zC ?_ GE223.out) | exact HB.out)) hb); clear HO222; clear BK223; clear HB; have HO222 := n0_; have HO226 := n1_; have BK223 := n2_; have HB := n3_; clear n0_ n1_ n2_ n3_; clear hb ho23; have hcz24_0 : w22.cell? ⟨gb223, 0, none⟩ = some (.int .i64 3) := (zD BK223.out 0).trans rfl; have hcz24_1 : w22.cell? ⟨gb223, 1, none⟩ = some (.int .i64 1) := (zD BK223.out 1).trans rfl; have hcz24_2 : w22.cell? ⟨gb223, 2, none⟩ = some (.int .i64 0) := (zD BK223.out 2).trans rfl; have hcz24_3 : w22.cell? ⟨gb223, 3, none⟩ = some (.slice Ao19 y220.length co19) := (zD BK223.out 3).trans rfl; have hfz24_0 := zG BK223.out 0; have hfz24_1 := zG BK223.out 1; have hfz24_2 := zG BK223.out 2; have hfz24_3 := zG BK223.out 3; obtain ⟨Ao25, co25, eo25⟩ := Kd.R_slice HO226.out; subst eo25) | ((with_reducible refine gate_callee (f := 9) rfl ?_); refine goesL_ (some 18) rfl rfl Try.func9 (by kernel_rfl) rfl #[.agg #[.int .i64 3, .int .i64 1, .int .i64 0, .slice Ao19 y220.length co19], .slice Ao25 y224.length co25, .int .i64 0] rfl (by (try simp only [List.map_toArray, List.map_cons, List.map_nil]); first | done | rfl | (simp only [List.length_drop, List.length_take]; rfl)) ?_; (with_reducible refine (sight_View.calls k 3 1 0 _ _ y220 _ _ y224 0 t227 t230 _ ?side1 ?side2 ?side3 ?side4 A2.out).mono ?_); (case side1 => repeat (first | exact (Kd.R_reads' HO222.out).2.2 | (with_reducible refine Kd.C_alloc ?_ _) | (with_reducible refine Kd.C_drewN ?_ _) | (with_reducible refine Kd.C_drew ?_))); (case side2 => exact (Kd.R_reads' HO222.out).2.1); (case side3 => repeat (first | exact (Kd.R_reads' HO226.out).2.2 | (with_reducible refine Kd.C_alloc ?_ _) | (with_reducible refine Kd.C_drewN ?_ _) | (with_reducible refine Kd.C_drew ?_))); (case side4 => exact (Kd.R_reads' HO226.out).2.1); rintro e w26 ⟨v228, rfl, ho0, hb⟩; refine ⟨_, rfl, ?_⟩; have n0_ := zA (zS (by (with_reducible repeat (first | apply zP | apply zQ | apply zR)); exact HO222.out) hb); have n1_ := zA (zS (by (with_reducible repeat (first | apply zP | apply zQ | apply zR)); exact HO226.out) hb); have n2_ := zA (Kd.R_lower ho0 (zK (by repeat (first | (with_reducible first | exact HB.out | apply zF | apply zB | apply zE | refine zC ?_ GE223.out) | exact HB.out)))); have n3_ := zA (zI (g := gb223) (o := .cells #[.int .i64 3, .int .i64 1, .int .i64 0, .slice Ao19 y220.length co19] 24 (0, 0)) (by (with_reducible repeat (first | refine zN ?_ _ | refine zO ?_ | refine zM ?_ _)); exact BK223.out) hb); have n4_ := zA (zJ (by repeat (first | (with_reducible first | exact HB.out | apply zF | apply zB | apply zE | refine zC ?_ GE223.out) | exact HB.out)) hb); clear HO222; clear HO226; clear BK223; clear HB; have HO222 := n0_; have HO226 := n1_; have HO229 := n2_; have BK223 := n3_; have HB := n4_; clear n0_ n1_ n2_ n3_ n4_; (try clear hb); (try clear hb2); (try clear hk); (try clear hi); (try clear ho0); have hcz27_0 : w26.cell? ⟨gb223, 0, none⟩ = some (.int .i64 3) := (zD BK223.out 0).trans rfl; have hcz27_1 : w26.cell? ⟨gb223, 1, none⟩ = some (.int .i64 1) := (zD BK223.out 1).trans rfl; have hcz27_2 : w26.cell? ⟨gb223, 2, none⟩ = some (.int .i64 0) := (zD BK223.out 2).trans rfl; have hcz27_3 : w26.cell? ⟨gb223, 3, none⟩ = some (.slice Ao19 y220.length co19) := (zD BK223.out 3).trans rfl; have hfz27_0 := zG BK223.out 0; have hfz27_1 := zG BK223.out 1; have hfz27_2 := zG BK223.out 2; have hfz27_3 := zG BK223.out 3) | ((with_reducible refine gate_callee (f := 9) rfl ?_); refine goesL_ (some 24) rfl rfl Try.func9 (by kernel_rfl) rfl #[.agg #[.int .i64 3, .int .i64 1, .int .i64 0, .slice Ao19 y220.length co19], .slice Ao25 y224.length co25, .int .i64 1] rfl (by (try simp only [List.map_toArray, List.map_cons, List.map_nil]); first | done | rfl | (simp only [List.length_drop, List.length_take]; rfl)) ?_; (with_reducible refine (sight_View.calls k 3 1 0 _ _ y220 _ _ y224 1 t231 t234 _ ?side1 ?side2 ?side3 ?side4 A3.out).mono ?_); (case side1 => repeat (first | exact (Kd.R_reads' HO222.out).2.2 | (with_reducible refine Kd.C_alloc ?_ _) | (with_reducible refine Kd.C_drewN ?_ _) | (with_reducible refine Kd.C_drew ?_))); (case side2 => exact (Kd.R_reads' HO222.out).2.1); (case side3 => repeat (first | exact (Kd.R_reads' HO226.out).2.2 | (with_reducible refine Kd.C_alloc ?_ _) | (with_reducible refine Kd.C_drewN ?_ _) | (with_reducible refine Kd.C_drew ?_))); (case side4 => exact (Kd.R_reads' HO226.out).2.1); rintro e w28 ⟨v232, rfl, ho0, hb⟩; refine ⟨_, rfl, ?_⟩; have n0_ := zA (zS (by (with_reducible repeat (first | apply zP | apply zQ | apply zR)); exact HO222.out) hb); have n1_ := zA (zS (by (with_reducible repeat (first | apply zP | apply zQ | apply zR)); exact HO226.out) hb); have n2_ := zA (Kd.R_elder' (by (with_reducible repeat (first | apply zP | apply zQ | apply zR)); exact HO229.out) (Kd.R_base ho0) hb); have n3_ := zA (Kd.R_lower (Kd.R_new' ho0 (Kd.R_lt (by (with_reducible repeat (first | apply zP | apply zQ | apply zR)); exact HO229.out))) (zK (by repeat (first | (with_reducible first | exact HB.out | apply zF | apply zB | apply zE | refine zC ?_ GE223.out) | exact HB.out)))); have n4_ := zA (zI (g := gb223) (o := .cells #[.int .i64 3, .int .i64 1, .int .i64 0, .slice Ao19 y220.length co19] 24 (0, 0)) (by (with_reducible repeat (first | refine zN ?_ _ | refine zO ?_ | refine zM ?_ _)); exact BK223.out) hb); have n5_ := zA (zJ (by repeat (first | (with_reducible first | exact HB.out | apply zF | apply zB | apply zE | refine zC ?_ GE223.out) | exact HB.out)) hb); clear HO222; clear HO226; clear HO229; clear BK223; clear HB; have HO222 := n0_; have HO226 := n1_; have HO229 := n2_; have HO233 := n3_; have BK223 := n4_; have HB := n5_; clear n0_ n1_ n2_ n3_ n4_ n5_; (try clear hb); (try clear hb2); (try clear hk); (try clear hi); (try clear ho0)))
          have n0_ := zA (zR HO222.out)
          have n1_ := zA (zR HO226.out)
          have n2_ := zA (zR HO229.out)
          have n3_ := zA (zR HO233.out)
          have n4_ := zA (zO BK223.out)
          have n5_ := zA (zE HB.out)
          clear HO222
          clear HO226
          clear HO229
          clear HO233
          clear BK223
          clear HB
          have HO222 := n0_
          have HO226 := n1_
          have HO229 := n2_
          have HO233 := n3_
          have BK223 := n4_
          have HB := n5_
          clear n0_ n1_ n2_ n3_ n4_ n5_
          refine start_ (n := 11) (S := fun w' => w'.cell? ⟨gb223, 0, none⟩ = some (.int .i64 3) ∧ w'.cell? ⟨gb223, 1, none⟩ = some (.int .i64 1) ∧ w'.cell? ⟨gb223, 2, none⟩ = some (.int .i64 0) ∧ w'.cell? ⟨gb223, 3, none⟩ = some (.slice Ao19 y220.length co19)) (ds := []) (bA 11 0) (by kernel_rfl) rfl rfl ⟨(zD BK223.out 0).trans rfl, (zD BK223.out 1).trans rfl, (zD BK223.out 2).trans rfl, (zD BK223.out 3).trans rfl⟩ (fun hHeld => ?_); refine with_tabW bivouaclaw21_awake.tab5 bivouaclaw21_awake.bits5 (fun HT_ HW_ => ?_)
          generalize w28.drew = w29 at HO222 HO226 HO229 HO233 BK223 HB hHeld ⊢
          refine pure_ (i := 1) (N := some 29) (v := ?_) (a' := ?_) (bA 11 2) rfl rfl (any_of HT_.out (by kernel_rfl)) (fun _ _ _ h => h) (Or.inl ⟨by rfl, ?_⟩) ?_ ?_
          rotate_left
          ·
           intro w'
           go_simp
           with_reducible rfl
          rotate_left
          ·
           simp only [Act.put, sA, sB, sC, i64_w, i32_w]
           rfl
          refine pure_ (i := 2) (N := some 30) (v := ?_) (a' := ?_) (bA 11 6) rfl rfl (any_of HT_.out (by kernel_rfl)) (fun _ _ _ h => h) (Or.inl ⟨by rfl, ?_⟩) ?_ ?_
          rotate_left
          ·
           intro w'
           go_simp
           with_reducible rfl
          rotate_left
          ·
           simp only [Act.put, sA, sB, sC, i64_w, i32_w]
           rfl
          refine take_ (i := 0) (N := some 28) (v := ?_) (a' := ?_) (bA 11 7) rfl rfl (take_ofW HT_.out HW_.out (by kernel_rfl)) (fun _ _ _ h => h) (Or.inl ⟨by rfl, ?_⟩) hHeld ?_ ?_
          rotate_left
          ·
           rintro w' ⟨s0, s1, s2, s3⟩
           go_simp
           with_reducible rfl
          rotate_left
          ·
           simp only [Act.put, sA, sB, sC, i64_w, i32_w]
           rfl
          refine one_ (i := 3) (N := some 31) (bA 11 15) rfl rfl (one_of HT_.out (by kernel_rfl)) (by decide) (fun K hK => ?_)
          refine value_ (w1 := ?_) (v := ?_) (by rfl) rfl ?_ ?_
          rotate_left 2
          ·
           go_simp
           constructor
           ·
            rfl
           ·
            rfl
          refine hK.out _ _ ⟨(zD (zM BK223.out _) 0).trans rfl, (zD (zM BK223.out _) 1).trans rfl, (zD (zM BK223.out _) 2).trans rfl, (zD (zM BK223.out _) 3).trans rfl⟩ (fun hHeld => ?_)
          clear hK K
          refine norm_ (a' := ?_) ?_ ?_
          rotate_left
          ·
           show Act.put _ (some 31) _ = _
           simp only [Act.put, sA, sB, sC, i64_w, i32_w]
           rfl
          refine one_ (i := 4) (N := some 32) (bA 11 31) rfl rfl (one_of HT_.out (by kernel_rfl)) (by decide) (fun K hK => ?_)
          refine R_append_keep k27 k27_any (w0 := w) w.heap.size (by rfl) (.tmp 29) (.tmp 31) 25 27 (.agg #[(.int .i64 0), (.int .i64 0), (.int .i64 0), (.int .i64 0), (.int .i64 0), (.int .i64 0), (.int .i64 0), (.int .i64 0)]) 64 rfl Try.underlying25 info27 rfl (by decide) (by omega) (.slice Ao25 y224.length co25) y224 (⟨1, 2, 0, 0, 0, 0, 0, 1⟩ : S27) [.int .i64 1, .int .i64 2, .int .i64 0, .int .i64 0, .int .i64 0, .int .i64 0, .int .i64 0, .int .i64 1] (fun _ => True) (fun _ => False) rfl rfl ?aP (fun _ hk => hk.elim) ?aF ?aO ?aB ?aS ?aL ?_
          (case aP => exact k27_mkM _ _ _ (⟨1, 2, 0, 0, 0, 0, 0, 1⟩ : S27))
          (case aB => exact (by repeat (first | (with_reducible first | exact HB.out | apply zF | apply zB | apply zE | refine zC ?_ GE223.out) | exact HB.out)))
          (case aF => exact (fun _ _ => trivial))
          (case aO => exact (by (with_reducible repeat (first | apply zP | apply zQ | apply zR)); exact HO226.out))
          (case aS => exact (zK (by repeat (first | (with_reducible first | exact HB.out | apply zF | apply zB | apply zE | refine zC ?_ GE223.out) | exact HB.out))))
          (case aL => have := LMc4.out; omega)
          intro v236 w30 ho hb hg hat hk_
          have HCAP_ := zA (Kd.R_reads' HO226.out).2.1
          have HKEEP_ := zA (hk_ _ _ _ rfl)
          clear hk_
          rw [← Ny235.out] at ho
          have n0_ := zA (Kd.R_over' (by (with_reducible repeat (first | apply zP | apply zQ | apply zR)); exact HO222.out) (Kd.R_typed (by (with_reducible repeat (first | apply zP | apply zQ | apply zR)); exact HO226.out)) (by decide) hg)
          have n1_ := zA (blk_grown (g := gb223) (o := .cells #[.int .i64 3, .int .i64 1, .int .i64 0, .slice Ao19 y220.length co19] 24 (0, 0)) (by (with_reducible repeat (first | refine zN ?_ _ | refine zO ?_ | refine zM ?_ _)); exact BK223.out) hg (Kd.R_ne HO226.out BK223.out (by decide)))
          have n2_ := zA (Kd.R_over' (by (with_reducible repeat (first | apply zP | apply zQ | apply zR)); exact HO229.out) (Kd.R_typed (by (with_reducible repeat (first | apply zP | apply zQ | apply zR)); exact HO226.out)) (by decide) hg)
          have n3_ := zA (Kd.R_over' (by (with_reducible repeat (first | apply zP | apply zQ | apply zR)); exact HO233.out) (Kd.R_typed (by (with_reducible repeat (first | apply zP | apply zQ | apply zR)); exact HO226.out)) (by decide) hg)
          have n4_ := zA (hb)
          have n5_ := zA (ho)
          clear HO222
          clear BK223
          clear HO229
          clear HO233
          clear HB
          clear HO226
          have HO222 := n0_
          have BK223 := n1_
          have HO229 := n2_
          have HO233 := n3_
          have HB := n4_
          have HO237 := n5_
          clear n0_ n1_ n2_ n3_ n4_ n5_
          clear ho hb hg hat
          obtain ⟨Ao31, co31, eo31⟩ := Kd.R_slice HO237.out
          (first | subst eo31 | (injection eo31 with f1_ f2_ f3_; have f4_ := f1_.symm; have f5_ := f3_.symm; clear f1_ f2_ f3_; subst f4_; subst f5_))
          refine hK.out _ _ ⟨(zD BK223.out 0).trans rfl, (zD BK223.out 1).trans rfl, (zD BK223.out 2).trans rfl, (zD BK223.out 3).trans rfl⟩ (fun hHeld => ?_)
          clear hK K
          refine norm_ (a' := ?_) ?_ ?_
          rotate_left
          ·
           show Act.put _ (some 32) _ = _
           simp only [Act.put, sA, sB, sC, i64_w, i32_w]
           rfl
          refine one_ (i := 5) (N := some 33) (bA 11 63) rfl rfl (one_of HT_.out (by kernel_rfl)) (by decide) (fun K hK => ?_)
          refine goes_ Try.func9 (by kernel_rfl) rfl #[.agg #[.int .i64 3, .int .i64 1, .int .i64 0, .slice Ao19 y220.length co19], .slice Ao31 y235.length co31, .int .i64 0] (by rfl) rfl rfl (by (try simp only [List.map_toArray, List.map_cons, List.map_nil]); first | done | rfl | (simp only [List.length_drop, List.length_take]; rfl)) ?_
          with_reducible refine (sight_View.calls k 3 1 0 _ _ y220 _ _ y235 0 t238 t241 _ ?side1 ?side2 ?side3 ?side4 A5.out).mono ?_
          (case side1 => repeat (first | exact (Kd.R_reads' HO222.out).2.2 | (with_reducible refine Kd.C_alloc ?_ _) | (with_reducible refine Kd.C_drewN ?_ _) | (with_reducible refine Kd.C_drew ?_)))
          (case side2 => exact (Kd.R_reads' HO222.out).2.1)
          (case side3 => repeat (first | exact (Kd.R_reads' HO237.out).2.2 | (with_reducible refine Kd.C_alloc ?_ _) | (with_reducible refine Kd.C_drewN ?_ _) | (with_reducible refine Kd.C_drew ?_)))
          (case side4 => exact (Kd.R_reads' HO237.out).2.1)
          rintro e w32 ⟨v239, rfl, ho0, hb⟩
          refine ⟨_, rfl, ?_⟩
          have HKEEP2_ := zA (Kd.C_below (by (with_reducible repeat (first | refine Kd.C_alloc ?_ _ | refine Kd.C_drewN ?_ _ | refine Kd.C_drew ?_)); exact HKEEP_.out) hb)
          clear HKEEP_
          have n0_ := zA (zS (by (with_reducible repeat (first | apply zP | apply zQ | apply zR)); exact HO222.out) hb)
          have n1_ := zA (Kd.R_elder' (by (with_reducible repeat (first | apply zP | apply zQ | apply zR)); exact HO229.out) (Kd.R_base ho0) hb)
          have n2_ := zA (Kd.R_elder' (by (with_reducible repeat (first | apply zP | apply zQ | apply zR)); exact HO233.out) (Kd.R_base ho0) hb)
          have n3_ := zA (zS (by (with_reducible repeat (first | apply zP | apply zQ | apply zR)); exact HO237.out) hb)
          have n4_ := zA (Kd.R_lower (Kd.R_new' (Kd.R_new' ho0 (Kd.R_lt (by (with_reducible repeat (first | apply zP | apply zQ | apply zR)); exact HO229.out))) (Kd.R_lt (by (with_reducible repeat (first | apply zP | apply zQ | apply zR)); exact HO233.out))) (zK (by repeat (first | (with_reducible first | exact HB.out | apply zF | apply zB | apply zE | refine zC ?_ GE223.out) | exact HB.out))))
          have n5_ := zA (zI (g := gb223) (o := .cells #[.int .i64 3, .int .i64 1, .int .i64 0, .slice Ao19 y220.length co19] 24 (0, 0)) (by (with_reducible repeat (first | refine zN ?_ _ | refine zO ?_ | refine zM ?_ _)); exact BK223.out) hb)
          have n6_ := zA (zJ (by repeat (first | (with_reducible first | exact HB.out | apply zF | apply zB | apply zE | refine zC ?_ GE223.out) | exact HB.out)) hb)
          clear HO222
          clear HO229
          clear HO233
          clear HO237
          clear BK223
          clear HB
          have HO222 := n0_
          have HO229 := n1_
          have HO233 := n2_
          have HO237 := n3_
          have HO240 := n4_
          have BK223 := n5_
          have HB := n6_
          clear n0_ n1_ n2_ n3_ n4_ n5_ n6_
          (try clear hb)
          (try clear hb2)
          (try clear hk)
          (try clear hi)
          (try clear ho0)
          refine hK.out _ _ ⟨(zD BK223.out 0).trans rfl, (zD BK223.out 1).trans rfl, (zD BK223.out 2).trans rfl, (zD BK223.out 3).trans rfl⟩ (fun hHeld => ?_)
          clear hK K
          refine norm_ (a' := ?_) ?_ ?_
          rotate_left
          ·
           show Act.put _ (some 33) _ = _
           simp only [Act.put, sA, sB, sC, i64_w, i32_w]
           rfl
          refine pure_ (i := 6) (N := some 27) (v := ?_) (a' := ?_) (bA 11 127) rfl rfl (any_of HT_.out (by kernel_rfl)) (fun _ _ _ h => h) (Or.inl ⟨by rfl, ?_⟩) ?_ ?_
          rotate_left
          ·
           intro w'
           go_simp
           with_reducible rfl
          rotate_left
          ·
           simp only [Act.put, sA, sB, sC, i64_w, i32_w]
           rfl
          refine pure_ (i := 7) (N := some 34) (v := ?_) (a' := ?_) (bA 11 255) rfl rfl (any_of HT_.out (by kernel_rfl)) (fun _ _ _ h => h) (Or.inl ⟨by rfl, ?_⟩) ?_ ?_
          rotate_left
          ·
           intro w'
           go_simp
           with_reducible rfl
          rotate_left
          ·
           simp only [Act.put, sA, sB, sC, i64_w, i32_w]
           rfl
          refine pure_ (i := 8) (N := some 35) (v := ?_) (a' := ?_) (bA 11 511) rfl rfl (any_of HT_.out (by kernel_rfl)) (fun _ _ _ h => h) (Or.inl ⟨by rfl, ?_⟩) ?_ ?_
          rotate_left
          ·
           intro w'
           go_simp
           with_reducible rfl
          rotate_left
          ·
           simp only [Act.put, sA, sB, sC, i64_w, i32_w]
           rfl
          refine pure_ (i := 9) (N := some 7) (v := ?_) (a' := ?_) (bA 11 1023) rfl rfl (any_of HT_.out (by kernel_rfl)) (fun _ _ _ h => h) (Or.inl ⟨by rfl, ?_⟩) ?_ ?_
          rotate_left
          ·
           intro w'
           go_simp
           with_reducible rfl
          rotate_left
          ·
           simp only [Act.put, sA, sB, sC, i64_w, i32_w]
           rfl
          refine pure_ (i := 10) (N := some 8) (v := ?_) (a' := ?_) (bA 11 2047) rfl rfl (any_of HT_.out (by kernel_rfl)) (fun _ _ _ h => h) (Or.inl ⟨by rfl, ?_⟩) ?_ ?_
          rotate_left
          ·
           intro w'
           go_simp
           with_reducible rfl
          rotate_left
          ·
           simp only [Act.put, sA, sB, sC, i64_w, i32_w]
           rfl
          refine done_ (done_of HT_.out (by kernel_rfl)) ?_
          have hcz33_0 : w32.cell? ⟨gb223, 0, none⟩ = some (.int .i64 3) := (zD BK223.out 0).trans rfl
          have hcz33_1 : w32.cell? ⟨gb223, 1, none⟩ = some (.int .i64 1) := (zD BK223.out 1).trans rfl
          have hcz33_2 : w32.cell? ⟨gb223, 2, none⟩ = some (.int .i64 0) := (zD BK223.out 2).trans rfl
          have hcz33_3 : w32.cell? ⟨gb223, 3, none⟩ = some (.slice Ao19 y220.length co19) := (zD BK223.out 3).trans rfl
          have hfz33_0 := zG BK223.out 0
          have hfz33_1 := zG BK223.out 1
          have hfz33_2 := zG BK223.out 2
          have hfz33_3 := zG BK223.out 3
          try go_wp2_with (first | ((with_reducible refine gate_callee (f := 10) rfl ?_); refine goesL_ (some 39) rfl rfl Try.func10 (by kernel_rfl) rfl #[.agg #[.int .i64 3, .int .i64 1, .int .i64 0, .slice Ao19 y220.length co19], .slice Ao25 y224.length co25, .int .i64 0, .int .i64 3] rfl (by (try simp only [List.map_toArray, List.map_cons, List.map_nil]); first | done | rfl | (simp only [List.length_drop, List.length_take]; rfl)) ?_; (with_reducible refine (sight_Known.calls k 3 1 0 _ _ y220 _ _ y224 0 3 t242 t243 _ ?side1 ?side2 ?side3 ?side4 A6.out).mono ?_); (case side1 => repeat (first | exact (Kd.R_reads' HO222.out).2.2 | (with_reducible refine Kd.C_alloc ?_ _) | (with_reducible refine Kd.C_drewN ?_ _) | (with_reducible refine Kd.C_drew ?_))); (case side2 => exact (Kd.R_reads' HO222.out).2.1); (case side3 => repeat (first | exact HKEEP2_.out | (with_reducible refine Kd.C_alloc ?_ _) | (with_reducible refine Kd.C_drewN ?_ _) | (with_reducible refine Kd.C_drew ?_))); (case side4 => exact HCAP_.out); rintro e w34 ⟨rfl, hb⟩; refine ⟨_, rfl, ?_⟩; have n0_ := zA (zS (by (with_reducible repeat (first | apply zP | apply zQ | apply zR)); exact HO222.out) hb); have n1_ := zA (zS (by (with_reducible repeat (first | apply zP | apply zQ | apply zR)); exact HO229.out) hb); have n2_ := zA (zS (by (with_reducible repeat (first | apply zP | apply zQ | apply zR)); exact HO233.out) hb); have n3_ := zA (zS (by (with_reducible repeat (first | apply zP | apply zQ | apply zR)); exact HO237.out) hb); have n4_ := zA (zS (by (with_reducible repeat (first | apply zP | apply zQ | apply zR)); exact HO240.out) hb); have n5_ := zA (zI (g := gb223) (o := .cells #[.int .i64 3, .int .i64 1, .int .i64 0, .slice Ao19 y220.length co19] 24 (0, 0)) (by (with_reducible repeat (first | refine zN ?_ _ | refine zO ?_ | refine zM ?_ _)); exact BK223.out) hb); have n6_ := zA (zJ (by repeat (first | (with_reducible first | exact HB.out | apply zF | apply zB | apply zE | refine zC ?_ GE223.out) | exact HB.out)) hb); clear HO222; clear HO229; clear HO233; clear HO237; clear HO240; clear BK223; clear HB; have HO222 := n0_; have HO229 := n1_; have HO233 := n2_; have HO237 := n3_; have HO240 := n4_; have BK223 := n5_; have HB := n6_; clear n0_ n1_ n2_ n3_ n4_ n5_ n6_; (try clear hb); (try clear hb2); (try clear hk); (try clear hi)) | ((with_reducible refine gate_dst (N := 43) rfl ?_); (try (refine gate_guard (by rfl) ?_; dsimp only)); refine Kd.R_lit (Kd.int .i64) _ 3 ?hg (N := 43) ?hd (xs := ([2, 2, 1] : List Int)) (inner := [.int .i64 2, .int .i64 2, .int .i64 1]) (ok := fun _ => True) (okp := fun _ => True) ?hr ?hp (fun _ hk => hk) trivial (Below.refl _ _) (Nat.le_refl _) (by simp) ?_; (case hd => rfl); (case hg => rfl); (case hr => first | (go_simp; done) | (go_simp; rfl)); (case hp => exact (Reps.one (show Kd.M (Kd.int .i64) _ _ _ 2 [.int .i64 2] from rfl) (Reps.one (show Kd.M (Kd.int .i64) _ _ _ 2 [.int .i64 2] from rfl) (Reps.one (show Kd.M (Kd.int .i64) _ _ _ 1 [.int .i64 1] from rfl) (Reps.none _ _))))); intro v245 w35 ho36 hb hg_ hnew_; clear hg_ hnew_; (first | rw [← Ny244.out] at ho36 | (simp only [Int.reduceToNat] at ho36; rw [← Ny244.out] at ho36)); have n0_ := zA (zS (by (with_reducible repeat (first | apply zP | apply zQ | apply zR)); exact HO222.out) hb); have n1_ := zA (Kd.R_elder' (by (with_reducible repeat (first | apply zP | apply zQ | apply zR)); exact HO229.out) (Kd.R_base ho36) hb); have n2_ := zA (Kd.R_elder' (by (with_reducible repeat (first | apply zP | apply zQ | apply zR)); exact HO233.out) (Kd.R_base ho36) hb); have n3_ := zA (zS (by (with_reducible repeat (first | apply zP | apply zQ | apply zR)); exact HO237.out) hb); have n4_ := zA (Kd.R_elder' (by (with_reducible repeat (first | apply zP | apply zQ | apply zR)); exact HO240.out) (Kd.R_base ho36) hb); have n5_ := zA (Kd.R_lower (Kd.R_new' (Kd.R_new' (Kd.R_new' ho36 (Kd.R_lt (by (with_reducible repeat (first | apply zP | apply zQ | apply zR)); exact HO229.out))) (Kd.R_lt (by (with_reducible repeat (first | apply zP | apply zQ | apply zR)); exact HO233.out))) (Kd.R_lt (by (with_reducible repeat (first | apply zP | apply zQ | apply zR)); exact HO240.out))) (zK (by repeat (first | (with_reducible first | exact HB.out | apply zF | apply zB | apply zE | refine zC ?_ GE223.out) | exact HB.out)))); have n6_ := zA (zI (g := gb223) (o := .cells #[.int .i64 3, .int .i64 1, .int .i64 0, .slice Ao19 y220.length co19] 24 (0, 0)) (by (with_reducible repeat (first | refine zN ?_ _ | refine zO ?_ | refine zM ?_ _)); exact BK223.out) hb); have n7_ := zA (zJ (by repeat (first | (with_reducible first | exact HB.out | apply zF | apply zB | apply zE | refine zC ?_ GE223.out) | exact HB.out)) hb); clear HO222; clear HO229; clear HO233; clear HO237; clear HO240; clear BK223; clear HB; have HO222 := n0_; have HO229 := n1_; have HO233 := n2_; have HO237 := n3_; have HO240 := n4_; have HO246 := n5_; have BK223 := n6_; have HB := n7_; clear n0_ n1_ n2_ n3_ n4_ n5_ n6_ n7_; clear hb ho36; obtain ⟨Ao37, co37, eo37⟩ := Kd.R_slice HO229.out; subst eo37; obtain ⟨Ao38, co38, eo38⟩ := Kd.R_slice HO246.out; subst eo38) | ((with_reducible refine gate_callee (f := 15) rfl ?_); refine goesL_ (some 44) rfl rfl Try.func15 (by kernel_rfl) rfl #[.slice Ao37 t227.length co37, .slice Ao38 y244.length co38] rfl (by (try simp only [List.map_toArray, List.map_cons, List.map_nil]); first | done | rfl | (simp only [List.length_drop, List.length_take]; rfl)) ?_; (with_reducible refine (bivouaclaw21_same.calls k _ _ t227 _ _ y244 true _ ?side1 ?side2 ?side3 ?side4 A7.out).mono ?_); (case side1 => repeat (first | exact (Kd.R_reads' HO229.out).2.2 | (with_reducible refine Kd.C_alloc ?_ _) | (with_reducible refine Kd.C_drewN ?_ _) | (with_reducible refine Kd.C_drew ?_))); (case side2 => exact (Kd.R_reads' HO229.out).2.1); (case side3 => repeat (first | exact (Kd.R_reads' HO246.out).2.2 | (with_reducible refine Kd.C_alloc ?_ _) | (with_reducible refine Kd.C_drewN ?_ _) | (with_reducible refine Kd.C_drew ?_))); (case side4 => exact (Kd.R_reads' HO246.out).2.1); rintro e w' ⟨rfl, ⟨nd, rfl⟩⟩; refine ⟨_, rfl, ?_⟩) | ((with_reducible refine gate_dst (N := 51) rfl ?_); (try (refine gate_guard (by rfl) ?_; dsimp only)); refine Kd.R_lit (Kd.int .i64) _ 3 ?hg (N := 51) ?hd (xs := ([0, 0, 0] : List Int)) (inner := [.int .i64 0, .int .i64 0, .int .i64 0]) (ok := fun _ => True) (okp := fun _ => True) ?hr ?hp (fun _ hk => hk) trivial (Below.refl _ _) (Nat.le_refl _) (by simp) ?_; (case hd => rfl); (case hg => rfl); (case hr => first | (go_simp; done) | (go_simp; rfl)); (case hp => exact (Reps.one (show Kd.M (Kd.int .i64) _ _ _ 0 [.int .i64 0] from rfl) (Reps.one (show Kd.M (Kd.int .i64) _ _ _ 0 [.int .i64 0] from rfl) (Reps.one (show Kd.M (Kd.int .i64) _ _ _ 0 [.int .i64 0] from rfl) (Reps.none _ _))))); intro v249 w39 ho40 hb hg_ hnew_; clear hg_ hnew_; (first | rw [← Ny248.out] at ho40 | (simp only [Int.reduceToNat] at ho40; rw [← Ny248.out] at ho40)); have n0_ := zA (zS (by (with_reducible repeat (first | apply zP | apply zQ | apply zR)); exact HO222.out) hb); have n1_ := zA (Kd.R_elder' (by (with_reducible repeat (first | apply zP | apply zQ | apply zR)); exact HO229.out) (Kd.R_base ho40) hb); have n2_ := zA (Kd.R_elder' (by (with_reducible repeat (first | apply zP | apply zQ | apply zR)); exact HO233.out) (Kd.R_base ho40) hb); have n3_ := zA (zS (by (with_reducible repeat (first | apply zP | apply zQ | apply zR)); exact HO237.out) hb); have n4_ := zA (Kd.R_elder' (by (with_reducible repeat (first | apply zP | apply zQ | apply zR)); exact HO240.out) (Kd.R_base ho40) hb); have n5_ := zA (Kd.R_elder' (by (with_reducible repeat (first | apply zP | apply zQ | apply zR)); exact HO246.out) (Kd.R_base ho40) hb); have n6_ := zA (Kd.R_lower (Kd.R_new' (Kd.R_new' (Kd.R_new' (Kd.R_new' ho40 (Kd.R_lt (by (with_reducible repeat (first | apply zP | apply zQ | apply zR)); exact HO229.out))) (Kd.R_lt (by (with_reducible repeat (first | apply zP | apply zQ | apply zR)); exact HO233.out))) (Kd.R_lt (by (with_reducible repeat (first | apply zP | apply zQ | apply zR)); exact HO240.out))) (Kd.R_lt (by (with_reducible repeat (first | apply zP | apply zQ | apply zR)); exact HO246.out))) (zK (by repeat (first | (with_reducible first | exact HB.out | apply zF | apply zB | apply zE | refine zC ?_ GE223.out) | exact HB.out)))); have n7_ := zA (zI (g := gb223) (o := .cells #[.int .i64 3, .int .i64 1, .int .i64 0, .slice Ao19 y220.length co19] 24 (0, 0)) (by (with_reducible repeat (first | refine zN ?_ _ | refine zO ?_ | refine zM ?_ _)); exact BK223.out) hb); have n8_ := zA (zJ (by repeat (first | (with_reducible first | exact HB.out | apply zF | apply zB | apply zE | refine zC ?_ GE223.out) | exact HB.out)) hb); clear HO222; clear HO229; clear HO233; clear HO237; clear HO240; clear HO246; clear BK223; clear HB; have HO222 := n0_; have HO229 := n1_; have HO233 := n2_; have HO237 := n3_; have HO240 := n4_; have HO246 := n5_; have HO250 := n6_; have BK223 := n7_; have HB := n8_; clear n0_ n1_ n2_ n3_ n4_ n5_ n6_ n7_ n8_; clear hb ho40; obtain ⟨Ao41, co41, eo41⟩ := Kd.R_slice HO233.out; subst eo41; obtain ⟨Ao42, co42, eo42⟩ := Kd.R_slice HO250.out; subst eo42) | (go_at_call 15; (with_reducible refine (bivouaclaw21_same.calls k _ _ t231 _ _ y248 true _ ?side1 ?side2 ?side3 ?side4 A10.out).mono ?_); (case side1 => repeat (first | exact (Kd.R_reads' HO233.out).2.2 | (with_reducible refine Kd.C_alloc ?_ _) | (with_reducible refine Kd.C_drewN ?_ _) | (with_reducible refine Kd.C_drew ?_))); (case side2 => exact (Kd.R_reads' HO233.out).2.1); (case side3 => repeat (first | exact (Kd.R_reads' HO250.out).2.2 | (with_reducible refine Kd.C_alloc ?_ _) | (with_reducible refine Kd.C_drewN ?_ _) | (with_reducible refine Kd.C_drew ?_))); (case side4 => exact (Kd.R_reads' HO250.out).2.1); rintro e w' ⟨rfl, ⟨nd, rfl⟩⟩) | ((with_reducible refine gate_dst (N := 60) rfl ?_); (try (refine gate_guard (by rfl) ?_; dsimp only)); refine Kd.R_lit (Kd.int .i64) _ 3 ?hg (N := 60) ?hd (xs := ([2, 2, 0] : List Int)) (inner := [.int .i64 2, .int .i64 2, .int .i64 0]) (ok := fun _ => True) (okp := fun _ => True) ?hr ?hp (fun _ hk => hk) trivial (Below.refl _ _) (Nat.le_refl _) (by simp) ?_; (case hd => rfl); (case hg => rfl); (case hr => first | (go_simp; done) | (go_simp; rfl)); (case hp => exact (Reps.one (show Kd.M (Kd.int .i64) _ _ _ 2 [.int .i64 2] from rfl) (Reps.one (show Kd.M (Kd.int .i64) _ _ _ 2 [.int .i64 2] from rfl) (Reps.one (show Kd.M (Kd.int .i64) _ _ _ 0 [.int .i64 0] from rfl) (Reps.none _ _))))); intro v253 w43 ho44 hb hg_ hnew_; clear hg_ hnew_; (first | rw [← Ny252.out] at ho44 | (simp only [Int.reduceToNat] at ho44; rw [← Ny252.out] at ho44)); have n0_ := zA (zS (by (with_reducible repeat (first | apply zP | apply zQ | apply zR)); exact HO222.out) hb); have n1_ := zA (Kd.R_elder' (by (with_reducible repeat (first | apply zP | apply zQ | apply zR)); exact HO229.out) (Kd.R_base ho44) hb); have n2_ := zA (Kd.R_elder' (by (with_reducible repeat (first | apply zP | apply zQ | apply zR)); exact HO233.out) (Kd.R_base ho44) hb); have n3_ := zA (zS (by (with_reducible repeat (first | apply zP | apply zQ | apply zR)); exact HO237.out) hb); have n4_ := zA (Kd.R_elder' (by (with_reducible repeat (first | apply zP | apply zQ | apply zR)); exact HO240.out) (Kd.R_base ho44) hb); have n5_ := zA (Kd.R_elder' (by (with_reducible repeat (first | apply zP | apply zQ | apply zR)); exact HO246.out) (Kd.R_base ho44) hb); have n6_ := zA (Kd.R_elder' (by (with_reducible repeat (first | apply zP | apply zQ | apply zR)); exact HO250.out) (Kd.R_base ho44) hb); have n7_ := zA (Kd.R_lower (Kd.R_new' (Kd.R_new' (Kd.R_new' (Kd.R_new' (Kd.R_new' ho44 (Kd.R_lt (by (with_reducible repeat (first | apply zP | apply zQ | apply zR)); exact HO229.out))) (Kd.R_lt (by (with_reducible repeat (first | apply zP | apply zQ | apply zR)); exact HO233.out))) (Kd.R_lt (by (with_reducible repeat (first | apply zP | apply zQ | apply zR)); exact HO240.out))) (Kd.R_lt (by (with_reducible repeat (first | apply zP | apply zQ | apply zR)); exact HO246.out))) (Kd.R_lt (by (with_reducible repeat (first | apply zP | apply zQ | apply zR)); exact HO250.out))) (zK (by repeat (first | (with_reducible first | exact HB.out | apply zF | apply zB | apply zE | refine zC ?_ GE223.out) | exact HB.out)))); have n8_ := zA (zI (g := gb223) (o := .cells #[.int .i64 3, .int .i64 1, .int .i64 0, .slice Ao19 y220.length co19] 24 (0, 0)) (by (with_reducible repeat (first | refine zN ?_ _ | refine zO ?_ | refine zM ?_ _)); exact BK223.out) hb); have n9_ := zA (zJ (by repeat (first | (with_reducible first | exact HB.out | apply zF | apply zB | apply zE | refine zC ?_ GE223.out) | exact HB.out)) hb); clear HO222; clear HO229; clear HO233; clear HO237; clear HO240; clear HO246; clear HO250; clear BK223; clear HB; have HO222 := n0_; have HO229 := n1_; have HO233 := n2_; have HO237 := n3_; have HO240 := n4_; have HO246 := n5_; have HO250 := n6_; have HO254 := n7_; have BK223 := n8_; have HB := n9_; clear n0_ n1_ n2_ n3_ n4_ n5_ n6_ n7_ n8_ n9_; clear hb ho44; obtain ⟨Ao45, co45, eo45⟩ := Kd.R_slice HO240.out; subst eo45; obtain ⟨Ao46, co46, eo46⟩ := Kd.R_slice HO254.out; subst eo46) | (go_at_call 15; (with_reducible refine (bivouaclaw21_same.calls k _ _ t238 _ _ y252 true _ ?side1 ?side2 ?side3 ?side4 A13.out).mono ?_); (case side1 => repeat (first | exact (Kd.R_reads' HO240.out).2.2 | (with_reducible refine Kd.C_alloc ?_ _) | (with_reducible refine Kd.C_drewN ?_ _) | (with_reducible refine Kd.C_drew ?_))); (case side2 => exact (Kd.R_reads' HO240.out).2.1); (case side3 => repeat (first | exact (Kd.R_reads' HO254.out).2.2 | (with_reducible refine Kd.C_alloc ?_ _) | (with_reducible refine Kd.C_drewN ?_ _) | (with_reducible refine Kd.C_drew ?_))); (case side4 => exact (Kd.R_reads' HO254.out).2.1); rintro e w' ⟨rfl, ⟨nd, rfl⟩⟩))
          go_ret
          exact ⟨by first | rfl | (simp [zU, zT] <;> rfl) | (simp [*, zU, zT] <;> rfl) | (rw [zW (by assumption)]; rfl), by repeat (first | (with_reducible first | exact HB.out | apply zF | apply zB | apply zE | refine zC ?_ GE223.out) | exact HB.out)⟩
         ·
          rw [if_neg c16] at H
          exact absurd H (by simp)
        ·
         rw [if_neg c15] at H
         exact absurd H (by simp)
       ·
        replace c14 := Bool.eq_false_iff.mpr c14
        subst c14
        have H1 : (none) = some r := by rw [if_neg (show ¬ (false = true) by decide)] at H; exact H
        clear H
        have H := H1
        clear H1
        exact absurd H (by simp)
      ·
       rw [if_neg c12] at H
       exact absurd H (by simp)
     ·
      replace c11 := Bool.eq_false_iff.mpr c11
      subst c11
      have H1 : (none) = some r := by rw [if_neg (show ¬ (false = true) by decide)] at H; exact H
      clear H
      have H := H1
      clear H1
      exact absurd H (by simp)
    ·
     rw [if_neg c9] at H
     exact absurd H (by simp)
   ·
    replace c8 := Bool.eq_false_iff.mpr c8
    subst c8
    have H1 : (none) = some r := by rw [if_neg (show ¬ (false = true) by decide)] at H; exact H
    clear H
    have H := H1
    clear H1
    exact absurd H (by simp)
  ·
   rw [if_neg c4] at H
   exact absurd H (by simp)
 ·
  rw [if_neg c1] at H
  exact absurd H (by simp)

end Go.Proofs.Yteihieihoeijdaa.PA
