-- WRITTEN BY A PROGRAM OF THIS SESSION (a turned copy of the kit's printer), for this claim. Nothing here is trusted: Lean checks it.
import Derived.Test.YteihieihoeijdaaPAx0
import Derived.Test.YteihieihoeijdaaPAxS
namespace Go.Proofs.Yteihieihoeijdaa.PA
open Go.RowKit Go.Proofs.YteihieihoeijdaaW.PrintWords Go.Proofs.YteihieihoeijdaaW.PrintLast Go.Proofs.YteihieihoeijdaaW.PrintMore
attribute [local go_sem] max2_int min2_int max_two min_two max_three min_three max_four min_four   -- for this text's walks alone
set_option linter.unusedVariables false
set_option linter.unusedSimpArgs false
theorem aMx14 {p : Prop} (h : p) : Aside0 p := zA h
theorem bNx14 {w : World} {g : Nat} {o : Obj} (h : w.heap[g]? = some o) (n : Nat) : (w.drewN n).heap[g]? = some o := h
theorem bDx14 {w : World} {g : Nat} {o : Obj} (h : w.heap[g]? = some o) : w.drew.heap[g]? = some o := h
theorem bKx14 {w : World} {g : Nat} {o : Obj} (h : w.heap[g]? = some o) (o' : Obj) : (w.alloc o').heap[g]? = some o := zM h o'
theorem bCx14 {w : World} {g : Nat} {t : TypeId} {cs : Array Value} (h : w.heap[g]? = some (.cells cs t (0, 0))) (i : Nat) : w.cell? ⟨g, i, none⟩ = cs[i]? := zD h i
theorem bFx14 {w : World} {g : Nat} {t : TypeId} {cs : Array Value} (h : w.heap[g]? = some (.cells cs t (0, 0))) (i : Nat) : w.frozen? ⟨g, i, none⟩ = false := zG h i

attribute [local go_sem high] eqA57
/-! ### ray_Line: function 50 -/
mutual
def ray_Line.l0 : Nat → Int → Int → Int → List (S57) → Int → Int → Int → Int → Int → Int → Option ((List (S57)) × Int)
 | 0, _, _, _, _, _, _, _, _, _, _ => none
 | k + 1, x2, x3, x10, x14, x155000, x155001, x156000, x156001, x157000, x157001 => if (!(x155000 == x2) || (!(x155001 == x3))) = true then (ray_Line.l1 k x2 x3 x10 x14 0 x155000 x155001 x156000 x156001 x157000 x157001) else (some (x14, 0))
def ray_Line.l1 : Nat → Int → Int → Int → List (S57) → Int → Int → Int → Int → Int → Int → Int → Option ((List (S57)) × Int)
 | 0, _, _, _, _, _, _, _, _, _, _, _ => none
 | k + 1, x2, x3, x10, x14, x52, x155000, x155001, x156000, x156001, x157000, x157001 => if x52 < 2 then (if x52 = 0 then (ray_Line.l2 k x2 x3 x10 x14 x52 x52 x155000 x155001 x156000 x156001 (wrap64 (x157000 + (wrap64 (2 * x156000)))) x157001) else (if x52 = 1 then (ray_Line.l2 k x2 x3 x10 x14 x52 x52 x155000 x155001 x156000 x156001 x157000 (wrap64 (x157001 + (wrap64 (2 * x156001))))) else (none))) else (if x14.length < 8796093022208 then (ray_Line.l0 k x2 x3 x10 (x14 ++ [(⟨x155000, x155001⟩ : S57)]) x155000 x155001 x156000 x156001 x157000 x157001) else (none))
def ray_Line.j3 : Nat → Int → Int → Int → List (S57) → Int → Int → Int → Int → Int → Int → Int → Int → Option ((List (S57)) × Int)
 | 0, _, _, _, _, _, _, _, _, _, _, _, _ => none
 | k + 1, x2, x3, x10, x14, x15, x52, x155000, x155001, x156000, x156001, x157000, x157001 => ray_Line.l3 k x2 x3 x10 x14 x15 x52 x155000 x155001 x156000 x156001 x157000 x157001
def ray_Line.l3 : Nat → Int → Int → Int → List (S57) → Int → Int → Int → Int → Int → Int → Int → Int → Option ((List (S57)) × Int)
 | 0, _, _, _, _, _, _, _, _, _, _, _, _ => none
 | k + 1, x2, x3, x10, x14, x15, x52, x155000, x155001, x156000, x156001, x157000, x157001 => if x15 = 0 then (if x157000 < 0 then (ray_Line.l3 k x2 x3 x10 x14 x15 x52 (wrap64 (x155000 - 1)) x155001 x156000 x156001 (wrap64 (x157000 + (wrap64 (2 * x10)))) x157001) else (ray_Line.l1 k x2 x3 x10 x14 (wrap64 (x52 + 1)) x155000 x155001 x156000 x156001 x157000 x157001)) else (if x15 = 1 then (if x157001 < 0 then (ray_Line.l3 k x2 x3 x10 x14 x15 x52 x155000 (wrap64 (x155001 - 1)) x156000 x156001 x157000 (wrap64 (x157001 + (wrap64 (2 * x10))))) else (ray_Line.l1 k x2 x3 x10 x14 (wrap64 (x52 + 1)) x155000 x155001 x156000 x156001 x157000 x157001)) else (none))
def ray_Line.l2 : Nat → Int → Int → Int → List (S57) → Int → Int → Int → Int → Int → Int → Int → Int → Option ((List (S57)) × Int)
 | 0, _, _, _, _, _, _, _, _, _, _, _, _ => none
 | k + 1, x2, x3, x10, x14, x15, x52, x155000, x155001, x156000, x156001, x157000, x157001 => if x15 = 0 then (if x157000 ≥ (wrap64 (2 * x10)) then (ray_Line.l2 k x2 x3 x10 x14 x15 x52 (wrap64 (x155000 + 1)) x155001 x156000 x156001 (wrap64 (x157000 - (wrap64 (2 * x10)))) x157001) else (ray_Line.j3 k x2 x3 x10 x14 x15 x52 x155000 x155001 x156000 x156001 x157000 x157001)) else (if x15 = 1 then (if x157001 ≥ (wrap64 (2 * x10)) then (ray_Line.l2 k x2 x3 x10 x14 x15 x52 x155000 (wrap64 (x155001 + 1)) x156000 x156001 x157000 (wrap64 (x157001 - (wrap64 (2 * x10))))) else (ray_Line.j3 k x2 x3 x10 x14 x15 x52 x155000 x155001 x156000 x156001 x157000 x157001)) else (none))
end
def ray_Line.f (k : Nat) (a0 : Int) (a1 : Int) (a2 : Int) (a3 : Int) : Option ((List (S57)) × Int) := (ray_inside.f k (([a0, a1, a2, a3] : List Int))).bind fun t151 => (if t151 = true then ((ray_size.f (wrap64 (a2 - a0))).bind fun t152 => ((ray_size.f (wrap64 (a3 - a1))).bind fun t153 => (ray_Line.l0 k a2 a3 (mx t152 t153) (([(⟨a0, a1⟩ : S57)] : List (S57))) a0 a1 (wrap64 (a2 - a0)) (wrap64 (a3 - a1)) (mx t152 t153) (mx t152 t153)))) else (some (([] : List (S57)), 4)))
theorem ray_Line.mono_l : ∀ k, (∀ y0 y1 y2 y3 y4 y5 y6 y7 y8 y9, LeO (ray_Line.l0 k y0 y1 y2 y3 y4 y5 y6 y7 y8 y9) (ray_Line.l0 (k + 1) y0 y1 y2 y3 y4 y5 y6 y7 y8 y9)) ∧ (∀ y0 y1 y2 y3 y4 y5 y6 y7 y8 y9 y10, LeO (ray_Line.l1 k y0 y1 y2 y3 y4 y5 y6 y7 y8 y9 y10) (ray_Line.l1 (k + 1) y0 y1 y2 y3 y4 y5 y6 y7 y8 y9 y10)) ∧ (∀ y0 y1 y2 y3 y4 y5 y6 y7 y8 y9 y10 y11, LeO (ray_Line.j3 k y0 y1 y2 y3 y4 y5 y6 y7 y8 y9 y10 y11) (ray_Line.j3 (k + 1) y0 y1 y2 y3 y4 y5 y6 y7 y8 y9 y10 y11)) ∧ (∀ y0 y1 y2 y3 y4 y5 y6 y7 y8 y9 y10 y11, LeO (ray_Line.l3 k y0 y1 y2 y3 y4 y5 y6 y7 y8 y9 y10 y11) (ray_Line.l3 (k + 1) y0 y1 y2 y3 y4 y5 y6 y7 y8 y9 y10 y11)) ∧ (∀ y0 y1 y2 y3 y4 y5 y6 y7 y8 y9 y10 y11, LeO (ray_Line.l2 k y0 y1 y2 y3 y4 y5 y6 y7 y8 y9 y10 y11) (ray_Line.l2 (k + 1) y0 y1 y2 y3 y4 y5 y6 y7 y8 y9 y10 y11))
 | 0 => ⟨fun _ _ _ _ _ _ _ _ _ _ r h => by simp [ray_Line.l0] at h, fun _ _ _ _ _ _ _ _ _ _ _ r h => by simp [ray_Line.l1] at h, fun _ _ _ _ _ _ _ _ _ _ _ _ r h => by simp [ray_Line.j3] at h, fun _ _ _ _ _ _ _ _ _ _ _ _ r h => by simp [ray_Line.l3] at h, fun _ _ _ _ _ _ _ _ _ _ _ _ r h => by simp [ray_Line.l2] at h⟩
 | k + 1 => by
  obtain ⟨ih0, ih1, ih2, ih3, ih4⟩ := ray_Line.mono_l k
  refine ⟨?_, ?_, ?_, ?_, ?_⟩
  ·
   intro y0 y1 y2 y3 y4 y5 y6 y7 y8 y9
   unfold ray_Line.l0
   repeat' first
   | (with_reducible exact ih0 _ _ _ _ _ _ _ _ _ _)
   | (with_reducible exact ih1 _ _ _ _ _ _ _ _ _ _ _)
   | (with_reducible exact ih2 _ _ _ _ _ _ _ _ _ _ _ _)
   | (with_reducible exact ih3 _ _ _ _ _ _ _ _ _ _ _ _)
   | (with_reducible exact ih4 _ _ _ _ _ _ _ _ _ _ _ _)
   | (with_reducible exact ray_inside.mono _ _)
   | (with_reducible exact LeO.refl _)
   | (with_reducible exact LeO.none _)
   | (with_reducible refine LeO.ite ?_ ?_)
   | (with_reducible refine LeO.bind ?_ (fun _ => ?_))
   | exact ih0 _ _ _ _ _ _ _ _ _ _
   | exact ih1 _ _ _ _ _ _ _ _ _ _ _
   | exact ih2 _ _ _ _ _ _ _ _ _ _ _ _
   | exact ih3 _ _ _ _ _ _ _ _ _ _ _ _
   | exact ih4 _ _ _ _ _ _ _ _ _ _ _ _
   | exact ray_inside.mono _ _
   | exact LeO.none _
   | refine LeO.ite ?_ ?_
   | refine LeO.bind ?_ (fun _ => ?_)
  ·
   intro y0 y1 y2 y3 y4 y5 y6 y7 y8 y9 y10
   unfold ray_Line.l1
   repeat' first
   | (with_reducible exact ih0 _ _ _ _ _ _ _ _ _ _)
   | (with_reducible exact ih1 _ _ _ _ _ _ _ _ _ _ _)
   | (with_reducible exact ih2 _ _ _ _ _ _ _ _ _ _ _ _)
   | (with_reducible exact ih3 _ _ _ _ _ _ _ _ _ _ _ _)
   | (with_reducible exact ih4 _ _ _ _ _ _ _ _ _ _ _ _)
   | (with_reducible exact ray_inside.mono _ _)
   | (with_reducible exact LeO.refl _)
   | (with_reducible exact LeO.none _)
   | (with_reducible refine LeO.ite ?_ ?_)
   | (with_reducible refine LeO.bind ?_ (fun _ => ?_))
   | exact ih0 _ _ _ _ _ _ _ _ _ _
   | exact ih1 _ _ _ _ _ _ _ _ _ _ _
   | exact ih2 _ _ _ _ _ _ _ _ _ _ _ _
   | exact ih3 _ _ _ _ _ _ _ _ _ _ _ _
   | exact ih4 _ _ _ _ _ _ _ _ _ _ _ _
   | exact ray_inside.mono _ _
   | exact LeO.none _
   | refine LeO.ite ?_ ?_
   | refine LeO.bind ?_ (fun _ => ?_)
  ·
   intro y0 y1 y2 y3 y4 y5 y6 y7 y8 y9 y10 y11
   unfold ray_Line.j3
   repeat' first
   | (with_reducible exact ih0 _ _ _ _ _ _ _ _ _ _)
   | (with_reducible exact ih1 _ _ _ _ _ _ _ _ _ _ _)
   | (with_reducible exact ih2 _ _ _ _ _ _ _ _ _ _ _ _)
   | (with_reducible exact ih3 _ _ _ _ _ _ _ _ _ _ _ _)
   | (with_reducible exact ih4 _ _ _ _ _ _ _ _ _ _ _ _)
   | (with_reducible exact ray_inside.mono _ _)
   | (with_reducible exact LeO.refl _)
   | (with_reducible exact LeO.none _)
   | (with_reducible refine LeO.ite ?_ ?_)
   | (with_reducible refine LeO.bind ?_ (fun _ => ?_))
   | exact ih0 _ _ _ _ _ _ _ _ _ _
   | exact ih1 _ _ _ _ _ _ _ _ _ _ _
   | exact ih2 _ _ _ _ _ _ _ _ _ _ _ _
   | exact ih3 _ _ _ _ _ _ _ _ _ _ _ _
   | exact ih4 _ _ _ _ _ _ _ _ _ _ _ _
   | exact ray_inside.mono _ _
   | exact LeO.none _
   | refine LeO.ite ?_ ?_
   | refine LeO.bind ?_ (fun _ => ?_)
  ·
   intro y0 y1 y2 y3 y4 y5 y6 y7 y8 y9 y10 y11
   unfold ray_Line.l3
   repeat' first
   | (with_reducible exact ih0 _ _ _ _ _ _ _ _ _ _)
   | (with_reducible exact ih1 _ _ _ _ _ _ _ _ _ _ _)
   | (with_reducible exact ih2 _ _ _ _ _ _ _ _ _ _ _ _)
   | (with_reducible exact ih3 _ _ _ _ _ _ _ _ _ _ _ _)
   | (with_reducible exact ih4 _ _ _ _ _ _ _ _ _ _ _ _)
   | (with_reducible exact ray_inside.mono _ _)
   | (with_reducible exact LeO.refl _)
   | (with_reducible exact LeO.none _)
   | (with_reducible refine LeO.ite ?_ ?_)
   | (with_reducible refine LeO.bind ?_ (fun _ => ?_))
   | exact ih0 _ _ _ _ _ _ _ _ _ _
   | exact ih1 _ _ _ _ _ _ _ _ _ _ _
   | exact ih2 _ _ _ _ _ _ _ _ _ _ _ _
   | exact ih3 _ _ _ _ _ _ _ _ _ _ _ _
   | exact ih4 _ _ _ _ _ _ _ _ _ _ _ _
   | exact ray_inside.mono _ _
   | exact LeO.none _
   | refine LeO.ite ?_ ?_
   | refine LeO.bind ?_ (fun _ => ?_)
  ·
   intro y0 y1 y2 y3 y4 y5 y6 y7 y8 y9 y10 y11
   unfold ray_Line.l2
   repeat' first
   | (with_reducible exact ih0 _ _ _ _ _ _ _ _ _ _)
   | (with_reducible exact ih1 _ _ _ _ _ _ _ _ _ _ _)
   | (with_reducible exact ih2 _ _ _ _ _ _ _ _ _ _ _ _)
   | (with_reducible exact ih3 _ _ _ _ _ _ _ _ _ _ _ _)
   | (with_reducible exact ih4 _ _ _ _ _ _ _ _ _ _ _ _)
   | (with_reducible exact ray_inside.mono _ _)
   | (with_reducible exact LeO.refl _)
   | (with_reducible exact LeO.none _)
   | (with_reducible refine LeO.ite ?_ ?_)
   | (with_reducible refine LeO.bind ?_ (fun _ => ?_))
   | exact ih0 _ _ _ _ _ _ _ _ _ _
   | exact ih1 _ _ _ _ _ _ _ _ _ _ _
   | exact ih2 _ _ _ _ _ _ _ _ _ _ _ _
   | exact ih3 _ _ _ _ _ _ _ _ _ _ _ _
   | exact ih4 _ _ _ _ _ _ _ _ _ _ _ _
   | exact ray_inside.mono _ _
   | exact LeO.none _
   | refine LeO.ite ?_ ?_
   | refine LeO.bind ?_ (fun _ => ?_)
theorem ray_Line.mono : ∀ a0 a1 a2 a3 k, LeO (ray_Line.f k a0 a1 a2 a3) (ray_Line.f (k + 1) a0 a1 a2 a3) := by
 intro a0 a1 a2 a3 k
 obtain ⟨ih0, ih1, ih2, ih3, ih4⟩ := ray_Line.mono_l k
 unfold ray_Line.f
 repeat' first
   | (with_reducible exact ih0 _ _ _ _ _ _ _ _ _ _)
   | (with_reducible exact ih1 _ _ _ _ _ _ _ _ _ _ _)
   | (with_reducible exact ih2 _ _ _ _ _ _ _ _ _ _ _ _)
   | (with_reducible exact ih3 _ _ _ _ _ _ _ _ _ _ _ _)
   | (with_reducible exact ih4 _ _ _ _ _ _ _ _ _ _ _ _)
   | (with_reducible exact ray_inside.mono _ _)
   | (with_reducible exact LeO.refl _)
   | (with_reducible exact LeO.none _)
   | (with_reducible refine LeO.ite ?_ ?_)
   | (with_reducible refine LeO.bind ?_ (fun _ => ?_))
   | exact ih0 _ _ _ _ _ _ _ _ _ _
   | exact ih1 _ _ _ _ _ _ _ _ _ _ _
   | exact ih2 _ _ _ _ _ _ _ _ _ _ _ _
   | exact ih3 _ _ _ _ _ _ _ _ _ _ _ _
   | exact ih4 _ _ _ _ _ _ _ _ _ _ _ _
   | exact ray_inside.mono _ _
   | exact LeO.none _
   | refine LeO.ite ?_ ?_
   | refine LeO.bind ?_ (fun _ => ?_)
def ray_Line.T12 : Bool × List (List Nat × List Nat) := (true, [([], []), ([0], [0]), ([1], [1]), ([], []), ([3], [3]), ([4], [4]), ([5], [5]), ([2, 6], [2, 6]), ([0, 0, 1, 2, 3, 4, 5, 6, 7], [0]), ([8, 7, 0, 1, 2, 3, 4, 5, 6, 7], [7, 8])])
def ray_Line.B12 : List Nat := [0, 1, 3, 0, 8, 24, 56, 127, 255, 511]
theorem ray_Line.tab12 : rtab .any (opsOf Try.f50 12) = ray_Line.T12 := by kernel_rfl
theorem ray_Line.bits12 : waitsOk ray_Line.T12.2 ray_Line.B12 = true := by kernel_rfl
set_option maxHeartbeats 8000000 in
set_option maxRecDepth 100000 in
theorem ray_Line.calls (k : Nat) (a0 : Int) (a1 : Int) (a2 : Int) (a3 : Int) (r1 : List (S57)) (r2 : Int) (w : World) (h : ray_Line.f k a0 a1 a2 a3 = some (r1, r2)) :
  Calls Try.prog 50 #[.int .i64 a0, .int .i64 a1, .int .i64 a2, .int .i64 a3] w fun e w' => ∃ v0_ : Value, e = .returned (.tuple #[v0_, .int .i64 r2]) ∧ Kd.R k57 57 w' w.heap.size (fun _ => True) v0_ r1 ∧ Below w.heap.size w w' := by
 have hu57 := Try.underlying57
 have HB := aMx14 (Below.refl w.heap.size w)
 have H : ((ray_inside.f k (([a0, a1, a2, a3] : List Int))).bind fun t151 => (if t151 = true then ((ray_size.f (wrap64 (a2 - a0))).bind fun t152 => ((ray_size.f (wrap64 (a3 - a1))).bind fun t153 => (ray_Line.l0 k a2 a3 (mx t152 t153) (([(⟨a0, a1⟩ : S57)] : List (S57))) a0 a1 (wrap64 (a2 - a0)) (wrap64 (a3 - a1)) (mx t152 t153) (mx t152 t153)))) else (some (([] : List (S57)), 4)))) = some (r1, r2) := h
 clear h
 obtain ⟨y148, hy148⟩ : ∃ y_ : List Int, y_ = (([a0, a1, a2, a3] : List Int)) := ⟨_, rfl⟩
 replace H : ((ray_inside.f k y148).bind fun t151 => (if t151 = true then ((ray_size.f (wrap64 (a2 - a0))).bind fun t152 => ((ray_size.f (wrap64 (a3 - a1))).bind fun t153 => (ray_Line.l0 k a2 a3 (mx t152 t153) (([(⟨a0, a1⟩ : S57)] : List (S57))) a0 a1 (wrap64 (a2 - a0)) (wrap64 (a3 - a1)) (mx t152 t153) (mx t152 t153)))) else (some (([] : List (S57)), 4)))) = some (r1, r2) := by first | (rw [hy148]; with_reducible exact H) | (have H2_ := (Option.bind_some _ _).symm.trans H; rw [hy148]; with_reducible exact H2_) | (have H2_ := (Option.bind_some _ _).symm.trans H; with_reducible exact H2_) | with_reducible exact H | (rw [hy148]; exact H) | exact H
 have Ny148 := aMx14 hy148
 clear hy148
 replace H := Option.bind_eq_some_iff.mp H
 obtain ⟨t151, A50, H⟩ := H
 replace H : (if t151 = true then ((ray_size.f (wrap64 (a2 - a0))).bind fun t152 => ((ray_size.f (wrap64 (a3 - a1))).bind fun t153 => (ray_Line.l0 k a2 a3 (mx t152 t153) (([(⟨a0, a1⟩ : S57)] : List (S57))) a0 a1 (wrap64 (a2 - a0)) (wrap64 (a3 - a1)) (mx t152 t153) (mx t152 t153)))) else (some (([] : List (S57)), 4))) = some (r1, r2) := H
 have A5 := aMx14 A50
 clear A50
 by_cases c6 : t151 = true
 ·
  subst c6
  have H1 : ((ray_size.f (wrap64 (a2 - a0))).bind fun t152 => ((ray_size.f (wrap64 (a3 - a1))).bind fun t153 => (ray_Line.l0 k a2 a3 (mx t152 t153) (([(⟨a0, a1⟩ : S57)] : List (S57))) a0 a1 (wrap64 (a2 - a0)) (wrap64 (a3 - a1)) (mx t152 t153) (mx t152 t153)))) = some (r1, r2) := by rw [if_pos rfl] at H; exact H
  clear H
  have H := H1
  clear H1
  replace H := Option.bind_eq_some_iff.mp H
  obtain ⟨t152, A70, H⟩ := H
  replace H : ((ray_size.f (wrap64 (a3 - a1))).bind fun t153 => (ray_Line.l0 k a2 a3 (mx t152 t153) (([(⟨a0, a1⟩ : S57)] : List (S57))) a0 a1 (wrap64 (a2 - a0)) (wrap64 (a3 - a1)) (mx t152 t153) (mx t152 t153))) = some (r1, r2) := H
  have A7 := aMx14 A70
  clear A70
  replace H := Option.bind_eq_some_iff.mp H
  obtain ⟨t153, A80, H⟩ := H
  replace H : (ray_Line.l0 k a2 a3 (mx t152 t153) (([(⟨a0, a1⟩ : S57)] : List (S57))) a0 a1 (wrap64 (a2 - a0)) (wrap64 (a3 - a1)) (mx t152 t153) (mx t152 t153)) = some (r1, r2) := H
  have A8 := aMx14 A80
  clear A80
  obtain ⟨ji9, hji9⟩ : ∃ j_ : Int, (mx t152 t153) = j_ := ⟨_, rfl⟩
  replace H : (ray_Line.l0 k a2 a3 ji9 (([(⟨a0, a1⟩ : S57)] : List (S57))) a0 a1 (wrap64 (a2 - a0)) (wrap64 (a3 - a1)) ji9 ji9) = some (r1, r2) := by first | (rw [hji9] at H; exact H) | (simp only [hji9] at H ⊢; exact H)
  (try rw [hji9] at A5)
  (try rw [hji9] at A7)
  (try rw [hji9] at A8)
  have hji9_ : (if t152 < t153 then t153 else t152) = ji9 := hji9
  obtain ⟨y157, hy157⟩ : ∃ y_ : List (S57), y_ = (([(⟨a0, a1⟩ : S57)] : List (S57))) := ⟨_, rfl⟩
  replace H : (ray_Line.l0 k a2 a3 ji9 y157 a0 a1 (wrap64 (a2 - a0)) (wrap64 (a3 - a1)) ji9 ji9) = some (r1, r2) := by first | (rw [hy157]; with_reducible exact H) | (have H2_ := (Option.bind_some _ _).symm.trans H; rw [hy157]; with_reducible exact H2_) | (have H2_ := (Option.bind_some _ _).symm.trans H; with_reducible exact H2_) | with_reducible exact H | (rw [hy157]; exact H) | exact H
  have Ny157 := aMx14 hy157
  clear hy157
  have H' := aMx14 H
  clear H
  go_enter Try.func50, Try.ntmps50
  go_wp2_with (first | ((with_reducible refine gate_dst (N := 20) rfl ?_); refine Kd.R_lit (Kd.int .i64) _ 3 ?hg (N := 20) ?hd (xs := ([a0, a1, a2, a3] : List Int)) (inner := [.int .i64 a0, .int .i64 a1, .int .i64 a2, .int .i64 a3]) (ok := fun _ => True) (okp := fun _ => True) ?hr ?hp (fun _ hk => hk) trivial (Below.refl _ _) (Nat.le_refl _) (by simp) ?_; (case hd => rfl); (case hg => rfl); (case hr => first | (go_simp; done) | (go_simp; rfl)); (case hp => exact (Reps.one (show Kd.M (Kd.int .i64) _ _ _ a0 [.int .i64 a0] from rfl) (Reps.one (show Kd.M (Kd.int .i64) _ _ _ a1 [.int .i64 a1] from rfl) (Reps.one (show Kd.M (Kd.int .i64) _ _ _ a2 [.int .i64 a2] from rfl) (Reps.one (show Kd.M (Kd.int .i64) _ _ _ a3 [.int .i64 a3] from rfl) (Reps.none _ _)))))); intro v149 w10 ho11 hb hg_ hnew_; clear hg_ hnew_; (first | rw [← Ny148.out] at ho11 | (simp only [Int.reduceToNat] at ho11; rw [← Ny148.out] at ho11)); have n0_ := aMx14 (Kd.R_lower ho11 (zK (by repeat (first | (with_reducible first | exact HB.out | apply zF | apply zB | apply zE) | exact HB.out)))); have n1_ := aMx14 (zJ (by repeat (first | (with_reducible first | exact HB.out | apply zF | apply zB | apply zE) | exact HB.out)) hb); clear HB; have HO150 := n0_; have HB := n1_; clear n0_ n1_; clear hb ho11; obtain ⟨Ao12, co12, eo12⟩ := Kd.R_slice HO150.out; subst eo12) | ((with_reducible refine gate_callee (f := 59) rfl ?_); refine goesL_ (some 21) rfl rfl Try.func59 (by kernel_rfl) rfl #[.slice Ao12 y148.length co12] rfl (by (try simp only [List.map_toArray, List.map_cons, List.map_nil]); first | done | rfl | (simp only [List.length_drop, List.length_take]; rfl)) ?_; (with_reducible refine (ray_inside.calls k _ _ y148 true _ ?side1 ?side2 A5.out).mono ?_); (case side1 => repeat (first | exact (Kd.R_reads' HO150.out).2.2 | (with_reducible refine Kd.C_alloc ?_ _) | (with_reducible refine Kd.C_drewN ?_ _) | (with_reducible refine Kd.C_drew ?_))); (case side2 => exact (Kd.R_reads' HO150.out).2.1); rintro e w' ⟨rfl, ⟨nd, rfl⟩⟩; refine ⟨_, rfl, ?_⟩; (try (rw [drewN_self w10]; generalize hq_ : World.drewN w10 _ = w10; have n0_ : Aside0 (Kd.R (Kd.int .i64) 3 w10 w.heap.size (fun _ => True) (.slice Ao12 y148.length co12) y148) := ⟨by rw [← hq_]; exact (by (with_reducible repeat (first | apply zP | apply zQ | apply zR)); exact HO150.out)⟩; have n1_ : Aside0 (Below w.heap.size w w10) := ⟨by rw [← hq_]; exact (by repeat (first | (with_reducible first | exact HB.out | apply zF | apply zB | apply zE) | exact HB.out))⟩; clear HO150 HB hq_; have HO150 := n0_; have HB := n1_; clear n0_ n1_))) | ((with_reducible refine gate_callee (f := 60) rfl ?_); refine goesL_ (some 26) rfl rfl Try.func60 (by kernel_rfl) rfl #[.int .i64 (wrap64 (a2 - a0))] rfl (by (try simp only [List.map_toArray, List.map_cons, List.map_nil]); first | done | rfl | (simp only [List.length_drop, List.length_take]; rfl)) ?_; (with_reducible refine (ray_size.calls (wrap64 (a2 - a0)) t152 _ A7.out).mono ?_); rintro e w13 ⟨rfl, hb⟩; refine ⟨_, rfl, ?_⟩; have n0_ := aMx14 (zS (by (with_reducible repeat (first | apply zP | apply zQ | apply zR)); exact HO150.out) hb); have n1_ := aMx14 (zJ (by repeat (first | (with_reducible first | exact HB.out | apply zF | apply zB | apply zE) | exact HB.out)) hb); clear HO150; clear HB; have HO150 := n0_; have HB := n1_; clear n0_ n1_; (try clear hb); (try clear hb2); (try clear hk); (try clear hi)) | ((with_reducible refine gate_callee (f := 60) rfl ?_); refine goesL_ (some 30) rfl rfl Try.func60 (by kernel_rfl) rfl #[.int .i64 (wrap64 (a3 - a1))] rfl (by (try simp only [List.map_toArray, List.map_cons, List.map_nil]); first | done | rfl | (simp only [List.length_drop, List.length_take]; rfl)) ?_; (with_reducible refine (ray_size.calls (wrap64 (a3 - a1)) t153 _ A8.out).mono ?_); rintro e w14 ⟨rfl, hb⟩; refine ⟨_, rfl, ?_⟩; have n0_ := aMx14 (zS (by (with_reducible repeat (first | apply zP | apply zQ | apply zR)); exact HO150.out) hb); have n1_ := aMx14 (zJ (by repeat (first | (with_reducible first | exact HB.out | apply zF | apply zB | apply zE) | exact HB.out)) hb); clear HO150; clear HB; have HO150 := n0_; have HB := n1_; clear n0_ n1_; (try clear hb); (try clear hb2); (try clear hk); (try clear hi)) | ((with_reducible refine gate_dst (N := 11) rfl ?_); refine box_event ?hg (N := 11) ?hd (cs := #[.int .i64 0, .int .i64 0]) (t := 57) ?hr ?_; (case hd => rfl); (case hg => rfl); (case hr => first | (go_simp; done) | (go_simp; rfl)); intro gb154 hg w15 hbox hb; have n0_ := aMx14 (zS (by (with_reducible repeat (first | apply zP | apply zQ | apply zR)); exact HO150.out) hb); have n1_ := aMx14 (zJ (by repeat (first | (with_reducible first | exact HB.out | apply zF | apply zB | apply zE) | exact HB.out)) hb); have n2_ := aMx14 (hbox); have n3_ := aMx14 ((by rw [hg]; exact (zK (by repeat (first | (with_reducible first | exact HB.out | apply zF | apply zB | apply zE) | exact HB.out))) : w.heap.size ≤ gb154)); have n4_ := aMx14 ((by rw [hg]; exact (zK (by repeat (first | (with_reducible first | exact HB.out | apply zF | apply zB | apply zE) | exact HB.out))) : w.heap.size ≤ gb154)); clear HO150; clear HB; have HO150 := n0_; have HB := n1_; have BK154 := n2_; have GW154 := n3_; have GE154 := n4_; clear n0_ n1_ n2_ n3_ n4_; clear hb hbox hg; have hcz16_0 : w15.cell? ⟨gb154, 0, none⟩ = some (.int .i64 0) := (bCx14 BK154.out 0).trans rfl; have hcz16_1 : w15.cell? ⟨gb154, 1, none⟩ = some (.int .i64 0) := (bCx14 BK154.out 1).trans rfl; have hfz16_0 := bFx14 BK154.out 0; have hfz16_1 := bFx14 BK154.out 1) | ((with_reducible refine gate_dst (N := 12) rfl ?_); refine box_event ?hg (N := 12) ?hd (cs := #[.int .i64 0, .int .i64 0]) (t := 57) ?hr ?_; (case hd => rfl); (case hg => rfl); (case hr => first | (go_simp; done) | (go_simp; rfl)); intro gb155 hg w17 hbox hb; have n0_ := aMx14 (zS (by (with_reducible repeat (first | apply zP | apply zQ | apply zR)); exact (Kd.R_mono (Kd.R_far (p := ⟨gb154, 1, none⟩) (Kd.R_far (p := ⟨gb154, 0, none⟩) (Kd.R_types HO150.out BK154.out (by decide)) (fun _ hk => hk.2) (.int .i64 a0)) (fun _ hk => hk.2) (.int .i64 a1)) (fun _ h_ => h_.1))) hb); have n1_ := aMx14 (zI (g := gb154) (o := .cells #[.int .i64 a0, .int .i64 a1] 57 (0, 0)) (by (with_reducible repeat (first | refine bNx14 ?_ _ | refine bDx14 ?_ | refine bKx14 ?_ _)); refine zZ (cs := #[.int .i64 a0, .int .i64 0]) ?_ 1 _ rfl; (with_reducible repeat (first | refine bNx14 ?_ _ | refine bDx14 ?_ | refine bKx14 ?_ _)); refine zZ (cs := #[.int .i64 0, .int .i64 0]) ?_ 0 _ rfl; (with_reducible repeat (first | refine bNx14 ?_ _ | refine bDx14 ?_ | refine bKx14 ?_ _)); exact BK154.out) hb); have n2_ := aMx14 (zJ (by repeat (first | (with_reducible first | exact HB.out | apply zF | apply zB | apply zE | refine zC ?_ GE154.out) | exact HB.out)) hb); have n3_ := aMx14 (hbox); have n4_ := aMx14 ((by rw [hg]; exact (zK (by repeat (first | (with_reducible first | exact HB.out | apply zF | apply zB | apply zE | refine zC ?_ GE154.out) | exact HB.out))) : w.heap.size ≤ gb155)); have n5_ := aMx14 ((by rw [hg]; exact (zK (by repeat (first | (with_reducible first | exact HB.out | apply zF | apply zB | apply zE | refine zC ?_ GE154.out) | exact HB.out))) : w.heap.size ≤ gb155)); have n6_ := aMx14 ((by rw [hg]; exact Nat.ne_of_lt (blk_lt (g := gb154) (o := .cells #[.int .i64 a0, .int .i64 a1] 57 (0, 0)) (by (with_reducible repeat (first | refine bNx14 ?_ _ | refine bDx14 ?_ | refine bKx14 ?_ _)); refine zZ (cs := #[.int .i64 a0, .int .i64 0]) ?_ 1 _ rfl; (with_reducible repeat (first | refine bNx14 ?_ _ | refine bDx14 ?_ | refine bKx14 ?_ _)); refine zZ (cs := #[.int .i64 0, .int .i64 0]) ?_ 0 _ rfl; (with_reducible repeat (first | refine bNx14 ?_ _ | refine bDx14 ?_ | refine bKx14 ?_ _)); exact BK154.out)) : gb154 ≠ gb155)); have n7_ := aMx14 ((by rw [hg]; exact Nat.ne_of_gt (blk_lt (g := gb154) (o := .cells #[.int .i64 a0, .int .i64 a1] 57 (0, 0)) (by (with_reducible repeat (first | refine bNx14 ?_ _ | refine bDx14 ?_ | refine bKx14 ?_ _)); refine zZ (cs := #[.int .i64 a0, .int .i64 0]) ?_ 1 _ rfl; (with_reducible repeat (first | refine bNx14 ?_ _ | refine bDx14 ?_ | refine bKx14 ?_ _)); refine zZ (cs := #[.int .i64 0, .int .i64 0]) ?_ 0 _ rfl; (with_reducible repeat (first | refine bNx14 ?_ _ | refine bDx14 ?_ | refine bKx14 ?_ _)); exact BK154.out)) : gb155 ≠ gb154)); clear HO150; clear BK154; clear HB; have HO150 := n0_; have BK154 := n1_; have HB := n2_; have BK155 := n3_; have GW155 := n4_; have GE155 := n5_; have NB154_155 := n6_; have NB155_154 := n7_; clear n0_ n1_ n2_ n3_ n4_ n5_ n6_ n7_; clear hb hbox hg; have hnb18 := NB155_154.out; have hnc18 := NB154_155.out; have hcz19_0 : w17.cell? ⟨gb155, 0, none⟩ = some (.int .i64 0) := (bCx14 BK155.out 0).trans rfl; have hcz19_1 : w17.cell? ⟨gb155, 1, none⟩ = some (.int .i64 0) := (bCx14 BK155.out 1).trans rfl; have hfz19_0 := bFx14 BK155.out 0; have hfz19_1 := bFx14 BK155.out 1) | ((with_reducible refine gate_dst (N := 13) rfl ?_); refine box_event ?hg (N := 13) ?hd (cs := #[.int .i64 0, .int .i64 0]) (t := 57) ?hr ?_; (case hd => rfl); (case hg => rfl); (case hr => first | (go_simp; done) | (go_simp; rfl)); intro gb156 hg w20 hbox hb; have n0_ := aMx14 (zS (by (with_reducible repeat (first | apply zP | apply zQ | apply zR)); exact (Kd.R_mono (Kd.R_far (p := ⟨gb155, 1, none⟩) (Kd.R_far (p := ⟨gb155, 0, none⟩) (Kd.R_types HO150.out BK155.out (by decide)) (fun _ hk => hk.2) (.int .i64 (wrap64 (a2 - a0)))) (fun _ hk => hk.2) (.int .i64 (wrap64 (a3 - a1)))) (fun _ h_ => h_.1))) hb); have n1_ := aMx14 (zI (g := gb154) (o := .cells #[.int .i64 a0, .int .i64 a1] 57 (0, 0)) (by (with_reducible repeat (first | refine bNx14 ?_ _ | refine bDx14 ?_ | refine bKx14 ?_ _)); refine zL ?_ NB154_155.out _; (with_reducible repeat (first | refine bNx14 ?_ _ | refine bDx14 ?_ | refine bKx14 ?_ _)); refine zL ?_ NB154_155.out _; (with_reducible repeat (first | refine bNx14 ?_ _ | refine bDx14 ?_ | refine bKx14 ?_ _)); exact BK154.out) hb); have n2_ := aMx14 (zI (g := gb155) (o := .cells #[.int .i64 (wrap64 (a2 - a0)), .int .i64 (wrap64 (a3 - a1))] 57 (0, 0)) (by (with_reducible repeat (first | refine bNx14 ?_ _ | refine bDx14 ?_ | refine bKx14 ?_ _)); refine zZ (cs := #[.int .i64 (wrap64 (a2 - a0)), .int .i64 0]) ?_ 1 _ rfl; (with_reducible repeat (first | refine bNx14 ?_ _ | refine bDx14 ?_ | refine bKx14 ?_ _)); refine zZ (cs := #[.int .i64 0, .int .i64 0]) ?_ 0 _ rfl; (with_reducible repeat (first | refine bNx14 ?_ _ | refine bDx14 ?_ | refine bKx14 ?_ _)); exact BK155.out) hb); have n3_ := aMx14 (zJ (by repeat (first | (with_reducible first | exact HB.out | apply zF | apply zB | apply zE | refine zC ?_ GE154.out | refine zC ?_ GE155.out) | exact HB.out)) hb); have n4_ := aMx14 (hbox); have n5_ := aMx14 ((by rw [hg]; exact (zK (by repeat (first | (with_reducible first | exact HB.out | apply zF | apply zB | apply zE | refine zC ?_ GE154.out | refine zC ?_ GE155.out) | exact HB.out))) : w.heap.size ≤ gb156)); have n6_ := aMx14 ((by rw [hg]; exact (zK (by repeat (first | (with_reducible first | exact HB.out | apply zF | apply zB | apply zE | refine zC ?_ GE154.out | refine zC ?_ GE155.out) | exact HB.out))) : w.heap.size ≤ gb156)); have n7_ := aMx14 ((by rw [hg]; exact Nat.ne_of_lt (blk_lt (g := gb154) (o := .cells #[.int .i64 a0, .int .i64 a1] 57 (0, 0)) (by (with_reducible repeat (first | refine bNx14 ?_ _ | refine bDx14 ?_ | refine bKx14 ?_ _)); refine zL ?_ NB154_155.out _; (with_reducible repeat (first | refine bNx14 ?_ _ | refine bDx14 ?_ | refine bKx14 ?_ _)); refine zL ?_ NB154_155.out _; (with_reducible repeat (first | refine bNx14 ?_ _ | refine bDx14 ?_ | refine bKx14 ?_ _)); exact BK154.out)) : gb154 ≠ gb156)); have n8_ := aMx14 ((by rw [hg]; exact Nat.ne_of_gt (blk_lt (g := gb154) (o := .cells #[.int .i64 a0, .int .i64 a1] 57 (0, 0)) (by (with_reducible repeat (first | refine bNx14 ?_ _ | refine bDx14 ?_ | refine bKx14 ?_ _)); refine zL ?_ NB154_155.out _; (with_reducible repeat (first | refine bNx14 ?_ _ | refine bDx14 ?_ | refine bKx14 ?_ _)); refine zL ?_ NB154_155.out _; (with_reducible repeat (first | refine bNx14 ?_ _ | refine bDx14 ?_ | refine bKx14 ?_ _)); exact BK154.out)) : gb156 ≠ gb154)); have n9_ := aMx14 ((by rw [hg]; exact Nat.ne_of_lt (blk_lt (g := gb155) (o := .cells #[.int .i64 (wrap64 (a2 - a0)), .int .i64 (wrap64 (a3 - a1))] 57 (0, 0)) (by (with_reducible repeat (first | refine bNx14 ?_ _ | refine bDx14 ?_ | refine bKx14 ?_ _)); refine zZ (cs := #[.int .i64 (wrap64 (a2 - a0)), .int .i64 0]) ?_ 1 _ rfl; (with_reducible repeat (first | refine bNx14 ?_ _ | refine bDx14 ?_ | refine bKx14 ?_ _)); refine zZ (cs := #[.int .i64 0, .int .i64 0]) ?_ 0 _ rfl; (with_reducible repeat (first | refine bNx14 ?_ _ | refine bDx14 ?_ | refine bKx14 ?_ _)); exact BK155.out)) : gb155 ≠ gb156)); have n10_ := aMx14 ((by rw [hg]; exact Nat.ne_of_gt (blk_lt (g := gb155) (o := .cells #[.int .i64 (wrap64 (a2 - a0)), .int .i64 (wrap64 (a3 - a1))] 57 (0, 0)) (by (with_reducible repeat (first | refine bNx14 ?_ _ | refine bDx14 ?_ | refine bKx14 ?_ _)); refine zZ (cs := #[.int .i64 (wrap64 (a2 - a0)), .int .i64 0]) ?_ 1 _ rfl; (with_reducible repeat (first | refine bNx14 ?_ _ | refine bDx14 ?_ | refine bKx14 ?_ _)); refine zZ (cs := #[.int .i64 0, .int .i64 0]) ?_ 0 _ rfl; (with_reducible repeat (first | refine bNx14 ?_ _ | refine bDx14 ?_ | refine bKx14 ?_ _)); exact BK155.out)) : gb156 ≠ gb155)); clear HO150; clear BK154; clear BK155; clear HB; have HO150 := n0_; have BK154 := n1_; have BK155 := n2_; have HB := n3_; have BK156 := n4_; have GW156 := n5_; have GE156 := n6_; have NB154_156 := n7_; have NB156_154 := n8_; have NB155_156 := n9_; have NB156_155 := n10_; clear n0_ n1_ n2_ n3_ n4_ n5_ n6_ n7_ n8_ n9_ n10_; clear hb hbox hg; have hnb21 := NB156_154.out; have hnc21 := NB154_156.out; have hnb22 := NB156_155.out; have hnc22 := NB155_156.out; have hcz23_0 : w20.cell? ⟨gb156, 0, none⟩ = some (.int .i64 0) := (bCx14 BK156.out 0).trans rfl; have hcz23_1 : w20.cell? ⟨gb156, 1, none⟩ = some (.int .i64 0) := (bCx14 BK156.out 1).trans rfl; have hfz23_0 := bFx14 BK156.out 0; have hfz23_1 := bFx14 BK156.out 1; have hcz24_0 : w20.cell? ⟨gb154, 0, none⟩ = some (.int .i64 a0) := (bCx14 BK154.out 0).trans rfl; have hcz24_1 : w20.cell? ⟨gb154, 1, none⟩ = some (.int .i64 a1) := (bCx14 BK154.out 1).trans rfl; have hfz24_0 := bFx14 BK154.out 0; have hfz24_1 := bFx14 BK154.out 1) | ((with_reducible refine gate_dst (N := 46) rfl ?_); refine Kd.R_lit k57 _ 57 ?hg (N := 46) ?hd (xs := ([(⟨a0, a1⟩ : S57)] : List (S57))) (inner := [.int .i64 a0, .int .i64 a1]) (ok := fun _ => True) (okp := fun _ => True) ?hr ?hp (fun _ hk => hk) trivial (Below.refl _ _) (Nat.le_refl _) (by simp) ?_; (case hd => rfl); (case hg => rfl); (case hr => first | (go_simp; done) | (go_simp; rfl)); (case hp => exact (Reps.c2 (show Kd.M k57 _ _ _ (⟨a0, a1⟩ : S57) [.int .i64 a0, .int .i64 a1] from (k57_mkM _ _ _ (⟨a0, a1⟩ : S57) )) (Reps.none _ _))); intro v158 w25 ho26 hb hg_ hnew_; clear hg_ hnew_; (first | rw [← Ny157.out] at ho26 | (simp only [Int.reduceToNat] at ho26; rw [← Ny157.out] at ho26)); have n0_ := aMx14 (zS (by (with_reducible repeat (first | apply zP | apply zQ | apply zR)); exact (Kd.R_mono (Kd.R_far (p := ⟨gb156, 1, none⟩) (Kd.R_far (p := ⟨gb156, 0, none⟩) (Kd.R_types HO150.out BK156.out (by decide)) (fun _ hk => hk.2) (.int .i64 ji9)) (fun _ hk => hk.2) (.int .i64 ji9)) (fun _ h_ => h_.1))) hb); have n1_ := aMx14 (Kd.R_lower (Kd.R_newB (Kd.R_newB (Kd.R_newB ho26 (g := gb154) (o := .cells #[.int .i64 a0, .int .i64 a1] 57 (0, 0)) (by (with_reducible repeat (first | refine bNx14 ?_ _ | refine bDx14 ?_ | refine bKx14 ?_ _)); refine zL ?_ NB154_156.out _; (with_reducible repeat (first | refine bNx14 ?_ _ | refine bDx14 ?_ | refine bKx14 ?_ _)); refine zL ?_ NB154_156.out _; (with_reducible repeat (first | refine bNx14 ?_ _ | refine bDx14 ?_ | refine bKx14 ?_ _)); exact BK154.out)) (g := gb155) (o := .cells #[.int .i64 (wrap64 (a2 - a0)), .int .i64 (wrap64 (a3 - a1))] 57 (0, 0)) (by (with_reducible repeat (first | refine bNx14 ?_ _ | refine bDx14 ?_ | refine bKx14 ?_ _)); refine zL ?_ NB155_156.out _; (with_reducible repeat (first | refine bNx14 ?_ _ | refine bDx14 ?_ | refine bKx14 ?_ _)); refine zL ?_ NB155_156.out _; (with_reducible repeat (first | refine bNx14 ?_ _ | refine bDx14 ?_ | refine bKx14 ?_ _)); exact BK155.out)) (g := gb156) (o := .cells #[.int .i64 ji9, .int .i64 ji9] 57 (0, 0)) (by (with_reducible repeat (first | refine bNx14 ?_ _ | refine bDx14 ?_ | refine bKx14 ?_ _)); refine zZ (cs := #[.int .i64 ji9, .int .i64 0]) ?_ 1 _ rfl; (with_reducible repeat (first | refine bNx14 ?_ _ | refine bDx14 ?_ | refine bKx14 ?_ _)); refine zZ (cs := #[.int .i64 0, .int .i64 0]) ?_ 0 _ rfl; (with_reducible repeat (first | refine bNx14 ?_ _ | refine bDx14 ?_ | refine bKx14 ?_ _)); exact BK156.out)) (zK (by repeat (first | (with_reducible first | exact HB.out | apply zF | apply zB | apply zE | refine zC ?_ GE154.out | refine zC ?_ GE155.out | refine zC ?_ GE156.out) | exact HB.out)))); have n2_ := aMx14 (zI (g := gb154) (o := .cells #[.int .i64 a0, .int .i64 a1] 57 (0, 0)) (by (with_reducible repeat (first | refine bNx14 ?_ _ | refine bDx14 ?_ | refine bKx14 ?_ _)); refine zL ?_ NB154_156.out _; (with_reducible repeat (first | refine bNx14 ?_ _ | refine bDx14 ?_ | refine bKx14 ?_ _)); refine zL ?_ NB154_156.out _; (with_reducible repeat (first | refine bNx14 ?_ _ | refine bDx14 ?_ | refine bKx14 ?_ _)); exact BK154.out) hb); have n3_ := aMx14 (zI (g := gb155) (o := .cells #[.int .i64 (wrap64 (a2 - a0)), .int .i64 (wrap64 (a3 - a1))] 57 (0, 0)) (by (with_reducible repeat (first | refine bNx14 ?_ _ | refine bDx14 ?_ | refine bKx14 ?_ _)); refine zL ?_ NB155_156.out _; (with_reducible repeat (first | refine bNx14 ?_ _ | refine bDx14 ?_ | refine bKx14 ?_ _)); refine zL ?_ NB155_156.out _; (with_reducible repeat (first | refine bNx14 ?_ _ | refine bDx14 ?_ | refine bKx14 ?_ _)); exact BK155.out) hb); have n4_ := aMx14 (zI (g := gb156) (o := .cells #[.int .i64 ji9, .int .i64 ji9] 57 (0, 0)) (by (with_reducible repeat (first | refine bNx14 ?_ _ | refine bDx14 ?_ | refine bKx14 ?_ _)); refine zZ (cs := #[.int .i64 ji9, .int .i64 0]) ?_ 1 _ rfl; (with_reducible repeat (first | refine bNx14 ?_ _ | refine bDx14 ?_ | refine bKx14 ?_ _)); refine zZ (cs := #[.int .i64 0, .int .i64 0]) ?_ 0 _ rfl; (with_reducible repeat (first | refine bNx14 ?_ _ | refine bDx14 ?_ | refine bKx14 ?_ _)); exact BK156.out) hb); have n5_ := aMx14 (zJ (by repeat (first | (with_reducible first | exact HB.out | apply zF | apply zB | apply zE | refine zC ?_ GE154.out | refine zC ?_ GE155.out | refine zC ?_ GE156.out) | exact HB.out)) hb); clear HO150; clear BK154; clear BK155; clear BK156; clear HB; have HO150 := n0_; have HO159 := n1_; have BK154 := n2_; have BK155 := n3_; have BK156 := n4_; have HB := n5_; clear n0_ n1_ n2_ n3_ n4_ n5_; clear hb ho26))
  go_loopg [14] k (fun kq v14 w' => ∃ (x14_1 : List (S57)) (x155000_1 : Int) (x155001_1 : Int) (x157000_1 : Int) (x157001_1 : Int), Aside0 (ray_Line.l0 kq a2 a3 ji9 x14_1 x155000_1 x155001_1 (wrap64 (a2 - a0)) (wrap64 (a3 - a1)) x157000_1 x157001_1 = some (r1, r2)) ∧ Aside0 (kq ≤ k) ∧ Aside0 (Kd.R k57 57 w' w.heap.size (fun k_ => k_ ≠ gb154 ∧ k_ ≠ gb155 ∧ k_ ≠ gb156) v14 x14_1) ∧ Aside0 (w'.heap[gb154]? = some (.cells #[.int .i64 x155000_1, .int .i64 x155001_1] 57 (0, 0))) ∧ Aside0 (w'.heap[gb155]? = some (.cells #[.int .i64 (wrap64 (a2 - a0)), .int .i64 (wrap64 (a3 - a1))] 57 (0, 0))) ∧ Aside0 (w'.heap[gb156]? = some (.cells #[.int .i64 x157000_1, .int .i64 x157001_1] 57 (0, 0))) ∧ Aside0 (Below w.heap.size w w'))
  case atStart => exact ⟨(y157), (a0), (a1), (ji9), (ji9), H', ⟨Nat.le_refl _⟩, ⟨by (with_reducible repeat (first | apply zP | apply zQ | apply zR)); exact Kd.R_mono HO159.out (fun _ hk => ⟨hk.1.1.2, ⟨hk.1.2, hk.2⟩⟩)⟩, ⟨by (with_reducible repeat (first | refine bNx14 ?_ _ | refine bDx14 ?_ | refine bKx14 ?_ _)); exact BK154.out⟩, ⟨by (with_reducible repeat (first | refine bNx14 ?_ _ | refine bDx14 ?_ | refine bKx14 ?_ _)); exact BK155.out⟩, ⟨by (with_reducible repeat (first | refine bNx14 ?_ _ | refine bDx14 ?_ | refine bKx14 ?_ _)); exact BK156.out⟩, ⟨by repeat (first | (with_reducible first | exact HB.out | apply zF | apply zB | apply zE | refine zC ?_ GE154.out | refine zC ?_ GE155.out | refine zC ?_ GE156.out) | exact HB.out)⟩⟩
  clear H'
  try clear c1 c2 p2 c5 c6 p6 c18 c21 c22 hcz16_0 hcz16_1 hcz19_0 hcz19_1 hcz23_0 hcz23_1 hcz24_0 hcz24_1 hfz16_0 hfz16_1 hfz19_0 hfz19_1 hfz23_0 hfz23_1 hfz24_0 hfz24_1
  obtain ⟨x14_1, x155000_1, x155001_1, x157000_1, x157001_1, HA, HK1, HO_14, BK154, BK155, BK156, HB⟩ := hrel
  cases gk with
  | zero => exact absurd HA.out (by simp [ray_Line.l0])
  | succ k1 =>
   have H := HA.out
   clear HA
   simp only [ray_Line.l0] at H
   by_cases c27 : (!(x155000_1 == a2) || (!(x155001_1 == a3))) = true
   ·
    rw [if_pos c27] at H
    have c27b0 : (!(x155000_1 == a2) || (!(x155001_1 == a3))) = true := c27
    clear c27
    have H' := aMx14 H
    clear H
    have hnb28 := NB154_155.out
    have hnc28 := NB155_154.out
    have hnb29 := NB154_156.out
    have hnc29 := NB156_154.out
    have hcz30_0 : wr.cell? ⟨gb154, 0, none⟩ = some (.int .i64 x155000_1) := (bCx14 BK154.out 0).trans rfl
    have hcz30_1 : wr.cell? ⟨gb154, 1, none⟩ = some (.int .i64 x155001_1) := (bCx14 BK154.out 1).trans rfl
    have hfz30_0 := bFx14 BK154.out 0
    have hfz30_1 := bFx14 BK154.out 1
    go_wp2
    go_loopg [52] k1 (fun kq v52 w' => ∃ (x52_2 : Int) (x155000_2 : Int) (x155001_2 : Int) (x157000_2 : Int) (x157001_2 : Int), v52 = .int .i64 x52_2 ∧ Aside0 (ray_Line.l1 kq a2 a3 ji9 x14_1 x52_2 x155000_2 x155001_2 (wrap64 (a2 - a0)) (wrap64 (a3 - a1)) x157000_2 x157001_2 = some (r1, r2)) ∧ Aside0 (kq ≤ k1) ∧ Aside0 (Kd.R k57 57 w' w.heap.size (fun k_ => k_ ≠ gb154 ∧ k_ ≠ gb155 ∧ k_ ≠ gb156) u14 x14_1) ∧ Aside0 (w'.heap[gb154]? = some (.cells #[.int .i64 x155000_2, .int .i64 x155001_2] 57 (0, 0))) ∧ Aside0 (w'.heap[gb155]? = some (.cells #[.int .i64 (wrap64 (a2 - a0)), .int .i64 (wrap64 (a3 - a1))] 57 (0, 0))) ∧ Aside0 (w'.heap[gb156]? = some (.cells #[.int .i64 x157000_2, .int .i64 x157001_2] 57 (0, 0))) ∧ Aside0 (Below w.heap.size w w'))
    case atStart => exact ⟨(0), (x155000_1), (x155001_1), (x157000_1), (x157001_1), (by first | rfl | (simp; done) | (simp [*]; done) | (congr 1; unfold wrap64; omega)), H', ⟨Nat.le_refl _⟩, ⟨by (with_reducible repeat (first | apply zP | apply zQ | apply zR)); exact HO_14.out⟩, ⟨by (with_reducible repeat (first | refine bNx14 ?_ _ | refine bDx14 ?_ | refine bKx14 ?_ _)); exact BK154.out⟩, ⟨by (with_reducible repeat (first | refine bNx14 ?_ _ | refine bDx14 ?_ | refine bKx14 ?_ _)); exact BK155.out⟩, ⟨by (with_reducible repeat (first | refine bNx14 ?_ _ | refine bDx14 ?_ | refine bKx14 ?_ _)); exact BK156.out⟩, ⟨by repeat (first | (with_reducible first | exact HB.out | apply zF | apply zB | apply zE | refine zC ?_ GE154.out | refine zC ?_ GE155.out | refine zC ?_ GE156.out) | exact HB.out)⟩⟩
    clear H'
    try clear c1 c2 p2 c5 c6 p6 c18 c21 c22 c27 c27b0 c28 c29 hcz16_0 hcz16_1 hcz19_0 hcz19_1 hcz23_0 hcz23_1 hcz24_0 hcz24_1 hcz30_0 hcz30_1 hfz16_0 hfz16_1 hfz19_0 hfz19_1 hfz23_0 hfz23_1 hfz24_0 hfz24_1 hfz30_0 hfz30_1 p2 p6
    obtain ⟨x52_2, x155000_2, x155001_2, x157000_2, x157001_2, rfl, HA, HK2, HO_14, BK154, BK155, BK156, HB⟩ := hrel
    cases gk with
    | zero => exact absurd HA.out (by simp [ray_Line.l1])
    | succ k2 =>
     have H := HA.out
     clear HA
     simp only [ray_Line.l1] at H
     by_cases c31 : x52_2 < 2
     ·
      rw [if_pos c31] at H
      have c31b0 : decide (x52_2 < 2) = true := decide_eq_true c31
      clear c31
      by_cases c32 : x52_2 = 0
      ·
       rw [if_pos c32] at H
       have c32b0 : (x52_2 == 0) = true := beq_iff_eq.mpr c32
       have c32b1 : (x52_2 != 0) = false := bne_eq_false_iff_eq.mpr c32
       (try (have c32a : 0 ≤ x52_2 := by omega))
       (try (have c32d : x52_2 < 2 := by omega))
       (try (have c32t : Int.toNat x52_2 = 0 := by omega))
       clear c32
       all_goals (try (exfalso; omega))
       all_goals
        have HC33 := aMx14 H
        clear H
        try go_wp2
        have n0_ := aMx14 (zR HO_14.out)
        have n1_ := aMx14 (bDx14 BK154.out)
        have n2_ := aMx14 (bDx14 BK155.out)
        have n3_ := aMx14 (bDx14 BK156.out)
        have n4_ := aMx14 (zE HB.out)
        clear HO_14
        clear BK154
        clear BK155
        clear BK156
        clear HB
        have HO_14 := n0_
        have BK154 := n1_
        have BK155 := n2_
        have BK156 := n3_
        have HB := n4_
        clear n0_ n1_ n2_ n3_ n4_
        refine start_ (n := 10) (S := fun w' => w'.cell? ⟨gb156, 0, none⟩ = some (.int .i64 x157000_2) ∧ w'.cell? ⟨gb156, 1, none⟩ = some (.int .i64 x157001_2) ∧ w'.cell? ⟨gb155, 0, none⟩ = some (.int .i64 (wrap64 (a2 - a0))) ∧ w'.cell? ⟨gb155, 1, none⟩ = some (.int .i64 (wrap64 (a3 - a1)))) (ds := [9]) (bA 10 0) (by kernel_rfl) rfl rfl ⟨(bCx14 BK156.out 0).trans rfl, (bCx14 BK156.out 1).trans rfl, (bCx14 BK155.out 0).trans rfl, (bCx14 BK155.out 1).trans rfl⟩ (fun hHeld => ?_); refine with_tabW ray_Line.tab12 ray_Line.bits12 (fun HT_ HW_ => ?_)
        generalize wr.drew = w34 at HO_14 BK154 BK155 BK156 HB hHeld ⊢
        refine pure_ (i := 0) (N := some 55) (v := ?_) (a' := ?_) (bA 10 1) rfl rfl (any_of HT_.out (by kernel_rfl)) (fun _ _ _ h => h) (Or.inl ⟨by rfl, ?_⟩) ?_ ?_
        rotate_left
        ·
         intro w'
         go_simp
         with_reducible rfl
        rotate_left
        ·
         simp only [Act.put, sA, sB, sC, i64_w, i32_w]
         rfl
        refine pure_ (i := 1) (N := some 56) (v := ?_) (a' := ?_) (bA 10 3) rfl rfl (any_of HT_.out (by kernel_rfl)) (fun _ _ _ h => h) (Or.inl ⟨by rfl, ?_⟩) ?_ ?_
        rotate_left
        ·
         intro w'
         go_simp
         with_reducible rfl
        rotate_left
        ·
         simp only [Act.put, sA, sB, sC, i64_w, i32_w]
         rfl
        refine pure_ (i := 3) (N := some 58) (v := ?_) (a' := ?_) (bA 10 11) rfl rfl (any_of HT_.out (by kernel_rfl)) (fun _ _ _ h => h) (Or.inl ⟨by rfl, ?_⟩) ?_ ?_
        rotate_left
        ·
         intro w'
         go_simp
         with_reducible rfl
        rotate_left
        ·
         simp only [Act.put, sA, sB, sC, i64_w, i32_w]
         rfl
        refine pure_ (i := 4) (N := some 59) (v := ?_) (a' := ?_) (bA 10 27) rfl rfl (any_of HT_.out (by kernel_rfl)) (fun _ _ _ h => h) (Or.inl ⟨by rfl, ?_⟩) ?_ ?_
        rotate_left
        ·
         intro w'
         go_simp
         with_reducible rfl
        rotate_left
        ·
         simp only [Act.put, sA, sB, sC, i64_w, i32_w]
         rfl
        refine take_ (i := 2) (N := some 57) (v := ?_) (a' := ?_) (bA 10 31) rfl rfl (take_ofW HT_.out HW_.out (by kernel_rfl)) (fun _ _ _ h => h) (Or.inl ⟨by rfl, ?_⟩) hHeld ?_ ?_
        rotate_left
        ·
         rintro w' ⟨s0, s1, s2, s3⟩
         go_simp
         with_reducible rfl
        rotate_left
        ·
         simp only [Act.put, sA, sB, sC, i64_w, i32_w]
         rfl
        refine take_ (i := 5) (N := some 60) (v := ?_) (a' := ?_) (bA 10 63) rfl rfl (take_ofW HT_.out HW_.out (by kernel_rfl)) (fun _ _ _ h => h) (Or.inl ⟨by rfl, ?_⟩) hHeld ?_ ?_
        rotate_left
        ·
         rintro w' ⟨s0, s1, s2, s3⟩
         go_simp
         with_reducible rfl
        rotate_left
        ·
         simp only [Act.put, sA, sB, sC, i64_w, i32_w]
         rfl
        refine pure_ (i := 6) (N := some 61) (v := ?_) (a' := ?_) (bA 10 127) rfl rfl (any_of HT_.out (by kernel_rfl)) (fun _ _ _ h => h) (Or.inl ⟨by rfl, ?_⟩) ?_ ?_
        rotate_left
        ·
         intro w'
         go_simp
         with_reducible rfl
        rotate_left
        ·
         simp only [Act.put, sA, sB, sC, i64_w, i32_w]
         rfl
        refine pure_ (i := 7) (N := some 62) (v := ?_) (a' := ?_) (bA 10 255) rfl rfl (any_of HT_.out (by kernel_rfl)) (fun _ _ _ h => h) (Or.inl ⟨by rfl, ?_⟩) ?_ ?_
        rotate_left
        ·
         intro w'
         go_simp
         with_reducible rfl
        rotate_left
        ·
         simp only [Act.put, sA, sB, sC, i64_w, i32_w]
         rfl
        refine pure_ (i := 8) (N := some 63) (v := ?_) (a' := ?_) (bA 10 511) rfl rfl (any_of HT_.out (by kernel_rfl)) (fun _ _ _ h => h) (Or.inl ⟨by rfl, ?_⟩) ?_ ?_
        rotate_left
        ·
         intro w'
         go_simp
         with_reducible rfl
        rotate_left
        ·
         simp only [Act.put, sA, sB, sC, i64_w, i32_w]
         rfl
        refine last_ (i := 9) (N := none) (bA 10 1023) rfl rfl (one_of HT_.out (by kernel_rfl)) (by decide) (fun K hK => ?_)
        have hs35 : w34.cell? ⟨gb156, 0, none⟩ = some (.int .i64 x157000_2) := (bCx14 BK156.out 0).trans rfl
        have hfs35 := bFx14 BK156.out 0
        have hns35_0 := NB154_156.out
        have hns35_1 := NB155_156.out
        have hms35_0 := NB156_154.out
        have hms35_1 := NB156_155.out
        refine skip_ (w1 := ?_) (by rfl) rfl ?_ ?_
        rotate_left
        ·
         go_simp
         rfl
        refine hK.out _ _ ?_
        clear hK K
        refine done_ (done_of HT_.out (by kernel_rfl)) ?_
        go_upto_block 4 with (fail)
        go_cut [] (fun wc => ∃ (kq : Nat) (x155000_32 : Int) (x155001_32 : Int) (x157000_32 : Int) (x157001_32 : Int), Aside0 (ray_Line.j3 kq a2 a3 ji9 x14_1 x52_2 x52_2 x155000_32 x155001_32 (wrap64 (a2 - a0)) (wrap64 (a3 - a1)) x157000_32 x157001_32 = some (r1, r2)) ∧ Aside0 (kq ≤ k2) ∧ Aside0 (Kd.R k57 57 wc w.heap.size (fun k_ => k_ ≠ gb154 ∧ k_ ≠ gb155 ∧ k_ ≠ gb156) u14 x14_1) ∧ Aside0 (wc.heap[gb154]? = some (.cells #[.int .i64 x155000_32, .int .i64 x155001_32] 57 (0, 0))) ∧ Aside0 (wc.heap[gb155]? = some (.cells #[.int .i64 (wrap64 (a2 - a0)), .int .i64 (wrap64 (a3 - a1))] 57 (0, 0))) ∧ Aside0 (wc.heap[gb156]? = some (.cells #[.int .i64 x157000_32, .int .i64 x157001_32] 57 (0, 0))) ∧ Aside0 (Below w.heap.size w wc))
        case first =>
         have H := HC33.out
         clear HC33
         have H' := aMx14 H
         clear H
         go_wp2
         go_loopg [] k2 (fun kq w' => ∃ (x155000_3 : Int) (x155001_3 : Int) (x157000_3 : Int) (x157001_3 : Int), Aside0 (ray_Line.l2 kq a2 a3 ji9 x14_1 x52_2 x52_2 x155000_3 x155001_3 (wrap64 (a2 - a0)) (wrap64 (a3 - a1)) x157000_3 x157001_3 = some (r1, r2)) ∧ Aside0 (kq ≤ k2) ∧ Aside0 (Kd.R k57 57 w' w.heap.size (fun k_ => k_ ≠ gb154 ∧ k_ ≠ gb155 ∧ k_ ≠ gb156) u14 x14_1) ∧ Aside0 (w'.heap[gb154]? = some (.cells #[.int .i64 x155000_3, .int .i64 x155001_3] 57 (0, 0))) ∧ Aside0 (w'.heap[gb155]? = some (.cells #[.int .i64 (wrap64 (a2 - a0)), .int .i64 (wrap64 (a3 - a1))] 57 (0, 0))) ∧ Aside0 (w'.heap[gb156]? = some (.cells #[.int .i64 x157000_3, .int .i64 x157001_3] 57 (0, 0))) ∧ Aside0 (Below w.heap.size w w'))
         case atStart => exact ⟨(x155000_2), (x155001_2), (wrap64 (x157000_2 + (wrap64 (2 * (wrap64 (a2 - a0)))))), (x157001_2), H', ⟨Nat.le_refl _⟩, ⟨by (with_reducible repeat (first | apply zP | apply zQ | apply zR)); exact Kd.R_mono (Kd.R_far (p := ⟨gb156, 0, none⟩) (Kd.R_mono HO_14.out (fun k_ hk => (⟨hk, hk.2.2⟩ : _ ∧ k_ ≠ gb156))) (fun _ hk => hk.2) (.int .i64 (wrap64 (x157000_2 + (wrap64 (2 * (wrap64 (a2 - a0)))))))) (fun _ hk => ⟨hk.1.1, ⟨hk.1.2.1, hk.1.2.2⟩⟩)⟩, ⟨by (with_reducible repeat (first | refine bNx14 ?_ _ | refine bDx14 ?_ | refine bKx14 ?_ _)); refine zL ?_ NB154_156.out _; (with_reducible repeat (first | refine bNx14 ?_ _ | refine bDx14 ?_ | refine bKx14 ?_ _)); exact BK154.out⟩, ⟨by (with_reducible repeat (first | refine bNx14 ?_ _ | refine bDx14 ?_ | refine bKx14 ?_ _)); refine zL ?_ NB155_156.out _; (with_reducible repeat (first | refine bNx14 ?_ _ | refine bDx14 ?_ | refine bKx14 ?_ _)); exact BK155.out⟩, ⟨by (with_reducible repeat (first | refine bNx14 ?_ _ | refine bDx14 ?_ | refine bKx14 ?_ _)); refine zZ (cs := #[.int .i64 x157000_2, .int .i64 x157001_2]) ?_ 0 _ rfl; (with_reducible repeat (first | refine bNx14 ?_ _ | refine bDx14 ?_ | refine bKx14 ?_ _)); exact BK156.out⟩, ⟨by repeat (first | (with_reducible first | exact HB.out | apply zF | apply zB | apply zE | refine zC ?_ GE154.out | refine zC ?_ GE155.out | refine zC ?_ GE156.out) | exact HB.out)⟩⟩
         clear H'
         try clear c1 c2 p2 c3 c5 c6 p6 c18 c21 c22 c27 c27b0 c28 c29 c31 c31b0 c32 c32b0 c32b1 hcz16_0 hcz16_1 hcz19_0 hcz19_1 hcz23_0 hcz23_1 hcz24_0 hcz24_1 hcz30_0 hcz30_1 hfz16_0 hfz16_1 hfz19_0 hfz19_1 hfz23_0 hfz23_1 hfz24_0 hfz24_1 hfz30_0 hfz30_1 p2 p6
         obtain ⟨x155000_3, x155001_3, x157000_3, x157001_3, HA, HK3, HO_14, BK154, BK155, BK156, HB⟩ := hrel
         cases gk with
         | zero => exact absurd HA.out (by simp [ray_Line.l2])
         | succ k3 =>
          have H := HA.out
          clear HA
          simp only [ray_Line.l2] at H
          by_cases c36 : x52_2 = 0
          ·
           rw [if_pos c36] at H
           have c36b0 : (x52_2 == 0) = true := beq_iff_eq.mpr c36
           have c36b1 : (x52_2 != 0) = false := bne_eq_false_iff_eq.mpr c36
           (try (have c36a : 0 ≤ x52_2 := by omega))
           (try (have c36d : x52_2 < 2 := by omega))
           (try (have c36t : Int.toNat x52_2 = 0 := by omega))
           clear c36
           (first | rw [c36b0] | (simp only [i64_w, i32_w]; rw [c36b0]) | skip)
           all_goals (try (exfalso; omega))
           all_goals
            by_cases c37 : x157000_3 ≥ (wrap64 (2 * ji9))
            ·
             rw [if_pos c37] at H
             have c37b0 : decide ((wrap64 (2 * ji9)) ≤ x157000_3) = true := decide_eq_true c37
             clear c37
             have H' := aMx14 H
             clear H
             have hnb38 := NB156_154.out
             have hnc38 := NB154_156.out
             have hnb39 := NB156_155.out
             have hnc39 := NB155_156.out
             have hcz40_0 : wr.cell? ⟨gb156, 0, none⟩ = some (.int .i64 x157000_3) := (bCx14 BK156.out 0).trans rfl
             have hcz40_1 : wr.cell? ⟨gb156, 1, none⟩ = some (.int .i64 x157001_3) := (bCx14 BK156.out 1).trans rfl
             have hfz40_0 := bFx14 BK156.out 0
             have hfz40_1 := bFx14 BK156.out 1
             have hnb41 := NB154_155.out
             have hnc41 := NB155_154.out
             have hcz42_0 : wr.cell? ⟨gb154, 0, none⟩ = some (.int .i64 x155000_3) := (bCx14 BK154.out 0).trans rfl
             have hcz42_1 : wr.cell? ⟨gb154, 1, none⟩ = some (.int .i64 x155001_3) := (bCx14 BK154.out 1).trans rfl
             have hfz42_0 := bFx14 BK154.out 0
             have hfz42_1 := bFx14 BK154.out 1
             go_wp2
             go_roundg k3
             case measure => have := HK1.out; have := HK2.out; have := HK3.out; omega
             case rel => exact ⟨(wrap64 (x155000_3 + 1)), (x155001_3), (wrap64 (x157000_3 - (wrap64 (2 * ji9)))), (x157001_3), H', ⟨by have := HK1.out; have := HK2.out; have := HK3.out; omega⟩, ⟨by (with_reducible repeat (first | apply zP | apply zQ | apply zR)); exact Kd.R_mono (Kd.R_far (p := ⟨gb156, 0, none⟩) (Kd.R_far (p := ⟨gb154, 0, none⟩) (Kd.R_mono (Kd.R_mono HO_14.out (fun k_ hk => (⟨hk, hk.1⟩ : _ ∧ k_ ≠ gb154))) (fun k_ hk => (⟨hk, hk.1.2.2⟩ : _ ∧ k_ ≠ gb156))) (fun _ hk => hk.1.2) (.int .i64 (wrap64 (x155000_3 + 1)))) (fun _ hk => hk.2) (.int .i64 (wrap64 (x157000_3 - (wrap64 (2 * ji9)))))) (fun _ hk => ⟨hk.1.1.1, ⟨hk.1.1.2.1, hk.1.1.2.2⟩⟩)⟩, ⟨by (with_reducible repeat (first | refine bNx14 ?_ _ | refine bDx14 ?_ | refine bKx14 ?_ _)); refine zL ?_ NB154_156.out _; (with_reducible repeat (first | refine bNx14 ?_ _ | refine bDx14 ?_ | refine bKx14 ?_ _)); refine zZ (cs := #[.int .i64 x155000_3, .int .i64 x155001_3]) ?_ 0 _ rfl; (with_reducible repeat (first | refine bNx14 ?_ _ | refine bDx14 ?_ | refine bKx14 ?_ _)); exact BK154.out⟩, ⟨by (with_reducible repeat (first | refine bNx14 ?_ _ | refine bDx14 ?_ | refine bKx14 ?_ _)); refine zL ?_ NB155_156.out _; (with_reducible repeat (first | refine bNx14 ?_ _ | refine bDx14 ?_ | refine bKx14 ?_ _)); refine zL ?_ NB155_154.out _; (with_reducible repeat (first | refine bNx14 ?_ _ | refine bDx14 ?_ | refine bKx14 ?_ _)); exact BK155.out⟩, ⟨by (with_reducible repeat (first | refine bNx14 ?_ _ | refine bDx14 ?_ | refine bKx14 ?_ _)); refine zZ (cs := #[.int .i64 x157000_3, .int .i64 x157001_3]) ?_ 0 _ rfl; (with_reducible repeat (first | refine bNx14 ?_ _ | refine bDx14 ?_ | refine bKx14 ?_ _)); refine zL ?_ NB156_154.out _; (with_reducible repeat (first | refine bNx14 ?_ _ | refine bDx14 ?_ | refine bKx14 ?_ _)); exact BK156.out⟩, ⟨by repeat (first | (with_reducible first | exact HB.out | apply zF | apply zB | apply zE | refine zC ?_ GE154.out | refine zC ?_ GE155.out | refine zC ?_ GE156.out) | exact HB.out)⟩⟩
            ·
             rw [if_neg c37] at H
             have c37b0 : decide ((wrap64 (2 * ji9)) ≤ x157000_3) = false := decide_eq_false c37
             clear c37
             have H' := aMx14 H
             clear H
             have hnb43 := NB156_154.out
             have hnc43 := NB154_156.out
             have hnb44 := NB156_155.out
             have hnc44 := NB155_156.out
             have hcz45_0 : wr.cell? ⟨gb156, 0, none⟩ = some (.int .i64 x157000_3) := (bCx14 BK156.out 0).trans rfl
             have hcz45_1 : wr.cell? ⟨gb156, 1, none⟩ = some (.int .i64 x157001_3) := (bCx14 BK156.out 1).trans rfl
             have hfz45_0 := bFx14 BK156.out 0
             have hfz45_1 := bFx14 BK156.out 1
             go_wp2
             go_meet
             case rel => exact ⟨_, (x155000_3), (x155001_3), (x157000_3), (x157001_3), H', ⟨by have := HK1.out; have := HK2.out; have := HK3.out; first | omega | exact Nat.le_refl _⟩, ⟨by (with_reducible repeat (first | apply zP | apply zQ | apply zR)); exact HO_14.out⟩, ⟨by (with_reducible repeat (first | refine bNx14 ?_ _ | refine bDx14 ?_ | refine bKx14 ?_ _)); exact BK154.out⟩, ⟨by (with_reducible repeat (first | refine bNx14 ?_ _ | refine bDx14 ?_ | refine bKx14 ?_ _)); exact BK155.out⟩, ⟨by (with_reducible repeat (first | refine bNx14 ?_ _ | refine bDx14 ?_ | refine bKx14 ?_ _)); exact BK156.out⟩, ⟨by repeat (first | (with_reducible first | exact HB.out | apply zF | apply zB | apply zE | refine zC ?_ GE154.out | refine zC ?_ GE155.out | refine zC ?_ GE156.out) | exact HB.out)⟩⟩
          rw [if_neg c36] at H
          have c36b0 : (x52_2 == 0) = false := beq_eq_false_iff_ne.mpr c36
          have c36b1 : (x52_2 != 0) = true := bne_iff_ne.mpr c36
          (first | rw [c36b0] | (simp only [i64_w, i32_w]; rw [c36b0]) | skip)
          all_goals (try (exfalso; omega))
          all_goals
           by_cases c46 : x52_2 = 1
           ·
            rw [if_pos c46] at H
            have c46b0 : (x52_2 == 1) = true := beq_iff_eq.mpr c46
            have c46b1 : (x52_2 != 1) = false := bne_eq_false_iff_eq.mpr c46
            (try (have c46a : 0 ≤ x52_2 := by omega))
            (try (have c46d : x52_2 < 2 := by omega))
            (try (have c46t : Int.toNat x52_2 = 1 := by omega))
            clear c46
            all_goals (try (exfalso; omega))
            all_goals
             by_cases c47 : x157001_3 ≥ (wrap64 (2 * ji9))
             ·
              rw [if_pos c47] at H
              have c47b0 : decide ((wrap64 (2 * ji9)) ≤ x157001_3) = true := decide_eq_true c47
              clear c47
              have H' := aMx14 H
              clear H
              have hnb48 := NB156_154.out
              have hnc48 := NB154_156.out
              have hnb49 := NB156_155.out
              have hnc49 := NB155_156.out
              have hcz50_0 : wr.cell? ⟨gb156, 0, none⟩ = some (.int .i64 x157000_3) := (bCx14 BK156.out 0).trans rfl
              have hcz50_1 : wr.cell? ⟨gb156, 1, none⟩ = some (.int .i64 x157001_3) := (bCx14 BK156.out 1).trans rfl
              have hfz50_0 := bFx14 BK156.out 0
              have hfz50_1 := bFx14 BK156.out 1
              have hnb51 := NB154_155.out
              have hnc51 := NB155_154.out
              have hcz52_0 : wr.cell? ⟨gb154, 0, none⟩ = some (.int .i64 x155000_3) := (bCx14 BK154.out 0).trans rfl
              have hcz52_1 : wr.cell? ⟨gb154, 1, none⟩ = some (.int .i64 x155001_3) := (bCx14 BK154.out 1).trans rfl
              have hfz52_0 := bFx14 BK154.out 0
              have hfz52_1 := bFx14 BK154.out 1
              go_wp2
              go_roundg k3
              case measure => have := HK1.out; have := HK2.out; have := HK3.out; omega
              case rel => exact ⟨(x155000_3), (wrap64 (x155001_3 + 1)), (x157000_3), (wrap64 (x157001_3 - (wrap64 (2 * ji9)))), H', ⟨by have := HK1.out; have := HK2.out; have := HK3.out; omega⟩, ⟨by (with_reducible repeat (first | apply zP | apply zQ | apply zR)); exact Kd.R_mono (Kd.R_far (p := ⟨gb156, 1, none⟩) (Kd.R_far (p := ⟨gb154, 1, none⟩) (Kd.R_mono (Kd.R_mono HO_14.out (fun k_ hk => (⟨hk, hk.1⟩ : _ ∧ k_ ≠ gb154))) (fun k_ hk => (⟨hk, hk.1.2.2⟩ : _ ∧ k_ ≠ gb156))) (fun _ hk => hk.1.2) (.int .i64 (wrap64 (x155001_3 + 1)))) (fun _ hk => hk.2) (.int .i64 (wrap64 (x157001_3 - (wrap64 (2 * ji9)))))) (fun _ hk => ⟨hk.1.1.1, ⟨hk.1.1.2.1, hk.1.1.2.2⟩⟩)⟩, ⟨by (with_reducible repeat (first | refine bNx14 ?_ _ | refine bDx14 ?_ | refine bKx14 ?_ _)); refine zL ?_ NB154_156.out _; (with_reducible repeat (first | refine bNx14 ?_ _ | refine bDx14 ?_ | refine bKx14 ?_ _)); refine zZ (cs := #[.int .i64 x155000_3, .int .i64 x155001_3]) ?_ 1 _ rfl; (with_reducible repeat (first | refine bNx14 ?_ _ | refine bDx14 ?_ | refine bKx14 ?_ _)); exact BK154.out⟩, ⟨by (with_reducible repeat (first | refine bNx14 ?_ _ | refine bDx14 ?_ | refine bKx14 ?_ _)); refine zL ?_ NB155_156.out _; (with_reducible repeat (first | refine bNx14 ?_ _ | refine bDx14 ?_ | refine bKx14 ?_ _)); refine zL ?_ NB155_154.out _; (with_reducible repeat (first | refine bNx14 ?_ _ | refine bDx14 ?_ | refine bKx14 ?_ _)); exact BK155.out⟩, ⟨by (with_reducible repeat (first | refine bNx14 ?_ _ | refine bDx14 ?_ | refine bKx14 ?_ _)); refine zZ (cs := #[.int .i64 x157000_3, .int .i64 x157001_3]) ?_ 1 _ rfl; (with_reducible repeat (first | refine bNx14 ?_ _ | refine bDx14 ?_ | refine bKx14 ?_ _)); refine zL ?_ NB156_154.out _; (with_reducible repeat (first | refine bNx14 ?_ _ | refine bDx14 ?_ | refine bKx14 ?_ _)); exact BK156.out⟩, ⟨by repeat (first | (with_reducible first | exact HB.out | apply zF | apply zB | apply zE | refine zC ?_ GE154.out | refine zC ?_ GE155.out | refine zC ?_ GE156.out) | exact HB.out)⟩⟩
             ·
              rw [if_neg c47] at H
              have c47b0 : decide ((wrap64 (2 * ji9)) ≤ x157001_3) = false := decide_eq_false c47
              clear c47
              have H' := aMx14 H
              clear H
              have hnb53 := NB156_154.out
              have hnc53 := NB154_156.out
              have hnb54 := NB156_155.out
              have hnc54 := NB155_156.out
              have hcz55_0 : wr.cell? ⟨gb156, 0, none⟩ = some (.int .i64 x157000_3) := (bCx14 BK156.out 0).trans rfl
              have hcz55_1 : wr.cell? ⟨gb156, 1, none⟩ = some (.int .i64 x157001_3) := (bCx14 BK156.out 1).trans rfl
              have hfz55_0 := bFx14 BK156.out 0
              have hfz55_1 := bFx14 BK156.out 1
              go_wp2
              go_meet
              case rel => exact ⟨_, (x155000_3), (x155001_3), (x157000_3), (x157001_3), H', ⟨by have := HK1.out; have := HK2.out; have := HK3.out; first | omega | exact Nat.le_refl _⟩, ⟨by (with_reducible repeat (first | apply zP | apply zQ | apply zR)); exact HO_14.out⟩, ⟨by (with_reducible repeat (first | refine bNx14 ?_ _ | refine bDx14 ?_ | refine bKx14 ?_ _)); exact BK154.out⟩, ⟨by (with_reducible repeat (first | refine bNx14 ?_ _ | refine bDx14 ?_ | refine bKx14 ?_ _)); exact BK155.out⟩, ⟨by (with_reducible repeat (first | refine bNx14 ?_ _ | refine bDx14 ?_ | refine bKx14 ?_ _)); exact BK156.out⟩, ⟨by repeat (first | (with_reducible first | exact HB.out | apply zF | apply zB | apply zE | refine zC ?_ GE154.out | refine zC ?_ GE155.out | refine zC ?_ GE156.out) | exact HB.out)⟩⟩
           ·
            rw [if_neg c46] at H
            exact absurd H (by simp)
        case rest =>
         clear HC33
         try clear c1 c2 p2 c3 c4 c5 c6 p6 c18 c21 c22 c27 c27b0 c28 c29 c31 c31b0 c32 c32b0 c32b1 c36 c36b0 c36b1 c37 c37b0 c38 c39 c41 c43 c44 c46 c46b0 c46b1 c47 c47b0 c48 c49 c50 c51 c53 c54 hcz16_0 hcz16_1 hcz19_0 hcz19_1 hcz23_0 hcz23_1 hcz24_0 hcz24_1 hcz30_0 hcz30_1 hcz40_0 hcz40_1 hcz42_0 hcz42_1 hcz45_0 hcz45_1 hcz50_0 hcz50_1 hcz52_0 hcz52_1 hcz55_0 hcz55_1 hfz16_0 hfz16_1 hfz19_0 hfz19_1 hfz23_0 hfz23_1 hfz24_0 hfz24_1 hfz30_0 hfz30_1 hfz40_0 hfz40_1 hfz42_0 hfz42_1 hfz45_0 hfz45_1 hfz50_0 hfz50_1 hfz52_0 hfz52_1 hfz55_0 hfz55_1 p2 p6
         obtain ⟨kq, x155000_32, x155001_32, x157000_32, x157001_32, HA, HJ32, HO_14, BK154, BK155, BK156, HB⟩ := hcut
         cases kq with
         | zero => exact absurd HA.out (by simp [ray_Line.j3])
         | succ kj32 =>
          have H := HA.out
          clear HA
          simp only [ray_Line.j3] at H
          have H' := aMx14 H
          clear H
          go_wp2
          go_loopg [] kj32 (fun kq w' => ∃ (x155000_4 : Int) (x155001_4 : Int) (x157000_4 : Int) (x157001_4 : Int), Aside0 (ray_Line.l3 kq a2 a3 ji9 x14_1 x52_2 x52_2 x155000_4 x155001_4 (wrap64 (a2 - a0)) (wrap64 (a3 - a1)) x157000_4 x157001_4 = some (r1, r2)) ∧ Aside0 (kq ≤ kj32) ∧ Aside0 (Kd.R k57 57 w' w.heap.size (fun k_ => k_ ≠ gb154 ∧ k_ ≠ gb155 ∧ k_ ≠ gb156) u14 x14_1) ∧ Aside0 (w'.heap[gb154]? = some (.cells #[.int .i64 x155000_4, .int .i64 x155001_4] 57 (0, 0))) ∧ Aside0 (w'.heap[gb155]? = some (.cells #[.int .i64 (wrap64 (a2 - a0)), .int .i64 (wrap64 (a3 - a1))] 57 (0, 0))) ∧ Aside0 (w'.heap[gb156]? = some (.cells #[.int .i64 x157000_4, .int .i64 x157001_4] 57 (0, 0))) ∧ Aside0 (Below w.heap.size w w'))
          case atStart => exact ⟨(x155000_32), (x155001_32), (x157000_32), (x157001_32), H', ⟨Nat.le_refl _⟩, ⟨by (with_reducible repeat (first | apply zP | apply zQ | apply zR)); exact HO_14.out⟩, ⟨by (with_reducible repeat (first | refine bNx14 ?_ _ | refine bDx14 ?_ | refine bKx14 ?_ _)); exact BK154.out⟩, ⟨by (with_reducible repeat (first | refine bNx14 ?_ _ | refine bDx14 ?_ | refine bKx14 ?_ _)); exact BK155.out⟩, ⟨by (with_reducible repeat (first | refine bNx14 ?_ _ | refine bDx14 ?_ | refine bKx14 ?_ _)); exact BK156.out⟩, ⟨by repeat (first | (with_reducible first | exact HB.out | apply zF | apply zB | apply zE | refine zC ?_ GE154.out | refine zC ?_ GE155.out | refine zC ?_ GE156.out) | exact HB.out)⟩⟩
          clear H'
          try clear c1 c2 p2 c3 c4 c5 c6 p6 c18 c21 c22 c27 c27b0 c28 c29 c31 c31b0 c32 c32b0 c32b1 c36 c36b0 c36b1 c37 c37b0 c38 c39 c41 c43 c44 c46 c46b0 c46b1 c47 c47b0 c48 c49 c50 c51 c53 c54 hcz16_0 hcz16_1 hcz19_0 hcz19_1 hcz23_0 hcz23_1 hcz24_0 hcz24_1 hcz30_0 hcz30_1 hcz40_0 hcz40_1 hcz42_0 hcz42_1 hcz45_0 hcz45_1 hcz50_0 hcz50_1 hcz52_0 hcz52_1 hcz55_0 hcz55_1 hfz16_0 hfz16_1 hfz19_0 hfz19_1 hfz23_0 hfz23_1 hfz24_0 hfz24_1 hfz30_0 hfz30_1 hfz40_0 hfz40_1 hfz42_0 hfz42_1 hfz45_0 hfz45_1 hfz50_0 hfz50_1 hfz52_0 hfz52_1 hfz55_0 hfz55_1 p2 p6
          obtain ⟨x155000_4, x155001_4, x157000_4, x157001_4, HA, HK4, HO_14, BK154, BK155, BK156, HB⟩ := hrel
          cases gk with
          | zero => exact absurd HA.out (by simp [ray_Line.l3])
          | succ k4 =>
           have H := HA.out
           clear HA
           simp only [ray_Line.l3] at H
           by_cases c56 : x52_2 = 0
           ·
            rw [if_pos c56] at H
            have c56b0 : (x52_2 == 0) = true := beq_iff_eq.mpr c56
            have c56b1 : (x52_2 != 0) = false := bne_eq_false_iff_eq.mpr c56
            (try (have c56a : 0 ≤ x52_2 := by omega))
            (try (have c56d : x52_2 < 2 := by omega))
            (try (have c56t : Int.toNat x52_2 = 0 := by omega))
            clear c56
            all_goals (try (exfalso; omega))
            all_goals
             by_cases c57 : x157000_4 < 0
             ·
              rw [if_pos c57] at H
              have c57b0 : decide (x157000_4 < 0) = true := decide_eq_true c57
              clear c57
              have H' := aMx14 H
              clear H
              have hnb58 := NB156_154.out
              have hnc58 := NB154_156.out
              have hnb59 := NB156_155.out
              have hnc59 := NB155_156.out
              have hcz60_0 : wr.cell? ⟨gb156, 0, none⟩ = some (.int .i64 x157000_4) := (bCx14 BK156.out 0).trans rfl
              have hcz60_1 : wr.cell? ⟨gb156, 1, none⟩ = some (.int .i64 x157001_4) := (bCx14 BK156.out 1).trans rfl
              have hfz60_0 := bFx14 BK156.out 0
              have hfz60_1 := bFx14 BK156.out 1
              have hnb61 := NB154_155.out
              have hnc61 := NB155_154.out
              have hcz62_0 : wr.cell? ⟨gb154, 0, none⟩ = some (.int .i64 x155000_4) := (bCx14 BK154.out 0).trans rfl
              have hcz62_1 : wr.cell? ⟨gb154, 1, none⟩ = some (.int .i64 x155001_4) := (bCx14 BK154.out 1).trans rfl
              have hfz62_0 := bFx14 BK154.out 0
              have hfz62_1 := bFx14 BK154.out 1
              go_wp2
              go_roundg k4
              case measure => have := HK1.out; have := HK2.out; have := HJ32.out; have := HK4.out; omega
              case rel => exact ⟨(wrap64 (x155000_4 - 1)), (x155001_4), (wrap64 (x157000_4 + (wrap64 (2 * ji9)))), (x157001_4), H', ⟨by have := HK1.out; have := HK2.out; have := HJ32.out; have := HK4.out; omega⟩, ⟨by (with_reducible repeat (first | apply zP | apply zQ | apply zR)); exact Kd.R_mono (Kd.R_far (p := ⟨gb156, 0, none⟩) (Kd.R_far (p := ⟨gb154, 0, none⟩) (Kd.R_mono (Kd.R_mono HO_14.out (fun k_ hk => (⟨hk, hk.1⟩ : _ ∧ k_ ≠ gb154))) (fun k_ hk => (⟨hk, hk.1.2.2⟩ : _ ∧ k_ ≠ gb156))) (fun _ hk => hk.1.2) (.int .i64 (wrap64 (x155000_4 - 1)))) (fun _ hk => hk.2) (.int .i64 (wrap64 (x157000_4 + (wrap64 (2 * ji9)))))) (fun _ hk => ⟨hk.1.1.1, ⟨hk.1.1.2.1, hk.1.1.2.2⟩⟩)⟩, ⟨by (with_reducible repeat (first | refine bNx14 ?_ _ | refine bDx14 ?_ | refine bKx14 ?_ _)); refine zL ?_ NB154_156.out _; (with_reducible repeat (first | refine bNx14 ?_ _ | refine bDx14 ?_ | refine bKx14 ?_ _)); refine zZ (cs := #[.int .i64 x155000_4, .int .i64 x155001_4]) ?_ 0 _ rfl; (with_reducible repeat (first | refine bNx14 ?_ _ | refine bDx14 ?_ | refine bKx14 ?_ _)); exact BK154.out⟩, ⟨by (with_reducible repeat (first | refine bNx14 ?_ _ | refine bDx14 ?_ | refine bKx14 ?_ _)); refine zL ?_ NB155_156.out _; (with_reducible repeat (first | refine bNx14 ?_ _ | refine bDx14 ?_ | refine bKx14 ?_ _)); refine zL ?_ NB155_154.out _; (with_reducible repeat (first | refine bNx14 ?_ _ | refine bDx14 ?_ | refine bKx14 ?_ _)); exact BK155.out⟩, ⟨by (with_reducible repeat (first | refine bNx14 ?_ _ | refine bDx14 ?_ | refine bKx14 ?_ _)); refine zZ (cs := #[.int .i64 x157000_4, .int .i64 x157001_4]) ?_ 0 _ rfl; (with_reducible repeat (first | refine bNx14 ?_ _ | refine bDx14 ?_ | refine bKx14 ?_ _)); refine zL ?_ NB156_154.out _; (with_reducible repeat (first | refine bNx14 ?_ _ | refine bDx14 ?_ | refine bKx14 ?_ _)); exact BK156.out⟩, ⟨by repeat (first | (with_reducible first | exact HB.out | apply zF | apply zB | apply zE | refine zC ?_ GE154.out | refine zC ?_ GE155.out | refine zC ?_ GE156.out) | exact HB.out)⟩⟩
             ·
              rw [if_neg c57] at H
              have c57b0 : decide (x157000_4 < 0) = false := decide_eq_false c57
              clear c57
              have H' := aMx14 H
              clear H
              have hnb63 := NB156_154.out
              have hnc63 := NB154_156.out
              have hnb64 := NB156_155.out
              have hnc64 := NB155_156.out
              have hcz65_0 : wr.cell? ⟨gb156, 0, none⟩ = some (.int .i64 x157000_4) := (bCx14 BK156.out 0).trans rfl
              have hcz65_1 : wr.cell? ⟨gb156, 1, none⟩ = some (.int .i64 x157001_4) := (bCx14 BK156.out 1).trans rfl
              have hfz65_0 := bFx14 BK156.out 0
              have hfz65_1 := bFx14 BK156.out 1
              go_wp2
              go_roundg k4
              case measure => have := HK1.out; have := HK2.out; have := HJ32.out; have := HK4.out; omega
              case rel => exact ⟨(wrap64 (x52_2 + 1)), (x155000_4), (x155001_4), (x157000_4), (x157001_4), (by first | rfl | (simp; done) | (simp [*]; done) | (congr 1; unfold wrap64; omega)), H', ⟨by have := HK1.out; have := HK2.out; have := HJ32.out; have := HK4.out; omega⟩, ⟨by (with_reducible repeat (first | apply zP | apply zQ | apply zR)); exact HO_14.out⟩, ⟨by (with_reducible repeat (first | refine bNx14 ?_ _ | refine bDx14 ?_ | refine bKx14 ?_ _)); exact BK154.out⟩, ⟨by (with_reducible repeat (first | refine bNx14 ?_ _ | refine bDx14 ?_ | refine bKx14 ?_ _)); exact BK155.out⟩, ⟨by (with_reducible repeat (first | refine bNx14 ?_ _ | refine bDx14 ?_ | refine bKx14 ?_ _)); exact BK156.out⟩, ⟨by repeat (first | (with_reducible first | exact HB.out | apply zF | apply zB | apply zE | refine zC ?_ GE154.out | refine zC ?_ GE155.out | refine zC ?_ GE156.out) | exact HB.out)⟩⟩
           rw [if_neg c56] at H
           have c56b0 : (x52_2 == 0) = false := beq_eq_false_iff_ne.mpr c56
           have c56b1 : (x52_2 != 0) = true := bne_iff_ne.mpr c56
           all_goals (try (exfalso; omega))
           all_goals
            by_cases c66 : x52_2 = 1
            ·
             rw [if_pos c66] at H
             have c66b0 : (x52_2 == 1) = true := beq_iff_eq.mpr c66
             have c66b1 : (x52_2 != 1) = false := bne_eq_false_iff_eq.mpr c66
             (try (have c66a : 0 ≤ x52_2 := by omega))
             (try (have c66d : x52_2 < 2 := by omega))
             (try (have c66t : Int.toNat x52_2 = 1 := by omega))
             clear c66
             all_goals (try (exfalso; omega))
             all_goals
              by_cases c67 : x157001_4 < 0
              ·
               rw [if_pos c67] at H
               have c67b0 : decide (x157001_4 < 0) = true := decide_eq_true c67
               clear c67
               have H' := aMx14 H
               clear H
               have hnb68 := NB156_154.out
               have hnc68 := NB154_156.out
               have hnb69 := NB156_155.out
               have hnc69 := NB155_156.out
               have hcz70_0 : wr.cell? ⟨gb156, 0, none⟩ = some (.int .i64 x157000_4) := (bCx14 BK156.out 0).trans rfl
               have hcz70_1 : wr.cell? ⟨gb156, 1, none⟩ = some (.int .i64 x157001_4) := (bCx14 BK156.out 1).trans rfl
               have hfz70_0 := bFx14 BK156.out 0
               have hfz70_1 := bFx14 BK156.out 1
               have hnb71 := NB154_155.out
               have hnc71 := NB155_154.out
               have hcz72_0 : wr.cell? ⟨gb154, 0, none⟩ = some (.int .i64 x155000_4) := (bCx14 BK154.out 0).trans rfl
               have hcz72_1 : wr.cell? ⟨gb154, 1, none⟩ = some (.int .i64 x155001_4) := (bCx14 BK154.out 1).trans rfl
               have hfz72_0 := bFx14 BK154.out 0
               have hfz72_1 := bFx14 BK154.out 1
               go_wp2
               go_roundg k4
               case measure => have := HK1.out; have := HK2.out; have := HJ32.out; have := HK4.out; omega
               case rel => exact ⟨(x155000_4), (wrap64 (x155001_4 - 1)), (x157000_4), (wrap64 (x157001_4 + (wrap64 (2 * ji9)))), H', ⟨by have := HK1.out; have := HK2.out; have := HJ32.out; have := HK4.out; omega⟩, ⟨by (with_reducible repeat (first | apply zP | apply zQ | apply zR)); exact Kd.R_mono (Kd.R_far (p := ⟨gb156, 1, none⟩) (Kd.R_far (p := ⟨gb154, 1, none⟩) (Kd.R_mono (Kd.R_mono HO_14.out (fun k_ hk => (⟨hk, hk.1⟩ : _ ∧ k_ ≠ gb154))) (fun k_ hk => (⟨hk, hk.1.2.2⟩ : _ ∧ k_ ≠ gb156))) (fun _ hk => hk.1.2) (.int .i64 (wrap64 (x155001_4 - 1)))) (fun _ hk => hk.2) (.int .i64 (wrap64 (x157001_4 + (wrap64 (2 * ji9)))))) (fun _ hk => ⟨hk.1.1.1, ⟨hk.1.1.2.1, hk.1.1.2.2⟩⟩)⟩, ⟨by (with_reducible repeat (first | refine bNx14 ?_ _ | refine bDx14 ?_ | refine bKx14 ?_ _)); refine zL ?_ NB154_156.out _; (with_reducible repeat (first | refine bNx14 ?_ _ | refine bDx14 ?_ | refine bKx14 ?_ _)); refine zZ (cs := #[.int .i64 x155000_4, .int .i64 x155001_4]) ?_ 1 _ rfl; (with_reducible repeat (first | refine bNx14 ?_ _ | refine bDx14 ?_ | refine bKx14 ?_ _)); exact BK154.out⟩, ⟨by (with_reducible repeat (first | refine bNx14 ?_ _ | refine bDx14 ?_ | refine bKx14 ?_ _)); refine zL ?_ NB155_156.out _; (with_reducible repeat (first | refine bNx14 ?_ _ | refine bDx14 ?_ | refine bKx14 ?_ _)); refine zL ?_ NB155_154.out _; (with_reducible repeat (first | refine bNx14 ?_ _ | refine bDx14 ?_ | refine bKx14 ?_ _)); exact BK155.out⟩, ⟨by (with_reducible repeat (first | refine bNx14 ?_ _ | refine bDx14 ?_ | refine bKx14 ?_ _)); refine zZ (cs := #[.int .i64 x157000_4, .int .i64 x157001_4]) ?_ 1 _ rfl; (with_reducible repeat (first | refine bNx14 ?_ _ | refine bDx14 ?_ | refine bKx14 ?_ _)); refine zL ?_ NB156_154.out _; (with_reducible repeat (first | refine bNx14 ?_ _ | refine bDx14 ?_ | refine bKx14 ?_ _)); exact BK156.out⟩, ⟨by repeat (first | (with_reducible first | exact HB.out | apply zF | apply zB | apply zE | refine zC ?_ GE154.out | refine zC ?_ GE155.out | refine zC ?_ GE156.out) | exact HB.out)⟩⟩
              ·
               rw [if_neg c67] at H
               have c67b0 : decide (x157001_4 < 0) = false := decide_eq_false c67
               clear c67
               have H' := aMx14 H
               clear H
               have hnb73 := NB156_154.out
               have hnc73 := NB154_156.out
               have hnb74 := NB156_155.out
               have hnc74 := NB155_156.out
               have hcz75_0 : wr.cell? ⟨gb156, 0, none⟩ = some (.int .i64 x157000_4) := (bCx14 BK156.out 0).trans rfl
               have hcz75_1 : wr.cell? ⟨gb156, 1, none⟩ = some (.int .i64 x157001_4) := (bCx14 BK156.out 1).trans rfl
               have hfz75_0 := bFx14 BK156.out 0
               have hfz75_1 := bFx14 BK156.out 1
               go_wp2
               go_roundg k4
               case measure => have := HK1.out; have := HK2.out; have := HJ32.out; have := HK4.out; omega
               case rel => exact ⟨(wrap64 (x52_2 + 1)), (x155000_4), (x155001_4), (x157000_4), (x157001_4), (by first | rfl | (simp; done) | (simp [*]; done) | (congr 1; unfold wrap64; omega)), H', ⟨by have := HK1.out; have := HK2.out; have := HJ32.out; have := HK4.out; omega⟩, ⟨by (with_reducible repeat (first | apply zP | apply zQ | apply zR)); exact HO_14.out⟩, ⟨by (with_reducible repeat (first | refine bNx14 ?_ _ | refine bDx14 ?_ | refine bKx14 ?_ _)); exact BK154.out⟩, ⟨by (with_reducible repeat (first | refine bNx14 ?_ _ | refine bDx14 ?_ | refine bKx14 ?_ _)); exact BK155.out⟩, ⟨by (with_reducible repeat (first | refine bNx14 ?_ _ | refine bDx14 ?_ | refine bKx14 ?_ _)); exact BK156.out⟩, ⟨by repeat (first | (with_reducible first | exact HB.out | apply zF | apply zB | apply zE | refine zC ?_ GE154.out | refine zC ?_ GE155.out | refine zC ?_ GE156.out) | exact HB.out)⟩⟩
            ·
             rw [if_neg c66] at H
             exact absurd H (by simp)
      rw [if_neg c32] at H
      have c32b0 : (x52_2 == 0) = false := beq_eq_false_iff_ne.mpr c32
      have c32b1 : (x52_2 != 0) = true := bne_iff_ne.mpr c32
      all_goals (try (exfalso; omega))
      all_goals
       by_cases c76 : x52_2 = 1
       ·
        rw [if_pos c76] at H
        have c76b0 : (x52_2 == 1) = true := beq_iff_eq.mpr c76
        have c76b1 : (x52_2 != 1) = false := bne_eq_false_iff_eq.mpr c76
        (try (have c76a : 0 ≤ x52_2 := by omega))
        (try (have c76d : x52_2 < 2 := by omega))
        (try (have c76t : Int.toNat x52_2 = 1 := by omega))
        clear c76
        all_goals (try (exfalso; omega))
        all_goals
         have HC77 := aMx14 H
         clear H
         try go_wp2
         have n0_ := aMx14 (zR HO_14.out)
         have n1_ := aMx14 (bDx14 BK154.out)
         have n2_ := aMx14 (bDx14 BK155.out)
         have n3_ := aMx14 (bDx14 BK156.out)
         have n4_ := aMx14 (zE HB.out)
         clear HO_14
         clear BK154
         clear BK155
         clear BK156
         clear HB
         have HO_14 := n0_
         have BK154 := n1_
         have BK155 := n2_
         have BK156 := n3_
         have HB := n4_
         clear n0_ n1_ n2_ n3_ n4_
         refine start_ (n := 10) (S := fun w' => w'.cell? ⟨gb156, 0, none⟩ = some (.int .i64 x157000_2) ∧ w'.cell? ⟨gb156, 1, none⟩ = some (.int .i64 x157001_2) ∧ w'.cell? ⟨gb155, 0, none⟩ = some (.int .i64 (wrap64 (a2 - a0))) ∧ w'.cell? ⟨gb155, 1, none⟩ = some (.int .i64 (wrap64 (a3 - a1)))) (ds := [9]) (bA 10 0) (by kernel_rfl) rfl rfl ⟨(bCx14 BK156.out 0).trans rfl, (bCx14 BK156.out 1).trans rfl, (bCx14 BK155.out 0).trans rfl, (bCx14 BK155.out 1).trans rfl⟩ (fun hHeld => ?_); refine with_tabW ray_Line.tab12 ray_Line.bits12 (fun HT_ HW_ => ?_)
         generalize wr.drew = w78 at HO_14 BK154 BK155 BK156 HB hHeld ⊢
         refine pure_ (i := 0) (N := some 55) (v := ?_) (a' := ?_) (bA 10 1) rfl rfl (any_of HT_.out (by kernel_rfl)) (fun _ _ _ h => h) (Or.inl ⟨by rfl, ?_⟩) ?_ ?_
         rotate_left
         ·
          intro w'
          go_simp
          with_reducible rfl
         rotate_left
         ·
          simp only [Act.put, sA, sB, sC, i64_w, i32_w]
          rfl
         refine pure_ (i := 1) (N := some 56) (v := ?_) (a' := ?_) (bA 10 3) rfl rfl (any_of HT_.out (by kernel_rfl)) (fun _ _ _ h => h) (Or.inl ⟨by rfl, ?_⟩) ?_ ?_
         rotate_left
         ·
          intro w'
          go_simp
          with_reducible rfl
         rotate_left
         ·
          simp only [Act.put, sA, sB, sC, i64_w, i32_w]
          rfl
         refine pure_ (i := 3) (N := some 58) (v := ?_) (a' := ?_) (bA 10 11) rfl rfl (any_of HT_.out (by kernel_rfl)) (fun _ _ _ h => h) (Or.inl ⟨by rfl, ?_⟩) ?_ ?_
         rotate_left
         ·
          intro w'
          go_simp
          with_reducible rfl
         rotate_left
         ·
          simp only [Act.put, sA, sB, sC, i64_w, i32_w]
          rfl
         refine pure_ (i := 4) (N := some 59) (v := ?_) (a' := ?_) (bA 10 27) rfl rfl (any_of HT_.out (by kernel_rfl)) (fun _ _ _ h => h) (Or.inl ⟨by rfl, ?_⟩) ?_ ?_
         rotate_left
         ·
          intro w'
          go_simp
          with_reducible rfl
         rotate_left
         ·
          simp only [Act.put, sA, sB, sC, i64_w, i32_w]
          rfl
         refine take_ (i := 2) (N := some 57) (v := ?_) (a' := ?_) (bA 10 31) rfl rfl (take_ofW HT_.out HW_.out (by kernel_rfl)) (fun _ _ _ h => h) (Or.inl ⟨by rfl, ?_⟩) hHeld ?_ ?_
         rotate_left
         ·
          rintro w' ⟨s0, s1, s2, s3⟩
          go_simp
          with_reducible rfl
         rotate_left
         ·
          simp only [Act.put, sA, sB, sC, i64_w, i32_w]
          rfl
         refine take_ (i := 5) (N := some 60) (v := ?_) (a' := ?_) (bA 10 63) rfl rfl (take_ofW HT_.out HW_.out (by kernel_rfl)) (fun _ _ _ h => h) (Or.inl ⟨by rfl, ?_⟩) hHeld ?_ ?_
         rotate_left
         ·
          rintro w' ⟨s0, s1, s2, s3⟩
          go_simp
          with_reducible rfl
         rotate_left
         ·
          simp only [Act.put, sA, sB, sC, i64_w, i32_w]
          rfl
         refine pure_ (i := 6) (N := some 61) (v := ?_) (a' := ?_) (bA 10 127) rfl rfl (any_of HT_.out (by kernel_rfl)) (fun _ _ _ h => h) (Or.inl ⟨by rfl, ?_⟩) ?_ ?_
         rotate_left
         ·
          intro w'
          go_simp
          with_reducible rfl
         rotate_left
         ·
          simp only [Act.put, sA, sB, sC, i64_w, i32_w]
          rfl
         refine pure_ (i := 7) (N := some 62) (v := ?_) (a' := ?_) (bA 10 255) rfl rfl (any_of HT_.out (by kernel_rfl)) (fun _ _ _ h => h) (Or.inl ⟨by rfl, ?_⟩) ?_ ?_
         rotate_left
         ·
          intro w'
          go_simp
          with_reducible rfl
         rotate_left
         ·
          simp only [Act.put, sA, sB, sC, i64_w, i32_w]
          rfl
         refine pure_ (i := 8) (N := some 63) (v := ?_) (a' := ?_) (bA 10 511) rfl rfl (any_of HT_.out (by kernel_rfl)) (fun _ _ _ h => h) (Or.inl ⟨by rfl, ?_⟩) ?_ ?_
         rotate_left
         ·
          intro w'
          go_simp
          with_reducible rfl
         rotate_left
         ·
          simp only [Act.put, sA, sB, sC, i64_w, i32_w]
          rfl
         refine last_ (i := 9) (N := none) (bA 10 1023) rfl rfl (one_of HT_.out (by kernel_rfl)) (by decide) (fun K hK => ?_)
         have hs79 : w78.cell? ⟨gb156, 1, none⟩ = some (.int .i64 x157001_2) := (bCx14 BK156.out 1).trans rfl
         have hfs79 := bFx14 BK156.out 1
         have hns79_0 := NB154_156.out
         have hns79_1 := NB155_156.out
         have hms79_0 := NB156_154.out
         have hms79_1 := NB156_155.out
         refine skip_ (w1 := ?_) (by rfl) rfl ?_ ?_
         rotate_left
         ·
          go_simp
          rfl
         refine hK.out _ _ ?_
         clear hK K
         refine done_ (done_of HT_.out (by kernel_rfl)) ?_
         go_upto_block 4 with (fail)
         go_cut [] (fun wc => ∃ (kq : Nat) (x155000_76 : Int) (x155001_76 : Int) (x157000_76 : Int) (x157001_76 : Int), Aside0 (ray_Line.j3 kq a2 a3 ji9 x14_1 x52_2 x52_2 x155000_76 x155001_76 (wrap64 (a2 - a0)) (wrap64 (a3 - a1)) x157000_76 x157001_76 = some (r1, r2)) ∧ Aside0 (kq ≤ k2) ∧ Aside0 (Kd.R k57 57 wc w.heap.size (fun k_ => k_ ≠ gb154 ∧ k_ ≠ gb155 ∧ k_ ≠ gb156) u14 x14_1) ∧ Aside0 (wc.heap[gb154]? = some (.cells #[.int .i64 x155000_76, .int .i64 x155001_76] 57 (0, 0))) ∧ Aside0 (wc.heap[gb155]? = some (.cells #[.int .i64 (wrap64 (a2 - a0)), .int .i64 (wrap64 (a3 - a1))] 57 (0, 0))) ∧ Aside0 (wc.heap[gb156]? = some (.cells #[.int .i64 x157000_76, .int .i64 x157001_76] 57 (0, 0))) ∧ Aside0 (Below w.heap.size w wc))
         case first =>
          have H := HC77.out
          clear HC77
          have H' := aMx14 H
          clear H
          go_wp2
          go_loopg [] k2 (fun kq w' => ∃ (x155000_3 : Int) (x155001_3 : Int) (x157000_3 : Int) (x157001_3 : Int), Aside0 (ray_Line.l2 kq a2 a3 ji9 x14_1 x52_2 x52_2 x155000_3 x155001_3 (wrap64 (a2 - a0)) (wrap64 (a3 - a1)) x157000_3 x157001_3 = some (r1, r2)) ∧ Aside0 (kq ≤ k2) ∧ Aside0 (Kd.R k57 57 w' w.heap.size (fun k_ => k_ ≠ gb154 ∧ k_ ≠ gb155 ∧ k_ ≠ gb156) u14 x14_1) ∧ Aside0 (w'.heap[gb154]? = some (.cells #[.int .i64 x155000_3, .int .i64 x155001_3] 57 (0, 0))) ∧ Aside0 (w'.heap[gb155]? = some (.cells #[.int .i64 (wrap64 (a2 - a0)), .int .i64 (wrap64 (a3 - a1))] 57 (0, 0))) ∧ Aside0 (w'.heap[gb156]? = some (.cells #[.int .i64 x157000_3, .int .i64 x157001_3] 57 (0, 0))) ∧ Aside0 (Below w.heap.size w w'))
          case atStart => exact ⟨(x155000_2), (x155001_2), (x157000_2), (wrap64 (x157001_2 + (wrap64 (2 * (wrap64 (a3 - a1)))))), H', ⟨Nat.le_refl _⟩, ⟨by (with_reducible repeat (first | apply zP | apply zQ | apply zR)); exact Kd.R_mono (Kd.R_far (p := ⟨gb156, 1, none⟩) (Kd.R_mono HO_14.out (fun k_ hk => (⟨hk, hk.2.2⟩ : _ ∧ k_ ≠ gb156))) (fun _ hk => hk.2) (.int .i64 (wrap64 (x157001_2 + (wrap64 (2 * (wrap64 (a3 - a1)))))))) (fun _ hk => ⟨hk.1.1, ⟨hk.1.2.1, hk.1.2.2⟩⟩)⟩, ⟨by (with_reducible repeat (first | refine bNx14 ?_ _ | refine bDx14 ?_ | refine bKx14 ?_ _)); refine zL ?_ NB154_156.out _; (with_reducible repeat (first | refine bNx14 ?_ _ | refine bDx14 ?_ | refine bKx14 ?_ _)); exact BK154.out⟩, ⟨by (with_reducible repeat (first | refine bNx14 ?_ _ | refine bDx14 ?_ | refine bKx14 ?_ _)); refine zL ?_ NB155_156.out _; (with_reducible repeat (first | refine bNx14 ?_ _ | refine bDx14 ?_ | refine bKx14 ?_ _)); exact BK155.out⟩, ⟨by (with_reducible repeat (first | refine bNx14 ?_ _ | refine bDx14 ?_ | refine bKx14 ?_ _)); refine zZ (cs := #[.int .i64 x157000_2, .int .i64 x157001_2]) ?_ 1 _ rfl; (with_reducible repeat (first | refine bNx14 ?_ _ | refine bDx14 ?_ | refine bKx14 ?_ _)); exact BK156.out⟩, ⟨by repeat (first | (with_reducible first | exact HB.out | apply zF | apply zB | apply zE | refine zC ?_ GE154.out | refine zC ?_ GE155.out | refine zC ?_ GE156.out) | exact HB.out)⟩⟩
          clear H'
          try clear c1 c2 p2 c3 c4 c5 c6 p6 c7 c18 c21 c22 c27 c27b0 c28 c29 c31 c31b0 c32 c32b0 c32b1 c36 c36b0 c36b1 c37 c37b0 c38 c39 c41 c43 c44 c46 c46b0 c46b1 c47 c47b0 c48 c49 c50 c51 c53 c54 c56 c56b0 c56b1 c57 c57b0 c58 c59 c61 c63 c64 p64 c66 c66b0 c66b1 c67 c67b0 c68 c69 c71 c73 c74 c76 c76b0 c76b1 hcz16_0 hcz16_1 hcz19_0 hcz19_1 hcz23_0 hcz23_1 hcz24_0 hcz24_1 hcz30_0 hcz30_1 hcz40_0 hcz40_1 hcz42_0 hcz42_1 hcz45_0 hcz45_1 hcz50_0 hcz50_1 hcz52_0 hcz52_1 hcz55_0 hcz55_1 hcz60_0 hcz60_1 hcz62_0 hcz62_1 hcz65_0 hcz65_1 hcz70_0 hcz70_1 hcz72_0 hcz72_1 hcz75_0 hcz75_1 hfz16_0 hfz16_1 hfz19_0 hfz19_1 hfz23_0 hfz23_1 hfz24_0 hfz24_1 hfz30_0 hfz30_1 hfz40_0 hfz40_1 hfz42_0 hfz42_1 hfz45_0 hfz45_1 hfz50_0 hfz50_1 hfz52_0 hfz52_1 hfz55_0 hfz55_1 hfz60_0 hfz60_1 hfz62_0 hfz62_1 hfz65_0 hfz65_1 hfz70_0 hfz70_1 hfz72_0 hfz72_1 hfz75_0 hfz75_1 p2 p6
          obtain ⟨x155000_3, x155001_3, x157000_3, x157001_3, HA, HK3, HO_14, BK154, BK155, BK156, HB⟩ := hrel
          cases gk with
          | zero => exact absurd HA.out (by simp [ray_Line.l2])
          | succ k3 =>
           have H := HA.out
           clear HA
           simp only [ray_Line.l2] at H
           by_cases c80 : x52_2 = 0
           ·
            rw [if_pos c80] at H
            have c80b0 : (x52_2 == 0) = true := beq_iff_eq.mpr c80
            have c80b1 : (x52_2 != 0) = false := bne_eq_false_iff_eq.mpr c80
            (try (have c80a : 0 ≤ x52_2 := by omega))
            (try (have c80d : x52_2 < 2 := by omega))
            (try (have c80t : Int.toNat x52_2 = 0 := by omega))
            clear c80
            (first | rw [c80b0] | (simp only [i64_w, i32_w]; rw [c80b0]) | skip)
            all_goals (try (exfalso; omega))
            all_goals
             by_cases c81 : x157000_3 ≥ (wrap64 (2 * ji9))
             ·
              rw [if_pos c81] at H
              have c81b0 : decide ((wrap64 (2 * ji9)) ≤ x157000_3) = true := decide_eq_true c81
              clear c81
              have H' := aMx14 H
              clear H
              have hnb82 := NB156_154.out
              have hnc82 := NB154_156.out
              have hnb83 := NB156_155.out
              have hnc83 := NB155_156.out
              have hcz84_0 : wr.cell? ⟨gb156, 0, none⟩ = some (.int .i64 x157000_3) := (bCx14 BK156.out 0).trans rfl
              have hcz84_1 : wr.cell? ⟨gb156, 1, none⟩ = some (.int .i64 x157001_3) := (bCx14 BK156.out 1).trans rfl
              have hfz84_0 := bFx14 BK156.out 0
              have hfz84_1 := bFx14 BK156.out 1
              have hnb85 := NB154_155.out
              have hnc85 := NB155_154.out
              have hcz86_0 : wr.cell? ⟨gb154, 0, none⟩ = some (.int .i64 x155000_3) := (bCx14 BK154.out 0).trans rfl
              have hcz86_1 : wr.cell? ⟨gb154, 1, none⟩ = some (.int .i64 x155001_3) := (bCx14 BK154.out 1).trans rfl
              have hfz86_0 := bFx14 BK154.out 0
              have hfz86_1 := bFx14 BK154.out 1
              go_wp2
              go_roundg k3
              case measure => have := HK1.out; have := HK2.out; have := HK3.out; omega
              case rel => exact ⟨(wrap64 (x155000_3 + 1)), (x155001_3), (wrap64 (x157000_3 - (wrap64 (2 * ji9)))), (x157001_3), H', ⟨by have := HK1.out; have := HK2.out; have := HK3.out; omega⟩, ⟨by (with_reducible repeat (first | apply zP | apply zQ | apply zR)); exact Kd.R_mono (Kd.R_far (p := ⟨gb156, 0, none⟩) (Kd.R_far (p := ⟨gb154, 0, none⟩) (Kd.R_mono (Kd.R_mono HO_14.out (fun k_ hk => (⟨hk, hk.1⟩ : _ ∧ k_ ≠ gb154))) (fun k_ hk => (⟨hk, hk.1.2.2⟩ : _ ∧ k_ ≠ gb156))) (fun _ hk => hk.1.2) (.int .i64 (wrap64 (x155000_3 + 1)))) (fun _ hk => hk.2) (.int .i64 (wrap64 (x157000_3 - (wrap64 (2 * ji9)))))) (fun _ hk => ⟨hk.1.1.1, ⟨hk.1.1.2.1, hk.1.1.2.2⟩⟩)⟩, ⟨by (with_reducible repeat (first | refine bNx14 ?_ _ | refine bDx14 ?_ | refine bKx14 ?_ _)); refine zL ?_ NB154_156.out _; (with_reducible repeat (first | refine bNx14 ?_ _ | refine bDx14 ?_ | refine bKx14 ?_ _)); refine zZ (cs := #[.int .i64 x155000_3, .int .i64 x155001_3]) ?_ 0 _ rfl; (with_reducible repeat (first | refine bNx14 ?_ _ | refine bDx14 ?_ | refine bKx14 ?_ _)); exact BK154.out⟩, ⟨by (with_reducible repeat (first | refine bNx14 ?_ _ | refine bDx14 ?_ | refine bKx14 ?_ _)); refine zL ?_ NB155_156.out _; (with_reducible repeat (first | refine bNx14 ?_ _ | refine bDx14 ?_ | refine bKx14 ?_ _)); refine zL ?_ NB155_154.out _; (with_reducible repeat (first | refine bNx14 ?_ _ | refine bDx14 ?_ | refine bKx14 ?_ _)); exact BK155.out⟩, ⟨by (with_reducible repeat (first | refine bNx14 ?_ _ | refine bDx14 ?_ | refine bKx14 ?_ _)); refine zZ (cs := #[.int .i64 x157000_3, .int .i64 x157001_3]) ?_ 0 _ rfl; (with_reducible repeat (first | refine bNx14 ?_ _ | refine bDx14 ?_ | refine bKx14 ?_ _)); refine zL ?_ NB156_154.out _; (with_reducible repeat (first | refine bNx14 ?_ _ | refine bDx14 ?_ | refine bKx14 ?_ _)); exact BK156.out⟩, ⟨by repeat (first | (with_reducible first | exact HB.out | apply zF | apply zB | apply zE | refine zC ?_ GE154.out | refine zC ?_ GE155.out | refine zC ?_ GE156.out) | exact HB.out)⟩⟩
             ·
              rw [if_neg c81] at H
              have c81b0 : decide ((wrap64 (2 * ji9)) ≤ x157000_3) = false := decide_eq_false c81
              clear c81
              have H' := aMx14 H
              clear H
              have hnb87 := NB156_154.out
              have hnc87 := NB154_156.out
              have hnb88 := NB156_155.out
              have hnc88 := NB155_156.out
              have hcz89_0 : wr.cell? ⟨gb156, 0, none⟩ = some (.int .i64 x157000_3) := (bCx14 BK156.out 0).trans rfl
              have hcz89_1 : wr.cell? ⟨gb156, 1, none⟩ = some (.int .i64 x157001_3) := (bCx14 BK156.out 1).trans rfl
              have hfz89_0 := bFx14 BK156.out 0
              have hfz89_1 := bFx14 BK156.out 1
              go_wp2
              go_meet
              case rel => exact ⟨_, (x155000_3), (x155001_3), (x157000_3), (x157001_3), H', ⟨by have := HK1.out; have := HK2.out; have := HK3.out; first | omega | exact Nat.le_refl _⟩, ⟨by (with_reducible repeat (first | apply zP | apply zQ | apply zR)); exact HO_14.out⟩, ⟨by (with_reducible repeat (first | refine bNx14 ?_ _ | refine bDx14 ?_ | refine bKx14 ?_ _)); exact BK154.out⟩, ⟨by (with_reducible repeat (first | refine bNx14 ?_ _ | refine bDx14 ?_ | refine bKx14 ?_ _)); exact BK155.out⟩, ⟨by (with_reducible repeat (first | refine bNx14 ?_ _ | refine bDx14 ?_ | refine bKx14 ?_ _)); exact BK156.out⟩, ⟨by repeat (first | (with_reducible first | exact HB.out | apply zF | apply zB | apply zE | refine zC ?_ GE154.out | refine zC ?_ GE155.out | refine zC ?_ GE156.out) | exact HB.out)⟩⟩
           rw [if_neg c80] at H
           have c80b0 : (x52_2 == 0) = false := beq_eq_false_iff_ne.mpr c80
           have c80b1 : (x52_2 != 0) = true := bne_iff_ne.mpr c80
           (first | rw [c80b0] | (simp only [i64_w, i32_w]; rw [c80b0]) | skip)
           all_goals (try (exfalso; omega))
           all_goals
            by_cases c90 : x52_2 = 1
            ·
             rw [if_pos c90] at H
             have c90b0 : (x52_2 == 1) = true := beq_iff_eq.mpr c90
             have c90b1 : (x52_2 != 1) = false := bne_eq_false_iff_eq.mpr c90
             (try (have c90a : 0 ≤ x52_2 := by omega))
             (try (have c90d : x52_2 < 2 := by omega))
             (try (have c90t : Int.toNat x52_2 = 1 := by omega))
             clear c90
             all_goals (try (exfalso; omega))
             all_goals
              by_cases c91 : x157001_3 ≥ (wrap64 (2 * ji9))
              ·
               rw [if_pos c91] at H
               have c91b0 : decide ((wrap64 (2 * ji9)) ≤ x157001_3) = true := decide_eq_true c91
               clear c91
               have H' := aMx14 H
               clear H
               have hnb92 := NB156_154.out
               have hnc92 := NB154_156.out
               have hnb93 := NB156_155.out
               have hnc93 := NB155_156.out
               have hcz94_0 : wr.cell? ⟨gb156, 0, none⟩ = some (.int .i64 x157000_3) := (bCx14 BK156.out 0).trans rfl
               have hcz94_1 : wr.cell? ⟨gb156, 1, none⟩ = some (.int .i64 x157001_3) := (bCx14 BK156.out 1).trans rfl
               have hfz94_0 := bFx14 BK156.out 0
               have hfz94_1 := bFx14 BK156.out 1
               have hnb95 := NB154_155.out
               have hnc95 := NB155_154.out
               have hcz96_0 : wr.cell? ⟨gb154, 0, none⟩ = some (.int .i64 x155000_3) := (bCx14 BK154.out 0).trans rfl
               have hcz96_1 : wr.cell? ⟨gb154, 1, none⟩ = some (.int .i64 x155001_3) := (bCx14 BK154.out 1).trans rfl
               have hfz96_0 := bFx14 BK154.out 0
               have hfz96_1 := bFx14 BK154.out 1
               go_wp2
               go_roundg k3
               case measure => have := HK1.out; have := HK2.out; have := HK3.out; omega
               case rel => exact ⟨(x155000_3), (wrap64 (x155001_3 + 1)), (x157000_3), (wrap64 (x157001_3 - (wrap64 (2 * ji9)))), H', ⟨by have := HK1.out; have := HK2.out; have := HK3.out; omega⟩, ⟨by (with_reducible repeat (first | apply zP | apply zQ | apply zR)); exact Kd.R_mono (Kd.R_far (p := ⟨gb156, 1, none⟩) (Kd.R_far (p := ⟨gb154, 1, none⟩) (Kd.R_mono (Kd.R_mono HO_14.out (fun k_ hk => (⟨hk, hk.1⟩ : _ ∧ k_ ≠ gb154))) (fun k_ hk => (⟨hk, hk.1.2.2⟩ : _ ∧ k_ ≠ gb156))) (fun _ hk => hk.1.2) (.int .i64 (wrap64 (x155001_3 + 1)))) (fun _ hk => hk.2) (.int .i64 (wrap64 (x157001_3 - (wrap64 (2 * ji9)))))) (fun _ hk => ⟨hk.1.1.1, ⟨hk.1.1.2.1, hk.1.1.2.2⟩⟩)⟩, ⟨by (with_reducible repeat (first | refine bNx14 ?_ _ | refine bDx14 ?_ | refine bKx14 ?_ _)); refine zL ?_ NB154_156.out _; (with_reducible repeat (first | refine bNx14 ?_ _ | refine bDx14 ?_ | refine bKx14 ?_ _)); refine zZ (cs := #[.int .i64 x155000_3, .int .i64 x155001_3]) ?_ 1 _ rfl; (with_reducible repeat (first | refine bNx14 ?_ _ | refine bDx14 ?_ | refine bKx14 ?_ _)); exact BK154.out⟩, ⟨by (with_reducible repeat (first | refine bNx14 ?_ _ | refine bDx14 ?_ | refine bKx14 ?_ _)); refine zL ?_ NB155_156.out _; (with_reducible repeat (first | refine bNx14 ?_ _ | refine bDx14 ?_ | refine bKx14 ?_ _)); refine zL ?_ NB155_154.out _; (with_reducible repeat (first | refine bNx14 ?_ _ | refine bDx14 ?_ | refine bKx14 ?_ _)); exact BK155.out⟩, ⟨by (with_reducible repeat (first | refine bNx14 ?_ _ | refine bDx14 ?_ | refine bKx14 ?_ _)); refine zZ (cs := #[.int .i64 x157000_3, .int .i64 x157001_3]) ?_ 1 _ rfl; (with_reducible repeat (first | refine bNx14 ?_ _ | refine bDx14 ?_ | refine bKx14 ?_ _)); refine zL ?_ NB156_154.out _; (with_reducible repeat (first | refine bNx14 ?_ _ | refine bDx14 ?_ | refine bKx14 ?_ _)); exact BK156.out⟩, ⟨by repeat (first | (with_reducible first | exact HB.out | apply zF | apply zB | apply zE | refine zC ?_ GE154.out | refine zC ?_ GE155.out | refine zC ?_ GE156.out) | exact HB.out)⟩⟩
              ·
               rw [if_neg c91] at H
               have c91b0 : decide ((wrap64 (2 * ji9)) ≤ x157001_3) = false := decide_eq_false c91
               clear c91
               have H' := aMx14 H
               clear H
               have hnb97 := NB156_154.out
               have hnc97 := NB154_156.out
               have hnb98 := NB156_155.out
               have hnc98 := NB155_156.out
               have hcz99_0 : wr.cell? ⟨gb156, 0, none⟩ = some (.int .i64 x157000_3) := (bCx14 BK156.out 0).trans rfl
               have hcz99_1 : wr.cell? ⟨gb156, 1, none⟩ = some (.int .i64 x157001_3) := (bCx14 BK156.out 1).trans rfl
               have hfz99_0 := bFx14 BK156.out 0
               have hfz99_1 := bFx14 BK156.out 1
               go_wp2
               go_meet
               case rel => exact ⟨_, (x155000_3), (x155001_3), (x157000_3), (x157001_3), H', ⟨by have := HK1.out; have := HK2.out; have := HK3.out; first | omega | exact Nat.le_refl _⟩, ⟨by (with_reducible repeat (first | apply zP | apply zQ | apply zR)); exact HO_14.out⟩, ⟨by (with_reducible repeat (first | refine bNx14 ?_ _ | refine bDx14 ?_ | refine bKx14 ?_ _)); exact BK154.out⟩, ⟨by (with_reducible repeat (first | refine bNx14 ?_ _ | refine bDx14 ?_ | refine bKx14 ?_ _)); exact BK155.out⟩, ⟨by (with_reducible repeat (first | refine bNx14 ?_ _ | refine bDx14 ?_ | refine bKx14 ?_ _)); exact BK156.out⟩, ⟨by repeat (first | (with_reducible first | exact HB.out | apply zF | apply zB | apply zE | refine zC ?_ GE154.out | refine zC ?_ GE155.out | refine zC ?_ GE156.out) | exact HB.out)⟩⟩
            ·
             rw [if_neg c90] at H
             exact absurd H (by simp)
         case rest =>
          clear HC77
          try clear c1 c2 p2 c3 c4 c5 c6 p6 c7 c8 c9 c18 c21 c22 c27 c27b0 c28 c29 c31 c31b0 c32 c32b0 c32b1 c36 c36b0 c36b1 c37 c37b0 c38 c39 c41 c43 c44 c46 c46b0 c46b1 c47 c47b0 c48 c49 c50 c51 c53 c54 c56 c56b0 c56b1 c57 c57b0 c58 c59 c61 c63 c64 p64 c66 c66b0 c66b1 c67 c67b0 c68 c69 c71 c73 c74 c76 c76b0 c76b1 c80 c80b0 c80b1 c81 c81b0 c82 c83 c85 c87 c88 c90 c90b0 c90b1 c91 c91b0 c92 c93 c95 c97 c98 hcz16_0 hcz16_1 hcz19_0 hcz19_1 hcz23_0 hcz23_1 hcz24_0 hcz24_1 hcz30_0 hcz30_1 hcz40_0 hcz40_1 hcz42_0 hcz42_1 hcz45_0 hcz45_1 hcz50_0 hcz50_1 hcz52_0 hcz52_1 hcz55_0 hcz55_1 hcz60_0 hcz60_1 hcz62_0 hcz62_1 hcz65_0 hcz65_1 hcz70_0 hcz70_1 hcz72_0 hcz72_1 hcz75_0 hcz75_1 hcz84_0 hcz84_1 hcz86_0 hcz86_1 hcz89_0 hcz89_1 hcz94_0 hcz94_1 hcz96_0 hcz96_1 hcz99_0 hcz99_1 hfz16_0 hfz16_1 hfz19_0 hfz19_1 hfz23_0 hfz23_1 hfz24_0 hfz24_1 hfz30_0 hfz30_1 hfz40_0 hfz40_1 hfz42_0 hfz42_1 hfz45_0 hfz45_1 hfz50_0 hfz50_1 hfz52_0 hfz52_1 hfz55_0 hfz55_1 hfz60_0 hfz60_1 hfz62_0 hfz62_1 hfz65_0 hfz65_1 hfz70_0 hfz70_1 hfz72_0 hfz72_1 hfz75_0 hfz75_1 hfz84_0 hfz84_1 hfz86_0 hfz86_1 hfz89_0 hfz89_1 hfz94_0 hfz94_1 hfz96_0 hfz96_1 hfz99_0 hfz99_1 p2 p6 p64
          obtain ⟨kq, x155000_76, x155001_76, x157000_76, x157001_76, HA, HJ76, HO_14, BK154, BK155, BK156, HB⟩ := hcut
          cases kq with
          | zero => exact absurd HA.out (by simp [ray_Line.j3])
          | succ kj76 =>
           have H := HA.out
           clear HA
           simp only [ray_Line.j3] at H
           have H' := aMx14 H
           clear H
           go_wp2
           go_loopg [] kj76 (fun kq w' => ∃ (x155000_4 : Int) (x155001_4 : Int) (x157000_4 : Int) (x157001_4 : Int), Aside0 (ray_Line.l3 kq a2 a3 ji9 x14_1 x52_2 x52_2 x155000_4 x155001_4 (wrap64 (a2 - a0)) (wrap64 (a3 - a1)) x157000_4 x157001_4 = some (r1, r2)) ∧ Aside0 (kq ≤ kj76) ∧ Aside0 (Kd.R k57 57 w' w.heap.size (fun k_ => k_ ≠ gb154 ∧ k_ ≠ gb155 ∧ k_ ≠ gb156) u14 x14_1) ∧ Aside0 (w'.heap[gb154]? = some (.cells #[.int .i64 x155000_4, .int .i64 x155001_4] 57 (0, 0))) ∧ Aside0 (w'.heap[gb155]? = some (.cells #[.int .i64 (wrap64 (a2 - a0)), .int .i64 (wrap64 (a3 - a1))] 57 (0, 0))) ∧ Aside0 (w'.heap[gb156]? = some (.cells #[.int .i64 x157000_4, .int .i64 x157001_4] 57 (0, 0))) ∧ Aside0 (Below w.heap.size w w'))
           case atStart => exact ⟨(x155000_76), (x155001_76), (x157000_76), (x157001_76), H', ⟨Nat.le_refl _⟩, ⟨by (with_reducible repeat (first | apply zP | apply zQ | apply zR)); exact HO_14.out⟩, ⟨by (with_reducible repeat (first | refine bNx14 ?_ _ | refine bDx14 ?_ | refine bKx14 ?_ _)); exact BK154.out⟩, ⟨by (with_reducible repeat (first | refine bNx14 ?_ _ | refine bDx14 ?_ | refine bKx14 ?_ _)); exact BK155.out⟩, ⟨by (with_reducible repeat (first | refine bNx14 ?_ _ | refine bDx14 ?_ | refine bKx14 ?_ _)); exact BK156.out⟩, ⟨by repeat (first | (with_reducible first | exact HB.out | apply zF | apply zB | apply zE | refine zC ?_ GE154.out | refine zC ?_ GE155.out | refine zC ?_ GE156.out) | exact HB.out)⟩⟩
           clear H'
           try clear c1 c2 p2 c3 c4 c5 c6 p6 c7 c8 c9 c18 c21 c22 c27 c27b0 c28 c29 c31 c31b0 c32 c32b0 c32b1 c36 c36b0 c36b1 c37 c37b0 c38 c39 c41 c43 c44 c46 c46b0 c46b1 c47 c47b0 c48 c49 c50 c51 c53 c54 c56 c56b0 c56b1 c57 c57b0 c58 c59 c61 c63 c64 p64 c66 c66b0 c66b1 c67 c67b0 c68 c69 c71 c73 c74 c76 c76b0 c76b1 c80 c80b0 c80b1 c81 c81b0 c82 c83 c85 c87 c88 c90 c90b0 c90b1 c91 c91b0 c92 c93 c95 c97 c98 hcz16_0 hcz16_1 hcz19_0 hcz19_1 hcz23_0 hcz23_1 hcz24_0 hcz24_1 hcz30_0 hcz30_1 hcz40_0 hcz40_1 hcz42_0 hcz42_1 hcz45_0 hcz45_1 hcz50_0 hcz50_1 hcz52_0 hcz52_1 hcz55_0 hcz55_1 hcz60_0 hcz60_1 hcz62_0 hcz62_1 hcz65_0 hcz65_1 hcz70_0 hcz70_1 hcz72_0 hcz72_1 hcz75_0 hcz75_1 hcz84_0 hcz84_1 hcz86_0 hcz86_1 hcz89_0 hcz89_1 hcz94_0 hcz94_1 hcz96_0 hcz96_1 hcz99_0 hcz99_1 hfz16_0 hfz16_1 hfz19_0 hfz19_1 hfz23_0 hfz23_1 hfz24_0 hfz24_1 hfz30_0 hfz30_1 hfz40_0 hfz40_1 hfz42_0 hfz42_1 hfz45_0 hfz45_1 hfz50_0 hfz50_1 hfz52_0 hfz52_1 hfz55_0 hfz55_1 hfz60_0 hfz60_1 hfz62_0 hfz62_1 hfz65_0 hfz65_1 hfz70_0 hfz70_1 hfz72_0 hfz72_1 hfz75_0 hfz75_1 hfz84_0 hfz84_1 hfz86_0 hfz86_1 hfz89_0 hfz89_1 hfz94_0 hfz94_1 hfz96_0 hfz96_1 hfz99_0 hfz99_1 p2 p6 p64
           obtain ⟨x155000_4, x155001_4, x157000_4, x157001_4, HA, HK4, HO_14, BK154, BK155, BK156, HB⟩ := hrel
           cases gk with
           | zero => exact absurd HA.out (by simp [ray_Line.l3])
           | succ k4 =>
            have H := HA.out
            clear HA
            simp only [ray_Line.l3] at H
            by_cases c100 : x52_2 = 0
            ·
             rw [if_pos c100] at H
             have c100b0 : (x52_2 == 0) = true := beq_iff_eq.mpr c100
             have c100b1 : (x52_2 != 0) = false := bne_eq_false_iff_eq.mpr c100
             (try (have c100a : 0 ≤ x52_2 := by omega))
             (try (have c100d : x52_2 < 2 := by omega))
             (try (have c100t : Int.toNat x52_2 = 0 := by omega))
             clear c100
             all_goals (try (exfalso; omega))
             all_goals
              by_cases c101 : x157000_4 < 0
              ·
               rw [if_pos c101] at H
               have c101b0 : decide (x157000_4 < 0) = true := decide_eq_true c101
               clear c101
               have H' := aMx14 H
               clear H
               have hnb102 := NB156_154.out
               have hnc102 := NB154_156.out
               have hnb103 := NB156_155.out
               have hnc103 := NB155_156.out
               have hcz104_0 : wr.cell? ⟨gb156, 0, none⟩ = some (.int .i64 x157000_4) := (bCx14 BK156.out 0).trans rfl
               have hcz104_1 : wr.cell? ⟨gb156, 1, none⟩ = some (.int .i64 x157001_4) := (bCx14 BK156.out 1).trans rfl
               have hfz104_0 := bFx14 BK156.out 0
               have hfz104_1 := bFx14 BK156.out 1
               have hnb105 := NB154_155.out
               have hnc105 := NB155_154.out
               have hcz106_0 : wr.cell? ⟨gb154, 0, none⟩ = some (.int .i64 x155000_4) := (bCx14 BK154.out 0).trans rfl
               have hcz106_1 : wr.cell? ⟨gb154, 1, none⟩ = some (.int .i64 x155001_4) := (bCx14 BK154.out 1).trans rfl
               have hfz106_0 := bFx14 BK154.out 0
               have hfz106_1 := bFx14 BK154.out 1
               go_wp2
               go_roundg k4
               case measure => have := HK1.out; have := HK2.out; have := HJ76.out; have := HK4.out; omega
               case rel => exact ⟨(wrap64 (x155000_4 - 1)), (x155001_4), (wrap64 (x157000_4 + (wrap64 (2 * ji9)))), (x157001_4), H', ⟨by have := HK1.out; have := HK2.out; have := HJ76.out; have := HK4.out; omega⟩, ⟨by (with_reducible repeat (first | apply zP | apply zQ | apply zR)); exact Kd.R_mono (Kd.R_far (p := ⟨gb156, 0, none⟩) (Kd.R_far (p := ⟨gb154, 0, none⟩) (Kd.R_mono (Kd.R_mono HO_14.out (fun k_ hk => (⟨hk, hk.1⟩ : _ ∧ k_ ≠ gb154))) (fun k_ hk => (⟨hk, hk.1.2.2⟩ : _ ∧ k_ ≠ gb156))) (fun _ hk => hk.1.2) (.int .i64 (wrap64 (x155000_4 - 1)))) (fun _ hk => hk.2) (.int .i64 (wrap64 (x157000_4 + (wrap64 (2 * ji9)))))) (fun _ hk => ⟨hk.1.1.1, ⟨hk.1.1.2.1, hk.1.1.2.2⟩⟩)⟩, ⟨by (with_reducible repeat (first | refine bNx14 ?_ _ | refine bDx14 ?_ | refine bKx14 ?_ _)); refine zL ?_ NB154_156.out _; (with_reducible repeat (first | refine bNx14 ?_ _ | refine bDx14 ?_ | refine bKx14 ?_ _)); refine zZ (cs := #[.int .i64 x155000_4, .int .i64 x155001_4]) ?_ 0 _ rfl; (with_reducible repeat (first | refine bNx14 ?_ _ | refine bDx14 ?_ | refine bKx14 ?_ _)); exact BK154.out⟩, ⟨by (with_reducible repeat (first | refine bNx14 ?_ _ | refine bDx14 ?_ | refine bKx14 ?_ _)); refine zL ?_ NB155_156.out _; (with_reducible repeat (first | refine bNx14 ?_ _ | refine bDx14 ?_ | refine bKx14 ?_ _)); refine zL ?_ NB155_154.out _; (with_reducible repeat (first | refine bNx14 ?_ _ | refine bDx14 ?_ | refine bKx14 ?_ _)); exact BK155.out⟩, ⟨by (with_reducible repeat (first | refine bNx14 ?_ _ | refine bDx14 ?_ | refine bKx14 ?_ _)); refine zZ (cs := #[.int .i64 x157000_4, .int .i64 x157001_4]) ?_ 0 _ rfl; (with_reducible repeat (first | refine bNx14 ?_ _ | refine bDx14 ?_ | refine bKx14 ?_ _)); refine zL ?_ NB156_154.out _; (with_reducible repeat (first | refine bNx14 ?_ _ | refine bDx14 ?_ | refine bKx14 ?_ _)); exact BK156.out⟩, ⟨by repeat (first | (with_reducible first | exact HB.out | apply zF | apply zB | apply zE | refine zC ?_ GE154.out | refine zC ?_ GE155.out | refine zC ?_ GE156.out) | exact HB.out)⟩⟩
              ·
               rw [if_neg c101] at H
               have c101b0 : decide (x157000_4 < 0) = false := decide_eq_false c101
               clear c101
               have H' := aMx14 H
               clear H
               have hnb107 := NB156_154.out
               have hnc107 := NB154_156.out
               have hnb108 := NB156_155.out
               have hnc108 := NB155_156.out
               have hcz109_0 : wr.cell? ⟨gb156, 0, none⟩ = some (.int .i64 x157000_4) := (bCx14 BK156.out 0).trans rfl
               have hcz109_1 : wr.cell? ⟨gb156, 1, none⟩ = some (.int .i64 x157001_4) := (bCx14 BK156.out 1).trans rfl
               have hfz109_0 := bFx14 BK156.out 0
               have hfz109_1 := bFx14 BK156.out 1
               go_wp2
               go_roundg k4
               case measure => have := HK1.out; have := HK2.out; have := HJ76.out; have := HK4.out; omega
               case rel => exact ⟨(wrap64 (x52_2 + 1)), (x155000_4), (x155001_4), (x157000_4), (x157001_4), (by first | rfl | (simp; done) | (simp [*]; done) | (congr 1; unfold wrap64; omega)), H', ⟨by have := HK1.out; have := HK2.out; have := HJ76.out; have := HK4.out; omega⟩, ⟨by (with_reducible repeat (first | apply zP | apply zQ | apply zR)); exact HO_14.out⟩, ⟨by (with_reducible repeat (first | refine bNx14 ?_ _ | refine bDx14 ?_ | refine bKx14 ?_ _)); exact BK154.out⟩, ⟨by (with_reducible repeat (first | refine bNx14 ?_ _ | refine bDx14 ?_ | refine bKx14 ?_ _)); exact BK155.out⟩, ⟨by (with_reducible repeat (first | refine bNx14 ?_ _ | refine bDx14 ?_ | refine bKx14 ?_ _)); exact BK156.out⟩, ⟨by repeat (first | (with_reducible first | exact HB.out | apply zF | apply zB | apply zE | refine zC ?_ GE154.out | refine zC ?_ GE155.out | refine zC ?_ GE156.out) | exact HB.out)⟩⟩
            rw [if_neg c100] at H
            have c100b0 : (x52_2 == 0) = false := beq_eq_false_iff_ne.mpr c100
            have c100b1 : (x52_2 != 0) = true := bne_iff_ne.mpr c100
            all_goals (try (exfalso; omega))
            all_goals
             by_cases c110 : x52_2 = 1
             ·
              rw [if_pos c110] at H
              have c110b0 : (x52_2 == 1) = true := beq_iff_eq.mpr c110
              have c110b1 : (x52_2 != 1) = false := bne_eq_false_iff_eq.mpr c110
              (try (have c110a : 0 ≤ x52_2 := by omega))
              (try (have c110d : x52_2 < 2 := by omega))
              (try (have c110t : Int.toNat x52_2 = 1 := by omega))
              clear c110
              all_goals (try (exfalso; omega))
              all_goals
               by_cases c111 : x157001_4 < 0
               ·
                rw [if_pos c111] at H
                have c111b0 : decide (x157001_4 < 0) = true := decide_eq_true c111
                clear c111
                have H' := aMx14 H
                clear H
                have hnb112 := NB156_154.out
                have hnc112 := NB154_156.out
                have hnb113 := NB156_155.out
                have hnc113 := NB155_156.out
                have hcz114_0 : wr.cell? ⟨gb156, 0, none⟩ = some (.int .i64 x157000_4) := (bCx14 BK156.out 0).trans rfl
                have hcz114_1 : wr.cell? ⟨gb156, 1, none⟩ = some (.int .i64 x157001_4) := (bCx14 BK156.out 1).trans rfl
                have hfz114_0 := bFx14 BK156.out 0
                have hfz114_1 := bFx14 BK156.out 1
                have hnb115 := NB154_155.out
                have hnc115 := NB155_154.out
                have hcz116_0 : wr.cell? ⟨gb154, 0, none⟩ = some (.int .i64 x155000_4) := (bCx14 BK154.out 0).trans rfl
                have hcz116_1 : wr.cell? ⟨gb154, 1, none⟩ = some (.int .i64 x155001_4) := (bCx14 BK154.out 1).trans rfl
                have hfz116_0 := bFx14 BK154.out 0
                have hfz116_1 := bFx14 BK154.out 1
                go_wp2
                go_roundg k4
                case measure => have := HK1.out; have := HK2.out; have := HJ76.out; have := HK4.out; omega
                case rel => exact ⟨(x155000_4), (wrap64 (x155001_4 - 1)), (x157000_4), (wrap64 (x157001_4 + (wrap64 (2 * ji9)))), H', ⟨by have := HK1.out; have := HK2.out; have := HJ76.out; have := HK4.out; omega⟩, ⟨by (with_reducible repeat (first | apply zP | apply zQ | apply zR)); exact Kd.R_mono (Kd.R_far (p := ⟨gb156, 1, none⟩) (Kd.R_far (p := ⟨gb154, 1, none⟩) (Kd.R_mono (Kd.R_mono HO_14.out (fun k_ hk => (⟨hk, hk.1⟩ : _ ∧ k_ ≠ gb154))) (fun k_ hk => (⟨hk, hk.1.2.2⟩ : _ ∧ k_ ≠ gb156))) (fun _ hk => hk.1.2) (.int .i64 (wrap64 (x155001_4 - 1)))) (fun _ hk => hk.2) (.int .i64 (wrap64 (x157001_4 + (wrap64 (2 * ji9)))))) (fun _ hk => ⟨hk.1.1.1, ⟨hk.1.1.2.1, hk.1.1.2.2⟩⟩)⟩, ⟨by (with_reducible repeat (first | refine bNx14 ?_ _ | refine bDx14 ?_ | refine bKx14 ?_ _)); refine zL ?_ NB154_156.out _; (with_reducible repeat (first | refine bNx14 ?_ _ | refine bDx14 ?_ | refine bKx14 ?_ _)); refine zZ (cs := #[.int .i64 x155000_4, .int .i64 x155001_4]) ?_ 1 _ rfl; (with_reducible repeat (first | refine bNx14 ?_ _ | refine bDx14 ?_ | refine bKx14 ?_ _)); exact BK154.out⟩, ⟨by (with_reducible repeat (first | refine bNx14 ?_ _ | refine bDx14 ?_ | refine bKx14 ?_ _)); refine zL ?_ NB155_156.out _; (with_reducible repeat (first | refine bNx14 ?_ _ | refine bDx14 ?_ | refine bKx14 ?_ _)); refine zL ?_ NB155_154.out _; (with_reducible repeat (first | refine bNx14 ?_ _ | refine bDx14 ?_ | refine bKx14 ?_ _)); exact BK155.out⟩, ⟨by (with_reducible repeat (first | refine bNx14 ?_ _ | refine bDx14 ?_ | refine bKx14 ?_ _)); refine zZ (cs := #[.int .i64 x157000_4, .int .i64 x157001_4]) ?_ 1 _ rfl; (with_reducible repeat (first | refine bNx14 ?_ _ | refine bDx14 ?_ | refine bKx14 ?_ _)); refine zL ?_ NB156_154.out _; (with_reducible repeat (first | refine bNx14 ?_ _ | refine bDx14 ?_ | refine bKx14 ?_ _)); exact BK156.out⟩, ⟨by repeat (first | (with_reducible first | exact HB.out | apply zF | apply zB | apply zE | refine zC ?_ GE154.out | refine zC ?_ GE155.out | refine zC ?_ GE156.out) | exact HB.out)⟩⟩
               ·
                rw [if_neg c111] at H
                have c111b0 : decide (x157001_4 < 0) = false := decide_eq_false c111
                clear c111
                have H' := aMx14 H
                clear H
                have hnb117 := NB156_154.out
                have hnc117 := NB154_156.out
                have hnb118 := NB156_155.out
                have hnc118 := NB155_156.out
                have hcz119_0 : wr.cell? ⟨gb156, 0, none⟩ = some (.int .i64 x157000_4) := (bCx14 BK156.out 0).trans rfl
                have hcz119_1 : wr.cell? ⟨gb156, 1, none⟩ = some (.int .i64 x157001_4) := (bCx14 BK156.out 1).trans rfl
                have hfz119_0 := bFx14 BK156.out 0
                have hfz119_1 := bFx14 BK156.out 1
                go_wp2
                go_roundg k4
                case measure => have := HK1.out; have := HK2.out; have := HJ76.out; have := HK4.out; omega
                case rel => exact ⟨(wrap64 (x52_2 + 1)), (x155000_4), (x155001_4), (x157000_4), (x157001_4), (by first | rfl | (simp; done) | (simp [*]; done) | (congr 1; unfold wrap64; omega)), H', ⟨by have := HK1.out; have := HK2.out; have := HJ76.out; have := HK4.out; omega⟩, ⟨by (with_reducible repeat (first | apply zP | apply zQ | apply zR)); exact HO_14.out⟩, ⟨by (with_reducible repeat (first | refine bNx14 ?_ _ | refine bDx14 ?_ | refine bKx14 ?_ _)); exact BK154.out⟩, ⟨by (with_reducible repeat (first | refine bNx14 ?_ _ | refine bDx14 ?_ | refine bKx14 ?_ _)); exact BK155.out⟩, ⟨by (with_reducible repeat (first | refine bNx14 ?_ _ | refine bDx14 ?_ | refine bKx14 ?_ _)); exact BK156.out⟩, ⟨by repeat (first | (with_reducible first | exact HB.out | apply zF | apply zB | apply zE | refine zC ?_ GE154.out | refine zC ?_ GE155.out | refine zC ?_ GE156.out) | exact HB.out)⟩⟩
             ·
              rw [if_neg c110] at H
              exact absurd H (by simp)
       ·
        rw [if_neg c76] at H
        exact absurd H (by simp)
     rw [if_neg c31] at H
     have c31b0 : decide (x52_2 < 2) = false := decide_eq_false c31
     clear c31
     by_cases c120 : x14_1.length < 8796093022208
     ·
      rw [if_pos c120] at H
      have LMc120 := aMx14 c120
      clear c120
      obtain ⟨y160, hy160⟩ : ∃ y_ : List (S57), y_ = (x14_1 ++ [(⟨x155000_2, x155001_2⟩ : S57)]) := ⟨_, rfl⟩
      replace H : (ray_Line.l0 k2 a2 a3 ji9 y160 x155000_2 x155001_2 (wrap64 (a2 - a0)) (wrap64 (a3 - a1)) x157000_2 x157001_2) = some (r1, r2) := by first | (rw [hy160]; with_reducible exact H) | (have H2_ := (Option.bind_some _ _).symm.trans H; rw [hy160]; with_reducible exact H2_) | (have H2_ := (Option.bind_some _ _).symm.trans H; with_reducible exact H2_) | with_reducible exact H | (rw [hy160]; exact H) | exact H
      have Ny160 := aMx14 hy160
      clear hy160
      have H' := aMx14 H
      clear H
      have hnb121 := NB154_155.out
      have hnc121 := NB155_154.out
      have hnb122 := NB154_156.out
      have hnc122 := NB156_154.out
      have hcz123_0 : wr.cell? ⟨gb154, 0, none⟩ = some (.int .i64 x155000_2) := (bCx14 BK154.out 0).trans rfl
      have hcz123_1 : wr.cell? ⟨gb154, 1, none⟩ = some (.int .i64 x155001_2) := (bCx14 BK154.out 1).trans rfl
      have hfz123_0 := bFx14 BK154.out 0
      have hfz123_1 := bFx14 BK154.out 1
      go_wp2_with (first | ((with_reducible refine gate_builtin (b := .append) (xs := #[.tmp 99, .tmp 101]) rfl ?_); at_builtin; refine Kd.R_append k57 (w0 := w) w.heap.size rfl (.tmp 99) (.tmp 101) 80 57 (.agg #[(.int .i64 0), (.int .i64 0)]) 16 rfl Try.underlying80 info57 rfl (by decide) (by omega) u14 x14_1 (⟨x155000_2, x155001_2⟩ : S57) [.int .i64 x155000_2, .int .i64 x155001_2] (fun k_ => k_ ≠ gb154 ∧ k_ ≠ gb155 ∧ k_ ≠ gb156) (fun _ => False) rfl rfl ?aP (fun _ hk => hk.elim) ?aF ?aO ?aB ?aS ?aL ?_; (case aP => exact k57_mkM _ _ _ (⟨x155000_2, x155001_2⟩ : S57)); (case aB => exact (by repeat (first | (with_reducible first | exact HB.out | apply zF | apply zB | apply zE | refine zC ?_ GE154.out | refine zC ?_ GE155.out | refine zC ?_ GE156.out) | exact HB.out))); (case aF => exact (fun k_ hk => ⟨Kd.freshB (g := gb154) (o := .cells #[.int .i64 x155000_2, .int .i64 x155001_2] 57 (0, 0)) (by (with_reducible repeat (first | refine bNx14 ?_ _ | refine bDx14 ?_ | refine bKx14 ?_ _)); exact BK154.out) k_ hk, Kd.freshB (g := gb155) (o := .cells #[.int .i64 (wrap64 (a2 - a0)), .int .i64 (wrap64 (a3 - a1))] 57 (0, 0)) (by (with_reducible repeat (first | refine bNx14 ?_ _ | refine bDx14 ?_ | refine bKx14 ?_ _)); exact BK155.out) k_ hk, Kd.freshB (g := gb156) (o := .cells #[.int .i64 x157000_2, .int .i64 x157001_2] 57 (0, 0)) (by (with_reducible repeat (first | refine bNx14 ?_ _ | refine bDx14 ?_ | refine bKx14 ?_ _)); exact BK156.out) k_ hk⟩)); (case aO => exact (by (with_reducible repeat (first | apply zP | apply zQ | apply zR)); exact HO_14.out)); (case aS => exact (zK (by repeat (first | (with_reducible first | exact HB.out | apply zF | apply zB | apply zE | refine zC ?_ GE154.out | refine zC ?_ GE155.out | refine zC ?_ GE156.out) | exact HB.out)))); (case aL => have := LMc120.out; omega); intro v161 w124 ho hb hg hat; rw [← Ny160.out] at ho; have n0_ := aMx14 (blk_grown (g := gb154) (o := .cells #[.int .i64 x155000_2, .int .i64 x155001_2] 57 (0, 0)) (by (with_reducible repeat (first | refine bNx14 ?_ _ | refine bDx14 ?_ | refine bKx14 ?_ _)); exact BK154.out) hg (Kd.R_away HO_14.out (fun _ hk => hk.1))); have n1_ := aMx14 (blk_grown (g := gb155) (o := .cells #[.int .i64 (wrap64 (a2 - a0)), .int .i64 (wrap64 (a3 - a1))] 57 (0, 0)) (by (with_reducible repeat (first | refine bNx14 ?_ _ | refine bDx14 ?_ | refine bKx14 ?_ _)); exact BK155.out) hg (Kd.R_away HO_14.out (fun _ hk => hk.2.1))); have n2_ := aMx14 (blk_grown (g := gb156) (o := .cells #[.int .i64 x157000_2, .int .i64 x157001_2] 57 (0, 0)) (by (with_reducible repeat (first | refine bNx14 ?_ _ | refine bDx14 ?_ | refine bKx14 ?_ _)); exact BK156.out) hg (Kd.R_away HO_14.out (fun _ hk => hk.2.2))); have n3_ := aMx14 (hb); have n4_ := aMx14 (ho); clear BK154; clear BK155; clear BK156; clear HB; clear HO_14; have BK154 := n0_; have BK155 := n1_; have BK156 := n2_; have HB := n3_; have HO162 := n4_; clear n0_ n1_ n2_ n3_ n4_; clear ho hb hg hat))
      go_roundg k2
      case measure => have := HK1.out; have := HK2.out; omega
      case rel => exact ⟨(y160), (x155000_2), (x155001_2), (x157000_2), (x157001_2), H', ⟨by have := HK1.out; have := HK2.out; omega⟩, ⟨by (with_reducible repeat (first | apply zP | apply zQ | apply zR)); exact HO162.out⟩, ⟨by (with_reducible repeat (first | refine bNx14 ?_ _ | refine bDx14 ?_ | refine bKx14 ?_ _)); exact BK154.out⟩, ⟨by (with_reducible repeat (first | refine bNx14 ?_ _ | refine bDx14 ?_ | refine bKx14 ?_ _)); exact BK155.out⟩, ⟨by (with_reducible repeat (first | refine bNx14 ?_ _ | refine bDx14 ?_ | refine bKx14 ?_ _)); exact BK156.out⟩, ⟨by repeat (first | (with_reducible first | exact HB.out | apply zF | apply zB | apply zE | refine zC ?_ GE154.out | refine zC ?_ GE155.out | refine zC ?_ GE156.out) | exact HB.out)⟩⟩
     rw [if_neg c120] at H
     exact absurd H (by simp)
   rw [if_neg c27] at H
   have c27b0 : (!(x155000_1 == a2) || (!(x155001_1 == a3))) = false := by simpa using c27
   clear c27
   simp only [Option.some.injEq, Prod.mk.injEq] at H
   obtain ⟨rfl, rfl⟩ := H
   have hnb125 := NB154_155.out
   have hnc125 := NB155_154.out
   have hnb126 := NB154_156.out
   have hnc126 := NB156_154.out
   have hcz127_0 : wr.cell? ⟨gb154, 0, none⟩ = some (.int .i64 x155000_1) := (bCx14 BK154.out 0).trans rfl
   have hcz127_1 : wr.cell? ⟨gb154, 1, none⟩ = some (.int .i64 x155001_1) := (bCx14 BK154.out 1).trans rfl
   have hfz127_0 := bFx14 BK154.out 0
   have hfz127_1 := bFx14 BK154.out 1
   go_wp2
   go_ret2
   exact ⟨_, by first | rfl | (simp [zU, zT] <;> rfl) | (simp only [← hji9]; first | rfl | (simp [zU, zT] <;> rfl)) | (simp [*, zU, zT] <;> rfl) | (rw [zW (by assumption)]; rfl), by (with_reducible repeat (first | apply zP | apply zQ | apply zR)); exact Kd.R_mono HO_14.out (fun _ hk => trivial), by repeat (first | (with_reducible first | exact HB.out | apply zF | apply zB | apply zE | refine zC ?_ GE154.out | refine zC ?_ GE155.out | refine zC ?_ GE156.out) | exact HB.out)⟩
 replace c6 := Bool.eq_false_iff.mpr c6
 subst c6
 have H1 : (some (([] : List (S57)), 4)) = some (r1, r2) := by rw [if_neg (show ¬ (false = true) by decide)] at H; exact H
 clear H
 have H := H1
 clear H1
 simp only [Option.some.injEq, Prod.mk.injEq] at H
 obtain ⟨rfl, rfl⟩ := H
 go_enter Try.func50, Try.ntmps50
 go_wp2_with (first | ((with_reducible refine gate_dst (N := 20) rfl ?_); refine Kd.R_lit (Kd.int .i64) _ 3 ?hg (N := 20) ?hd (xs := ([a0, a1, a2, a3] : List Int)) (inner := [.int .i64 a0, .int .i64 a1, .int .i64 a2, .int .i64 a3]) (ok := fun _ => True) (okp := fun _ => True) ?hr ?hp (fun _ hk => hk) trivial (Below.refl _ _) (Nat.le_refl _) (by simp) ?_; (case hd => rfl); (case hg => rfl); (case hr => first | (go_simp; done) | (go_simp; rfl)); (case hp => exact (Reps.one (show Kd.M (Kd.int .i64) _ _ _ a0 [.int .i64 a0] from rfl) (Reps.one (show Kd.M (Kd.int .i64) _ _ _ a1 [.int .i64 a1] from rfl) (Reps.one (show Kd.M (Kd.int .i64) _ _ _ a2 [.int .i64 a2] from rfl) (Reps.one (show Kd.M (Kd.int .i64) _ _ _ a3 [.int .i64 a3] from rfl) (Reps.none _ _)))))); intro v149 w128 ho129 hb hg_ hnew_; clear hg_ hnew_; (first | rw [← Ny148.out] at ho129 | (simp only [Int.reduceToNat] at ho129; rw [← Ny148.out] at ho129)); have n0_ := aMx14 (Kd.R_lower ho129 (zK (by repeat (first | (with_reducible first | exact HB.out | apply zF | apply zB | apply zE) | exact HB.out)))); have n1_ := aMx14 (zJ (by repeat (first | (with_reducible first | exact HB.out | apply zF | apply zB | apply zE) | exact HB.out)) hb); clear HB; have HO150 := n0_; have HB := n1_; clear n0_ n1_; clear hb ho129; obtain ⟨Ao130, co130, eo130⟩ := Kd.R_slice HO150.out; subst eo130) | ((with_reducible refine gate_callee (f := 59) rfl ?_); refine goesL_ (some 21) rfl rfl Try.func59 (by kernel_rfl) rfl #[.slice Ao130 y148.length co130] rfl (by (try simp only [List.map_toArray, List.map_cons, List.map_nil]); first | done | rfl | (simp only [List.length_drop, List.length_take]; rfl)) ?_; (with_reducible refine (ray_inside.calls k _ _ y148 false _ ?side1 ?side2 A5.out).mono ?_); (case side1 => repeat (first | exact (Kd.R_reads' HO150.out).2.2 | (with_reducible refine Kd.C_alloc ?_ _) | (with_reducible refine Kd.C_drewN ?_ _) | (with_reducible refine Kd.C_drew ?_))); (case side2 => exact (Kd.R_reads' HO150.out).2.1); rintro e w' ⟨rfl, ⟨nd, rfl⟩⟩; refine ⟨_, rfl, ?_⟩))
 go_ret2
 exact ⟨_, by first | rfl | (simp [zU, zT] <;> rfl) | (simp [*, zU, zT] <;> rfl) | (rw [zW (by assumption)]; rfl), by first | exact Kd.R_nil _ _ _ _ _ | exact Kd.N_nil _ _ _ _ _ | exact Kd.V_nil _ _ _ _ _ | exact Kd.Q_nil _ _ _ _ _ | exact Kd.S_nil _ _ _ _ _, by repeat (first | (with_reducible first | exact HB.out | apply zF | apply zB | apply zE) | exact HB.out)⟩

end Go.Proofs.Yteihieihoeijdaa.PA
