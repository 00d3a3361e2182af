-- WRITTEN BY A PROGRAM OF THIS SESSION (a turned copy of the kit's printer), for this claim. Nothing here is trusted: Lean checks it.
import Derived.Test.YteihieihoeijdaaPAx0
import Derived.Test.YteihieihoeijdaaPAxS
namespace Go.Proofs.Yteihieihoeijdaa.PA
open Go.RowKit Go.Proofs.YteihieihoeijdaaW.PrintWords Go.Proofs.YteihieihoeijdaaW.PrintLast Go.Proofs.YteihieihoeijdaaW.PrintMore
attribute [local go_sem] max2_int min2_int max_two min_two max_three min_three max_four min_four   -- for this text's walks alone
set_option linter.unusedVariables false
set_option linter.unusedSimpArgs false
theorem aMx28 {p : Prop} (h : p) : Aside0 p := zA h
theorem bNx28 {w : World} {g : Nat} {o : Obj} (h : w.heap[g]? = some o) (n : Nat) : (w.drewN n).heap[g]? = some o := h
theorem bDx28 {w : World} {g : Nat} {o : Obj} (h : w.heap[g]? = some o) : w.drew.heap[g]? = some o := h
theorem bKx28 {w : World} {g : Nat} {o : Obj} (h : w.heap[g]? = some o) (o' : Obj) : (w.alloc o').heap[g]? = some o := zM h o'
theorem bCx28 {w : World} {g : Nat} {t : TypeId} {cs : Array Value} (h : w.heap[g]? = some (.cells cs t (0, 0))) (i : Nat) : w.cell? ⟨g, i, none⟩ = cs[i]? := zD h i
theorem bFx28 {w : World} {g : Nat} {t : TypeId} {cs : Array Value} (h : w.heap[g]? = some (.cells cs t (0, 0))) (i : Nat) : w.frozen? ⟨g, i, none⟩ = false := zG h i
theorem blk_far8_x28 {w : World} {f g : Nat} {t : TypeId} {cs : Array Value} {v0 v1 v2 v3 v4 v5 v6 v7 : Value} (h : w.heap[f]? = some (.cells cs t (0, 0))) (e : f ≠ g) : ((((((((w.setCell ⟨g, 0, none⟩ v0).setCell ⟨g, 1, none⟩ v1).setCell ⟨g, 2, none⟩ v2).setCell ⟨g, 3, none⟩ v3).setCell ⟨g, 4, none⟩ v4).setCell ⟨g, 5, none⟩ v5).setCell ⟨g, 6, none⟩ v6).setCell ⟨g, 7, none⟩ v7).heap[f]? = some (.cells cs t (0, 0)) := by
 have h0 : (w.setCell ⟨g, 0, none⟩ v0).heap[f]? = some (.cells cs t (0, 0)) := zL h e _
 have h1 : ((w.setCell ⟨g, 0, none⟩ v0).setCell ⟨g, 1, none⟩ v1).heap[f]? = some (.cells cs t (0, 0)) := zL h0 e _
 have h2 : (((w.setCell ⟨g, 0, none⟩ v0).setCell ⟨g, 1, none⟩ v1).setCell ⟨g, 2, none⟩ v2).heap[f]? = some (.cells cs t (0, 0)) := zL h1 e _
 have h3 : ((((w.setCell ⟨g, 0, none⟩ v0).setCell ⟨g, 1, none⟩ v1).setCell ⟨g, 2, none⟩ v2).setCell ⟨g, 3, none⟩ v3).heap[f]? = some (.cells cs t (0, 0)) := zL h2 e _
 have h4 : (((((w.setCell ⟨g, 0, none⟩ v0).setCell ⟨g, 1, none⟩ v1).setCell ⟨g, 2, none⟩ v2).setCell ⟨g, 3, none⟩ v3).setCell ⟨g, 4, none⟩ v4).heap[f]? = some (.cells cs t (0, 0)) := zL h3 e _
 have h5 : ((((((w.setCell ⟨g, 0, none⟩ v0).setCell ⟨g, 1, none⟩ v1).setCell ⟨g, 2, none⟩ v2).setCell ⟨g, 3, none⟩ v3).setCell ⟨g, 4, none⟩ v4).setCell ⟨g, 5, none⟩ v5).heap[f]? = some (.cells cs t (0, 0)) := zL h4 e _
 have h6 : (((((((w.setCell ⟨g, 0, none⟩ v0).setCell ⟨g, 1, none⟩ v1).setCell ⟨g, 2, none⟩ v2).setCell ⟨g, 3, none⟩ v3).setCell ⟨g, 4, none⟩ v4).setCell ⟨g, 5, none⟩ v5).setCell ⟨g, 6, none⟩ v6).heap[f]? = some (.cells cs t (0, 0)) := zL h5 e _
 have h7 : ((((((((w.setCell ⟨g, 0, none⟩ v0).setCell ⟨g, 1, none⟩ v1).setCell ⟨g, 2, none⟩ v2).setCell ⟨g, 3, none⟩ v3).setCell ⟨g, 4, none⟩ v4).setCell ⟨g, 5, none⟩ v5).setCell ⟨g, 6, none⟩ v6).setCell ⟨g, 7, none⟩ v7).heap[f]? = some (.cells cs t (0, 0)) := zL h6 e _
 exact h7
theorem blk_put8_x28 {w : World} {g t : Nat} {c0 c1 c2 c3 c4 c5 c6 c7 v0 v1 v2 v3 v4 v5 v6 v7 : Value} (h : w.heap[g]? = some (.cells #[c0, c1, c2, c3, c4, c5, c6, c7] t (0, 0))) : ((((((((w.setCell ⟨g, 0, none⟩ v0).setCell ⟨g, 1, none⟩ v1).setCell ⟨g, 2, none⟩ v2).setCell ⟨g, 3, none⟩ v3).setCell ⟨g, 4, none⟩ v4).setCell ⟨g, 5, none⟩ v5).setCell ⟨g, 6, none⟩ v6).setCell ⟨g, 7, none⟩ v7).heap[g]? = some (.cells #[v0, v1, v2, v3, v4, v5, v6, v7] t (0, 0)) := by
 have h0 : (w.setCell ⟨g, 0, none⟩ v0).heap[g]? = some (.cells #[v0, c1, c2, c3, c4, c5, c6, c7] t (0, 0)) := zZ h 0 _ rfl
 have h1 : ((w.setCell ⟨g, 0, none⟩ v0).setCell ⟨g, 1, none⟩ v1).heap[g]? = some (.cells #[v0, v1, c2, c3, c4, c5, c6, c7] t (0, 0)) := zZ h0 1 _ rfl
 have h2 : (((w.setCell ⟨g, 0, none⟩ v0).setCell ⟨g, 1, none⟩ v1).setCell ⟨g, 2, none⟩ v2).heap[g]? = some (.cells #[v0, v1, v2, c3, c4, c5, c6, c7] t (0, 0)) := zZ h1 2 _ rfl
 have h3 : ((((w.setCell ⟨g, 0, none⟩ v0).setCell ⟨g, 1, none⟩ v1).setCell ⟨g, 2, none⟩ v2).setCell ⟨g, 3, none⟩ v3).heap[g]? = some (.cells #[v0, v1, v2, v3, c4, c5, c6, c7] t (0, 0)) := zZ h2 3 _ rfl
 have h4 : (((((w.setCell ⟨g, 0, none⟩ v0).setCell ⟨g, 1, none⟩ v1).setCell ⟨g, 2, none⟩ v2).setCell ⟨g, 3, none⟩ v3).setCell ⟨g, 4, none⟩ v4).heap[g]? = some (.cells #[v0, v1, v2, v3, v4, c5, c6, c7] t (0, 0)) := zZ h3 4 _ rfl
 have h5 : ((((((w.setCell ⟨g, 0, none⟩ v0).setCell ⟨g, 1, none⟩ v1).setCell ⟨g, 2, none⟩ v2).setCell ⟨g, 3, none⟩ v3).setCell ⟨g, 4, none⟩ v4).setCell ⟨g, 5, none⟩ v5).heap[g]? = some (.cells #[v0, v1, v2, v3, v4, v5, c6, c7] t (0, 0)) := zZ h4 5 _ rfl
 have h6 : (((((((w.setCell ⟨g, 0, none⟩ v0).setCell ⟨g, 1, none⟩ v1).setCell ⟨g, 2, none⟩ v2).setCell ⟨g, 3, none⟩ v3).setCell ⟨g, 4, none⟩ v4).setCell ⟨g, 5, none⟩ v5).setCell ⟨g, 6, none⟩ v6).heap[g]? = some (.cells #[v0, v1, v2, v3, v4, v5, v6, c7] t (0, 0)) := zZ h5 6 _ rfl
 have h7 : ((((((((w.setCell ⟨g, 0, none⟩ v0).setCell ⟨g, 1, none⟩ v1).setCell ⟨g, 2, none⟩ v2).setCell ⟨g, 3, none⟩ v3).setCell ⟨g, 4, none⟩ v4).setCell ⟨g, 5, none⟩ v5).setCell ⟨g, 6, none⟩ v6).setCell ⟨g, 7, none⟩ v7).heap[g]? = some (.cells #[v0, v1, v2, v3, v4, v5, v6, v7] t (0, 0)) := zZ h6 7 _ rfl
 exact h7

/-! ### bivouacref21_May: function 11 -/
mutual
def bivouacref21_May.j0 : Nat → List (S27) → Bool → Int → Int → Int → List Int → Option (Bool)
 | 0, _, _, _, _, _, _ => none
 | k + 1, x1, x15, x207000, x207001, x207002, x207003 => if x15 = true then (some false) else (bivouacref21_May.l0 k x1 0 x207000 x207001 x207002 x207003)
def bivouacref21_May.l0 : Nat → List (S27) → Int → Int → Int → Int → List Int → Option (Bool)
 | 0, _, _, _, _, _, _ => none
 | k + 1, x1, x5, x207000, x207001, x207002, x207003 => if x5 < (x1.length : Int) then (if 0 ≤ x5 then ((bivouacref21_in.f ((rd_T27 x1 x5).f0) 7).bind fun t210 => (if t210 = true then ((bivouacref21_in.f ((rd_T27 x1 x5).f1) (wrap64 (x207000 - 1))).bind fun t211 => (if t211 = true then ((bivouacref21_in.f ((rd_T27 x1 x5).f2) (wrap64 (x207001 - 1))).bind fun t212 => (if t212 = true then ((bivouacref21_in.f ((rd_T27 x1 x5).f3) 255).bind fun t213 => (bivouacref21_May.j2 k x1 x5 t213 x207000 x207001 x207002 x207003 ((rd_T27 x1 x5).f0) ((rd_T27 x1 x5).f1) ((rd_T27 x1 x5).f2) ((rd_T27 x1 x5).f3) ((rd_T27 x1 x5).f4) ((rd_T27 x1 x5).f5) ((rd_T27 x1 x5).f6) ((rd_T27 x1 x5).f7))) else (bivouacref21_May.j2 k x1 x5 false x207000 x207001 x207002 x207003 ((rd_T27 x1 x5).f0) ((rd_T27 x1 x5).f1) ((rd_T27 x1 x5).f2) ((rd_T27 x1 x5).f3) ((rd_T27 x1 x5).f4) ((rd_T27 x1 x5).f5) ((rd_T27 x1 x5).f6) ((rd_T27 x1 x5).f7)))) else (bivouacref21_May.j2 k x1 x5 false x207000 x207001 x207002 x207003 ((rd_T27 x1 x5).f0) ((rd_T27 x1 x5).f1) ((rd_T27 x1 x5).f2) ((rd_T27 x1 x5).f3) ((rd_T27 x1 x5).f4) ((rd_T27 x1 x5).f5) ((rd_T27 x1 x5).f6) ((rd_T27 x1 x5).f7)))) else (bivouacref21_May.j2 k x1 x5 false x207000 x207001 x207002 x207003 ((rd_T27 x1 x5).f0) ((rd_T27 x1 x5).f1) ((rd_T27 x1 x5).f2) ((rd_T27 x1 x5).f3) ((rd_T27 x1 x5).f4) ((rd_T27 x1 x5).f5) ((rd_T27 x1 x5).f6) ((rd_T27 x1 x5).f7)))) else (none)) else (some true)
def bivouacref21_May.j2 : Nat → List (S27) → Int → Bool → Int → Int → Int → List Int → Int → Int → Int → Int → Int → Int → Int → Int → Option (Bool)
 | 0, _, _, _, _, _, _, _, _, _, _, _, _, _, _, _ => none
 | k + 1, x1, x5, x7, x207000, x207001, x207002, x207003, x210000, x210001, x210002, x210003, x210004, x210005, x210006, x210007 => if x7 = true then ((bivouacref21_in.f x210004 32).bind fun t214 => (if t214 = true then ((bivouacref21_in.f x210005 32).bind fun t215 => (if t215 = true then ((bivouacref21_in.f x210006 32).bind fun t216 => (if t216 = true then ((bivouacref21_in.f x210007 32).bind fun t217 => (if t217 = true then (bivouacref21_May.l0 k x1 (wrap64 (x5 + 1)) x207000 x207001 x207002 x207003) else (some false))) else (some false))) else (some false))) else (some false))) else (some false)
end
def bivouacref21_May.f (k : Nat) (a0_0 : Int) (a0_1 : Int) (a0_2 : Int) (l0_3 : List Int) (l1 : List (S27)) : Option (Bool) := (bivouacref06_Check.f k a0_0 a0_1 a0_2 l0_3).bind fun t207 => (if t207 = 0 then (bivouacref21_May.j0 k l1 (decide ((l1.length : Int) > 64)) a0_0 a0_1 a0_2 l0_3) else (bivouacref21_May.j0 k l1 true a0_0 a0_1 a0_2 l0_3))
theorem bivouacref21_May.mono_l : ∀ k, (∀ y0 y1 y2 y3 y4 y5, LeO (bivouacref21_May.j0 k y0 y1 y2 y3 y4 y5) (bivouacref21_May.j0 (k + 1) y0 y1 y2 y3 y4 y5)) ∧ (∀ y0 y1 y2 y3 y4 y5, LeO (bivouacref21_May.l0 k y0 y1 y2 y3 y4 y5) (bivouacref21_May.l0 (k + 1) y0 y1 y2 y3 y4 y5)) ∧ (∀ y0 y1 y2 y3 y4 y5 y6 y7 y8 y9 y10 y11 y12 y13 y14, LeO (bivouacref21_May.j2 k y0 y1 y2 y3 y4 y5 y6 y7 y8 y9 y10 y11 y12 y13 y14) (bivouacref21_May.j2 (k + 1) y0 y1 y2 y3 y4 y5 y6 y7 y8 y9 y10 y11 y12 y13 y14))
 | 0 => ⟨fun _ _ _ _ _ _ r h => by simp [bivouacref21_May.j0] at h, fun _ _ _ _ _ _ r h => by simp [bivouacref21_May.l0] at h, fun _ _ _ _ _ _ _ _ _ _ _ _ _ _ _ r h => by simp [bivouacref21_May.j2] at h⟩
 | k + 1 => by
  obtain ⟨ih0, ih1, ih2⟩ := bivouacref21_May.mono_l k
  refine ⟨?_, ?_, ?_⟩
  ·
   intro y0 y1 y2 y3 y4 y5
   unfold bivouacref21_May.j0
   repeat' first
   | (with_reducible exact ih0 _ _ _ _ _ _)
   | (with_reducible exact ih1 _ _ _ _ _ _)
   | (with_reducible exact ih2 _ _ _ _ _ _ _ _ _ _ _ _ _ _ _)
   | (with_reducible exact bivouacref06_Check.mono _ _ _ _ _)
   | (with_reducible exact LeO.refl _)
   | (with_reducible exact LeO.none _)
   | (with_reducible refine LeO.ite ?_ ?_)
   | (with_reducible refine LeO.bind ?_ (fun _ => ?_))
   | exact ih0 _ _ _ _ _ _
   | exact ih1 _ _ _ _ _ _
   | exact ih2 _ _ _ _ _ _ _ _ _ _ _ _ _ _ _
   | exact bivouacref06_Check.mono _ _ _ _ _
   | exact LeO.none _
   | refine LeO.ite ?_ ?_
   | refine LeO.bind ?_ (fun _ => ?_)
  ·
   intro y0 y1 y2 y3 y4 y5
   unfold bivouacref21_May.l0
   repeat' first
   | (with_reducible exact ih0 _ _ _ _ _ _)
   | (with_reducible exact ih1 _ _ _ _ _ _)
   | (with_reducible exact ih2 _ _ _ _ _ _ _ _ _ _ _ _ _ _ _)
   | (with_reducible exact bivouacref06_Check.mono _ _ _ _ _)
   | (with_reducible exact LeO.refl _)
   | (with_reducible exact LeO.none _)
   | (with_reducible refine LeO.ite ?_ ?_)
   | (with_reducible refine LeO.bind ?_ (fun _ => ?_))
   | exact ih0 _ _ _ _ _ _
   | exact ih1 _ _ _ _ _ _
   | exact ih2 _ _ _ _ _ _ _ _ _ _ _ _ _ _ _
   | exact bivouacref06_Check.mono _ _ _ _ _
   | exact LeO.none _
   | refine LeO.ite ?_ ?_
   | refine LeO.bind ?_ (fun _ => ?_)
  ·
   intro y0 y1 y2 y3 y4 y5 y6 y7 y8 y9 y10 y11 y12 y13 y14
   unfold bivouacref21_May.j2
   repeat' first
   | (with_reducible exact ih0 _ _ _ _ _ _)
   | (with_reducible exact ih1 _ _ _ _ _ _)
   | (with_reducible exact ih2 _ _ _ _ _ _ _ _ _ _ _ _ _ _ _)
   | (with_reducible exact bivouacref06_Check.mono _ _ _ _ _)
   | (with_reducible exact LeO.refl _)
   | (with_reducible exact LeO.none _)
   | (with_reducible refine LeO.ite ?_ ?_)
   | (with_reducible refine LeO.bind ?_ (fun _ => ?_))
   | exact ih0 _ _ _ _ _ _
   | exact ih1 _ _ _ _ _ _
   | exact ih2 _ _ _ _ _ _ _ _ _ _ _ _ _ _ _
   | exact bivouacref06_Check.mono _ _ _ _ _
   | exact LeO.none _
   | refine LeO.ite ?_ ?_
   | refine LeO.bind ?_ (fun _ => ?_)
theorem bivouacref21_May.mono : ∀ a0 a1 a2 a3 a4 k, LeO (bivouacref21_May.f k a0 a1 a2 a3 a4) (bivouacref21_May.f (k + 1) a0 a1 a2 a3 a4) := by
 intro a0 a1 a2 a3 a4 k
 obtain ⟨ih0, ih1, ih2⟩ := bivouacref21_May.mono_l k
 unfold bivouacref21_May.f
 repeat' first
   | (with_reducible exact ih0 _ _ _ _ _ _)
   | (with_reducible exact ih1 _ _ _ _ _ _)
   | (with_reducible exact ih2 _ _ _ _ _ _ _ _ _ _ _ _ _ _ _)
   | (with_reducible exact bivouacref06_Check.mono _ _ _ _ _)
   | (with_reducible exact LeO.refl _)
   | (with_reducible exact LeO.none _)
   | (with_reducible refine LeO.ite ?_ ?_)
   | (with_reducible refine LeO.bind ?_ (fun _ => ?_))
   | exact ih0 _ _ _ _ _ _
   | exact ih1 _ _ _ _ _ _
   | exact ih2 _ _ _ _ _ _ _ _ _ _ _ _ _ _ _
   | exact bivouacref06_Check.mono _ _ _ _ _
   | exact LeO.none _
   | refine LeO.ite ?_ ?_
   | refine LeO.bind ?_ (fun _ => ?_)
set_option maxHeartbeats 8000000 in
set_option maxRecDepth 100000 in
theorem bivouacref21_May.calls (k : Nat) (a0_0 : Int) (a0_1 : Int) (a0_2 : Int) (A0_3 : Option Addr) (c0_3 : Nat) (l0_3 : List Int) (A1 : Option Addr) (c1 : Nat) (l1 : List (S27)) (r : Bool) (w : World) (hr0_3 : Kd.C (Kd.int .u8) w A0_3 l0_3.length l0_3) (hc0_3 : l0_3.length ≤ c0_3) (hr1 : Kd.C k27 w A1 l1.length l1) (hc1 : l1.length ≤ c1) (h : bivouacref21_May.f k a0_0 a0_1 a0_2 l0_3 l1 = some r) :
  Calls Try.prog 11 #[.agg #[.int .i64 a0_0, .int .i64 a0_1, .int .i64 a0_2, .slice A0_3 l0_3.length c0_3], .slice A1 l1.length c1] w fun e w' => e = .returned (.bool r) ∧ Below w.heap.size w w' := by
 have hu24 := Try.underlying24
 have hu27 := Try.underlying27
 have HR0_3 := aMx28 hr0_3
 have HC0_3 := aMx28 hc0_3
 clear hr0_3 hc0_3
 have HR1 := aMx28 hr1
 have HC1 := aMx28 hc1
 clear hr1 hc1
 have HB := aMx28 (Below.refl w.heap.size w)
 have H : ((bivouacref06_Check.f k a0_0 a0_1 a0_2 l0_3).bind fun t207 => (if t207 = 0 then (bivouacref21_May.j0 k l1 (decide ((l1.length : Int) > 64)) a0_0 a0_1 a0_2 l0_3) else (bivouacref21_May.j0 k l1 true a0_0 a0_1 a0_2 l0_3))) = some r := h
 clear h
 have HC3 := aMx28 H
 clear H
 go_enter Try.func11, Try.ntmps11
 go_upto_region 1 with (first | ((with_reducible refine gate_dst (N := 2) rfl ?_); (try (refine gate_guard (by rfl) ?_; dsimp only)); refine box_event ?hg (N := 2) ?hd (cs := #[.int .i64 a0_0, .int .i64 a0_1, .int .i64 a0_2, .slice A0_3 l0_3.length c0_3]) (t := 24) ?hr ?_; (case hd => rfl); (case hg => rfl); (case hr => first | (go_simp; done) | (go_simp; rfl)); intro gb206 hg w4 hbox hb; have n0_ := aMx28 (zJ (by repeat (first | (with_reducible first | exact HB.out | apply zF | apply zB | apply zE) | exact HB.out)) hb); have n1_ := aMx28 (hbox); have n2_ := aMx28 ((by rw [hg]; exact (zK (by repeat (first | (with_reducible first | exact HB.out | apply zF | apply zB | apply zE) | exact HB.out))) : w.heap.size ≤ gb206)); have n3_ := aMx28 ((by rw [hg]; exact (zK (by repeat (first | (with_reducible first | exact HB.out | apply zF | apply zB | apply zE) | exact HB.out))) : w.heap.size ≤ gb206)); clear HB; have HB := n0_; have BK206 := n1_; have GW206 := n2_; have GE206 := n3_; clear n0_ n1_ n2_ n3_; clear hb hbox hg))
 (try simp only [Act.put, List.setIfInBounds_toArray, List.set_cons_zero, List.set_cons_succ])
 go_cut [15] (fun v15 wc => ∃ (kq : Nat) (x15_2 : Bool), v15 = .bool x15_2 ∧ Aside0 (bivouacref21_May.j0 kq l1 x15_2 a0_0 a0_1 a0_2 l0_3 = some r) ∧ Aside0 (kq ≤ k) ∧ Aside0 (wc.heap[gb206]? = some (.cells #[.int .i64 a0_0, .int .i64 a0_1, .int .i64 a0_2, (.slice A0_3 l0_3.length c0_3)] 24 (0, 0))) ∧ Aside0 (Below w.heap.size w wc))
 case first =>
  have H := HC3.out
  clear HC3
  replace H := Option.bind_eq_some_iff.mp H
  obtain ⟨t207, A50, H⟩ := H
  replace H : (if t207 = 0 then (bivouacref21_May.j0 k l1 (decide ((l1.length : Int) > 64)) a0_0 a0_1 a0_2 l0_3) else (bivouacref21_May.j0 k l1 true a0_0 a0_1 a0_2 l0_3)) = some r := H
  have A5 := aMx28 A50
  clear A50
  by_cases c6 : t207 = 0
  ·
   rw [if_pos c6] at H
   have c6b0 : (t207 == 0) = true := beq_iff_eq.mpr c6
   have c6b1 : (t207 != 0) = false := bne_eq_false_iff_eq.mpr c6
   clear c6
   (first | rw [c6b0] | (simp only [i64_w, i32_w]; rw [c6b0]) | skip)
   have H' := aMx28 H
   clear H
   have hcz7_0 : w4.cell? ⟨gb206, 0, none⟩ = some (.int .i64 a0_0) := (bCx28 BK206.out 0).trans rfl
   have hcz7_1 : w4.cell? ⟨gb206, 1, none⟩ = some (.int .i64 a0_1) := (bCx28 BK206.out 1).trans rfl
   have hcz7_2 : w4.cell? ⟨gb206, 2, none⟩ = some (.int .i64 a0_2) := (bCx28 BK206.out 2).trans rfl
   have hcz7_3 : w4.cell? ⟨gb206, 3, none⟩ = some (.slice A0_3 l0_3.length c0_3) := (bCx28 BK206.out 3).trans rfl
   have hfz7_0 := bFx28 BK206.out 0
   have hfz7_1 := bFx28 BK206.out 1
   have hfz7_2 := bFx28 BK206.out 2
   have hfz7_3 := bFx28 BK206.out 3
   go_wp2_with (first | ((with_reducible refine gate_callee (f := 27) rfl ?_); refine goesL_ (some 9) rfl rfl Try.func27 (by kernel_rfl) rfl #[.agg #[.int .i64 a0_0, .int .i64 a0_1, .int .i64 a0_2, .slice A0_3 l0_3.length c0_3]] rfl (by (try simp only [List.map_toArray, List.map_cons, List.map_nil]); first | done | rfl | (simp only [List.length_drop, List.length_take]; rfl)) ?_; (with_reducible refine (bivouacref06_Check.calls k a0_0 a0_1 a0_2 _ _ l0_3 t207 _ ?side1 ?side2 A5.out).mono ?_); (case side1 => repeat (first | exact (Kd.C_below HR0_3.out HB.out) | (with_reducible refine Kd.C_alloc ?_ _) | (with_reducible refine Kd.C_drewN ?_ _) | (with_reducible refine Kd.C_drew ?_))); (case side2 => exact HC0_3.out); rintro e w8 ⟨rfl, hb⟩; refine ⟨_, rfl, ?_⟩; have n0_ := aMx28 (zI (g := gb206) (o := .cells #[.int .i64 a0_0, .int .i64 a0_1, .int .i64 a0_2, .slice A0_3 l0_3.length c0_3] 24 (0, 0)) (by (with_reducible repeat (first | refine bNx28 ?_ _ | refine bDx28 ?_ | refine bKx28 ?_ _)); exact BK206.out) hb); have n1_ := aMx28 (zJ (by repeat (first | (with_reducible first | exact HB.out | apply zF | apply zB | apply zE | refine zC ?_ GE206.out) | exact HB.out)) hb); clear BK206; clear HB; have BK206 := n0_; have HB := n1_; clear n0_ n1_; (try clear hb); (try clear hb2); (try clear hk); (try clear hi)))
   go_meet
   case rel => exact ⟨_, (decide ((l1.length : Int) > 64)), (by first | rfl | (simp; done) | (simp [*]; done)), H', ⟨by first | omega | exact Nat.le_refl _⟩, ⟨by (with_reducible repeat (first | refine bNx28 ?_ _ | refine bDx28 ?_ | refine bKx28 ?_ _)); exact BK206.out⟩, ⟨by repeat (first | (with_reducible first | exact HB.out | apply zF | apply zB | apply zE | refine zC ?_ GE206.out) | exact HB.out)⟩⟩
  rw [if_neg c6] at H
  have c6b0 : (t207 == 0) = false := beq_eq_false_iff_ne.mpr c6
  have c6b1 : (t207 != 0) = true := bne_iff_ne.mpr c6
  (first | rw [c6b0] | (simp only [i64_w, i32_w]; rw [c6b0]) | skip)
  have H' := aMx28 H
  clear H
  have hcz9_0 : w4.cell? ⟨gb206, 0, none⟩ = some (.int .i64 a0_0) := (bCx28 BK206.out 0).trans rfl
  have hcz9_1 : w4.cell? ⟨gb206, 1, none⟩ = some (.int .i64 a0_1) := (bCx28 BK206.out 1).trans rfl
  have hcz9_2 : w4.cell? ⟨gb206, 2, none⟩ = some (.int .i64 a0_2) := (bCx28 BK206.out 2).trans rfl
  have hcz9_3 : w4.cell? ⟨gb206, 3, none⟩ = some (.slice A0_3 l0_3.length c0_3) := (bCx28 BK206.out 3).trans rfl
  have hfz9_0 := bFx28 BK206.out 0
  have hfz9_1 := bFx28 BK206.out 1
  have hfz9_2 := bFx28 BK206.out 2
  have hfz9_3 := bFx28 BK206.out 3
  go_wp2_with (first | ((with_reducible refine gate_callee (f := 27) rfl ?_); refine goesL_ (some 9) rfl rfl Try.func27 (by kernel_rfl) rfl #[.agg #[.int .i64 a0_0, .int .i64 a0_1, .int .i64 a0_2, .slice A0_3 l0_3.length c0_3]] rfl (by (try simp only [List.map_toArray, List.map_cons, List.map_nil]); first | done | rfl | (simp only [List.length_drop, List.length_take]; rfl)) ?_; (with_reducible refine (bivouacref06_Check.calls k a0_0 a0_1 a0_2 _ _ l0_3 t207 _ ?side1 ?side2 A5.out).mono ?_); (case side1 => repeat (first | exact (Kd.C_below HR0_3.out HB.out) | (with_reducible refine Kd.C_alloc ?_ _) | (with_reducible refine Kd.C_drewN ?_ _) | (with_reducible refine Kd.C_drew ?_))); (case side2 => exact HC0_3.out); rintro e w10 ⟨rfl, hb⟩; refine ⟨_, rfl, ?_⟩; have n0_ := aMx28 (zI (g := gb206) (o := .cells #[.int .i64 a0_0, .int .i64 a0_1, .int .i64 a0_2, .slice A0_3 l0_3.length c0_3] 24 (0, 0)) (by (with_reducible repeat (first | refine bNx28 ?_ _ | refine bDx28 ?_ | refine bKx28 ?_ _)); exact BK206.out) hb); have n1_ := aMx28 (zJ (by repeat (first | (with_reducible first | exact HB.out | apply zF | apply zB | apply zE | refine zC ?_ GE206.out) | exact HB.out)) hb); clear BK206; clear HB; have BK206 := n0_; have HB := n1_; clear n0_ n1_; (try clear hb); (try clear hb2); (try clear hk); (try clear hi)))
  go_meet
  case rel => exact ⟨_, (true), (by first | rfl | (simp; done) | (simp [*]; done)), H', ⟨by first | omega | exact Nat.le_refl _⟩, ⟨by (with_reducible repeat (first | refine bNx28 ?_ _ | refine bDx28 ?_ | refine bKx28 ?_ _)); exact BK206.out⟩, ⟨by repeat (first | (with_reducible first | exact HB.out | apply zF | apply zB | apply zE | refine zC ?_ GE206.out) | exact HB.out)⟩⟩
 clear HC3
 try clear c1 c2 p2 c6 c6b0 c6b1 hcz7_0 hcz7_1 hcz7_2 hcz7_3 hcz9_0 hcz9_1 hcz9_2 hcz9_3 hfz7_0 hfz7_1 hfz7_2 hfz7_3 hfz9_0 hfz9_1 hfz9_2 hfz9_3
 obtain ⟨kq, x15_2, rfl, HA, HJ2, BK206, HB⟩ := hcut
 cases kq with
 | zero => exact absurd HA.out (by simp [bivouacref21_May.j0])
 | succ kj2 =>
  have H := HA.out
  clear HA
  simp only [bivouacref21_May.j0] at H
  by_cases c11 : x15_2 = true
  ·
   subst c11
   have H1 : (some false) = some r := by rw [if_pos rfl] at H; exact H
   clear H
   have H := H1
   clear H1
   obtain rfl := Option.some.inj H
   go_wp2
   go_ret
   exact ⟨by first | rfl | (simp [zU, zT] <;> rfl) | (simp [*, zU, zT] <;> rfl) | (rw [zW (by assumption)]; rfl), by repeat (first | (with_reducible first | exact HB.out | apply zF | apply zB | apply zE | refine zC ?_ GE206.out) | exact HB.out)⟩
  replace c11 := Bool.eq_false_iff.mpr c11
  subst c11
  have H1 : (bivouacref21_May.l0 kj2 l1 0 a0_0 a0_1 a0_2 l0_3) = some r := by rw [if_neg (show ¬ (false = true) by decide)] at H; exact H
  clear H
  have H := H1
  clear H1
  have H' := aMx28 H
  clear H
  go_wp2
  go_loopg [5] kj2 (fun kq v5 w' => ∃ (x5_2 : Int), v5 = .int .i64 x5_2 ∧ Aside0 (bivouacref21_May.l0 kq l1 x5_2 a0_0 a0_1 a0_2 l0_3 = some r) ∧ Aside0 (kq ≤ kj2) ∧ Aside0 (w'.heap[gb206]? = some (.cells #[.int .i64 a0_0, .int .i64 a0_1, .int .i64 a0_2, (.slice A0_3 l0_3.length c0_3)] 24 (0, 0))) ∧ Aside0 (Below w.heap.size w w'))
  case atStart => exact ⟨(0), (by first | rfl | (simp; done) | (simp [*]; done)), H', ⟨Nat.le_refl _⟩, ⟨by (with_reducible repeat (first | refine bNx28 ?_ _ | refine bDx28 ?_ | refine bKx28 ?_ _)); exact BK206.out⟩, ⟨by repeat (first | (with_reducible first | exact HB.out | apply zF | apply zB | apply zE | refine zC ?_ GE206.out) | exact HB.out)⟩⟩
  clear H'
  try clear c1 c2 p2 c6 c6b0 c6b1 c11 hcz7_0 hcz7_1 hcz7_2 hcz7_3 hcz9_0 hcz9_1 hcz9_2 hcz9_3 hfz7_0 hfz7_1 hfz7_2 hfz7_3 hfz9_0 hfz9_1 hfz9_2 hfz9_3 p2
  obtain ⟨x5_2, rfl, HA, HK2, BK206, HB⟩ := hrel
  cases gk with
  | zero => exact absurd HA.out (by simp [bivouacref21_May.l0])
  | succ k2 =>
   have H := HA.out
   clear HA
   simp only [bivouacref21_May.l0] at H
   by_cases c12 : x5_2 < (l1.length : Int)
   ·
    rw [if_pos c12] at H
    have c12b0 : decide (x5_2 < (l1.length : Int)) = true := decide_eq_true c12
    clear c12
    by_cases c13 : 0 ≤ x5_2
    ·
     rw [if_pos c13] at H
     have c13b0 : decide (0 ≤ x5_2) = true := decide_eq_true c13
     clear c13
     have HC14 := aMx28 H
     clear H
     have p208 : 0 ≤ (x5_2 : Int) := of_decide_eq_true (by first | (with_reducible assumption) | assumption)
     have q208 : x5_2 < (l1.length : Int) := of_decide_eq_true (by first | (with_reducible assumption) | assumption)
     obtain ⟨ad208, e208, hx208_0, hx208_1, hx208_2, hx208_3, hx208_4, hx208_5, hx208_6, hx208_7⟩ := at_T27 HR1.out x5_2 p208 q208
     cases e208
     replace hx208_0 := (HB.out.cell (zH w _ hx208_0)).trans hx208_0
     replace hx208_1 := (HB.out.cell (zH w _ hx208_1)).trans hx208_1
     replace hx208_2 := (HB.out.cell (zH w _ hx208_2)).trans hx208_2
     replace hx208_3 := (HB.out.cell (zH w _ hx208_3)).trans hx208_3
     replace hx208_4 := (HB.out.cell (zH w _ hx208_4)).trans hx208_4
     replace hx208_5 := (HB.out.cell (zH w _ hx208_5)).trans hx208_5
     replace hx208_6 := (HB.out.cell (zH w _ hx208_6)).trans hx208_6
     replace hx208_7 := (HB.out.cell (zH w _ hx208_7)).trans hx208_7
     replace p208 := eq_true p208
     replace q208 := eq_true q208
     go_upto_region 7 with (first | ((with_reducible refine gate_dst (N := 6) rfl ?_); (try (refine gate_guard (by rfl) ?_; dsimp only)); refine box_event ?hg (N := 6) ?hd (cs := #[.int .i64 0, .int .i64 0, .int .i64 0, .int .i64 0, .int .i64 0, .int .i64 0, .int .i64 0, .int .i64 0]) (t := 27) ?hr ?_; (case hd => rfl); (case hg => rfl); (case hr => first | (go_simp; done) | (go_simp; rfl)); intro gb209 hg w15 hbox hb; have n0_ := aMx28 (zI (g := gb206) (o := .cells #[.int .i64 a0_0, .int .i64 a0_1, .int .i64 a0_2, .slice A0_3 l0_3.length c0_3] 24 (0, 0)) (by (with_reducible repeat (first | refine bNx28 ?_ _ | refine bDx28 ?_ | refine bKx28 ?_ _)); exact BK206.out) hb); have n1_ := aMx28 (zJ (by repeat (first | (with_reducible first | exact HB.out | apply zF | apply zB | apply zE | refine zC ?_ GE206.out) | exact HB.out)) hb); have n2_ := aMx28 (hbox); have n3_ := aMx28 ((by rw [hg]; exact (zK (by repeat (first | (with_reducible first | exact HB.out | apply zF | apply zB | apply zE | refine zC ?_ GE206.out) | exact HB.out))) : w.heap.size ≤ gb209)); have n4_ := aMx28 ((by rw [hg]; exact (zK (by repeat (first | (with_reducible first | exact HB.out | apply zF | apply zB | apply zE | refine zC ?_ GE206.out) | exact HB.out))) : w.heap.size ≤ gb209)); have n5_ := aMx28 ((by rw [hg]; exact Nat.ne_of_lt (blk_lt (g := gb206) (o := .cells #[.int .i64 a0_0, .int .i64 a0_1, .int .i64 a0_2, .slice A0_3 l0_3.length c0_3] 24 (0, 0)) (by (with_reducible repeat (first | refine bNx28 ?_ _ | refine bDx28 ?_ | refine bKx28 ?_ _)); exact BK206.out)) : gb206 ≠ gb209)); have n6_ := aMx28 ((by rw [hg]; exact Nat.ne_of_gt (blk_lt (g := gb206) (o := .cells #[.int .i64 a0_0, .int .i64 a0_1, .int .i64 a0_2, .slice A0_3 l0_3.length c0_3] 24 (0, 0)) (by (with_reducible repeat (first | refine bNx28 ?_ _ | refine bDx28 ?_ | refine bKx28 ?_ _)); exact BK206.out)) : gb209 ≠ gb206)); clear BK206; clear HB; have BK206 := n0_; have HB := n1_; have BK209 := n2_; have GW209 := n3_; have GE209 := n4_; have NB206_209 := n5_; have NB209_206 := n6_; clear n0_ n1_ n2_ n3_ n4_ n5_ n6_; clear hb hbox hg; have hnb16 := NB209_206.out; have hnc16 := NB206_209.out; have hcz17_0 : w15.cell? ⟨gb209, 0, none⟩ = some (.int .i64 0) := (bCx28 BK209.out 0).trans rfl; have hcz17_1 : w15.cell? ⟨gb209, 1, none⟩ = some (.int .i64 0) := (bCx28 BK209.out 1).trans rfl; have hcz17_2 : w15.cell? ⟨gb209, 2, none⟩ = some (.int .i64 0) := (bCx28 BK209.out 2).trans rfl; have hcz17_3 : w15.cell? ⟨gb209, 3, none⟩ = some (.int .i64 0) := (bCx28 BK209.out 3).trans rfl; have hcz17_4 : w15.cell? ⟨gb209, 4, none⟩ = some (.int .i64 0) := (bCx28 BK209.out 4).trans rfl; have hcz17_5 : w15.cell? ⟨gb209, 5, none⟩ = some (.int .i64 0) := (bCx28 BK209.out 5).trans rfl; have hcz17_6 : w15.cell? ⟨gb209, 6, none⟩ = some (.int .i64 0) := (bCx28 BK209.out 6).trans rfl; have hcz17_7 : w15.cell? ⟨gb209, 7, none⟩ = some (.int .i64 0) := (bCx28 BK209.out 7).trans rfl; have hfz17_0 := bFx28 BK209.out 0; have hfz17_1 := bFx28 BK209.out 1; have hfz17_2 := bFx28 BK209.out 2; have hfz17_3 := bFx28 BK209.out 3; have hfz17_4 := bFx28 BK209.out 4; have hfz17_5 := bFx28 BK209.out 5; have hfz17_6 := bFx28 BK209.out 6; have hfz17_7 := bFx28 BK209.out 7))
     (try simp only [Act.put, List.setIfInBounds_toArray, List.set_cons_zero, List.set_cons_succ])
     go_cut [7] (fun v7 wc => ∃ (kq : Nat) (x7_13 : Bool), v7 = .bool x7_13 ∧ Aside0 (bivouacref21_May.j2 kq l1 x5_2 x7_13 a0_0 a0_1 a0_2 l0_3 ((rd_T27 l1 x5_2).f0) ((rd_T27 l1 x5_2).f1) ((rd_T27 l1 x5_2).f2) ((rd_T27 l1 x5_2).f3) ((rd_T27 l1 x5_2).f4) ((rd_T27 l1 x5_2).f5) ((rd_T27 l1 x5_2).f6) ((rd_T27 l1 x5_2).f7) = some r) ∧ Aside0 (kq ≤ k2) ∧ Aside0 (wc.heap[gb206]? = some (.cells #[.int .i64 a0_0, .int .i64 a0_1, .int .i64 a0_2, (.slice A0_3 l0_3.length c0_3)] 24 (0, 0))) ∧ Aside0 (wc.heap[gb209]? = some (.cells #[.int .i64 ((rd_T27 l1 x5_2).f0), .int .i64 ((rd_T27 l1 x5_2).f1), .int .i64 ((rd_T27 l1 x5_2).f2), .int .i64 ((rd_T27 l1 x5_2).f3), .int .i64 ((rd_T27 l1 x5_2).f4), .int .i64 ((rd_T27 l1 x5_2).f5), .int .i64 ((rd_T27 l1 x5_2).f6), .int .i64 ((rd_T27 l1 x5_2).f7)] 27 (0, 0))) ∧ Aside0 (Below w.heap.size w wc))
     case first =>
      have H := HC14.out
      clear HC14
      replace H := Option.bind_eq_some_iff.mp H
      obtain ⟨t210, A180, H⟩ := H
      replace H : (if t210 = true then ((bivouacref21_in.f ((rd_T27 l1 x5_2).f1) (wrap64 (a0_0 - 1))).bind fun t211 => (if t211 = true then ((bivouacref21_in.f ((rd_T27 l1 x5_2).f2) (wrap64 (a0_1 - 1))).bind fun t212 => (if t212 = true then ((bivouacref21_in.f ((rd_T27 l1 x5_2).f3) 255).bind fun t213 => (bivouacref21_May.j2 k2 l1 x5_2 t213 a0_0 a0_1 a0_2 l0_3 ((rd_T27 l1 x5_2).f0) ((rd_T27 l1 x5_2).f1) ((rd_T27 l1 x5_2).f2) ((rd_T27 l1 x5_2).f3) ((rd_T27 l1 x5_2).f4) ((rd_T27 l1 x5_2).f5) ((rd_T27 l1 x5_2).f6) ((rd_T27 l1 x5_2).f7))) else (bivouacref21_May.j2 k2 l1 x5_2 false a0_0 a0_1 a0_2 l0_3 ((rd_T27 l1 x5_2).f0) ((rd_T27 l1 x5_2).f1) ((rd_T27 l1 x5_2).f2) ((rd_T27 l1 x5_2).f3) ((rd_T27 l1 x5_2).f4) ((rd_T27 l1 x5_2).f5) ((rd_T27 l1 x5_2).f6) ((rd_T27 l1 x5_2).f7)))) else (bivouacref21_May.j2 k2 l1 x5_2 false a0_0 a0_1 a0_2 l0_3 ((rd_T27 l1 x5_2).f0) ((rd_T27 l1 x5_2).f1) ((rd_T27 l1 x5_2).f2) ((rd_T27 l1 x5_2).f3) ((rd_T27 l1 x5_2).f4) ((rd_T27 l1 x5_2).f5) ((rd_T27 l1 x5_2).f6) ((rd_T27 l1 x5_2).f7)))) else (bivouacref21_May.j2 k2 l1 x5_2 false a0_0 a0_1 a0_2 l0_3 ((rd_T27 l1 x5_2).f0) ((rd_T27 l1 x5_2).f1) ((rd_T27 l1 x5_2).f2) ((rd_T27 l1 x5_2).f3) ((rd_T27 l1 x5_2).f4) ((rd_T27 l1 x5_2).f5) ((rd_T27 l1 x5_2).f6) ((rd_T27 l1 x5_2).f7))) = some r := H
      have A18 := aMx28 A180
      clear A180
      by_cases c19 : t210 = true
      ·
       subst c19
       have H1 : ((bivouacref21_in.f ((rd_T27 l1 x5_2).f1) (wrap64 (a0_0 - 1))).bind fun t211 => (if t211 = true then ((bivouacref21_in.f ((rd_T27 l1 x5_2).f2) (wrap64 (a0_1 - 1))).bind fun t212 => (if t212 = true then ((bivouacref21_in.f ((rd_T27 l1 x5_2).f3) 255).bind fun t213 => (bivouacref21_May.j2 k2 l1 x5_2 t213 a0_0 a0_1 a0_2 l0_3 ((rd_T27 l1 x5_2).f0) ((rd_T27 l1 x5_2).f1) ((rd_T27 l1 x5_2).f2) ((rd_T27 l1 x5_2).f3) ((rd_T27 l1 x5_2).f4) ((rd_T27 l1 x5_2).f5) ((rd_T27 l1 x5_2).f6) ((rd_T27 l1 x5_2).f7))) else (bivouacref21_May.j2 k2 l1 x5_2 false a0_0 a0_1 a0_2 l0_3 ((rd_T27 l1 x5_2).f0) ((rd_T27 l1 x5_2).f1) ((rd_T27 l1 x5_2).f2) ((rd_T27 l1 x5_2).f3) ((rd_T27 l1 x5_2).f4) ((rd_T27 l1 x5_2).f5) ((rd_T27 l1 x5_2).f6) ((rd_T27 l1 x5_2).f7)))) else (bivouacref21_May.j2 k2 l1 x5_2 false a0_0 a0_1 a0_2 l0_3 ((rd_T27 l1 x5_2).f0) ((rd_T27 l1 x5_2).f1) ((rd_T27 l1 x5_2).f2) ((rd_T27 l1 x5_2).f3) ((rd_T27 l1 x5_2).f4) ((rd_T27 l1 x5_2).f5) ((rd_T27 l1 x5_2).f6) ((rd_T27 l1 x5_2).f7)))) = some r := by rw [if_pos rfl] at H; exact H
       clear H
       have H := H1
       clear H1
       replace H := Option.bind_eq_some_iff.mp H
       obtain ⟨t211, A200, H⟩ := H
       replace H : (if t211 = true then ((bivouacref21_in.f ((rd_T27 l1 x5_2).f2) (wrap64 (a0_1 - 1))).bind fun t212 => (if t212 = true then ((bivouacref21_in.f ((rd_T27 l1 x5_2).f3) 255).bind fun t213 => (bivouacref21_May.j2 k2 l1 x5_2 t213 a0_0 a0_1 a0_2 l0_3 ((rd_T27 l1 x5_2).f0) ((rd_T27 l1 x5_2).f1) ((rd_T27 l1 x5_2).f2) ((rd_T27 l1 x5_2).f3) ((rd_T27 l1 x5_2).f4) ((rd_T27 l1 x5_2).f5) ((rd_T27 l1 x5_2).f6) ((rd_T27 l1 x5_2).f7))) else (bivouacref21_May.j2 k2 l1 x5_2 false a0_0 a0_1 a0_2 l0_3 ((rd_T27 l1 x5_2).f0) ((rd_T27 l1 x5_2).f1) ((rd_T27 l1 x5_2).f2) ((rd_T27 l1 x5_2).f3) ((rd_T27 l1 x5_2).f4) ((rd_T27 l1 x5_2).f5) ((rd_T27 l1 x5_2).f6) ((rd_T27 l1 x5_2).f7)))) else (bivouacref21_May.j2 k2 l1 x5_2 false a0_0 a0_1 a0_2 l0_3 ((rd_T27 l1 x5_2).f0) ((rd_T27 l1 x5_2).f1) ((rd_T27 l1 x5_2).f2) ((rd_T27 l1 x5_2).f3) ((rd_T27 l1 x5_2).f4) ((rd_T27 l1 x5_2).f5) ((rd_T27 l1 x5_2).f6) ((rd_T27 l1 x5_2).f7))) = some r := H
       have A20 := aMx28 A200
       clear A200
       by_cases c21 : t211 = true
       ·
        subst c21
        have H1 : ((bivouacref21_in.f ((rd_T27 l1 x5_2).f2) (wrap64 (a0_1 - 1))).bind fun t212 => (if t212 = true then ((bivouacref21_in.f ((rd_T27 l1 x5_2).f3) 255).bind fun t213 => (bivouacref21_May.j2 k2 l1 x5_2 t213 a0_0 a0_1 a0_2 l0_3 ((rd_T27 l1 x5_2).f0) ((rd_T27 l1 x5_2).f1) ((rd_T27 l1 x5_2).f2) ((rd_T27 l1 x5_2).f3) ((rd_T27 l1 x5_2).f4) ((rd_T27 l1 x5_2).f5) ((rd_T27 l1 x5_2).f6) ((rd_T27 l1 x5_2).f7))) else (bivouacref21_May.j2 k2 l1 x5_2 false a0_0 a0_1 a0_2 l0_3 ((rd_T27 l1 x5_2).f0) ((rd_T27 l1 x5_2).f1) ((rd_T27 l1 x5_2).f2) ((rd_T27 l1 x5_2).f3) ((rd_T27 l1 x5_2).f4) ((rd_T27 l1 x5_2).f5) ((rd_T27 l1 x5_2).f6) ((rd_T27 l1 x5_2).f7)))) = some r := by rw [if_pos rfl] at H; exact H
        clear H
        have H := H1
        clear H1
        replace H := Option.bind_eq_some_iff.mp H
        obtain ⟨t212, A220, H⟩ := H
        replace H : (if t212 = true then ((bivouacref21_in.f ((rd_T27 l1 x5_2).f3) 255).bind fun t213 => (bivouacref21_May.j2 k2 l1 x5_2 t213 a0_0 a0_1 a0_2 l0_3 ((rd_T27 l1 x5_2).f0) ((rd_T27 l1 x5_2).f1) ((rd_T27 l1 x5_2).f2) ((rd_T27 l1 x5_2).f3) ((rd_T27 l1 x5_2).f4) ((rd_T27 l1 x5_2).f5) ((rd_T27 l1 x5_2).f6) ((rd_T27 l1 x5_2).f7))) else (bivouacref21_May.j2 k2 l1 x5_2 false a0_0 a0_1 a0_2 l0_3 ((rd_T27 l1 x5_2).f0) ((rd_T27 l1 x5_2).f1) ((rd_T27 l1 x5_2).f2) ((rd_T27 l1 x5_2).f3) ((rd_T27 l1 x5_2).f4) ((rd_T27 l1 x5_2).f5) ((rd_T27 l1 x5_2).f6) ((rd_T27 l1 x5_2).f7))) = some r := H
        have A22 := aMx28 A220
        clear A220
        by_cases c23 : t212 = true
        ·
         subst c23
         have H1 : ((bivouacref21_in.f ((rd_T27 l1 x5_2).f3) 255).bind fun t213 => (bivouacref21_May.j2 k2 l1 x5_2 t213 a0_0 a0_1 a0_2 l0_3 ((rd_T27 l1 x5_2).f0) ((rd_T27 l1 x5_2).f1) ((rd_T27 l1 x5_2).f2) ((rd_T27 l1 x5_2).f3) ((rd_T27 l1 x5_2).f4) ((rd_T27 l1 x5_2).f5) ((rd_T27 l1 x5_2).f6) ((rd_T27 l1 x5_2).f7))) = some r := by rw [if_pos rfl] at H; exact H
         clear H
         have H := H1
         clear H1
         replace H := Option.bind_eq_some_iff.mp H
         obtain ⟨t213, A240, H⟩ := H
         replace H : (bivouacref21_May.j2 k2 l1 x5_2 t213 a0_0 a0_1 a0_2 l0_3 ((rd_T27 l1 x5_2).f0) ((rd_T27 l1 x5_2).f1) ((rd_T27 l1 x5_2).f2) ((rd_T27 l1 x5_2).f3) ((rd_T27 l1 x5_2).f4) ((rd_T27 l1 x5_2).f5) ((rd_T27 l1 x5_2).f6) ((rd_T27 l1 x5_2).f7)) = some r := H
         have A24 := aMx28 A240
         clear A240
         have H' := aMx28 H
         clear H
         have hnb25 := NB209_206.out
         have hnc25 := NB206_209.out
         have hcz26_0 : w15.cell? ⟨gb209, 0, none⟩ = some (.int .i64 0) := (bCx28 BK209.out 0).trans rfl
         have hcz26_1 : w15.cell? ⟨gb209, 1, none⟩ = some (.int .i64 0) := (bCx28 BK209.out 1).trans rfl
         have hcz26_2 : w15.cell? ⟨gb209, 2, none⟩ = some (.int .i64 0) := (bCx28 BK209.out 2).trans rfl
         have hcz26_3 : w15.cell? ⟨gb209, 3, none⟩ = some (.int .i64 0) := (bCx28 BK209.out 3).trans rfl
         have hcz26_4 : w15.cell? ⟨gb209, 4, none⟩ = some (.int .i64 0) := (bCx28 BK209.out 4).trans rfl
         have hcz26_5 : w15.cell? ⟨gb209, 5, none⟩ = some (.int .i64 0) := (bCx28 BK209.out 5).trans rfl
         have hcz26_6 : w15.cell? ⟨gb209, 6, none⟩ = some (.int .i64 0) := (bCx28 BK209.out 6).trans rfl
         have hcz26_7 : w15.cell? ⟨gb209, 7, none⟩ = some (.int .i64 0) := (bCx28 BK209.out 7).trans rfl
         have hfz26_0 := bFx28 BK209.out 0
         have hfz26_1 := bFx28 BK209.out 1
         have hfz26_2 := bFx28 BK209.out 2
         have hfz26_3 := bFx28 BK209.out 3
         have hfz26_4 := bFx28 BK209.out 4
         have hfz26_5 := bFx28 BK209.out 5
         have hfz26_6 := bFx28 BK209.out 6
         have hfz26_7 := bFx28 BK209.out 7
         go_wp2_with (first | ((with_reducible refine gate_callee (f := 28) rfl ?_); refine goesL_ (some 28) rfl rfl Try.func28 (by kernel_rfl) rfl #[.int .i64 ((rd_T27 l1 x5_2).f0), .int .i64 7] rfl (by (try simp only [List.map_toArray, List.map_cons, List.map_nil]); first | done | rfl | (simp only [List.length_drop, List.length_take]; rfl)) ?_; (with_reducible refine (bivouacref21_in.calls ((rd_T27 l1 x5_2).f0) 7 true _ A18.out).mono ?_); rintro e w' ⟨rfl, ⟨nd, rfl⟩⟩; refine ⟨_, rfl, ?_⟩; have hcz27_0 : w15.cell? ⟨gb206, 0, none⟩ = some (.int .i64 a0_0) := (bCx28 BK206.out 0).trans rfl; have hcz27_1 : w15.cell? ⟨gb206, 1, none⟩ = some (.int .i64 a0_1) := (bCx28 BK206.out 1).trans rfl; have hcz27_2 : w15.cell? ⟨gb206, 2, none⟩ = some (.int .i64 a0_2) := (bCx28 BK206.out 2).trans rfl; have hcz27_3 : w15.cell? ⟨gb206, 3, none⟩ = some (.slice A0_3 l0_3.length c0_3) := (bCx28 BK206.out 3).trans rfl; have hfz27_0 := bFx28 BK206.out 0; have hfz27_1 := bFx28 BK206.out 1; have hfz27_2 := bFx28 BK206.out 2; have hfz27_3 := bFx28 BK206.out 3) | (go_at_call 28; (with_reducible refine (bivouacref21_in.calls ((rd_T27 l1 x5_2).f1) (wrap64 (a0_0 - 1)) true _ A20.out).mono ?_); rintro e w' ⟨rfl, ⟨nd, rfl⟩⟩) | (go_at_call 28; (with_reducible refine (bivouacref21_in.calls ((rd_T27 l1 x5_2).f2) (wrap64 (a0_1 - 1)) true _ A22.out).mono ?_); rintro e w' ⟨rfl, ⟨nd, rfl⟩⟩) | (go_at_call 28; (with_reducible refine (bivouacref21_in.calls ((rd_T27 l1 x5_2).f3) 255 t213 _ A24.out).mono ?_); rintro e w' ⟨rfl, ⟨nd, rfl⟩⟩))
         go_meet
         case rel => exact ⟨_, (t213), (by first | rfl | (simp; done) | (simp [*]; done)), H', ⟨by have := HJ2.out; have := HK2.out; first | omega | exact Nat.le_refl _⟩, ⟨by (with_reducible repeat (first | refine bNx28 ?_ _ | refine bDx28 ?_ | refine bKx28 ?_ _)); exact blk_far8_x28 BK206.out NB206_209.out⟩, ⟨by (with_reducible repeat (first | refine bNx28 ?_ _ | refine bDx28 ?_ | refine bKx28 ?_ _)); exact blk_put8_x28 BK209.out⟩, ⟨by repeat (first | (with_reducible first | exact HB.out | apply zF | apply zB | apply zE | refine zC ?_ GE206.out | refine zC ?_ GE209.out) | exact HB.out)⟩⟩
        replace c23 := Bool.eq_false_iff.mpr c23
        subst c23
        have H1 : (bivouacref21_May.j2 k2 l1 x5_2 false a0_0 a0_1 a0_2 l0_3 ((rd_T27 l1 x5_2).f0) ((rd_T27 l1 x5_2).f1) ((rd_T27 l1 x5_2).f2) ((rd_T27 l1 x5_2).f3) ((rd_T27 l1 x5_2).f4) ((rd_T27 l1 x5_2).f5) ((rd_T27 l1 x5_2).f6) ((rd_T27 l1 x5_2).f7)) = some r := by rw [if_neg (show ¬ (false = true) by decide)] at H; exact H
        clear H
        have H := H1
        clear H1
        have H' := aMx28 H
        clear H
        have hnb28 := NB209_206.out
        have hnc28 := NB206_209.out
        have hcz29_0 : w15.cell? ⟨gb209, 0, none⟩ = some (.int .i64 0) := (bCx28 BK209.out 0).trans rfl
        have hcz29_1 : w15.cell? ⟨gb209, 1, none⟩ = some (.int .i64 0) := (bCx28 BK209.out 1).trans rfl
        have hcz29_2 : w15.cell? ⟨gb209, 2, none⟩ = some (.int .i64 0) := (bCx28 BK209.out 2).trans rfl
        have hcz29_3 : w15.cell? ⟨gb209, 3, none⟩ = some (.int .i64 0) := (bCx28 BK209.out 3).trans rfl
        have hcz29_4 : w15.cell? ⟨gb209, 4, none⟩ = some (.int .i64 0) := (bCx28 BK209.out 4).trans rfl
        have hcz29_5 : w15.cell? ⟨gb209, 5, none⟩ = some (.int .i64 0) := (bCx28 BK209.out 5).trans rfl
        have hcz29_6 : w15.cell? ⟨gb209, 6, none⟩ = some (.int .i64 0) := (bCx28 BK209.out 6).trans rfl
        have hcz29_7 : w15.cell? ⟨gb209, 7, none⟩ = some (.int .i64 0) := (bCx28 BK209.out 7).trans rfl
        have hfz29_0 := bFx28 BK209.out 0
        have hfz29_1 := bFx28 BK209.out 1
        have hfz29_2 := bFx28 BK209.out 2
        have hfz29_3 := bFx28 BK209.out 3
        have hfz29_4 := bFx28 BK209.out 4
        have hfz29_5 := bFx28 BK209.out 5
        have hfz29_6 := bFx28 BK209.out 6
        have hfz29_7 := bFx28 BK209.out 7
        go_wp2_with (first | ((with_reducible refine gate_callee (f := 28) rfl ?_); refine goesL_ (some 28) rfl rfl Try.func28 (by kernel_rfl) rfl #[.int .i64 ((rd_T27 l1 x5_2).f0), .int .i64 7] rfl (by (try simp only [List.map_toArray, List.map_cons, List.map_nil]); first | done | rfl | (simp only [List.length_drop, List.length_take]; rfl)) ?_; (with_reducible refine (bivouacref21_in.calls ((rd_T27 l1 x5_2).f0) 7 true _ A18.out).mono ?_); rintro e w' ⟨rfl, ⟨nd, rfl⟩⟩; refine ⟨_, rfl, ?_⟩; have hcz30_0 : w15.cell? ⟨gb206, 0, none⟩ = some (.int .i64 a0_0) := (bCx28 BK206.out 0).trans rfl; have hcz30_1 : w15.cell? ⟨gb206, 1, none⟩ = some (.int .i64 a0_1) := (bCx28 BK206.out 1).trans rfl; have hcz30_2 : w15.cell? ⟨gb206, 2, none⟩ = some (.int .i64 a0_2) := (bCx28 BK206.out 2).trans rfl; have hcz30_3 : w15.cell? ⟨gb206, 3, none⟩ = some (.slice A0_3 l0_3.length c0_3) := (bCx28 BK206.out 3).trans rfl; have hfz30_0 := bFx28 BK206.out 0; have hfz30_1 := bFx28 BK206.out 1; have hfz30_2 := bFx28 BK206.out 2; have hfz30_3 := bFx28 BK206.out 3) | (go_at_call 28; (with_reducible refine (bivouacref21_in.calls ((rd_T27 l1 x5_2).f1) (wrap64 (a0_0 - 1)) true _ A20.out).mono ?_); rintro e w' ⟨rfl, ⟨nd, rfl⟩⟩) | (go_at_call 28; (with_reducible refine (bivouacref21_in.calls ((rd_T27 l1 x5_2).f2) (wrap64 (a0_1 - 1)) false _ A22.out).mono ?_); rintro e w' ⟨rfl, ⟨nd, rfl⟩⟩))
        go_meet
        case rel => exact ⟨_, (false), (by first | rfl | (simp; done) | (simp [*]; done)), H', ⟨by have := HJ2.out; have := HK2.out; first | omega | exact Nat.le_refl _⟩, ⟨by (with_reducible repeat (first | refine bNx28 ?_ _ | refine bDx28 ?_ | refine bKx28 ?_ _)); exact blk_far8_x28 BK206.out NB206_209.out⟩, ⟨by (with_reducible repeat (first | refine bNx28 ?_ _ | refine bDx28 ?_ | refine bKx28 ?_ _)); exact blk_put8_x28 BK209.out⟩, ⟨by repeat (first | (with_reducible first | exact HB.out | apply zF | apply zB | apply zE | refine zC ?_ GE206.out | refine zC ?_ GE209.out) | exact HB.out)⟩⟩
       replace c21 := Bool.eq_false_iff.mpr c21
       subst c21
       have H1 : (bivouacref21_May.j2 k2 l1 x5_2 false a0_0 a0_1 a0_2 l0_3 ((rd_T27 l1 x5_2).f0) ((rd_T27 l1 x5_2).f1) ((rd_T27 l1 x5_2).f2) ((rd_T27 l1 x5_2).f3) ((rd_T27 l1 x5_2).f4) ((rd_T27 l1 x5_2).f5) ((rd_T27 l1 x5_2).f6) ((rd_T27 l1 x5_2).f7)) = some r := by rw [if_neg (show ¬ (false = true) by decide)] at H; exact H
       clear H
       have H := H1
       clear H1
       have H' := aMx28 H
       clear H
       have hnb31 := NB209_206.out
       have hnc31 := NB206_209.out
       have hcz32_0 : w15.cell? ⟨gb209, 0, none⟩ = some (.int .i64 0) := (bCx28 BK209.out 0).trans rfl
       have hcz32_1 : w15.cell? ⟨gb209, 1, none⟩ = some (.int .i64 0) := (bCx28 BK209.out 1).trans rfl
       have hcz32_2 : w15.cell? ⟨gb209, 2, none⟩ = some (.int .i64 0) := (bCx28 BK209.out 2).trans rfl
       have hcz32_3 : w15.cell? ⟨gb209, 3, none⟩ = some (.int .i64 0) := (bCx28 BK209.out 3).trans rfl
       have hcz32_4 : w15.cell? ⟨gb209, 4, none⟩ = some (.int .i64 0) := (bCx28 BK209.out 4).trans rfl
       have hcz32_5 : w15.cell? ⟨gb209, 5, none⟩ = some (.int .i64 0) := (bCx28 BK209.out 5).trans rfl
       have hcz32_6 : w15.cell? ⟨gb209, 6, none⟩ = some (.int .i64 0) := (bCx28 BK209.out 6).trans rfl
       have hcz32_7 : w15.cell? ⟨gb209, 7, none⟩ = some (.int .i64 0) := (bCx28 BK209.out 7).trans rfl
       have hfz32_0 := bFx28 BK209.out 0
       have hfz32_1 := bFx28 BK209.out 1
       have hfz32_2 := bFx28 BK209.out 2
       have hfz32_3 := bFx28 BK209.out 3
       have hfz32_4 := bFx28 BK209.out 4
       have hfz32_5 := bFx28 BK209.out 5
       have hfz32_6 := bFx28 BK209.out 6
       have hfz32_7 := bFx28 BK209.out 7
       go_wp2_with (first | ((with_reducible refine gate_callee (f := 28) rfl ?_); refine goesL_ (some 28) rfl rfl Try.func28 (by kernel_rfl) rfl #[.int .i64 ((rd_T27 l1 x5_2).f0), .int .i64 7] rfl (by (try simp only [List.map_toArray, List.map_cons, List.map_nil]); first | done | rfl | (simp only [List.length_drop, List.length_take]; rfl)) ?_; (with_reducible refine (bivouacref21_in.calls ((rd_T27 l1 x5_2).f0) 7 true _ A18.out).mono ?_); rintro e w' ⟨rfl, ⟨nd, rfl⟩⟩; refine ⟨_, rfl, ?_⟩; have hcz33_0 : w15.cell? ⟨gb206, 0, none⟩ = some (.int .i64 a0_0) := (bCx28 BK206.out 0).trans rfl; have hcz33_1 : w15.cell? ⟨gb206, 1, none⟩ = some (.int .i64 a0_1) := (bCx28 BK206.out 1).trans rfl; have hcz33_2 : w15.cell? ⟨gb206, 2, none⟩ = some (.int .i64 a0_2) := (bCx28 BK206.out 2).trans rfl; have hcz33_3 : w15.cell? ⟨gb206, 3, none⟩ = some (.slice A0_3 l0_3.length c0_3) := (bCx28 BK206.out 3).trans rfl; have hfz33_0 := bFx28 BK206.out 0; have hfz33_1 := bFx28 BK206.out 1; have hfz33_2 := bFx28 BK206.out 2; have hfz33_3 := bFx28 BK206.out 3) | (go_at_call 28; (with_reducible refine (bivouacref21_in.calls ((rd_T27 l1 x5_2).f1) (wrap64 (a0_0 - 1)) false _ A20.out).mono ?_); rintro e w' ⟨rfl, ⟨nd, rfl⟩⟩))
       go_meet
       case rel => exact ⟨_, (false), (by first | rfl | (simp; done) | (simp [*]; done)), H', ⟨by have := HJ2.out; have := HK2.out; first | omega | exact Nat.le_refl _⟩, ⟨by (with_reducible repeat (first | refine bNx28 ?_ _ | refine bDx28 ?_ | refine bKx28 ?_ _)); exact blk_far8_x28 BK206.out NB206_209.out⟩, ⟨by (with_reducible repeat (first | refine bNx28 ?_ _ | refine bDx28 ?_ | refine bKx28 ?_ _)); exact blk_put8_x28 BK209.out⟩, ⟨by repeat (first | (with_reducible first | exact HB.out | apply zF | apply zB | apply zE | refine zC ?_ GE206.out | refine zC ?_ GE209.out) | exact HB.out)⟩⟩
      replace c19 := Bool.eq_false_iff.mpr c19
      subst c19
      have H1 : (bivouacref21_May.j2 k2 l1 x5_2 false a0_0 a0_1 a0_2 l0_3 ((rd_T27 l1 x5_2).f0) ((rd_T27 l1 x5_2).f1) ((rd_T27 l1 x5_2).f2) ((rd_T27 l1 x5_2).f3) ((rd_T27 l1 x5_2).f4) ((rd_T27 l1 x5_2).f5) ((rd_T27 l1 x5_2).f6) ((rd_T27 l1 x5_2).f7)) = some r := by rw [if_neg (show ¬ (false = true) by decide)] at H; exact H
      clear H
      have H := H1
      clear H1
      have H' := aMx28 H
      clear H
      have hnb34 := NB209_206.out
      have hnc34 := NB206_209.out
      have hcz35_0 : w15.cell? ⟨gb209, 0, none⟩ = some (.int .i64 0) := (bCx28 BK209.out 0).trans rfl
      have hcz35_1 : w15.cell? ⟨gb209, 1, none⟩ = some (.int .i64 0) := (bCx28 BK209.out 1).trans rfl
      have hcz35_2 : w15.cell? ⟨gb209, 2, none⟩ = some (.int .i64 0) := (bCx28 BK209.out 2).trans rfl
      have hcz35_3 : w15.cell? ⟨gb209, 3, none⟩ = some (.int .i64 0) := (bCx28 BK209.out 3).trans rfl
      have hcz35_4 : w15.cell? ⟨gb209, 4, none⟩ = some (.int .i64 0) := (bCx28 BK209.out 4).trans rfl
      have hcz35_5 : w15.cell? ⟨gb209, 5, none⟩ = some (.int .i64 0) := (bCx28 BK209.out 5).trans rfl
      have hcz35_6 : w15.cell? ⟨gb209, 6, none⟩ = some (.int .i64 0) := (bCx28 BK209.out 6).trans rfl
      have hcz35_7 : w15.cell? ⟨gb209, 7, none⟩ = some (.int .i64 0) := (bCx28 BK209.out 7).trans rfl
      have hfz35_0 := bFx28 BK209.out 0
      have hfz35_1 := bFx28 BK209.out 1
      have hfz35_2 := bFx28 BK209.out 2
      have hfz35_3 := bFx28 BK209.out 3
      have hfz35_4 := bFx28 BK209.out 4
      have hfz35_5 := bFx28 BK209.out 5
      have hfz35_6 := bFx28 BK209.out 6
      have hfz35_7 := bFx28 BK209.out 7
      go_wp2_with (first | ((with_reducible refine gate_callee (f := 28) rfl ?_); refine goesL_ (some 28) rfl rfl Try.func28 (by kernel_rfl) rfl #[.int .i64 ((rd_T27 l1 x5_2).f0), .int .i64 7] rfl (by (try simp only [List.map_toArray, List.map_cons, List.map_nil]); first | done | rfl | (simp only [List.length_drop, List.length_take]; rfl)) ?_; (with_reducible refine (bivouacref21_in.calls ((rd_T27 l1 x5_2).f0) 7 false _ A18.out).mono ?_); rintro e w' ⟨rfl, ⟨nd, rfl⟩⟩; refine ⟨_, rfl, ?_⟩))
      go_meet
      case rel => exact ⟨_, (false), (by first | rfl | (simp; done) | (simp [*]; done)), H', ⟨by have := HJ2.out; have := HK2.out; first | omega | exact Nat.le_refl _⟩, ⟨by (with_reducible repeat (first | refine bNx28 ?_ _ | refine bDx28 ?_ | refine bKx28 ?_ _)); exact blk_far8_x28 BK206.out NB206_209.out⟩, ⟨by (with_reducible repeat (first | refine bNx28 ?_ _ | refine bDx28 ?_ | refine bKx28 ?_ _)); exact blk_put8_x28 BK209.out⟩, ⟨by repeat (first | (with_reducible first | exact HB.out | apply zF | apply zB | apply zE | refine zC ?_ GE206.out | refine zC ?_ GE209.out) | exact HB.out)⟩⟩
     clear HC14
     try clear c1 c2 p2 q2 hx2 c3 c6 c6b0 c6b1 p6 c11 c12 c12b0 c13 c13b0 c16 c19 p20 q20 hx20 c21 c23 c25 c27 c28 c31 c34 hcz17_0 hcz17_1 hcz17_2 hcz17_3 hcz17_4 hcz17_5 hcz17_6 hcz17_7 hcz26_0 hcz26_1 hcz26_2 hcz26_3 hcz26_4 hcz26_5 hcz26_6 hcz26_7 hcz27_0 hcz27_1 hcz27_2 hcz27_3 hcz29_0 hcz29_1 hcz29_2 hcz29_3 hcz29_4 hcz29_5 hcz29_6 hcz29_7 hcz30_0 hcz30_1 hcz30_2 hcz30_3 hcz32_0 hcz32_1 hcz32_2 hcz32_3 hcz32_4 hcz32_5 hcz32_6 hcz32_7 hcz33_0 hcz33_1 hcz33_2 hcz33_3 hcz35_0 hcz35_1 hcz35_2 hcz35_3 hcz35_4 hcz35_5 hcz35_6 hcz35_7 hcz7_0 hcz7_1 hcz7_2 hcz7_3 hcz9_0 hcz9_1 hcz9_2 hcz9_3 hfz17_0 hfz17_1 hfz17_2 hfz17_3 hfz17_4 hfz17_5 hfz17_6 hfz17_7 hfz26_0 hfz26_1 hfz26_2 hfz26_3 hfz26_4 hfz26_5 hfz26_6 hfz26_7 hfz27_0 hfz27_1 hfz27_2 hfz27_3 hfz29_0 hfz29_1 hfz29_2 hfz29_3 hfz29_4 hfz29_5 hfz29_6 hfz29_7 hfz30_0 hfz30_1 hfz30_2 hfz30_3 hfz32_0 hfz32_1 hfz32_2 hfz32_3 hfz32_4 hfz32_5 hfz32_6 hfz32_7 hfz33_0 hfz33_1 hfz33_2 hfz33_3 hfz35_0 hfz35_1 hfz35_2 hfz35_3 hfz35_4 hfz35_5 hfz35_6 hfz35_7 hfz7_0 hfz7_1 hfz7_2 hfz7_3 hfz9_0 hfz9_1 hfz9_2 hfz9_3 hx208_0 hx208_1 hx208_2 hx208_3 hx208_4 hx208_5 hx208_6 hx208_7 p2 p208 q208
     obtain ⟨kq, x7_13, rfl, HA, HJ13, BK206, BK209, HB⟩ := hcut
     cases kq with
     | zero => exact absurd HA.out (by simp [bivouacref21_May.j2])
     | succ kj13 =>
      have H := HA.out
      clear HA
      simp only [bivouacref21_May.j2] at H
      by_cases c36 : x7_13 = true
      ·
       subst c36
       have H1 : ((bivouacref21_in.f ((rd_T27 l1 x5_2).f4) 32).bind fun t214 => (if t214 = true then ((bivouacref21_in.f ((rd_T27 l1 x5_2).f5) 32).bind fun t215 => (if t215 = true then ((bivouacref21_in.f ((rd_T27 l1 x5_2).f6) 32).bind fun t216 => (if t216 = true then ((bivouacref21_in.f ((rd_T27 l1 x5_2).f7) 32).bind fun t217 => (if t217 = true then (bivouacref21_May.l0 kj13 l1 (wrap64 (x5_2 + 1)) a0_0 a0_1 a0_2 l0_3) else (some false))) else (some false))) else (some false))) else (some false))) = some r := by rw [if_pos rfl] at H; exact H
       clear H
       have H := H1
       clear H1
       replace H := Option.bind_eq_some_iff.mp H
       obtain ⟨t214, A370, H⟩ := H
       replace H : (if t214 = true then ((bivouacref21_in.f ((rd_T27 l1 x5_2).f5) 32).bind fun t215 => (if t215 = true then ((bivouacref21_in.f ((rd_T27 l1 x5_2).f6) 32).bind fun t216 => (if t216 = true then ((bivouacref21_in.f ((rd_T27 l1 x5_2).f7) 32).bind fun t217 => (if t217 = true then (bivouacref21_May.l0 kj13 l1 (wrap64 (x5_2 + 1)) a0_0 a0_1 a0_2 l0_3) else (some false))) else (some false))) else (some false))) else (some false)) = some r := H
       have A37 := aMx28 A370
       clear A370
       by_cases c38 : t214 = true
       ·
        subst c38
        have H1 : ((bivouacref21_in.f ((rd_T27 l1 x5_2).f5) 32).bind fun t215 => (if t215 = true then ((bivouacref21_in.f ((rd_T27 l1 x5_2).f6) 32).bind fun t216 => (if t216 = true then ((bivouacref21_in.f ((rd_T27 l1 x5_2).f7) 32).bind fun t217 => (if t217 = true then (bivouacref21_May.l0 kj13 l1 (wrap64 (x5_2 + 1)) a0_0 a0_1 a0_2 l0_3) else (some false))) else (some false))) else (some false))) = some r := by rw [if_pos rfl] at H; exact H
        clear H
        have H := H1
        clear H1
        replace H := Option.bind_eq_some_iff.mp H
        obtain ⟨t215, A390, H⟩ := H
        replace H : (if t215 = true then ((bivouacref21_in.f ((rd_T27 l1 x5_2).f6) 32).bind fun t216 => (if t216 = true then ((bivouacref21_in.f ((rd_T27 l1 x5_2).f7) 32).bind fun t217 => (if t217 = true then (bivouacref21_May.l0 kj13 l1 (wrap64 (x5_2 + 1)) a0_0 a0_1 a0_2 l0_3) else (some false))) else (some false))) else (some false)) = some r := H
        have A39 := aMx28 A390
        clear A390
        by_cases c40 : t215 = true
        ·
         subst c40
         have H1 : ((bivouacref21_in.f ((rd_T27 l1 x5_2).f6) 32).bind fun t216 => (if t216 = true then ((bivouacref21_in.f ((rd_T27 l1 x5_2).f7) 32).bind fun t217 => (if t217 = true then (bivouacref21_May.l0 kj13 l1 (wrap64 (x5_2 + 1)) a0_0 a0_1 a0_2 l0_3) else (some false))) else (some false))) = some r := by rw [if_pos rfl] at H; exact H
         clear H
         have H := H1
         clear H1
         replace H := Option.bind_eq_some_iff.mp H
         obtain ⟨t216, A410, H⟩ := H
         replace H : (if t216 = true then ((bivouacref21_in.f ((rd_T27 l1 x5_2).f7) 32).bind fun t217 => (if t217 = true then (bivouacref21_May.l0 kj13 l1 (wrap64 (x5_2 + 1)) a0_0 a0_1 a0_2 l0_3) else (some false))) else (some false)) = some r := H
         have A41 := aMx28 A410
         clear A410
         by_cases c42 : t216 = true
         ·
          subst c42
          have H1 : ((bivouacref21_in.f ((rd_T27 l1 x5_2).f7) 32).bind fun t217 => (if t217 = true then (bivouacref21_May.l0 kj13 l1 (wrap64 (x5_2 + 1)) a0_0 a0_1 a0_2 l0_3) else (some false))) = some r := by rw [if_pos rfl] at H; exact H
          clear H
          have H := H1
          clear H1
          replace H := Option.bind_eq_some_iff.mp H
          obtain ⟨t217, A430, H⟩ := H
          replace H : (if t217 = true then (bivouacref21_May.l0 kj13 l1 (wrap64 (x5_2 + 1)) a0_0 a0_1 a0_2 l0_3) else (some false)) = some r := H
          have A43 := aMx28 A430
          clear A430
          by_cases c44 : t217 = true
          ·
           subst c44
           have H1 : (bivouacref21_May.l0 kj13 l1 (wrap64 (x5_2 + 1)) a0_0 a0_1 a0_2 l0_3) = some r := by rw [if_pos rfl] at H; exact H
           clear H
           have H := H1
           clear H1
           have H' := aMx28 H
           clear H
           have hnb45 := NB209_206.out
           have hnc45 := NB206_209.out
           have hcz46_0 : wc.cell? ⟨gb209, 0, none⟩ = some (.int .i64 ((rd_T27 l1 x5_2).f0)) := (bCx28 BK209.out 0).trans rfl
           have hcz46_1 : wc.cell? ⟨gb209, 1, none⟩ = some (.int .i64 ((rd_T27 l1 x5_2).f1)) := (bCx28 BK209.out 1).trans rfl
           have hcz46_2 : wc.cell? ⟨gb209, 2, none⟩ = some (.int .i64 ((rd_T27 l1 x5_2).f2)) := (bCx28 BK209.out 2).trans rfl
           have hcz46_3 : wc.cell? ⟨gb209, 3, none⟩ = some (.int .i64 ((rd_T27 l1 x5_2).f3)) := (bCx28 BK209.out 3).trans rfl
           have hcz46_4 : wc.cell? ⟨gb209, 4, none⟩ = some (.int .i64 ((rd_T27 l1 x5_2).f4)) := (bCx28 BK209.out 4).trans rfl
           have hcz46_5 : wc.cell? ⟨gb209, 5, none⟩ = some (.int .i64 ((rd_T27 l1 x5_2).f5)) := (bCx28 BK209.out 5).trans rfl
           have hcz46_6 : wc.cell? ⟨gb209, 6, none⟩ = some (.int .i64 ((rd_T27 l1 x5_2).f6)) := (bCx28 BK209.out 6).trans rfl
           have hcz46_7 : wc.cell? ⟨gb209, 7, none⟩ = some (.int .i64 ((rd_T27 l1 x5_2).f7)) := (bCx28 BK209.out 7).trans rfl
           have hfz46_0 := bFx28 BK209.out 0
           have hfz46_1 := bFx28 BK209.out 1
           have hfz46_2 := bFx28 BK209.out 2
           have hfz46_3 := bFx28 BK209.out 3
           have hfz46_4 := bFx28 BK209.out 4
           have hfz46_5 := bFx28 BK209.out 5
           have hfz46_6 := bFx28 BK209.out 6
           have hfz46_7 := bFx28 BK209.out 7
           go_wp2_with (first | (go_at_call 28; (with_reducible refine (bivouacref21_in.calls ((rd_T27 l1 x5_2).f4) 32 true _ A37.out).mono ?_); rintro e w' ⟨rfl, ⟨nd, rfl⟩⟩) | (go_at_call 28; (with_reducible refine (bivouacref21_in.calls ((rd_T27 l1 x5_2).f5) 32 true _ A39.out).mono ?_); rintro e w' ⟨rfl, ⟨nd, rfl⟩⟩) | (go_at_call 28; (with_reducible refine (bivouacref21_in.calls ((rd_T27 l1 x5_2).f6) 32 true _ A41.out).mono ?_); rintro e w' ⟨rfl, ⟨nd, rfl⟩⟩) | (go_at_call 28; (with_reducible refine (bivouacref21_in.calls ((rd_T27 l1 x5_2).f7) 32 true _ A43.out).mono ?_); rintro e w' ⟨rfl, ⟨nd, rfl⟩⟩))
           go_roundg kj13
           case measure => have := HJ2.out; have := HK2.out; have := HJ13.out; omega
           case rel => exact ⟨(wrap64 (x5_2 + 1)), (by first | rfl | (simp; done) | (simp [*]; done)), H', ⟨by have := HJ2.out; have := HK2.out; have := HJ13.out; omega⟩, ⟨by (with_reducible repeat (first | refine bNx28 ?_ _ | refine bDx28 ?_ | refine bKx28 ?_ _)); exact BK206.out⟩, ⟨by repeat (first | (with_reducible first | exact HB.out | apply zF | apply zB | apply zE | refine zC ?_ GE206.out | refine zC ?_ GE209.out) | exact HB.out)⟩⟩
          replace c44 := Bool.eq_false_iff.mpr c44
          subst c44
          have H1 : (some false) = some r := by rw [if_neg (show ¬ (false = true) by decide)] at H; exact H
          clear H
          have H := H1
          clear H1
          obtain rfl := Option.some.inj H
          have hnb47 := NB209_206.out
          have hnc47 := NB206_209.out
          have hcz48_0 : wc.cell? ⟨gb209, 0, none⟩ = some (.int .i64 ((rd_T27 l1 x5_2).f0)) := (bCx28 BK209.out 0).trans rfl
          have hcz48_1 : wc.cell? ⟨gb209, 1, none⟩ = some (.int .i64 ((rd_T27 l1 x5_2).f1)) := (bCx28 BK209.out 1).trans rfl
          have hcz48_2 : wc.cell? ⟨gb209, 2, none⟩ = some (.int .i64 ((rd_T27 l1 x5_2).f2)) := (bCx28 BK209.out 2).trans rfl
          have hcz48_3 : wc.cell? ⟨gb209, 3, none⟩ = some (.int .i64 ((rd_T27 l1 x5_2).f3)) := (bCx28 BK209.out 3).trans rfl
          have hcz48_4 : wc.cell? ⟨gb209, 4, none⟩ = some (.int .i64 ((rd_T27 l1 x5_2).f4)) := (bCx28 BK209.out 4).trans rfl
          have hcz48_5 : wc.cell? ⟨gb209, 5, none⟩ = some (.int .i64 ((rd_T27 l1 x5_2).f5)) := (bCx28 BK209.out 5).trans rfl
          have hcz48_6 : wc.cell? ⟨gb209, 6, none⟩ = some (.int .i64 ((rd_T27 l1 x5_2).f6)) := (bCx28 BK209.out 6).trans rfl
          have hcz48_7 : wc.cell? ⟨gb209, 7, none⟩ = some (.int .i64 ((rd_T27 l1 x5_2).f7)) := (bCx28 BK209.out 7).trans rfl
          have hfz48_0 := bFx28 BK209.out 0
          have hfz48_1 := bFx28 BK209.out 1
          have hfz48_2 := bFx28 BK209.out 2
          have hfz48_3 := bFx28 BK209.out 3
          have hfz48_4 := bFx28 BK209.out 4
          have hfz48_5 := bFx28 BK209.out 5
          have hfz48_6 := bFx28 BK209.out 6
          have hfz48_7 := bFx28 BK209.out 7
          go_wp2_with (first | (go_at_call 28; (with_reducible refine (bivouacref21_in.calls ((rd_T27 l1 x5_2).f4) 32 true _ A37.out).mono ?_); rintro e w' ⟨rfl, ⟨nd, rfl⟩⟩) | (go_at_call 28; (with_reducible refine (bivouacref21_in.calls ((rd_T27 l1 x5_2).f5) 32 true _ A39.out).mono ?_); rintro e w' ⟨rfl, ⟨nd, rfl⟩⟩) | (go_at_call 28; (with_reducible refine (bivouacref21_in.calls ((rd_T27 l1 x5_2).f6) 32 true _ A41.out).mono ?_); rintro e w' ⟨rfl, ⟨nd, rfl⟩⟩) | (go_at_call 28; (with_reducible refine (bivouacref21_in.calls ((rd_T27 l1 x5_2).f7) 32 false _ A43.out).mono ?_); rintro e w' ⟨rfl, ⟨nd, rfl⟩⟩))
          go_ret
          exact ⟨by first | rfl | (simp [zU, zT] <;> rfl) | (simp [*, zU, zT] <;> rfl) | (rw [zW (by assumption)]; rfl), by repeat (first | (with_reducible first | exact HB.out | apply zF | apply zB | apply zE | refine zC ?_ GE206.out | refine zC ?_ GE209.out) | exact HB.out)⟩
         replace c42 := Bool.eq_false_iff.mpr c42
         subst c42
         have H1 : (some false) = some r := by rw [if_neg (show ¬ (false = true) by decide)] at H; exact H
         clear H
         have H := H1
         clear H1
         obtain rfl := Option.some.inj H
         have hnb49 := NB209_206.out
         have hnc49 := NB206_209.out
         have hcz50_0 : wc.cell? ⟨gb209, 0, none⟩ = some (.int .i64 ((rd_T27 l1 x5_2).f0)) := (bCx28 BK209.out 0).trans rfl
         have hcz50_1 : wc.cell? ⟨gb209, 1, none⟩ = some (.int .i64 ((rd_T27 l1 x5_2).f1)) := (bCx28 BK209.out 1).trans rfl
         have hcz50_2 : wc.cell? ⟨gb209, 2, none⟩ = some (.int .i64 ((rd_T27 l1 x5_2).f2)) := (bCx28 BK209.out 2).trans rfl
         have hcz50_3 : wc.cell? ⟨gb209, 3, none⟩ = some (.int .i64 ((rd_T27 l1 x5_2).f3)) := (bCx28 BK209.out 3).trans rfl
         have hcz50_4 : wc.cell? ⟨gb209, 4, none⟩ = some (.int .i64 ((rd_T27 l1 x5_2).f4)) := (bCx28 BK209.out 4).trans rfl
         have hcz50_5 : wc.cell? ⟨gb209, 5, none⟩ = some (.int .i64 ((rd_T27 l1 x5_2).f5)) := (bCx28 BK209.out 5).trans rfl
         have hcz50_6 : wc.cell? ⟨gb209, 6, none⟩ = some (.int .i64 ((rd_T27 l1 x5_2).f6)) := (bCx28 BK209.out 6).trans rfl
         have hcz50_7 : wc.cell? ⟨gb209, 7, none⟩ = some (.int .i64 ((rd_T27 l1 x5_2).f7)) := (bCx28 BK209.out 7).trans rfl
         have hfz50_0 := bFx28 BK209.out 0
         have hfz50_1 := bFx28 BK209.out 1
         have hfz50_2 := bFx28 BK209.out 2
         have hfz50_3 := bFx28 BK209.out 3
         have hfz50_4 := bFx28 BK209.out 4
         have hfz50_5 := bFx28 BK209.out 5
         have hfz50_6 := bFx28 BK209.out 6
         have hfz50_7 := bFx28 BK209.out 7
         go_wp2_with (first | (go_at_call 28; (with_reducible refine (bivouacref21_in.calls ((rd_T27 l1 x5_2).f4) 32 true _ A37.out).mono ?_); rintro e w' ⟨rfl, ⟨nd, rfl⟩⟩) | (go_at_call 28; (with_reducible refine (bivouacref21_in.calls ((rd_T27 l1 x5_2).f5) 32 true _ A39.out).mono ?_); rintro e w' ⟨rfl, ⟨nd, rfl⟩⟩) | (go_at_call 28; (with_reducible refine (bivouacref21_in.calls ((rd_T27 l1 x5_2).f6) 32 false _ A41.out).mono ?_); rintro e w' ⟨rfl, ⟨nd, rfl⟩⟩))
         go_ret
         exact ⟨by first | rfl | (simp [zU, zT] <;> rfl) | (simp [*, zU, zT] <;> rfl) | (rw [zW (by assumption)]; rfl), by repeat (first | (with_reducible first | exact HB.out | apply zF | apply zB | apply zE | refine zC ?_ GE206.out | refine zC ?_ GE209.out) | exact HB.out)⟩
        replace c40 := Bool.eq_false_iff.mpr c40
        subst c40
        have H1 : (some false) = some r := by rw [if_neg (show ¬ (false = true) by decide)] at H; exact H
        clear H
        have H := H1
        clear H1
        obtain rfl := Option.some.inj H
        have hnb51 := NB209_206.out
        have hnc51 := NB206_209.out
        have hcz52_0 : wc.cell? ⟨gb209, 0, none⟩ = some (.int .i64 ((rd_T27 l1 x5_2).f0)) := (bCx28 BK209.out 0).trans rfl
        have hcz52_1 : wc.cell? ⟨gb209, 1, none⟩ = some (.int .i64 ((rd_T27 l1 x5_2).f1)) := (bCx28 BK209.out 1).trans rfl
        have hcz52_2 : wc.cell? ⟨gb209, 2, none⟩ = some (.int .i64 ((rd_T27 l1 x5_2).f2)) := (bCx28 BK209.out 2).trans rfl
        have hcz52_3 : wc.cell? ⟨gb209, 3, none⟩ = some (.int .i64 ((rd_T27 l1 x5_2).f3)) := (bCx28 BK209.out 3).trans rfl
        have hcz52_4 : wc.cell? ⟨gb209, 4, none⟩ = some (.int .i64 ((rd_T27 l1 x5_2).f4)) := (bCx28 BK209.out 4).trans rfl
        have hcz52_5 : wc.cell? ⟨gb209, 5, none⟩ = some (.int .i64 ((rd_T27 l1 x5_2).f5)) := (bCx28 BK209.out 5).trans rfl
        have hcz52_6 : wc.cell? ⟨gb209, 6, none⟩ = some (.int .i64 ((rd_T27 l1 x5_2).f6)) := (bCx28 BK209.out 6).trans rfl
        have hcz52_7 : wc.cell? ⟨gb209, 7, none⟩ = some (.int .i64 ((rd_T27 l1 x5_2).f7)) := (bCx28 BK209.out 7).trans rfl
        have hfz52_0 := bFx28 BK209.out 0
        have hfz52_1 := bFx28 BK209.out 1
        have hfz52_2 := bFx28 BK209.out 2
        have hfz52_3 := bFx28 BK209.out 3
        have hfz52_4 := bFx28 BK209.out 4
        have hfz52_5 := bFx28 BK209.out 5
        have hfz52_6 := bFx28 BK209.out 6
        have hfz52_7 := bFx28 BK209.out 7
        go_wp2_with (first | (go_at_call 28; (with_reducible refine (bivouacref21_in.calls ((rd_T27 l1 x5_2).f4) 32 true _ A37.out).mono ?_); rintro e w' ⟨rfl, ⟨nd, rfl⟩⟩) | (go_at_call 28; (with_reducible refine (bivouacref21_in.calls ((rd_T27 l1 x5_2).f5) 32 false _ A39.out).mono ?_); rintro e w' ⟨rfl, ⟨nd, rfl⟩⟩))
        go_ret
        exact ⟨by first | rfl | (simp [zU, zT] <;> rfl) | (simp [*, zU, zT] <;> rfl) | (rw [zW (by assumption)]; rfl), by repeat (first | (with_reducible first | exact HB.out | apply zF | apply zB | apply zE | refine zC ?_ GE206.out | refine zC ?_ GE209.out) | exact HB.out)⟩
       replace c38 := Bool.eq_false_iff.mpr c38
       subst c38
       have H1 : (some false) = some r := by rw [if_neg (show ¬ (false = true) by decide)] at H; exact H
       clear H
       have H := H1
       clear H1
       obtain rfl := Option.some.inj H
       have hnb53 := NB209_206.out
       have hnc53 := NB206_209.out
       have hcz54_0 : wc.cell? ⟨gb209, 0, none⟩ = some (.int .i64 ((rd_T27 l1 x5_2).f0)) := (bCx28 BK209.out 0).trans rfl
       have hcz54_1 : wc.cell? ⟨gb209, 1, none⟩ = some (.int .i64 ((rd_T27 l1 x5_2).f1)) := (bCx28 BK209.out 1).trans rfl
       have hcz54_2 : wc.cell? ⟨gb209, 2, none⟩ = some (.int .i64 ((rd_T27 l1 x5_2).f2)) := (bCx28 BK209.out 2).trans rfl
       have hcz54_3 : wc.cell? ⟨gb209, 3, none⟩ = some (.int .i64 ((rd_T27 l1 x5_2).f3)) := (bCx28 BK209.out 3).trans rfl
       have hcz54_4 : wc.cell? ⟨gb209, 4, none⟩ = some (.int .i64 ((rd_T27 l1 x5_2).f4)) := (bCx28 BK209.out 4).trans rfl
       have hcz54_5 : wc.cell? ⟨gb209, 5, none⟩ = some (.int .i64 ((rd_T27 l1 x5_2).f5)) := (bCx28 BK209.out 5).trans rfl
       have hcz54_6 : wc.cell? ⟨gb209, 6, none⟩ = some (.int .i64 ((rd_T27 l1 x5_2).f6)) := (bCx28 BK209.out 6).trans rfl
       have hcz54_7 : wc.cell? ⟨gb209, 7, none⟩ = some (.int .i64 ((rd_T27 l1 x5_2).f7)) := (bCx28 BK209.out 7).trans rfl
       have hfz54_0 := bFx28 BK209.out 0
       have hfz54_1 := bFx28 BK209.out 1
       have hfz54_2 := bFx28 BK209.out 2
       have hfz54_3 := bFx28 BK209.out 3
       have hfz54_4 := bFx28 BK209.out 4
       have hfz54_5 := bFx28 BK209.out 5
       have hfz54_6 := bFx28 BK209.out 6
       have hfz54_7 := bFx28 BK209.out 7
       go_wp2_with (first | (go_at_call 28; (with_reducible refine (bivouacref21_in.calls ((rd_T27 l1 x5_2).f4) 32 false _ A37.out).mono ?_); rintro e w' ⟨rfl, ⟨nd, rfl⟩⟩))
       go_ret
       exact ⟨by first | rfl | (simp [zU, zT] <;> rfl) | (simp [*, zU, zT] <;> rfl) | (rw [zW (by assumption)]; rfl), by repeat (first | (with_reducible first | exact HB.out | apply zF | apply zB | apply zE | refine zC ?_ GE206.out | refine zC ?_ GE209.out) | exact HB.out)⟩
      replace c36 := Bool.eq_false_iff.mpr c36
      subst c36
      have H1 : (some false) = some r := by rw [if_neg (show ¬ (false = true) by decide)] at H; exact H
      clear H
      have H := H1
      clear H1
      obtain rfl := Option.some.inj H
      go_wp2
      go_ret
      exact ⟨by first | rfl | (simp [zU, zT] <;> rfl) | (simp [*, zU, zT] <;> rfl) | (rw [zW (by assumption)]; rfl), by repeat (first | (with_reducible first | exact HB.out | apply zF | apply zB | apply zE | refine zC ?_ GE206.out | refine zC ?_ GE209.out) | exact HB.out)⟩
    rw [if_neg c13] at H
    exact absurd H (by simp)
   rw [if_neg c12] at H
   have c12b0 : decide (x5_2 < (l1.length : Int)) = false := decide_eq_false c12
   clear c12
   obtain rfl := Option.some.inj H
   go_wp2
   go_ret
   exact ⟨by first | rfl | (simp [zU, zT] <;> rfl) | (simp [*, zU, zT] <;> rfl) | (rw [zW (by assumption)]; rfl), by repeat (first | (with_reducible first | exact HB.out | apply zF | apply zB | apply zE | refine zC ?_ GE206.out) | exact HB.out)⟩

end Go.Proofs.Yteihieihoeijdaa.PA
