-- WRITTEN BY A PROGRAM OF THIS SESSION (a turned copy of the kit's printer), for this claim. Nothing here is trusted: Lean checks it.
import Derived.Test.YteihieihoeijdaaPAx0
import Derived.Test.YteihieihoeijdaaPAx22
import Derived.Test.YteihieihoeijdaaPAx25
import Derived.Test.YteihieihoeijdaaPAx28
import Derived.Test.YteihieihoeijdaaPAx30
import Derived.Test.YteihieihoeijdaaPAx37
import Derived.Test.YteihieihoeijdaaGAbivouaclaw21few
import Derived.Test.YteihieihoeijdaaGAsightView
namespace Go.Proofs.Yteihieihoeijdaa.PA
open Go.RowKit Go.Proofs.YteihieihoeijdaaW.PrintWords Go.Proofs.YteihieihoeijdaaW.PrintLast Go.Proofs.YteihieihoeijdaaW.PrintMore
attribute [local go_sem] max2_int min2_int max_two min_two max_three min_three max_four min_four   -- for this text's walks alone
set_option linter.unusedVariables false
set_option linter.unusedSimpArgs false
theorem aMx38 {p : Prop} (h : p) : Aside0 p := zA h
theorem bNx38 {w : World} {g : Nat} {o : Obj} (h : w.heap[g]? = some o) (n : Nat) : (w.drewN n).heap[g]? = some o := h
theorem bDx38 {w : World} {g : Nat} {o : Obj} (h : w.heap[g]? = some o) : w.drew.heap[g]? = some o := h
theorem bKx38 {w : World} {g : Nat} {o : Obj} (h : w.heap[g]? = some o) (o' : Obj) : (w.alloc o').heap[g]? = some o := zM h o'
theorem bCx38 {w : World} {g : Nat} {t : TypeId} {cs : Array Value} (h : w.heap[g]? = some (.cells cs t (0, 0))) (i : Nat) : w.cell? ⟨g, i, none⟩ = cs[i]? := zD h i
theorem bFx38 {w : World} {g : Nat} {t : TypeId} {cs : Array Value} (h : w.heap[g]? = some (.cells cs t (0, 0))) (i : Nat) : w.frozen? ⟨g, i, none⟩ = false := zG h i
theorem blk_put15_x38 {w : World} {g t : Nat} {c0 c1 c2 c3 c4 c5 c6 c7 c8 c9 c10 c11 c12 c13 c14 v0 v1 v2 v3 v4 v5 v6 v7 v8 v9 v10 v11 v12 v13 v14 : Value} (h : w.heap[g]? = some (.cells #[c0, c1, c2, c3, c4, c5, c6, c7, c8, c9, c10, c11, c12, c13, c14] t (0, 0))) : (((((((((((((((w.setCell ⟨g, 0, none⟩ v0).setCell ⟨g, 1, none⟩ v1).setCell ⟨g, 2, none⟩ v2).setCell ⟨g, 3, none⟩ v3).setCell ⟨g, 4, none⟩ v4).setCell ⟨g, 5, none⟩ v5).setCell ⟨g, 6, none⟩ v6).setCell ⟨g, 7, none⟩ v7).setCell ⟨g, 8, none⟩ v8).setCell ⟨g, 9, none⟩ v9).setCell ⟨g, 10, none⟩ v10).setCell ⟨g, 11, none⟩ v11).setCell ⟨g, 12, none⟩ v12).setCell ⟨g, 13, none⟩ v13).setCell ⟨g, 14, none⟩ v14).heap[g]? = some (.cells #[v0, v1, v2, v3, v4, v5, v6, v7, v8, v9, v10, v11, v12, v13, v14] t (0, 0)) := by
 have h0 : (w.setCell ⟨g, 0, none⟩ v0).heap[g]? = some (.cells #[v0, c1, c2, c3, c4, c5, c6, c7, c8, c9, c10, c11, c12, c13, c14] t (0, 0)) := zZ h 0 _ rfl
 have h1 : ((w.setCell ⟨g, 0, none⟩ v0).setCell ⟨g, 1, none⟩ v1).heap[g]? = some (.cells #[v0, v1, c2, c3, c4, c5, c6, c7, c8, c9, c10, c11, c12, c13, c14] t (0, 0)) := zZ h0 1 _ rfl
 have h2 : (((w.setCell ⟨g, 0, none⟩ v0).setCell ⟨g, 1, none⟩ v1).setCell ⟨g, 2, none⟩ v2).heap[g]? = some (.cells #[v0, v1, v2, c3, c4, c5, c6, c7, c8, c9, c10, c11, c12, c13, c14] t (0, 0)) := zZ h1 2 _ rfl
 have h3 : ((((w.setCell ⟨g, 0, none⟩ v0).setCell ⟨g, 1, none⟩ v1).setCell ⟨g, 2, none⟩ v2).setCell ⟨g, 3, none⟩ v3).heap[g]? = some (.cells #[v0, v1, v2, v3, c4, c5, c6, c7, c8, c9, c10, c11, c12, c13, c14] t (0, 0)) := zZ h2 3 _ rfl
 have h4 : (((((w.setCell ⟨g, 0, none⟩ v0).setCell ⟨g, 1, none⟩ v1).setCell ⟨g, 2, none⟩ v2).setCell ⟨g, 3, none⟩ v3).setCell ⟨g, 4, none⟩ v4).heap[g]? = some (.cells #[v0, v1, v2, v3, v4, c5, c6, c7, c8, c9, c10, c11, c12, c13, c14] t (0, 0)) := zZ h3 4 _ rfl
 have h5 : ((((((w.setCell ⟨g, 0, none⟩ v0).setCell ⟨g, 1, none⟩ v1).setCell ⟨g, 2, none⟩ v2).setCell ⟨g, 3, none⟩ v3).setCell ⟨g, 4, none⟩ v4).setCell ⟨g, 5, none⟩ v5).heap[g]? = some (.cells #[v0, v1, v2, v3, v4, v5, c6, c7, c8, c9, c10, c11, c12, c13, c14] t (0, 0)) := zZ h4 5 _ rfl
 have h6 : (((((((w.setCell ⟨g, 0, none⟩ v0).setCell ⟨g, 1, none⟩ v1).setCell ⟨g, 2, none⟩ v2).setCell ⟨g, 3, none⟩ v3).setCell ⟨g, 4, none⟩ v4).setCell ⟨g, 5, none⟩ v5).setCell ⟨g, 6, none⟩ v6).heap[g]? = some (.cells #[v0, v1, v2, v3, v4, v5, v6, c7, c8, c9, c10, c11, c12, c13, c14] t (0, 0)) := zZ h5 6 _ rfl
 have h7 : ((((((((w.setCell ⟨g, 0, none⟩ v0).setCell ⟨g, 1, none⟩ v1).setCell ⟨g, 2, none⟩ v2).setCell ⟨g, 3, none⟩ v3).setCell ⟨g, 4, none⟩ v4).setCell ⟨g, 5, none⟩ v5).setCell ⟨g, 6, none⟩ v6).setCell ⟨g, 7, none⟩ v7).heap[g]? = some (.cells #[v0, v1, v2, v3, v4, v5, v6, v7, c8, c9, c10, c11, c12, c13, c14] t (0, 0)) := zZ h6 7 _ rfl
 have h8 : (((((((((w.setCell ⟨g, 0, none⟩ v0).setCell ⟨g, 1, none⟩ v1).setCell ⟨g, 2, none⟩ v2).setCell ⟨g, 3, none⟩ v3).setCell ⟨g, 4, none⟩ v4).setCell ⟨g, 5, none⟩ v5).setCell ⟨g, 6, none⟩ v6).setCell ⟨g, 7, none⟩ v7).setCell ⟨g, 8, none⟩ v8).heap[g]? = some (.cells #[v0, v1, v2, v3, v4, v5, v6, v7, v8, c9, c10, c11, c12, c13, c14] t (0, 0)) := zZ h7 8 _ rfl
 have h9 : ((((((((((w.setCell ⟨g, 0, none⟩ v0).setCell ⟨g, 1, none⟩ v1).setCell ⟨g, 2, none⟩ v2).setCell ⟨g, 3, none⟩ v3).setCell ⟨g, 4, none⟩ v4).setCell ⟨g, 5, none⟩ v5).setCell ⟨g, 6, none⟩ v6).setCell ⟨g, 7, none⟩ v7).setCell ⟨g, 8, none⟩ v8).setCell ⟨g, 9, none⟩ v9).heap[g]? = some (.cells #[v0, v1, v2, v3, v4, v5, v6, v7, v8, v9, c10, c11, c12, c13, c14] t (0, 0)) := zZ h8 9 _ rfl
 have h10 : (((((((((((w.setCell ⟨g, 0, none⟩ v0).setCell ⟨g, 1, none⟩ v1).setCell ⟨g, 2, none⟩ v2).setCell ⟨g, 3, none⟩ v3).setCell ⟨g, 4, none⟩ v4).setCell ⟨g, 5, none⟩ v5).setCell ⟨g, 6, none⟩ v6).setCell ⟨g, 7, none⟩ v7).setCell ⟨g, 8, none⟩ v8).setCell ⟨g, 9, none⟩ v9).setCell ⟨g, 10, none⟩ v10).heap[g]? = some (.cells #[v0, v1, v2, v3, v4, v5, v6, v7, v8, v9, v10, c11, c12, c13, c14] t (0, 0)) := zZ h9 10 _ rfl
 have h11 : ((((((((((((w.setCell ⟨g, 0, none⟩ v0).setCell ⟨g, 1, none⟩ v1).setCell ⟨g, 2, none⟩ v2).setCell ⟨g, 3, none⟩ v3).setCell ⟨g, 4, none⟩ v4).setCell ⟨g, 5, none⟩ v5).setCell ⟨g, 6, none⟩ v6).setCell ⟨g, 7, none⟩ v7).setCell ⟨g, 8, none⟩ v8).setCell ⟨g, 9, none⟩ v9).setCell ⟨g, 10, none⟩ v10).setCell ⟨g, 11, none⟩ v11).heap[g]? = some (.cells #[v0, v1, v2, v3, v4, v5, v6, v7, v8, v9, v10, v11, c12, c13, c14] t (0, 0)) := zZ h10 11 _ rfl
 have h12 : (((((((((((((w.setCell ⟨g, 0, none⟩ v0).setCell ⟨g, 1, none⟩ v1).setCell ⟨g, 2, none⟩ v2).setCell ⟨g, 3, none⟩ v3).setCell ⟨g, 4, none⟩ v4).setCell ⟨g, 5, none⟩ v5).setCell ⟨g, 6, none⟩ v6).setCell ⟨g, 7, none⟩ v7).setCell ⟨g, 8, none⟩ v8).setCell ⟨g, 9, none⟩ v9).setCell ⟨g, 10, none⟩ v10).setCell ⟨g, 11, none⟩ v11).setCell ⟨g, 12, none⟩ v12).heap[g]? = some (.cells #[v0, v1, v2, v3, v4, v5, v6, v7, v8, v9, v10, v11, v12, c13, c14] t (0, 0)) := zZ h11 12 _ rfl
 have h13 : ((((((((((((((w.setCell ⟨g, 0, none⟩ v0).setCell ⟨g, 1, none⟩ v1).setCell ⟨g, 2, none⟩ v2).setCell ⟨g, 3, none⟩ v3).setCell ⟨g, 4, none⟩ v4).setCell ⟨g, 5, none⟩ v5).setCell ⟨g, 6, none⟩ v6).setCell ⟨g, 7, none⟩ v7).setCell ⟨g, 8, none⟩ v8).setCell ⟨g, 9, none⟩ v9).setCell ⟨g, 10, none⟩ v10).setCell ⟨g, 11, none⟩ v11).setCell ⟨g, 12, none⟩ v12).setCell ⟨g, 13, none⟩ v13).heap[g]? = some (.cells #[v0, v1, v2, v3, v4, v5, v6, v7, v8, v9, v10, v11, v12, v13, c14] t (0, 0)) := zZ h12 13 _ rfl
 have h14 : (((((((((((((((w.setCell ⟨g, 0, none⟩ v0).setCell ⟨g, 1, none⟩ v1).setCell ⟨g, 2, none⟩ v2).setCell ⟨g, 3, none⟩ v3).setCell ⟨g, 4, none⟩ v4).setCell ⟨g, 5, none⟩ v5).setCell ⟨g, 6, none⟩ v6).setCell ⟨g, 7, none⟩ v7).setCell ⟨g, 8, none⟩ v8).setCell ⟨g, 9, none⟩ v9).setCell ⟨g, 10, none⟩ v10).setCell ⟨g, 11, none⟩ v11).setCell ⟨g, 12, none⟩ v12).setCell ⟨g, 13, none⟩ v13).setCell ⟨g, 14, none⟩ v14).heap[g]? = some (.cells #[v0, v1, v2, v3, v4, v5, v6, v7, v8, v9, v10, v11, v12, v13, v14] t (0, 0)) := zZ h13 14 _ rfl
 exact h14

/-! ### bivouaclaw21_SightViews: function 3 -/
mutual
def bivouaclaw21_SightViews.j0 : Nat → List Int → Int → Int → Int → Bool → Int → Int → Int → List Int → List (S27) → Int → Int → Int → Int → Int → Int → Int → Int → Int → Int → Option (Bool)
 | 0, _, _, _, _, _, _, _, _, _, _, _, _, _, _, _, _, _, _, _, _ => none
 | k + 1, x3, x4, x5, x6, x56, x292000, x292001, x292002, x292003, x292004, x292005, x292006, x292007, x292008, x292009, x292010, x292011, x292012, x292013, x292014 => if x56 = true then (if (x3.length : Int) = 0 then (if x5 = 0 then (if x4 = 1 then (if x6 = 1 then ((bivouaclaw21_awake.f k).bind fun t319 => (some t319)) else (none)) else (none)) else (none)) else (none)) else (if (x3.length : Int) = (wrap64 (x292000 * x292001)) then (bivouaclaw21_SightViews.j1 k x3 x5 x6 (x4 != 0) x292000 x292001 x292002 x292003 x292004 x292005 x292006 x292007 x292008 x292009 x292010 x292011 x292012 x292013 x292014) else (bivouaclaw21_SightViews.j1 k x3 x5 x6 true x292000 x292001 x292002 x292003 x292004 x292005 x292006 x292007 x292008 x292009 x292010 x292011 x292012 x292013 x292014))
def bivouaclaw21_SightViews.j1 : Nat → List Int → Int → Int → Bool → Int → Int → Int → List Int → List (S27) → Int → Int → Int → Int → Int → Int → Int → Int → Int → Int → Option (Bool)
 | 0, _, _, _, _, _, _, _, _, _, _, _, _, _, _, _, _, _, _, _ => none
 | k + 1, x3, x5, x6, x88, x292000, x292001, x292002, x292003, x292004, x292005, x292006, x292007, x292008, x292009, x292010, x292011, x292012, x292013, x292014 => if x88 = true then (none) else (bivouaclaw21_SightViews.l0 k x3 x5 x6 0 x292000 x292001 x292002 x292003 x292004 x292005 x292006 x292007 x292008 x292009 x292010 x292011 x292012 x292013 x292014)
def bivouaclaw21_SightViews.l0 : Nat → List Int → Int → Int → Int → Int → Int → Int → List Int → List (S27) → Int → Int → Int → Int → Int → Int → Int → Int → Int → Int → Option (Bool)
 | 0, _, _, _, _, _, _, _, _, _, _, _, _, _, _, _, _, _, _, _ => none
 | k + 1, x3, x5, x6, x8, x292000, x292001, x292002, x292003, x292004, x292005, x292006, x292007, x292008, x292009, x292010, x292011, x292012, x292013, x292014 => if x8 < (x3.length : Int) then (if 0 ≤ x8 then (if x292000 = 0 then (none) else ((bivouacref21_Known.f k x292000 x292001 x292002 x292003 x292004 x292005 (Int.tmod x8 x292000) (wrap64 (Int.tdiv x8 x292000))).bind fun t321 => (if (rd x3 x8) = t321 then (bivouaclaw21_SightViews.l0 k x3 x5 x6 (wrap64 (x8 + 1)) x292000 x292001 x292002 x292003 x292004 x292005 x292006 x292007 x292008 x292009 x292010 x292011 x292012 x292013 x292014) else (none)))) else (none)) else (if x292006 < 0 then (bivouaclaw21_SightViews.j3 k x3 x5 x6 true x292000 x292001 x292002 x292003 x292004 x292005 x292006 x292007 x292008 x292009 x292010 x292011 x292012 x292013 x292014) else (bivouaclaw21_SightViews.j3 k x3 x5 x6 (decide (x292006 ≥ (x3.length : Int))) x292000 x292001 x292002 x292003 x292004 x292005 x292006 x292007 x292008 x292009 x292010 x292011 x292012 x292013 x292014))
def bivouaclaw21_SightViews.j3 : Nat → List Int → Int → Int → Bool → Int → Int → Int → List Int → List (S27) → Int → Int → Int → Int → Int → Int → Int → Int → Int → Int → Option (Bool)
 | 0, _, _, _, _, _, _, _, _, _, _, _, _, _, _, _, _, _, _, _ => none
 | k + 1, x3, x5, x6, x126, x292000, x292001, x292002, x292003, x292004, x292005, x292006, x292007, x292008, x292009, x292010, x292011, x292012, x292013, x292014 => if x126 = true then (if x5 = 0 then (if x6 = 4 then ((bivouaclaw21_awake.f k).bind fun t322 => (some t322)) else (none)) else (none)) else (if 0 ≤ x292006 then (if x292006 < (x3.length : Int) then (if x5 = (rd x3 x292006) then (if x6 = 0 then ((bivouaclaw21_awake.f k).bind fun t324 => (some t324)) else (none)) else (none)) else (none)) else (none))
end
def bivouaclaw21_SightViews.f (k : Nat) (a0_0 : Int) (a0_1 : Int) (a0_2 : Int) (l0_3 : List Int) (l0_4 : List (S27)) (a0_5 : Int) (a0_6 : Int) (a0_7 : Int) (a0_8 : Int) (a0_9 : Int) (a0_10 : Int) (a0_11 : Int) (a0_12 : Int) (a0_13 : Int) (a0_14 : Int) : Option (Bool) := (bivouaclaw21_few.f a0_0 a0_1 a0_2 l0_3 l0_4 a0_5 a0_6 a0_7 a0_8 a0_9 a0_10 a0_11 a0_12 a0_13 a0_14).bind fun bt292 => ((sight_View.f k bt292.1 bt292.2.1 bt292.2.2.1 bt292.2.2.2.1 bt292.2.2.2.2.1 bt292.2.2.2.2.2.1).bind fun bt311 => ((sight_Known.f k bt292.1 bt292.2.1 bt292.2.2.1 bt292.2.2.2.1 bt292.2.2.2.2.1 bt292.2.2.2.2.2.1 bt292.2.2.2.2.2.2.1).bind fun bt315 => ((bivouacref21_May.f k bt292.1 bt292.2.1 bt292.2.2.1 bt292.2.2.2.1 bt292.2.2.2.2.1).bind fun t317 => ((sight_May.f k bt292.1 bt292.2.1 bt292.2.2.1 bt292.2.2.2.1 bt292.2.2.2.2.1).bind fun t318 => (if (t318 != t317) = true then (none) else (if t317 = true then (if bt292.2.2.2.2.2.1 < 0 then (bivouaclaw21_SightViews.j0 k bt311.1 bt311.2 bt315.1 bt315.2 true bt292.1 bt292.2.1 bt292.2.2.1 bt292.2.2.2.1 bt292.2.2.2.2.1 bt292.2.2.2.2.2.1 bt292.2.2.2.2.2.2.1 bt292.2.2.2.2.2.2.2.1 bt292.2.2.2.2.2.2.2.2.1 bt292.2.2.2.2.2.2.2.2.2.1 bt292.2.2.2.2.2.2.2.2.2.2.1 bt292.2.2.2.2.2.2.2.2.2.2.2.1 bt292.2.2.2.2.2.2.2.2.2.2.2.2.1 bt292.2.2.2.2.2.2.2.2.2.2.2.2.2.1 bt292.2.2.2.2.2.2.2.2.2.2.2.2.2.2) else (bivouaclaw21_SightViews.j0 k bt311.1 bt311.2 bt315.1 bt315.2 (decide (bt292.2.2.2.2.2.1 > 7)) bt292.1 bt292.2.1 bt292.2.2.1 bt292.2.2.2.1 bt292.2.2.2.2.1 bt292.2.2.2.2.2.1 bt292.2.2.2.2.2.2.1 bt292.2.2.2.2.2.2.2.1 bt292.2.2.2.2.2.2.2.2.1 bt292.2.2.2.2.2.2.2.2.2.1 bt292.2.2.2.2.2.2.2.2.2.2.1 bt292.2.2.2.2.2.2.2.2.2.2.2.1 bt292.2.2.2.2.2.2.2.2.2.2.2.2.1 bt292.2.2.2.2.2.2.2.2.2.2.2.2.2.1 bt292.2.2.2.2.2.2.2.2.2.2.2.2.2.2)) else (bivouaclaw21_SightViews.j0 k bt311.1 bt311.2 bt315.1 bt315.2 true bt292.1 bt292.2.1 bt292.2.2.1 bt292.2.2.2.1 bt292.2.2.2.2.1 bt292.2.2.2.2.2.1 bt292.2.2.2.2.2.2.1 bt292.2.2.2.2.2.2.2.1 bt292.2.2.2.2.2.2.2.2.1 bt292.2.2.2.2.2.2.2.2.2.1 bt292.2.2.2.2.2.2.2.2.2.2.1 bt292.2.2.2.2.2.2.2.2.2.2.2.1 bt292.2.2.2.2.2.2.2.2.2.2.2.2.1 bt292.2.2.2.2.2.2.2.2.2.2.2.2.2.1 bt292.2.2.2.2.2.2.2.2.2.2.2.2.2.2)))))))
theorem bivouaclaw21_SightViews.mono_l : ∀ k, (∀ y0 y1 y2 y3 y4 y5 y6 y7 y8 y9 y10 y11 y12 y13 y14 y15 y16 y17 y18 y19, LeO (bivouaclaw21_SightViews.j0 k y0 y1 y2 y3 y4 y5 y6 y7 y8 y9 y10 y11 y12 y13 y14 y15 y16 y17 y18 y19) (bivouaclaw21_SightViews.j0 (k + 1) y0 y1 y2 y3 y4 y5 y6 y7 y8 y9 y10 y11 y12 y13 y14 y15 y16 y17 y18 y19)) ∧ (∀ y0 y1 y2 y3 y4 y5 y6 y7 y8 y9 y10 y11 y12 y13 y14 y15 y16 y17 y18, LeO (bivouaclaw21_SightViews.j1 k y0 y1 y2 y3 y4 y5 y6 y7 y8 y9 y10 y11 y12 y13 y14 y15 y16 y17 y18) (bivouaclaw21_SightViews.j1 (k + 1) y0 y1 y2 y3 y4 y5 y6 y7 y8 y9 y10 y11 y12 y13 y14 y15 y16 y17 y18)) ∧ (∀ y0 y1 y2 y3 y4 y5 y6 y7 y8 y9 y10 y11 y12 y13 y14 y15 y16 y17 y18, LeO (bivouaclaw21_SightViews.l0 k y0 y1 y2 y3 y4 y5 y6 y7 y8 y9 y10 y11 y12 y13 y14 y15 y16 y17 y18) (bivouaclaw21_SightViews.l0 (k + 1) y0 y1 y2 y3 y4 y5 y6 y7 y8 y9 y10 y11 y12 y13 y14 y15 y16 y17 y18)) ∧ (∀ y0 y1 y2 y3 y4 y5 y6 y7 y8 y9 y10 y11 y12 y13 y14 y15 y16 y17 y18, LeO (bivouaclaw21_SightViews.j3 k y0 y1 y2 y3 y4 y5 y6 y7 y8 y9 y10 y11 y12 y13 y14 y15 y16 y17 y18) (bivouaclaw21_SightViews.j3 (k + 1) y0 y1 y2 y3 y4 y5 y6 y7 y8 y9 y10 y11 y12 y13 y14 y15 y16 y17 y18))
 | 0 => ⟨fun _ _ _ _ _ _ _ _ _ _ _ _ _ _ _ _ _ _ _ _ r h => by simp [bivouaclaw21_SightViews.j0] at h, fun _ _ _ _ _ _ _ _ _ _ _ _ _ _ _ _ _ _ _ r h => by simp [bivouaclaw21_SightViews.j1] at h, fun _ _ _ _ _ _ _ _ _ _ _ _ _ _ _ _ _ _ _ r h => by simp [bivouaclaw21_SightViews.l0] at h, fun _ _ _ _ _ _ _ _ _ _ _ _ _ _ _ _ _ _ _ r h => by simp [bivouaclaw21_SightViews.j3] at h⟩
 | k + 1 => by
  obtain ⟨ih0, ih1, ih2, ih3⟩ := bivouaclaw21_SightViews.mono_l k
  refine ⟨?_, ?_, ?_, ?_⟩
  ·
   intro y0 y1 y2 y3 y4 y5 y6 y7 y8 y9 y10 y11 y12 y13 y14 y15 y16 y17 y18 y19
   unfold bivouaclaw21_SightViews.j0
   repeat' first
   | (with_reducible exact ih0 _ _ _ _ _ _ _ _ _ _ _ _ _ _ _ _ _ _ _ _)
   | (with_reducible exact ih1 _ _ _ _ _ _ _ _ _ _ _ _ _ _ _ _ _ _ _)
   | (with_reducible exact ih2 _ _ _ _ _ _ _ _ _ _ _ _ _ _ _ _ _ _ _)
   | (with_reducible exact ih3 _ _ _ _ _ _ _ _ _ _ _ _ _ _ _ _ _ _ _)
   | (with_reducible exact bivouaclaw21_awake.mono _)
   | (with_reducible exact bivouacref21_Known.mono _ _ _ _ _ _ _ _ _)
   | (with_reducible exact bivouacref21_May.mono _ _ _ _ _ _)
   | (with_reducible exact sight_Known.mono _ _ _ _ _ _ _ _)
   | (with_reducible exact sight_May.mono _ _ _ _ _ _)
   | (with_reducible exact sight_View.mono _ _ _ _ _ _ _)
   | (with_reducible exact LeO.refl _)
   | (with_reducible exact LeO.none _)
   | (with_reducible refine LeO.ite ?_ ?_)
   | (with_reducible refine LeO.bind ?_ (fun _ => ?_))
   | exact ih0 _ _ _ _ _ _ _ _ _ _ _ _ _ _ _ _ _ _ _ _
   | exact ih1 _ _ _ _ _ _ _ _ _ _ _ _ _ _ _ _ _ _ _
   | exact ih2 _ _ _ _ _ _ _ _ _ _ _ _ _ _ _ _ _ _ _
   | exact ih3 _ _ _ _ _ _ _ _ _ _ _ _ _ _ _ _ _ _ _
   | exact bivouaclaw21_awake.mono _
   | exact bivouacref21_Known.mono _ _ _ _ _ _ _ _ _
   | exact bivouacref21_May.mono _ _ _ _ _ _
   | exact sight_Known.mono _ _ _ _ _ _ _ _
   | exact sight_May.mono _ _ _ _ _ _
   | exact sight_View.mono _ _ _ _ _ _ _
   | exact LeO.none _
   | refine LeO.ite ?_ ?_
   | refine LeO.bind ?_ (fun _ => ?_)
  ·
   intro y0 y1 y2 y3 y4 y5 y6 y7 y8 y9 y10 y11 y12 y13 y14 y15 y16 y17 y18
   unfold bivouaclaw21_SightViews.j1
   repeat' first
   | (with_reducible exact ih0 _ _ _ _ _ _ _ _ _ _ _ _ _ _ _ _ _ _ _ _)
   | (with_reducible exact ih1 _ _ _ _ _ _ _ _ _ _ _ _ _ _ _ _ _ _ _)
   | (with_reducible exact ih2 _ _ _ _ _ _ _ _ _ _ _ _ _ _ _ _ _ _ _)
   | (with_reducible exact ih3 _ _ _ _ _ _ _ _ _ _ _ _ _ _ _ _ _ _ _)
   | (with_reducible exact bivouaclaw21_awake.mono _)
   | (with_reducible exact bivouacref21_Known.mono _ _ _ _ _ _ _ _ _)
   | (with_reducible exact bivouacref21_May.mono _ _ _ _ _ _)
   | (with_reducible exact sight_Known.mono _ _ _ _ _ _ _ _)
   | (with_reducible exact sight_May.mono _ _ _ _ _ _)
   | (with_reducible exact sight_View.mono _ _ _ _ _ _ _)
   | (with_reducible exact LeO.refl _)
   | (with_reducible exact LeO.none _)
   | (with_reducible refine LeO.ite ?_ ?_)
   | (with_reducible refine LeO.bind ?_ (fun _ => ?_))
   | exact ih0 _ _ _ _ _ _ _ _ _ _ _ _ _ _ _ _ _ _ _ _
   | exact ih1 _ _ _ _ _ _ _ _ _ _ _ _ _ _ _ _ _ _ _
   | exact ih2 _ _ _ _ _ _ _ _ _ _ _ _ _ _ _ _ _ _ _
   | exact ih3 _ _ _ _ _ _ _ _ _ _ _ _ _ _ _ _ _ _ _
   | exact bivouaclaw21_awake.mono _
   | exact bivouacref21_Known.mono _ _ _ _ _ _ _ _ _
   | exact bivouacref21_May.mono _ _ _ _ _ _
   | exact sight_Known.mono _ _ _ _ _ _ _ _
   | exact sight_May.mono _ _ _ _ _ _
   | exact sight_View.mono _ _ _ _ _ _ _
   | exact LeO.none _
   | refine LeO.ite ?_ ?_
   | refine LeO.bind ?_ (fun _ => ?_)
  ·
   intro y0 y1 y2 y3 y4 y5 y6 y7 y8 y9 y10 y11 y12 y13 y14 y15 y16 y17 y18
   unfold bivouaclaw21_SightViews.l0
   repeat' first
   | (with_reducible exact ih0 _ _ _ _ _ _ _ _ _ _ _ _ _ _ _ _ _ _ _ _)
   | (with_reducible exact ih1 _ _ _ _ _ _ _ _ _ _ _ _ _ _ _ _ _ _ _)
   | (with_reducible exact ih2 _ _ _ _ _ _ _ _ _ _ _ _ _ _ _ _ _ _ _)
   | (with_reducible exact ih3 _ _ _ _ _ _ _ _ _ _ _ _ _ _ _ _ _ _ _)
   | (with_reducible exact bivouaclaw21_awake.mono _)
   | (with_reducible exact bivouacref21_Known.mono _ _ _ _ _ _ _ _ _)
   | (with_reducible exact bivouacref21_May.mono _ _ _ _ _ _)
   | (with_reducible exact sight_Known.mono _ _ _ _ _ _ _ _)
   | (with_reducible exact sight_May.mono _ _ _ _ _ _)
   | (with_reducible exact sight_View.mono _ _ _ _ _ _ _)
   | (with_reducible exact LeO.refl _)
   | (with_reducible exact LeO.none _)
   | (with_reducible refine LeO.ite ?_ ?_)
   | (with_reducible refine LeO.bind ?_ (fun _ => ?_))
   | exact ih0 _ _ _ _ _ _ _ _ _ _ _ _ _ _ _ _ _ _ _ _
   | exact ih1 _ _ _ _ _ _ _ _ _ _ _ _ _ _ _ _ _ _ _
   | exact ih2 _ _ _ _ _ _ _ _ _ _ _ _ _ _ _ _ _ _ _
   | exact ih3 _ _ _ _ _ _ _ _ _ _ _ _ _ _ _ _ _ _ _
   | exact bivouaclaw21_awake.mono _
   | exact bivouacref21_Known.mono _ _ _ _ _ _ _ _ _
   | exact bivouacref21_May.mono _ _ _ _ _ _
   | exact sight_Known.mono _ _ _ _ _ _ _ _
   | exact sight_May.mono _ _ _ _ _ _
   | exact sight_View.mono _ _ _ _ _ _ _
   | exact LeO.none _
   | refine LeO.ite ?_ ?_
   | refine LeO.bind ?_ (fun _ => ?_)
  ·
   intro y0 y1 y2 y3 y4 y5 y6 y7 y8 y9 y10 y11 y12 y13 y14 y15 y16 y17 y18
   unfold bivouaclaw21_SightViews.j3
   repeat' first
   | (with_reducible exact ih0 _ _ _ _ _ _ _ _ _ _ _ _ _ _ _ _ _ _ _ _)
   | (with_reducible exact ih1 _ _ _ _ _ _ _ _ _ _ _ _ _ _ _ _ _ _ _)
   | (with_reducible exact ih2 _ _ _ _ _ _ _ _ _ _ _ _ _ _ _ _ _ _ _)
   | (with_reducible exact ih3 _ _ _ _ _ _ _ _ _ _ _ _ _ _ _ _ _ _ _)
   | (with_reducible exact bivouaclaw21_awake.mono _)
   | (with_reducible exact bivouacref21_Known.mono _ _ _ _ _ _ _ _ _)
   | (with_reducible exact bivouacref21_May.mono _ _ _ _ _ _)
   | (with_reducible exact sight_Known.mono _ _ _ _ _ _ _ _)
   | (with_reducible exact sight_May.mono _ _ _ _ _ _)
   | (with_reducible exact sight_View.mono _ _ _ _ _ _ _)
   | (with_reducible exact LeO.refl _)
   | (with_reducible exact LeO.none _)
   | (with_reducible refine LeO.ite ?_ ?_)
   | (with_reducible refine LeO.bind ?_ (fun _ => ?_))
   | exact ih0 _ _ _ _ _ _ _ _ _ _ _ _ _ _ _ _ _ _ _ _
   | exact ih1 _ _ _ _ _ _ _ _ _ _ _ _ _ _ _ _ _ _ _
   | exact ih2 _ _ _ _ _ _ _ _ _ _ _ _ _ _ _ _ _ _ _
   | exact ih3 _ _ _ _ _ _ _ _ _ _ _ _ _ _ _ _ _ _ _
   | exact bivouaclaw21_awake.mono _
   | exact bivouacref21_Known.mono _ _ _ _ _ _ _ _ _
   | exact bivouacref21_May.mono _ _ _ _ _ _
   | exact sight_Known.mono _ _ _ _ _ _ _ _
   | exact sight_May.mono _ _ _ _ _ _
   | exact sight_View.mono _ _ _ _ _ _ _
   | exact LeO.none _
   | refine LeO.ite ?_ ?_
   | refine LeO.bind ?_ (fun _ => ?_)
theorem bivouaclaw21_SightViews.mono : ∀ a0 a1 a2 a3 a4 a5 a6 a7 a8 a9 a10 a11 a12 a13 a14 k, LeO (bivouaclaw21_SightViews.f k a0 a1 a2 a3 a4 a5 a6 a7 a8 a9 a10 a11 a12 a13 a14) (bivouaclaw21_SightViews.f (k + 1) a0 a1 a2 a3 a4 a5 a6 a7 a8 a9 a10 a11 a12 a13 a14) := by
 intro a0 a1 a2 a3 a4 a5 a6 a7 a8 a9 a10 a11 a12 a13 a14 k
 obtain ⟨ih0, ih1, ih2, ih3⟩ := bivouaclaw21_SightViews.mono_l k
 unfold bivouaclaw21_SightViews.f
 repeat' first
   | (with_reducible exact ih0 _ _ _ _ _ _ _ _ _ _ _ _ _ _ _ _ _ _ _ _)
   | (with_reducible exact ih1 _ _ _ _ _ _ _ _ _ _ _ _ _ _ _ _ _ _ _)
   | (with_reducible exact ih2 _ _ _ _ _ _ _ _ _ _ _ _ _ _ _ _ _ _ _)
   | (with_reducible exact ih3 _ _ _ _ _ _ _ _ _ _ _ _ _ _ _ _ _ _ _)
   | (with_reducible exact bivouaclaw21_awake.mono _)
   | (with_reducible exact bivouacref21_Known.mono _ _ _ _ _ _ _ _ _)
   | (with_reducible exact bivouacref21_May.mono _ _ _ _ _ _)
   | (with_reducible exact sight_Known.mono _ _ _ _ _ _ _ _)
   | (with_reducible exact sight_May.mono _ _ _ _ _ _)
   | (with_reducible exact sight_View.mono _ _ _ _ _ _ _)
   | (with_reducible exact LeO.refl _)
   | (with_reducible exact LeO.none _)
   | (with_reducible refine LeO.ite ?_ ?_)
   | (with_reducible refine LeO.bind ?_ (fun _ => ?_))
   | exact ih0 _ _ _ _ _ _ _ _ _ _ _ _ _ _ _ _ _ _ _ _
   | exact ih1 _ _ _ _ _ _ _ _ _ _ _ _ _ _ _ _ _ _ _
   | exact ih2 _ _ _ _ _ _ _ _ _ _ _ _ _ _ _ _ _ _ _
   | exact ih3 _ _ _ _ _ _ _ _ _ _ _ _ _ _ _ _ _ _ _
   | exact bivouaclaw21_awake.mono _
   | exact bivouacref21_Known.mono _ _ _ _ _ _ _ _ _
   | exact bivouacref21_May.mono _ _ _ _ _ _
   | exact sight_Known.mono _ _ _ _ _ _ _ _
   | exact sight_May.mono _ _ _ _ _ _
   | exact sight_View.mono _ _ _ _ _ _ _
   | exact LeO.none _
   | refine LeO.ite ?_ ?_
   | refine LeO.bind ?_ (fun _ => ?_)
def bivouaclaw21_SightViews.T14 : Bool × List (List Nat × List Nat) := (true, [([], []), ([], []), ([0, 1], [0, 1]), ([2], [2]), ([], []), ([4], [4]), ([], []), ([6], [6]), ([], []), ([8], [8]), ([], []), ([], []), ([11], [11]), ([12], [12]), ([10, 13], [10, 13]), ([], []), ([], []), ([16], [16]), ([17], [17]), ([15, 18], [15, 18]), ([5, 7, 9, 14, 19], [5, 7, 9, 14, 19]), ([3, 20], [3, 20])])
def bivouaclaw21_SightViews.B14 : List Nat := [0, 0, 3, 7, 0, 16, 0, 64, 0, 256, 0, 0, 2048, 6144, 15360, 0, 0, 65536, 196608, 491520, 1048560, 2097151]
theorem bivouaclaw21_SightViews.tab14 : rtab .any (opsOf Try.f3 14) = bivouaclaw21_SightViews.T14 := by kernel_rfl
theorem bivouaclaw21_SightViews.bits14 : waitsOk bivouaclaw21_SightViews.T14.2 bivouaclaw21_SightViews.B14 = true := by kernel_rfl
set_option maxHeartbeats 8000000 in
set_option maxRecDepth 100000 in
theorem bivouaclaw21_SightViews.calls (k : Nat) (a0_0 : Int) (a0_1 : Int) (a0_2 : Int) (A0_3 : Option Addr) (c0_3 : Nat) (l0_3 : List Int) (A0_4 : Option Addr) (c0_4 : Nat) (l0_4 : List (S27)) (a0_5 : Int) (a0_6 : Int) (a0_7 : Int) (a0_8 : Int) (a0_9 : Int) (a0_10 : Int) (a0_11 : Int) (a0_12 : Int) (a0_13 : Int) (a0_14 : Int) (r : Bool) (w : World) (hr0_3 : Kd.C (Kd.int .u8) w A0_3 l0_3.length l0_3) (hc0_3 : l0_3.length ≤ c0_3) (hr0_4 : Kd.C k27 w A0_4 l0_4.length l0_4) (hc0_4 : l0_4.length ≤ c0_4) (h : bivouaclaw21_SightViews.f k a0_0 a0_1 a0_2 l0_3 l0_4 a0_5 a0_6 a0_7 a0_8 a0_9 a0_10 a0_11 a0_12 a0_13 a0_14 = some r) :
  Calls Try.prog 3 #[.agg #[.int .i64 a0_0, .int .i64 a0_1, .int .i64 a0_2, .slice A0_3 l0_3.length c0_3, .slice A0_4 l0_4.length c0_4, .int .i64 a0_5, .int .i64 a0_6, .int .i64 a0_7, .int .i64 a0_8, .int .i64 a0_9, .int .i64 a0_10, .int .i64 a0_11, .int .i64 a0_12, .int .i64 a0_13, .int .i64 a0_14]] w fun e w' => e = .returned (.bool r) ∧ Below w.heap.size w w' := by
 have hu29 := Try.underlying29
 have hu24 := Try.underlying24
 have HR0_3 := aMx38 hr0_3
 have HC0_3 := aMx38 hc0_3
 clear hr0_3 hc0_3
 have HR0_4 := aMx38 hr0_4
 have HC0_4 := aMx38 hc0_4
 clear hr0_4 hc0_4
 have HB := aMx38 (Below.refl w.heap.size w)
 have H : ((bivouaclaw21_few.f a0_0 a0_1 a0_2 l0_3 l0_4 a0_5 a0_6 a0_7 a0_8 a0_9 a0_10 a0_11 a0_12 a0_13 a0_14).bind fun bt292 => ((sight_View.f k bt292.1 bt292.2.1 bt292.2.2.1 bt292.2.2.2.1 bt292.2.2.2.2.1 bt292.2.2.2.2.2.1).bind fun bt311 => ((sight_Known.f k bt292.1 bt292.2.1 bt292.2.2.1 bt292.2.2.2.1 bt292.2.2.2.2.1 bt292.2.2.2.2.2.1 bt292.2.2.2.2.2.2.1).bind fun bt315 => ((bivouacref21_May.f k bt292.1 bt292.2.1 bt292.2.2.1 bt292.2.2.2.1 bt292.2.2.2.2.1).bind fun t317 => ((sight_May.f k bt292.1 bt292.2.1 bt292.2.2.1 bt292.2.2.2.1 bt292.2.2.2.2.1).bind fun t318 => (if (t318 != t317) = true then (none) else (if t317 = true then (if bt292.2.2.2.2.2.1 < 0 then (bivouaclaw21_SightViews.j0 k bt311.1 bt311.2 bt315.1 bt315.2 true bt292.1 bt292.2.1 bt292.2.2.1 bt292.2.2.2.1 bt292.2.2.2.2.1 bt292.2.2.2.2.2.1 bt292.2.2.2.2.2.2.1 bt292.2.2.2.2.2.2.2.1 bt292.2.2.2.2.2.2.2.2.1 bt292.2.2.2.2.2.2.2.2.2.1 bt292.2.2.2.2.2.2.2.2.2.2.1 bt292.2.2.2.2.2.2.2.2.2.2.2.1 bt292.2.2.2.2.2.2.2.2.2.2.2.2.1 bt292.2.2.2.2.2.2.2.2.2.2.2.2.2.1 bt292.2.2.2.2.2.2.2.2.2.2.2.2.2.2) else (bivouaclaw21_SightViews.j0 k bt311.1 bt311.2 bt315.1 bt315.2 (decide (bt292.2.2.2.2.2.1 > 7)) bt292.1 bt292.2.1 bt292.2.2.1 bt292.2.2.2.1 bt292.2.2.2.2.1 bt292.2.2.2.2.2.1 bt292.2.2.2.2.2.2.1 bt292.2.2.2.2.2.2.2.1 bt292.2.2.2.2.2.2.2.2.1 bt292.2.2.2.2.2.2.2.2.2.1 bt292.2.2.2.2.2.2.2.2.2.2.1 bt292.2.2.2.2.2.2.2.2.2.2.2.1 bt292.2.2.2.2.2.2.2.2.2.2.2.2.1 bt292.2.2.2.2.2.2.2.2.2.2.2.2.2.1 bt292.2.2.2.2.2.2.2.2.2.2.2.2.2.2)) else (bivouaclaw21_SightViews.j0 k bt311.1 bt311.2 bt315.1 bt315.2 true bt292.1 bt292.2.1 bt292.2.2.1 bt292.2.2.2.1 bt292.2.2.2.2.1 bt292.2.2.2.2.2.1 bt292.2.2.2.2.2.2.1 bt292.2.2.2.2.2.2.2.1 bt292.2.2.2.2.2.2.2.2.1 bt292.2.2.2.2.2.2.2.2.2.1 bt292.2.2.2.2.2.2.2.2.2.2.1 bt292.2.2.2.2.2.2.2.2.2.2.2.1 bt292.2.2.2.2.2.2.2.2.2.2.2.2.1 bt292.2.2.2.2.2.2.2.2.2.2.2.2.2.1 bt292.2.2.2.2.2.2.2.2.2.2.2.2.2.2)))))))) = some r := h
 clear h
 replace H := Option.bind_eq_some_iff.mp H
 obtain ⟨⟨t292, t293, t294, t295, t298, t301, t302, t303, t304, t305, t306, t307, t308, t309, t310⟩, A20, H⟩ := H
 replace H : ((sight_View.f k t292 t293 t294 t295 t298 t301).bind fun bt311 => ((sight_Known.f k t292 t293 t294 t295 t298 t301 t302).bind fun bt315 => ((bivouacref21_May.f k t292 t293 t294 t295 t298).bind fun t317 => ((sight_May.f k t292 t293 t294 t295 t298).bind fun t318 => (if (t318 != t317) = true then (none) else (if t317 = true then (if t301 < 0 then (bivouaclaw21_SightViews.j0 k bt311.1 bt311.2 bt315.1 bt315.2 true t292 t293 t294 t295 t298 t301 t302 t303 t304 t305 t306 t307 t308 t309 t310) else (bivouaclaw21_SightViews.j0 k bt311.1 bt311.2 bt315.1 bt315.2 (decide (t301 > 7)) t292 t293 t294 t295 t298 t301 t302 t303 t304 t305 t306 t307 t308 t309 t310)) else (bivouaclaw21_SightViews.j0 k bt311.1 bt311.2 bt315.1 bt315.2 true t292 t293 t294 t295 t298 t301 t302 t303 t304 t305 t306 t307 t308 t309 t310))))))) = some r := H
 have A2 := aMx38 A20
 clear A20
 replace H := Option.bind_eq_some_iff.mp H
 obtain ⟨⟨t311, t314⟩, A30, H⟩ := H
 replace H : ((sight_Known.f k t292 t293 t294 t295 t298 t301 t302).bind fun bt315 => ((bivouacref21_May.f k t292 t293 t294 t295 t298).bind fun t317 => ((sight_May.f k t292 t293 t294 t295 t298).bind fun t318 => (if (t318 != t317) = true then (none) else (if t317 = true then (if t301 < 0 then (bivouaclaw21_SightViews.j0 k t311 t314 bt315.1 bt315.2 true t292 t293 t294 t295 t298 t301 t302 t303 t304 t305 t306 t307 t308 t309 t310) else (bivouaclaw21_SightViews.j0 k t311 t314 bt315.1 bt315.2 (decide (t301 > 7)) t292 t293 t294 t295 t298 t301 t302 t303 t304 t305 t306 t307 t308 t309 t310)) else (bivouaclaw21_SightViews.j0 k t311 t314 bt315.1 bt315.2 true t292 t293 t294 t295 t298 t301 t302 t303 t304 t305 t306 t307 t308 t309 t310)))))) = some r := H
 have A3 := aMx38 A30
 clear A30
 replace H := Option.bind_eq_some_iff.mp H
 obtain ⟨⟨t315, t316⟩, A40, H⟩ := H
 replace H : ((bivouacref21_May.f k t292 t293 t294 t295 t298).bind fun t317 => ((sight_May.f k t292 t293 t294 t295 t298).bind fun t318 => (if (t318 != t317) = true then (none) else (if t317 = true then (if t301 < 0 then (bivouaclaw21_SightViews.j0 k t311 t314 t315 t316 true t292 t293 t294 t295 t298 t301 t302 t303 t304 t305 t306 t307 t308 t309 t310) else (bivouaclaw21_SightViews.j0 k t311 t314 t315 t316 (decide (t301 > 7)) t292 t293 t294 t295 t298 t301 t302 t303 t304 t305 t306 t307 t308 t309 t310)) else (bivouaclaw21_SightViews.j0 k t311 t314 t315 t316 true t292 t293 t294 t295 t298 t301 t302 t303 t304 t305 t306 t307 t308 t309 t310))))) = some r := H
 have A4 := aMx38 A40
 clear A40
 replace H := Option.bind_eq_some_iff.mp H
 obtain ⟨t317, A50, H⟩ := H
 replace H : ((sight_May.f k t292 t293 t294 t295 t298).bind fun t318 => (if (t318 != t317) = true then (none) else (if t317 = true then (if t301 < 0 then (bivouaclaw21_SightViews.j0 k t311 t314 t315 t316 true t292 t293 t294 t295 t298 t301 t302 t303 t304 t305 t306 t307 t308 t309 t310) else (bivouaclaw21_SightViews.j0 k t311 t314 t315 t316 (decide (t301 > 7)) t292 t293 t294 t295 t298 t301 t302 t303 t304 t305 t306 t307 t308 t309 t310)) else (bivouaclaw21_SightViews.j0 k t311 t314 t315 t316 true t292 t293 t294 t295 t298 t301 t302 t303 t304 t305 t306 t307 t308 t309 t310)))) = some r := H
 have A5 := aMx38 A50
 clear A50
 replace H := Option.bind_eq_some_iff.mp H
 obtain ⟨t318, A60, H⟩ := H
 replace H : (if (t318 != t317) = true then (none) else (if t317 = true then (if t301 < 0 then (bivouaclaw21_SightViews.j0 k t311 t314 t315 t316 true t292 t293 t294 t295 t298 t301 t302 t303 t304 t305 t306 t307 t308 t309 t310) else (bivouaclaw21_SightViews.j0 k t311 t314 t315 t316 (decide (t301 > 7)) t292 t293 t294 t295 t298 t301 t302 t303 t304 t305 t306 t307 t308 t309 t310)) else (bivouaclaw21_SightViews.j0 k t311 t314 t315 t316 true t292 t293 t294 t295 t298 t301 t302 t303 t304 t305 t306 t307 t308 t309 t310))) = some r := H
 have A6 := aMx38 A60
 clear A60
 by_cases c7 : (t318 != t317) = true
 ·
  rw [if_pos c7] at H
  exact absurd H (by simp)
 rw [if_neg c7] at H
 have c7b0 : (t318 != t317) = false := by simpa using c7
 (try (have c7b1 : decide (t318 = t317) = true := by simpa using c7))
 (try (have c7b2 : (t318 == t317) = true := by simpa using c7))
 clear c7
 have HC8 := aMx38 H
 clear H
 go_enter Try.func3, Try.ntmps3
 go_upto_region 7 with (first | ((with_reducible refine gate_dst (N := 1) rfl ?_); (try (refine gate_guard (by rfl) ?_; dsimp only)); refine box_event ?hg (N := 1) ?hd (cs := #[.int .i64 a0_0, .int .i64 a0_1, .int .i64 a0_2, .slice A0_3 l0_3.length c0_3, .slice A0_4 l0_4.length c0_4, .int .i64 a0_5, .int .i64 a0_6, .int .i64 a0_7, .int .i64 a0_8, .int .i64 a0_9, .int .i64 a0_10, .int .i64 a0_11, .int .i64 a0_12, .int .i64 a0_13, .int .i64 a0_14]) (t := 29) ?hr ?_; (case hd => rfl); (case hg => rfl); (case hr => first | (go_simp; done) | (go_simp; rfl)); intro gb291 hg w9 hbox hb; have n0_ := aMx38 (zJ (by repeat (first | (with_reducible first | exact HB.out | apply zF | apply zB | apply zE) | exact HB.out)) hb); have n1_ := aMx38 (hbox); have n2_ := aMx38 ((by rw [hg]; exact (zK (by repeat (first | (with_reducible first | exact HB.out | apply zF | apply zB | apply zE) | exact HB.out))) : w.heap.size ≤ gb291)); have n3_ := aMx38 ((by rw [hg]; exact (zK (by repeat (first | (with_reducible first | exact HB.out | apply zF | apply zB | apply zE) | exact HB.out))) : w.heap.size ≤ gb291)); clear HB; have HB := n0_; have BK291 := n1_; have GW291 := n2_; have GE291 := n3_; clear n0_ n1_ n2_ n3_; clear hb hbox hg; have hcz10_0 : w9.cell? ⟨gb291, 0, none⟩ = some (.int .i64 a0_0) := (bCx38 BK291.out 0).trans rfl; have hcz10_1 : w9.cell? ⟨gb291, 1, none⟩ = some (.int .i64 a0_1) := (bCx38 BK291.out 1).trans rfl; have hcz10_2 : w9.cell? ⟨gb291, 2, none⟩ = some (.int .i64 a0_2) := (bCx38 BK291.out 2).trans rfl; have hcz10_3 : w9.cell? ⟨gb291, 3, none⟩ = some (.slice A0_3 l0_3.length c0_3) := (bCx38 BK291.out 3).trans rfl; have hcz10_4 : w9.cell? ⟨gb291, 4, none⟩ = some (.slice A0_4 l0_4.length c0_4) := (bCx38 BK291.out 4).trans rfl; have hcz10_5 : w9.cell? ⟨gb291, 5, none⟩ = some (.int .i64 a0_5) := (bCx38 BK291.out 5).trans rfl; have hcz10_6 : w9.cell? ⟨gb291, 6, none⟩ = some (.int .i64 a0_6) := (bCx38 BK291.out 6).trans rfl; have hcz10_7 : w9.cell? ⟨gb291, 7, none⟩ = some (.int .i64 a0_7) := (bCx38 BK291.out 7).trans rfl; have hcz10_8 : w9.cell? ⟨gb291, 8, none⟩ = some (.int .i64 a0_8) := (bCx38 BK291.out 8).trans rfl; have hcz10_9 : w9.cell? ⟨gb291, 9, none⟩ = some (.int .i64 a0_9) := (bCx38 BK291.out 9).trans rfl; have hcz10_10 : w9.cell? ⟨gb291, 10, none⟩ = some (.int .i64 a0_10) := (bCx38 BK291.out 10).trans rfl; have hcz10_11 : w9.cell? ⟨gb291, 11, none⟩ = some (.int .i64 a0_11) := (bCx38 BK291.out 11).trans rfl; have hcz10_12 : w9.cell? ⟨gb291, 12, none⟩ = some (.int .i64 a0_12) := (bCx38 BK291.out 12).trans rfl; have hcz10_13 : w9.cell? ⟨gb291, 13, none⟩ = some (.int .i64 a0_13) := (bCx38 BK291.out 13).trans rfl; have hcz10_14 : w9.cell? ⟨gb291, 14, none⟩ = some (.int .i64 a0_14) := (bCx38 BK291.out 14).trans rfl; have hfz10_0 := bFx38 BK291.out 0; have hfz10_1 := bFx38 BK291.out 1; have hfz10_2 := bFx38 BK291.out 2; have hfz10_3 := bFx38 BK291.out 3; have hfz10_4 := bFx38 BK291.out 4; have hfz10_5 := bFx38 BK291.out 5; have hfz10_6 := bFx38 BK291.out 6; have hfz10_7 := bFx38 BK291.out 7; have hfz10_8 := bFx38 BK291.out 8; have hfz10_9 := bFx38 BK291.out 9; have hfz10_10 := bFx38 BK291.out 10; have hfz10_11 := bFx38 BK291.out 11; have hfz10_12 := bFx38 BK291.out 12; have hfz10_13 := bFx38 BK291.out 13; have hfz10_14 := bFx38 BK291.out 14) | ((with_reducible refine gate_callee (f := 8) rfl ?_); refine goesL_ (some 10) rfl rfl Try.func8 (by kernel_rfl) rfl #[.agg #[.int .i64 a0_0, .int .i64 a0_1, .int .i64 a0_2, .slice A0_3 l0_3.length c0_3, .slice A0_4 l0_4.length c0_4, .int .i64 a0_5, .int .i64 a0_6, .int .i64 a0_7, .int .i64 a0_8, .int .i64 a0_9, .int .i64 a0_10, .int .i64 a0_11, .int .i64 a0_12, .int .i64 a0_13, .int .i64 a0_14]] rfl (by (try simp only [List.map_toArray, List.map_cons, List.map_nil]); first | done | rfl | (simp only [List.length_drop, List.length_take]; rfl)) ?_; (with_reducible refine (bivouaclaw21_few.calls a0_0 a0_1 a0_2 (fun k_ => k_ < w.heap.size) _ _ l0_3 (fun k_ => k_ < w.heap.size) _ _ l0_4 a0_5 a0_6 a0_7 a0_8 a0_9 a0_10 a0_11 a0_12 a0_13 a0_14 t292 t293 t294 t295 t298 t301 t302 t303 t304 t305 t306 t307 t308 t309 t310 _ ?side1 ?side2 A2.out).mono ?_); (case side1 => exact Kd.V_mk HC0_3.out (Kd.F_below (Kd.C_F (Kd.heap_int .u8) HR0_3.out) (by repeat (first | (with_reducible first | exact HB.out | apply zF | apply zB | apply zE | refine zC ?_ GE291.out) | exact HB.out)))); (case side2 => exact Kd.V_mk HC0_4.out (Kd.F_below (Kd.C_F k27_heap HR0_4.out) (by repeat (first | (with_reducible first | exact HB.out | apply zF | apply zB | apply zE | refine zC ?_ GE291.out) | exact HB.out)))); rintro e w11 ⟨v296, v299, rfl, ho0, ho1, hb⟩; refine ⟨_, rfl, ?_⟩; have n0_ := aMx38 (Kd.V_lower (Kd.V_mono (ok' := fun k_ => k_ ≠ gb291) ho0 (fun k_ hk_ => Or.elim hk_ (fun hs_ => Or.elim hs_ (fun hs_ => fun e_ => Nat.not_le.2 hs_ (by rw [e_]; exact GW291.out)) (fun hs_ => fun e_ => Nat.not_le.2 hs_ (by rw [e_]; exact GW291.out))) (fun hn_ => (Kd.freshB (g := gb291) (o := .cells #[.int .i64 a0_0, .int .i64 a0_1, .int .i64 a0_2, .slice A0_3 l0_3.length c0_3, .slice A0_4 l0_4.length c0_4, .int .i64 a0_5, .int .i64 a0_6, .int .i64 a0_7, .int .i64 a0_8, .int .i64 a0_9, .int .i64 a0_10, .int .i64 a0_11, .int .i64 a0_12, .int .i64 a0_13, .int .i64 a0_14] 29 (0, 0)) (by (with_reducible repeat (first | refine bNx38 ?_ _ | refine bDx38 ?_ | refine bKx38 ?_ _)); exact BK291.out) k_ hn_)))) (zK (by repeat (first | (with_reducible first | exact HB.out | apply zF | apply zB | apply zE | refine zC ?_ GE291.out) | exact HB.out)))); have n1_ := aMx38 (Kd.V_lower (Kd.V_mono (ok' := fun k_ => k_ ≠ gb291) ho1 (fun k_ hk_ => Or.elim hk_ (fun hs_ => Or.elim hs_ (fun hs_ => fun e_ => Nat.not_le.2 hs_ (by rw [e_]; exact GW291.out)) (fun hs_ => fun e_ => Nat.not_le.2 hs_ (by rw [e_]; exact GW291.out))) (fun hn_ => (Kd.freshB (g := gb291) (o := .cells #[.int .i64 a0_0, .int .i64 a0_1, .int .i64 a0_2, .slice A0_3 l0_3.length c0_3, .slice A0_4 l0_4.length c0_4, .int .i64 a0_5, .int .i64 a0_6, .int .i64 a0_7, .int .i64 a0_8, .int .i64 a0_9, .int .i64 a0_10, .int .i64 a0_11, .int .i64 a0_12, .int .i64 a0_13, .int .i64 a0_14] 29 (0, 0)) (by (with_reducible repeat (first | refine bNx38 ?_ _ | refine bDx38 ?_ | refine bKx38 ?_ _)); exact BK291.out) k_ hn_)))) (zK (by repeat (first | (with_reducible first | exact HB.out | apply zF | apply zB | apply zE | refine zC ?_ GE291.out) | exact HB.out)))); have n2_ := aMx38 (zI (g := gb291) (o := .cells #[.int .i64 a0_0, .int .i64 a0_1, .int .i64 a0_2, .slice A0_3 l0_3.length c0_3, .slice A0_4 l0_4.length c0_4, .int .i64 a0_5, .int .i64 a0_6, .int .i64 a0_7, .int .i64 a0_8, .int .i64 a0_9, .int .i64 a0_10, .int .i64 a0_11, .int .i64 a0_12, .int .i64 a0_13, .int .i64 a0_14] 29 (0, 0)) (by (with_reducible repeat (first | refine bNx38 ?_ _ | refine bDx38 ?_ | refine bKx38 ?_ _)); exact BK291.out) hb); have n3_ := aMx38 (zJ (by repeat (first | (with_reducible first | exact HB.out | apply zF | apply zB | apply zE | refine zC ?_ GE291.out) | exact HB.out)) hb); clear BK291; clear HB; have HO297 := n0_; have HO300 := n1_; have BK291 := n2_; have HB := n3_; clear n0_ n1_ n2_ n3_; (try clear hb); (try clear hb2); (try clear hk); (try clear hi); (try clear ho0); (try clear ho1); have hcz12_0 : w11.cell? ⟨gb291, 0, none⟩ = some (.int .i64 a0_0) := (bCx38 BK291.out 0).trans rfl; have hcz12_1 : w11.cell? ⟨gb291, 1, none⟩ = some (.int .i64 a0_1) := (bCx38 BK291.out 1).trans rfl; have hcz12_2 : w11.cell? ⟨gb291, 2, none⟩ = some (.int .i64 a0_2) := (bCx38 BK291.out 2).trans rfl; have hcz12_3 : w11.cell? ⟨gb291, 3, none⟩ = some (.slice A0_3 l0_3.length c0_3) := (bCx38 BK291.out 3).trans rfl; have hcz12_4 : w11.cell? ⟨gb291, 4, none⟩ = some (.slice A0_4 l0_4.length c0_4) := (bCx38 BK291.out 4).trans rfl; have hcz12_5 : w11.cell? ⟨gb291, 5, none⟩ = some (.int .i64 a0_5) := (bCx38 BK291.out 5).trans rfl; have hcz12_6 : w11.cell? ⟨gb291, 6, none⟩ = some (.int .i64 a0_6) := (bCx38 BK291.out 6).trans rfl; have hcz12_7 : w11.cell? ⟨gb291, 7, none⟩ = some (.int .i64 a0_7) := (bCx38 BK291.out 7).trans rfl; have hcz12_8 : w11.cell? ⟨gb291, 8, none⟩ = some (.int .i64 a0_8) := (bCx38 BK291.out 8).trans rfl; have hcz12_9 : w11.cell? ⟨gb291, 9, none⟩ = some (.int .i64 a0_9) := (bCx38 BK291.out 9).trans rfl; have hcz12_10 : w11.cell? ⟨gb291, 10, none⟩ = some (.int .i64 a0_10) := (bCx38 BK291.out 10).trans rfl; have hcz12_11 : w11.cell? ⟨gb291, 11, none⟩ = some (.int .i64 a0_11) := (bCx38 BK291.out 11).trans rfl; have hcz12_12 : w11.cell? ⟨gb291, 12, none⟩ = some (.int .i64 a0_12) := (bCx38 BK291.out 12).trans rfl; have hcz12_13 : w11.cell? ⟨gb291, 13, none⟩ = some (.int .i64 a0_13) := (bCx38 BK291.out 13).trans rfl; have hcz12_14 : w11.cell? ⟨gb291, 14, none⟩ = some (.int .i64 a0_14) := (bCx38 BK291.out 14).trans rfl; have hfz12_0 := bFx38 BK291.out 0; have hfz12_1 := bFx38 BK291.out 1; have hfz12_2 := bFx38 BK291.out 2; have hfz12_3 := bFx38 BK291.out 3; have hfz12_4 := bFx38 BK291.out 4; have hfz12_5 := bFx38 BK291.out 5; have hfz12_6 := bFx38 BK291.out 6; have hfz12_7 := bFx38 BK291.out 7; have hfz12_8 := bFx38 BK291.out 8; have hfz12_9 := bFx38 BK291.out 9; have hfz12_10 := bFx38 BK291.out 10; have hfz12_11 := bFx38 BK291.out 11; have hfz12_12 := bFx38 BK291.out 12; have hfz12_13 := bFx38 BK291.out 13; have hfz12_14 := bFx38 BK291.out 14; obtain ⟨Ao13, co13, eo13⟩ := Kd.V_slice HO297.out; subst eo13; obtain ⟨Ao14, co14, eo14⟩ := Kd.V_slice HO300.out; subst eo14) | ((with_reducible refine gate_callee (f := 9) rfl ?_); refine goesL_ (some 18) rfl rfl Try.func9 (by kernel_rfl) rfl #[.agg #[.int .i64 t292, .int .i64 t293, .int .i64 t294, .slice Ao13 t295.length co13], .slice Ao14 t298.length co14, .int .i64 t301] rfl (by (try simp only [List.map_toArray, List.map_cons, List.map_nil]); first | done | rfl | (simp only [List.length_drop, List.length_take]; rfl)) ?_; (with_reducible refine (sight_View.calls k t292 t293 t294 _ _ t295 _ _ t298 t301 t311 t314 _ ?side1 ?side2 ?side3 ?side4 A3.out).mono ?_); (case side1 => refine (Kd.V_reads' (e := 5) (base := w.heap.size) (ok := fun k_ => k_ ≠ gb291) (n := t295.length) (c := co13) ?_).2.2; exact (by (with_reducible repeat (first | apply Kd.V_alloc | apply Kd.V_drewN | apply Kd.V_drew)); exact (Kd.V_mono (Kd.V_far (p := ⟨gb291, 14, none⟩) (Kd.V_far (p := ⟨gb291, 13, none⟩) (Kd.V_far (p := ⟨gb291, 12, none⟩) (Kd.V_far (p := ⟨gb291, 11, none⟩) (Kd.V_far (p := ⟨gb291, 10, none⟩) (Kd.V_far (p := ⟨gb291, 9, none⟩) (Kd.V_far (p := ⟨gb291, 8, none⟩) (Kd.V_far (p := ⟨gb291, 7, none⟩) (Kd.V_far (p := ⟨gb291, 6, none⟩) (Kd.V_far (p := ⟨gb291, 5, none⟩) (Kd.V_far (p := ⟨gb291, 4, none⟩) (Kd.V_far (p := ⟨gb291, 3, none⟩) (Kd.V_far (p := ⟨gb291, 2, none⟩) (Kd.V_far (p := ⟨gb291, 1, none⟩) (Kd.V_far (p := ⟨gb291, 0, none⟩) (Kd.V_mono HO297.out (fun k_ hk => (⟨hk, hk⟩ : _ ∧ k_ ≠ gb291))) (fun _ hk => hk.2) (.int .i64 t292)) (fun _ hk => hk.2) (.int .i64 t293)) (fun _ hk => hk.2) (.int .i64 t294)) (fun _ hk => hk.2) (.slice Ao13 t295.length co13)) (fun _ hk => hk.2) (.slice Ao14 t298.length co14)) (fun _ hk => hk.2) (.int .i64 t301)) (fun _ hk => hk.2) (.int .i64 t302)) (fun _ hk => hk.2) (.int .i64 t303)) (fun _ hk => hk.2) (.int .i64 t304)) (fun _ hk => hk.2) (.int .i64 t305)) (fun _ hk => hk.2) (.int .i64 t306)) (fun _ hk => hk.2) (.int .i64 t307)) (fun _ hk => hk.2) (.int .i64 t308)) (fun _ hk => hk.2) (.int .i64 t309)) (fun _ hk => hk.2) (.int .i64 t310)) (fun _ h_ => h_.1)))); (case side2 => exact (Kd.V_reads' HO297.out).2.1); (case side3 => refine (Kd.V_reads' (e := 27) (base := w.heap.size) (ok := fun k_ => k_ ≠ gb291) (n := t298.length) (c := co14) ?_).2.2; exact (by (with_reducible repeat (first | apply Kd.V_alloc | apply Kd.V_drewN | apply Kd.V_drew)); exact (Kd.V_mono (Kd.V_far (p := ⟨gb291, 14, none⟩) (Kd.V_far (p := ⟨gb291, 13, none⟩) (Kd.V_far (p := ⟨gb291, 12, none⟩) (Kd.V_far (p := ⟨gb291, 11, none⟩) (Kd.V_far (p := ⟨gb291, 10, none⟩) (Kd.V_far (p := ⟨gb291, 9, none⟩) (Kd.V_far (p := ⟨gb291, 8, none⟩) (Kd.V_far (p := ⟨gb291, 7, none⟩) (Kd.V_far (p := ⟨gb291, 6, none⟩) (Kd.V_far (p := ⟨gb291, 5, none⟩) (Kd.V_far (p := ⟨gb291, 4, none⟩) (Kd.V_far (p := ⟨gb291, 3, none⟩) (Kd.V_far (p := ⟨gb291, 2, none⟩) (Kd.V_far (p := ⟨gb291, 1, none⟩) (Kd.V_far (p := ⟨gb291, 0, none⟩) (Kd.V_mono HO300.out (fun k_ hk => (⟨hk, hk⟩ : _ ∧ k_ ≠ gb291))) (fun _ hk => hk.2) (.int .i64 t292)) (fun _ hk => hk.2) (.int .i64 t293)) (fun _ hk => hk.2) (.int .i64 t294)) (fun _ hk => hk.2) (.slice Ao13 t295.length co13)) (fun _ hk => hk.2) (.slice Ao14 t298.length co14)) (fun _ hk => hk.2) (.int .i64 t301)) (fun _ hk => hk.2) (.int .i64 t302)) (fun _ hk => hk.2) (.int .i64 t303)) (fun _ hk => hk.2) (.int .i64 t304)) (fun _ hk => hk.2) (.int .i64 t305)) (fun _ hk => hk.2) (.int .i64 t306)) (fun _ hk => hk.2) (.int .i64 t307)) (fun _ hk => hk.2) (.int .i64 t308)) (fun _ hk => hk.2) (.int .i64 t309)) (fun _ hk => hk.2) (.int .i64 t310)) (fun _ h_ => h_.1)))); (case side4 => exact (Kd.V_reads' HO300.out).2.1); rintro e w15 ⟨v312, rfl, ho0, hb⟩; refine ⟨_, rfl, ?_⟩; have n0_ := aMx38 (Kd.V_elder' (by (with_reducible repeat (first | apply Kd.V_alloc | apply Kd.V_drewN | apply Kd.V_drew)); exact (Kd.V_mono (Kd.V_far (p := ⟨gb291, 14, none⟩) (Kd.V_far (p := ⟨gb291, 13, none⟩) (Kd.V_far (p := ⟨gb291, 12, none⟩) (Kd.V_far (p := ⟨gb291, 11, none⟩) (Kd.V_far (p := ⟨gb291, 10, none⟩) (Kd.V_far (p := ⟨gb291, 9, none⟩) (Kd.V_far (p := ⟨gb291, 8, none⟩) (Kd.V_far (p := ⟨gb291, 7, none⟩) (Kd.V_far (p := ⟨gb291, 6, none⟩) (Kd.V_far (p := ⟨gb291, 5, none⟩) (Kd.V_far (p := ⟨gb291, 4, none⟩) (Kd.V_far (p := ⟨gb291, 3, none⟩) (Kd.V_far (p := ⟨gb291, 2, none⟩) (Kd.V_far (p := ⟨gb291, 1, none⟩) (Kd.V_far (p := ⟨gb291, 0, none⟩) (Kd.V_mono HO297.out (fun k_ hk => (⟨hk, hk⟩ : _ ∧ k_ ≠ gb291))) (fun _ hk => hk.2) (.int .i64 t292)) (fun _ hk => hk.2) (.int .i64 t293)) (fun _ hk => hk.2) (.int .i64 t294)) (fun _ hk => hk.2) (.slice Ao13 t295.length co13)) (fun _ hk => hk.2) (.slice Ao14 t298.length co14)) (fun _ hk => hk.2) (.int .i64 t301)) (fun _ hk => hk.2) (.int .i64 t302)) (fun _ hk => hk.2) (.int .i64 t303)) (fun _ hk => hk.2) (.int .i64 t304)) (fun _ hk => hk.2) (.int .i64 t305)) (fun _ hk => hk.2) (.int .i64 t306)) (fun _ hk => hk.2) (.int .i64 t307)) (fun _ hk => hk.2) (.int .i64 t308)) (fun _ hk => hk.2) (.int .i64 t309)) (fun _ hk => hk.2) (.int .i64 t310)) (fun _ h_ => h_.1))) (Kd.R_base ho0) hb); have n1_ := aMx38 (Kd.V_elder' (by (with_reducible repeat (first | apply Kd.V_alloc | apply Kd.V_drewN | apply Kd.V_drew)); exact (Kd.V_mono (Kd.V_far (p := ⟨gb291, 14, none⟩) (Kd.V_far (p := ⟨gb291, 13, none⟩) (Kd.V_far (p := ⟨gb291, 12, none⟩) (Kd.V_far (p := ⟨gb291, 11, none⟩) (Kd.V_far (p := ⟨gb291, 10, none⟩) (Kd.V_far (p := ⟨gb291, 9, none⟩) (Kd.V_far (p := ⟨gb291, 8, none⟩) (Kd.V_far (p := ⟨gb291, 7, none⟩) (Kd.V_far (p := ⟨gb291, 6, none⟩) (Kd.V_far (p := ⟨gb291, 5, none⟩) (Kd.V_far (p := ⟨gb291, 4, none⟩) (Kd.V_far (p := ⟨gb291, 3, none⟩) (Kd.V_far (p := ⟨gb291, 2, none⟩) (Kd.V_far (p := ⟨gb291, 1, none⟩) (Kd.V_far (p := ⟨gb291, 0, none⟩) (Kd.V_mono HO300.out (fun k_ hk => (⟨hk, hk⟩ : _ ∧ k_ ≠ gb291))) (fun _ hk => hk.2) (.int .i64 t292)) (fun _ hk => hk.2) (.int .i64 t293)) (fun _ hk => hk.2) (.int .i64 t294)) (fun _ hk => hk.2) (.slice Ao13 t295.length co13)) (fun _ hk => hk.2) (.slice Ao14 t298.length co14)) (fun _ hk => hk.2) (.int .i64 t301)) (fun _ hk => hk.2) (.int .i64 t302)) (fun _ hk => hk.2) (.int .i64 t303)) (fun _ hk => hk.2) (.int .i64 t304)) (fun _ hk => hk.2) (.int .i64 t305)) (fun _ hk => hk.2) (.int .i64 t306)) (fun _ hk => hk.2) (.int .i64 t307)) (fun _ hk => hk.2) (.int .i64 t308)) (fun _ hk => hk.2) (.int .i64 t309)) (fun _ hk => hk.2) (.int .i64 t310)) (fun _ h_ => h_.1))) (Kd.R_base ho0) hb); have n2_ := aMx38 (Kd.R_lower ho0 (zK (by repeat (first | (with_reducible first | exact HB.out | apply zF | apply zB | apply zE | refine zC ?_ GE291.out) | exact HB.out)))); have n3_ := aMx38 (zI (g := gb291) (o := .cells #[.int .i64 t292, .int .i64 t293, .int .i64 t294, .slice Ao13 t295.length co13, .slice Ao14 t298.length co14, .int .i64 t301, .int .i64 t302, .int .i64 t303, .int .i64 t304, .int .i64 t305, .int .i64 t306, .int .i64 t307, .int .i64 t308, .int .i64 t309, .int .i64 t310] 29 (0, 0)) (by (with_reducible repeat (first | refine bNx38 ?_ _ | refine bDx38 ?_ | refine bKx38 ?_ _)); exact blk_put15_x38 BK291.out) hb); have n4_ := aMx38 (zJ (by repeat (first | (with_reducible first | exact HB.out | apply zF | apply zB | apply zE | refine zC ?_ GE291.out) | exact HB.out)) hb); clear HO297; clear HO300; clear BK291; clear HB; have HO297 := n0_; have HO300 := n1_; have HO313 := n2_; have BK291 := n3_; have HB := n4_; clear n0_ n1_ n2_ n3_ n4_; (try clear hb); (try clear hb2); (try clear hk); (try clear hi); (try clear ho0); have hcz16_0 : w15.cell? ⟨gb291, 0, none⟩ = some (.int .i64 t292) := (bCx38 BK291.out 0).trans rfl; have hcz16_1 : w15.cell? ⟨gb291, 1, none⟩ = some (.int .i64 t293) := (bCx38 BK291.out 1).trans rfl; have hcz16_2 : w15.cell? ⟨gb291, 2, none⟩ = some (.int .i64 t294) := (bCx38 BK291.out 2).trans rfl; have hcz16_3 : w15.cell? ⟨gb291, 3, none⟩ = some (.slice Ao13 t295.length co13) := (bCx38 BK291.out 3).trans rfl; have hcz16_4 : w15.cell? ⟨gb291, 4, none⟩ = some (.slice Ao14 t298.length co14) := (bCx38 BK291.out 4).trans rfl; have hcz16_5 : w15.cell? ⟨gb291, 5, none⟩ = some (.int .i64 t301) := (bCx38 BK291.out 5).trans rfl; have hcz16_6 : w15.cell? ⟨gb291, 6, none⟩ = some (.int .i64 t302) := (bCx38 BK291.out 6).trans rfl; have hfz16_0 := bFx38 BK291.out 0; have hfz16_1 := bFx38 BK291.out 1; have hfz16_2 := bFx38 BK291.out 2; have hfz16_3 := bFx38 BK291.out 3; have hfz16_4 := bFx38 BK291.out 4; have hfz16_5 := bFx38 BK291.out 5; have hfz16_6 := bFx38 BK291.out 6) | ((with_reducible refine gate_callee (f := 10) rfl ?_); refine goesL_ (some 30) rfl rfl Try.func10 (by kernel_rfl) rfl #[.agg #[.int .i64 t292, .int .i64 t293, .int .i64 t294, .slice Ao13 t295.length co13], .slice Ao14 t298.length co14, .int .i64 t301, .int .i64 t302] rfl (by (try simp only [List.map_toArray, List.map_cons, List.map_nil]); first | done | rfl | (simp only [List.length_drop, List.length_take]; rfl)) ?_; (with_reducible refine (sight_Known.calls k t292 t293 t294 _ _ t295 _ _ t298 t301 t302 t315 t316 _ ?side1 ?side2 ?side3 ?side4 A4.out).mono ?_); (case side1 => repeat (first | exact (Kd.V_reads' HO297.out).2.2 | (with_reducible refine Kd.C_alloc ?_ _) | (with_reducible refine Kd.C_drewN ?_ _) | (with_reducible refine Kd.C_drew ?_))); (case side2 => exact (Kd.V_reads' HO297.out).2.1); (case side3 => repeat (first | exact (Kd.V_reads' HO300.out).2.2 | (with_reducible refine Kd.C_alloc ?_ _) | (with_reducible refine Kd.C_drewN ?_ _) | (with_reducible refine Kd.C_drew ?_))); (case side4 => exact (Kd.V_reads' HO300.out).2.1); rintro e w17 ⟨rfl, hb⟩; refine ⟨_, rfl, ?_⟩; have n0_ := aMx38 (Kd.V_below (by (with_reducible repeat (first | apply Kd.V_alloc | apply Kd.V_drewN | apply Kd.V_drew)); exact HO297.out) hb); have n1_ := aMx38 (Kd.V_below (by (with_reducible repeat (first | apply Kd.V_alloc | apply Kd.V_drewN | apply Kd.V_drew)); exact HO300.out) hb); have n2_ := aMx38 (zS (by (with_reducible repeat (first | apply zP | apply zQ | apply zR)); exact HO313.out) hb); have n3_ := aMx38 (zI (g := gb291) (o := .cells #[.int .i64 t292, .int .i64 t293, .int .i64 t294, .slice Ao13 t295.length co13, .slice Ao14 t298.length co14, .int .i64 t301, .int .i64 t302, .int .i64 t303, .int .i64 t304, .int .i64 t305, .int .i64 t306, .int .i64 t307, .int .i64 t308, .int .i64 t309, .int .i64 t310] 29 (0, 0)) (by (with_reducible repeat (first | refine bNx38 ?_ _ | refine bDx38 ?_ | refine bKx38 ?_ _)); exact BK291.out) hb); have n4_ := aMx38 (zJ (by repeat (first | (with_reducible first | exact HB.out | apply zF | apply zB | apply zE | refine zC ?_ GE291.out) | exact HB.out)) hb); clear HO297; clear HO300; clear HO313; clear BK291; clear HB; have HO297 := n0_; have HO300 := n1_; have HO313 := n2_; have BK291 := n3_; have HB := n4_; clear n0_ n1_ n2_ n3_ n4_; (try clear hb); (try clear hb2); (try clear hk); (try clear hi); have hcz18_0 : w17.cell? ⟨gb291, 0, none⟩ = some (.int .i64 t292) := (bCx38 BK291.out 0).trans rfl; have hcz18_1 : w17.cell? ⟨gb291, 1, none⟩ = some (.int .i64 t293) := (bCx38 BK291.out 1).trans rfl; have hcz18_2 : w17.cell? ⟨gb291, 2, none⟩ = some (.int .i64 t294) := (bCx38 BK291.out 2).trans rfl; have hcz18_3 : w17.cell? ⟨gb291, 3, none⟩ = some (.slice Ao13 t295.length co13) := (bCx38 BK291.out 3).trans rfl; have hcz18_4 : w17.cell? ⟨gb291, 4, none⟩ = some (.slice Ao14 t298.length co14) := (bCx38 BK291.out 4).trans rfl; have hcz18_5 : w17.cell? ⟨gb291, 5, none⟩ = some (.int .i64 t301) := (bCx38 BK291.out 5).trans rfl; have hcz18_6 : w17.cell? ⟨gb291, 6, none⟩ = some (.int .i64 t302) := (bCx38 BK291.out 6).trans rfl; have hfz18_0 := bFx38 BK291.out 0; have hfz18_1 := bFx38 BK291.out 1; have hfz18_2 := bFx38 BK291.out 2; have hfz18_3 := bFx38 BK291.out 3; have hfz18_4 := bFx38 BK291.out 4; have hfz18_5 := bFx38 BK291.out 5; have hfz18_6 := bFx38 BK291.out 6) | ((with_reducible refine gate_callee (f := 11) rfl ?_); refine goesL_ (some 37) rfl rfl Try.func11 (by kernel_rfl) rfl #[.agg #[.int .i64 t292, .int .i64 t293, .int .i64 t294, .slice Ao13 t295.length co13], .slice Ao14 t298.length co14] rfl (by (try simp only [List.map_toArray, List.map_cons, List.map_nil]); first | done | rfl | (simp only [List.length_drop, List.length_take]; rfl)) ?_; (with_reducible refine (bivouacref21_May.calls k t292 t293 t294 _ _ t295 _ _ t298 t317 _ ?side1 ?side2 ?side3 ?side4 A5.out).mono ?_); (case side1 => repeat (first | exact (Kd.V_reads' HO297.out).2.2 | (with_reducible refine Kd.C_alloc ?_ _) | (with_reducible refine Kd.C_drewN ?_ _) | (with_reducible refine Kd.C_drew ?_))); (case side2 => exact (Kd.V_reads' HO297.out).2.1); (case side3 => repeat (first | exact (Kd.V_reads' HO300.out).2.2 | (with_reducible refine Kd.C_alloc ?_ _) | (with_reducible refine Kd.C_drewN ?_ _) | (with_reducible refine Kd.C_drew ?_))); (case side4 => exact (Kd.V_reads' HO300.out).2.1); rintro e w19 ⟨rfl, hb⟩; refine ⟨_, rfl, ?_⟩; have n0_ := aMx38 (Kd.V_below (by (with_reducible repeat (first | apply Kd.V_alloc | apply Kd.V_drewN | apply Kd.V_drew)); exact HO297.out) hb); have n1_ := aMx38 (Kd.V_below (by (with_reducible repeat (first | apply Kd.V_alloc | apply Kd.V_drewN | apply Kd.V_drew)); exact HO300.out) hb); have n2_ := aMx38 (zS (by (with_reducible repeat (first | apply zP | apply zQ | apply zR)); exact HO313.out) hb); have n3_ := aMx38 (zI (g := gb291) (o := .cells #[.int .i64 t292, .int .i64 t293, .int .i64 t294, .slice Ao13 t295.length co13, .slice Ao14 t298.length co14, .int .i64 t301, .int .i64 t302, .int .i64 t303, .int .i64 t304, .int .i64 t305, .int .i64 t306, .int .i64 t307, .int .i64 t308, .int .i64 t309, .int .i64 t310] 29 (0, 0)) (by (with_reducible repeat (first | refine bNx38 ?_ _ | refine bDx38 ?_ | refine bKx38 ?_ _)); exact BK291.out) hb); have n4_ := aMx38 (zJ (by repeat (first | (with_reducible first | exact HB.out | apply zF | apply zB | apply zE | refine zC ?_ GE291.out) | exact HB.out)) hb); clear HO297; clear HO300; clear HO313; clear BK291; clear HB; have HO297 := n0_; have HO300 := n1_; have HO313 := n2_; have BK291 := n3_; have HB := n4_; clear n0_ n1_ n2_ n3_ n4_; (try clear hb); (try clear hb2); (try clear hk); (try clear hi); have hcz20_0 : w19.cell? ⟨gb291, 0, none⟩ = some (.int .i64 t292) := (bCx38 BK291.out 0).trans rfl; have hcz20_1 : w19.cell? ⟨gb291, 1, none⟩ = some (.int .i64 t293) := (bCx38 BK291.out 1).trans rfl; have hcz20_2 : w19.cell? ⟨gb291, 2, none⟩ = some (.int .i64 t294) := (bCx38 BK291.out 2).trans rfl; have hcz20_3 : w19.cell? ⟨gb291, 3, none⟩ = some (.slice Ao13 t295.length co13) := (bCx38 BK291.out 3).trans rfl; have hcz20_4 : w19.cell? ⟨gb291, 4, none⟩ = some (.slice Ao14 t298.length co14) := (bCx38 BK291.out 4).trans rfl; have hcz20_5 : w19.cell? ⟨gb291, 5, none⟩ = some (.int .i64 t301) := (bCx38 BK291.out 5).trans rfl; have hcz20_6 : w19.cell? ⟨gb291, 6, none⟩ = some (.int .i64 t302) := (bCx38 BK291.out 6).trans rfl; have hfz20_0 := bFx38 BK291.out 0; have hfz20_1 := bFx38 BK291.out 1; have hfz20_2 := bFx38 BK291.out 2; have hfz20_3 := bFx38 BK291.out 3; have hfz20_4 := bFx38 BK291.out 4; have hfz20_5 := bFx38 BK291.out 5; have hfz20_6 := bFx38 BK291.out 6) | ((with_reducible refine gate_callee (f := 12) rfl ?_); refine goesL_ (some 42) rfl rfl Try.func12 (by kernel_rfl) rfl #[.agg #[.int .i64 t292, .int .i64 t293, .int .i64 t294, .slice Ao13 t295.length co13], .slice Ao14 t298.length co14] rfl (by (try simp only [List.map_toArray, List.map_cons, List.map_nil]); first | done | rfl | (simp only [List.length_drop, List.length_take]; rfl)) ?_; (with_reducible refine (sight_May.calls k t292 t293 t294 _ _ t295 _ _ t298 t318 _ ?side1 ?side2 ?side3 ?side4 A6.out).mono ?_); (case side1 => repeat (first | exact (Kd.V_reads' HO297.out).2.2 | (with_reducible refine Kd.C_alloc ?_ _) | (with_reducible refine Kd.C_drewN ?_ _) | (with_reducible refine Kd.C_drew ?_))); (case side2 => exact (Kd.V_reads' HO297.out).2.1); (case side3 => repeat (first | exact (Kd.V_reads' HO300.out).2.2 | (with_reducible refine Kd.C_alloc ?_ _) | (with_reducible refine Kd.C_drewN ?_ _) | (with_reducible refine Kd.C_drew ?_))); (case side4 => exact (Kd.V_reads' HO300.out).2.1); rintro e w21 ⟨rfl, hb⟩; refine ⟨_, rfl, ?_⟩; have n0_ := aMx38 (Kd.V_below (by (with_reducible repeat (first | apply Kd.V_alloc | apply Kd.V_drewN | apply Kd.V_drew)); exact HO297.out) hb); have n1_ := aMx38 (Kd.V_below (by (with_reducible repeat (first | apply Kd.V_alloc | apply Kd.V_drewN | apply Kd.V_drew)); exact HO300.out) hb); have n2_ := aMx38 (zS (by (with_reducible repeat (first | apply zP | apply zQ | apply zR)); exact HO313.out) hb); have n3_ := aMx38 (zI (g := gb291) (o := .cells #[.int .i64 t292, .int .i64 t293, .int .i64 t294, .slice Ao13 t295.length co13, .slice Ao14 t298.length co14, .int .i64 t301, .int .i64 t302, .int .i64 t303, .int .i64 t304, .int .i64 t305, .int .i64 t306, .int .i64 t307, .int .i64 t308, .int .i64 t309, .int .i64 t310] 29 (0, 0)) (by (with_reducible repeat (first | refine bNx38 ?_ _ | refine bDx38 ?_ | refine bKx38 ?_ _)); exact BK291.out) hb); have n4_ := aMx38 (zJ (by repeat (first | (with_reducible first | exact HB.out | apply zF | apply zB | apply zE | refine zC ?_ GE291.out) | exact HB.out)) hb); clear HO297; clear HO300; clear HO313; clear BK291; clear HB; have HO297 := n0_; have HO300 := n1_; have HO313 := n2_; have BK291 := n3_; have HB := n4_; clear n0_ n1_ n2_ n3_ n4_; (try clear hb); (try clear hb2); (try clear hk); (try clear hi)))
 (try simp only [Act.put, List.setIfInBounds_toArray, List.set_cons_zero, List.set_cons_succ])
 go_cut [56] (fun v56 wc => ∃ (kq : Nat) (x56_7 : Bool), v56 = .bool x56_7 ∧ Aside0 (bivouaclaw21_SightViews.j0 kq t311 t314 t315 t316 x56_7 t292 t293 t294 t295 t298 t301 t302 t303 t304 t305 t306 t307 t308 t309 t310 = some r) ∧ Aside0 (kq ≤ k) ∧ Aside0 (Kd.R (Kd.int .i64) 3 wc w.heap.size (fun _ => True) v312 t311) ∧ Aside0 (Kd.V (Kd.int .u8) 5 wc w.heap.size (fun k_ => some k_ ≠ (v312 : Value).ownBlock ∧ k_ ≠ gb291) (.slice Ao13 t295.length co13) t295) ∧ Aside0 (Kd.V k27 27 wc w.heap.size (fun k_ => some k_ ≠ (v312 : Value).ownBlock ∧ k_ ≠ gb291) (.slice Ao14 t298.length co14) t298) ∧ Aside0 (wc.heap[gb291]? = some (.cells #[.int .i64 t292, .int .i64 t293, .int .i64 t294, (.slice Ao13 t295.length co13), (.slice Ao14 t298.length co14), .int .i64 t301, .int .i64 t302, .int .i64 t303, .int .i64 t304, .int .i64 t305, .int .i64 t306, .int .i64 t307, .int .i64 t308, .int .i64 t309, .int .i64 t310] 29 (0, 0))) ∧ Aside0 (Below w.heap.size w wc))
 case first =>
  have H := HC8.out
  clear HC8
  by_cases c22 : t317 = true
  ·
   subst c22
   have H1 : (if t301 < 0 then (bivouaclaw21_SightViews.j0 k t311 t314 t315 t316 true t292 t293 t294 t295 t298 t301 t302 t303 t304 t305 t306 t307 t308 t309 t310) else (bivouaclaw21_SightViews.j0 k t311 t314 t315 t316 (decide (t301 > 7)) t292 t293 t294 t295 t298 t301 t302 t303 t304 t305 t306 t307 t308 t309 t310)) = some r := by rw [if_pos rfl] at H; exact H
   clear H
   have H := H1
   clear H1
   by_cases c23 : t301 < 0
   ·
    rw [if_pos c23] at H
    have c23b0 : decide (t301 < 0) = true := decide_eq_true c23
    clear c23
    (first | rw [c23b0] | (simp only [i64_w, i32_w]; rw [c23b0]) | skip)
    have H' := aMx38 H
    clear H
    have hcz24_0 : w21.cell? ⟨gb291, 0, none⟩ = some (.int .i64 t292) := (bCx38 BK291.out 0).trans rfl
    have hcz24_1 : w21.cell? ⟨gb291, 1, none⟩ = some (.int .i64 t293) := (bCx38 BK291.out 1).trans rfl
    have hcz24_2 : w21.cell? ⟨gb291, 2, none⟩ = some (.int .i64 t294) := (bCx38 BK291.out 2).trans rfl
    have hcz24_3 : w21.cell? ⟨gb291, 3, none⟩ = some (.slice Ao13 t295.length co13) := (bCx38 BK291.out 3).trans rfl
    have hcz24_4 : w21.cell? ⟨gb291, 4, none⟩ = some (.slice Ao14 t298.length co14) := (bCx38 BK291.out 4).trans rfl
    have hcz24_5 : w21.cell? ⟨gb291, 5, none⟩ = some (.int .i64 t301) := (bCx38 BK291.out 5).trans rfl
    have hcz24_6 : w21.cell? ⟨gb291, 6, none⟩ = some (.int .i64 t302) := (bCx38 BK291.out 6).trans rfl
    have hfz24_0 := bFx38 BK291.out 0
    have hfz24_1 := bFx38 BK291.out 1
    have hfz24_2 := bFx38 BK291.out 2
    have hfz24_3 := bFx38 BK291.out 3
    have hfz24_4 := bFx38 BK291.out 4
    have hfz24_5 := bFx38 BK291.out 5
    have hfz24_6 := bFx38 BK291.out 6
    go_wp2
    go_meet
    case rel => exact ⟨_, (true), (by first | rfl | (simp; done) | (simp [*]; done)), H', ⟨by first | omega | exact Nat.le_refl _⟩, ⟨by (with_reducible repeat (first | apply zP | apply zQ | apply zR)); exact HO313.out⟩, ⟨by (with_reducible repeat (first | apply Kd.V_alloc | apply Kd.V_drewN | apply Kd.V_drew)); exact Kd.V_mono HO297.out (fun _ hk => ⟨hk.2, hk.1⟩)⟩, ⟨by (with_reducible repeat (first | apply Kd.V_alloc | apply Kd.V_drewN | apply Kd.V_drew)); exact Kd.V_mono HO300.out (fun _ hk => ⟨hk.2, hk.1⟩)⟩, ⟨by (with_reducible repeat (first | refine bNx38 ?_ _ | refine bDx38 ?_ | refine bKx38 ?_ _)); exact BK291.out⟩, ⟨by repeat (first | (with_reducible first | exact HB.out | apply zF | apply zB | apply zE | refine zC ?_ GE291.out) | exact HB.out)⟩⟩
   rw [if_neg c23] at H
   have c23b0 : decide (t301 < 0) = false := decide_eq_false c23
   clear c23
   (first | rw [c23b0] | (simp only [i64_w, i32_w]; rw [c23b0]) | skip)
   have H' := aMx38 H
   clear H
   have hcz25_0 : w21.cell? ⟨gb291, 0, none⟩ = some (.int .i64 t292) := (bCx38 BK291.out 0).trans rfl
   have hcz25_1 : w21.cell? ⟨gb291, 1, none⟩ = some (.int .i64 t293) := (bCx38 BK291.out 1).trans rfl
   have hcz25_2 : w21.cell? ⟨gb291, 2, none⟩ = some (.int .i64 t294) := (bCx38 BK291.out 2).trans rfl
   have hcz25_3 : w21.cell? ⟨gb291, 3, none⟩ = some (.slice Ao13 t295.length co13) := (bCx38 BK291.out 3).trans rfl
   have hcz25_4 : w21.cell? ⟨gb291, 4, none⟩ = some (.slice Ao14 t298.length co14) := (bCx38 BK291.out 4).trans rfl
   have hcz25_5 : w21.cell? ⟨gb291, 5, none⟩ = some (.int .i64 t301) := (bCx38 BK291.out 5).trans rfl
   have hcz25_6 : w21.cell? ⟨gb291, 6, none⟩ = some (.int .i64 t302) := (bCx38 BK291.out 6).trans rfl
   have hfz25_0 := bFx38 BK291.out 0
   have hfz25_1 := bFx38 BK291.out 1
   have hfz25_2 := bFx38 BK291.out 2
   have hfz25_3 := bFx38 BK291.out 3
   have hfz25_4 := bFx38 BK291.out 4
   have hfz25_5 := bFx38 BK291.out 5
   have hfz25_6 := bFx38 BK291.out 6
   go_wp2
   go_meet
   case rel => exact ⟨_, (decide (t301 > 7)), (by first | rfl | (simp; done) | (simp [*]; done)), H', ⟨by first | omega | exact Nat.le_refl _⟩, ⟨by (with_reducible repeat (first | apply zP | apply zQ | apply zR)); exact HO313.out⟩, ⟨by (with_reducible repeat (first | apply Kd.V_alloc | apply Kd.V_drewN | apply Kd.V_drew)); exact Kd.V_mono HO297.out (fun _ hk => ⟨hk.2, hk.1⟩)⟩, ⟨by (with_reducible repeat (first | apply Kd.V_alloc | apply Kd.V_drewN | apply Kd.V_drew)); exact Kd.V_mono HO300.out (fun _ hk => ⟨hk.2, hk.1⟩)⟩, ⟨by (with_reducible repeat (first | refine bNx38 ?_ _ | refine bDx38 ?_ | refine bKx38 ?_ _)); exact BK291.out⟩, ⟨by repeat (first | (with_reducible first | exact HB.out | apply zF | apply zB | apply zE | refine zC ?_ GE291.out) | exact HB.out)⟩⟩
  replace c22 := Bool.eq_false_iff.mpr c22
  subst c22
  have H1 : (bivouaclaw21_SightViews.j0 k t311 t314 t315 t316 true t292 t293 t294 t295 t298 t301 t302 t303 t304 t305 t306 t307 t308 t309 t310) = some r := by rw [if_neg (show ¬ (false = true) by decide)] at H; exact H
  clear H
  have H := H1
  clear H1
  have H' := aMx38 H
  clear H
  go_wp2
  go_meet
  case rel => exact ⟨_, (true), (by first | rfl | (simp; done) | (simp [*]; done)), H', ⟨by first | omega | exact Nat.le_refl _⟩, ⟨by (with_reducible repeat (first | apply zP | apply zQ | apply zR)); exact HO313.out⟩, ⟨by (with_reducible repeat (first | apply Kd.V_alloc | apply Kd.V_drewN | apply Kd.V_drew)); exact Kd.V_mono HO297.out (fun _ hk => ⟨hk.2, hk.1⟩)⟩, ⟨by (with_reducible repeat (first | apply Kd.V_alloc | apply Kd.V_drewN | apply Kd.V_drew)); exact Kd.V_mono HO300.out (fun _ hk => ⟨hk.2, hk.1⟩)⟩, ⟨by (with_reducible repeat (first | refine bNx38 ?_ _ | refine bDx38 ?_ | refine bKx38 ?_ _)); exact BK291.out⟩, ⟨by repeat (first | (with_reducible first | exact HB.out | apply zF | apply zB | apply zE | refine zC ?_ GE291.out) | exact HB.out)⟩⟩
 clear HC8
 try clear c1 c2 p2 c3 c7 c7b0 c7b1 c7b2 c8 c9 c10 c11 c12 c22 c23 c23b0 hcz10_0 hcz10_1 hcz10_10 hcz10_11 hcz10_12 hcz10_13 hcz10_14 hcz10_2 hcz10_3 hcz10_4 hcz10_5 hcz10_6 hcz10_7 hcz10_8 hcz10_9 hcz12_0 hcz12_1 hcz12_10 hcz12_11 hcz12_12 hcz12_13 hcz12_14 hcz12_2 hcz12_3 hcz12_4 hcz12_5 hcz12_6 hcz12_7 hcz12_8 hcz12_9 hcz16_0 hcz16_1 hcz16_2 hcz16_3 hcz16_4 hcz16_5 hcz16_6 hcz18_0 hcz18_1 hcz18_2 hcz18_3 hcz18_4 hcz18_5 hcz18_6 hcz20_0 hcz20_1 hcz20_2 hcz20_3 hcz20_4 hcz20_5 hcz20_6 hcz24_0 hcz24_1 hcz24_2 hcz24_3 hcz24_4 hcz24_5 hcz24_6 hcz25_0 hcz25_1 hcz25_2 hcz25_3 hcz25_4 hcz25_5 hcz25_6 hfz10_0 hfz10_1 hfz10_10 hfz10_11 hfz10_12 hfz10_13 hfz10_14 hfz10_2 hfz10_3 hfz10_4 hfz10_5 hfz10_6 hfz10_7 hfz10_8 hfz10_9 hfz12_0 hfz12_1 hfz12_10 hfz12_11 hfz12_12 hfz12_13 hfz12_14 hfz12_2 hfz12_3 hfz12_4 hfz12_5 hfz12_6 hfz12_7 hfz12_8 hfz12_9 hfz16_0 hfz16_1 hfz16_2 hfz16_3 hfz16_4 hfz16_5 hfz16_6 hfz18_0 hfz18_1 hfz18_2 hfz18_3 hfz18_4 hfz18_5 hfz18_6 hfz20_0 hfz20_1 hfz20_2 hfz20_3 hfz20_4 hfz20_5 hfz20_6 hfz24_0 hfz24_1 hfz24_2 hfz24_3 hfz24_4 hfz24_5 hfz24_6 hfz25_0 hfz25_1 hfz25_2 hfz25_3 hfz25_4 hfz25_5 hfz25_6
 obtain ⟨kq, x56_7, rfl, HA, HJ7, HO_3, HO_292003, HO_292004, BK291, HB⟩ := hcut
 cases kq with
 | zero => exact absurd HA.out (by simp [bivouaclaw21_SightViews.j0])
 | succ kj7 =>
  have H := HA.out
  clear HA
  simp only [bivouaclaw21_SightViews.j0] at H
  by_cases c26 : x56_7 = true
  ·
   subst c26
   have H1 : (if (t311.length : Int) = 0 then (if t315 = 0 then (if t314 = 1 then (if t316 = 1 then ((bivouaclaw21_awake.f kj7).bind fun t319 => (some t319)) else (none)) else (none)) else (none)) else (none)) = some r := by rw [if_pos rfl] at H; exact H
   clear H
   have H := H1
   clear H1
   by_cases c27 : (t311.length : Int) = 0
   ·
    rw [if_pos c27] at H
    have c27b0 : ((t311.length : Int) == 0) = true := beq_iff_eq.mpr c27
    have c27b1 : ((t311.length : Int) != 0) = false := bne_eq_false_iff_eq.mpr c27
    clear c27
    by_cases c28 : t315 = 0
    ·
     rw [if_pos c28] at H
     have c28b0 : (t315 == 0) = true := beq_iff_eq.mpr c28
     have c28b1 : (t315 != 0) = false := bne_eq_false_iff_eq.mpr c28
     clear c28
     by_cases c29 : t314 = 1
     ·
      rw [if_pos c29] at H
      have c29b0 : (t314 == 1) = true := beq_iff_eq.mpr c29
      have c29b1 : (t314 != 1) = false := bne_eq_false_iff_eq.mpr c29
      clear c29
      by_cases c30 : t316 = 1
      ·
       rw [if_pos c30] at H
       have c30b0 : (t316 == 1) = true := beq_iff_eq.mpr c30
       have c30b1 : (t316 != 1) = false := bne_eq_false_iff_eq.mpr c30
       clear c30
       replace H := Option.bind_eq_some_iff.mp H
       obtain ⟨t319, A310, H⟩ := H
       replace H : (some t319) = some r := H
       have A31 := aMx38 A310
       clear A310
       obtain rfl := Option.some.inj H
       obtain ⟨Ao32, co32, eo32⟩ := Kd.R_slice HO_3.out
       subst eo32
       go_wp2_with (first | (go_at_call 13; (with_reducible refine (bivouaclaw21_awake.calls kj7  t319 _ A31.out).mono ?_); rintro e w33 ⟨rfl, hb⟩; have n0_ := aMx38 (zS (by (with_reducible repeat (first | apply zP | apply zQ | apply zR)); exact HO_3.out) hb); have n1_ := aMx38 (Kd.V_below (by (with_reducible repeat (first | apply Kd.V_alloc | apply Kd.V_drewN | apply Kd.V_drew)); exact HO_292003.out) hb); have n2_ := aMx38 (Kd.V_below (by (with_reducible repeat (first | apply Kd.V_alloc | apply Kd.V_drewN | apply Kd.V_drew)); exact HO_292004.out) hb); have n3_ := aMx38 (zI (g := gb291) (o := .cells #[.int .i64 t292, .int .i64 t293, .int .i64 t294, .slice Ao13 t295.length co13, .slice Ao14 t298.length co14, .int .i64 t301, .int .i64 t302, .int .i64 t303, .int .i64 t304, .int .i64 t305, .int .i64 t306, .int .i64 t307, .int .i64 t308, .int .i64 t309, .int .i64 t310] 29 (0, 0)) (by (with_reducible repeat (first | refine bNx38 ?_ _ | refine bDx38 ?_ | refine bKx38 ?_ _)); exact BK291.out) hb); have n4_ := aMx38 (zJ (by repeat (first | (with_reducible first | exact HB.out | apply zF | apply zB | apply zE | refine zC ?_ GE291.out) | exact HB.out)) hb); clear HO_3; clear HO_292003; clear HO_292004; clear BK291; clear HB; have HO_3 := n0_; have HO_292003 := n1_; have HO_292004 := n2_; have BK291 := n3_; have HB := n4_; clear n0_ n1_ n2_ n3_ n4_; (try clear hb); (try clear hb2); (try clear hk); (try clear hi)))
       go_ret
       exact ⟨by first | rfl | (simp [zU, zT] <;> rfl) | (simp [*, zU, zT] <;> rfl) | (rw [zW (by assumption)]; rfl), by repeat (first | (with_reducible first | exact HB.out | apply zF | apply zB | apply zE | refine zC ?_ GE291.out) | exact HB.out)⟩
      rw [if_neg c30] at H
      exact absurd H (by simp)
     rw [if_neg c29] at H
     exact absurd H (by simp)
    rw [if_neg c28] at H
    exact absurd H (by simp)
   rw [if_neg c27] at H
   exact absurd H (by simp)
  replace c26 := Bool.eq_false_iff.mpr c26
  subst c26
  have H1 : (if (t311.length : Int) = (wrap64 (t292 * t293)) then (bivouaclaw21_SightViews.j1 kj7 t311 t315 t316 (t314 != 0) t292 t293 t294 t295 t298 t301 t302 t303 t304 t305 t306 t307 t308 t309 t310) else (bivouaclaw21_SightViews.j1 kj7 t311 t315 t316 true t292 t293 t294 t295 t298 t301 t302 t303 t304 t305 t306 t307 t308 t309 t310)) = some r := by rw [if_neg (show ¬ (false = true) by decide)] at H; exact H
  clear H
  have H := H1
  clear H1
  have HC34 := aMx38 H
  clear H
  go_upto_region 9 with (fail)
  go_cut [88] (fun v88 wc => ∃ (kq : Nat) (x88_33 : Bool), v88 = .bool x88_33 ∧ Aside0 (bivouaclaw21_SightViews.j1 kq t311 t315 t316 x88_33 t292 t293 t294 t295 t298 t301 t302 t303 t304 t305 t306 t307 t308 t309 t310 = some r) ∧ Aside0 (kq ≤ kj7) ∧ Aside0 (Kd.R (Kd.int .i64) 3 wc w.heap.size (fun _ => True) v312 t311) ∧ Aside0 (Kd.V (Kd.int .u8) 5 wc w.heap.size (fun k_ => some k_ ≠ (v312 : Value).ownBlock ∧ k_ ≠ gb291) (.slice Ao13 t295.length co13) t295) ∧ Aside0 (Kd.V k27 27 wc w.heap.size (fun k_ => some k_ ≠ (v312 : Value).ownBlock ∧ k_ ≠ gb291) (.slice Ao14 t298.length co14) t298) ∧ Aside0 (wc.heap[gb291]? = some (.cells #[.int .i64 t292, .int .i64 t293, .int .i64 t294, (.slice Ao13 t295.length co13), (.slice Ao14 t298.length co14), .int .i64 t301, .int .i64 t302, .int .i64 t303, .int .i64 t304, .int .i64 t305, .int .i64 t306, .int .i64 t307, .int .i64 t308, .int .i64 t309, .int .i64 t310] 29 (0, 0))) ∧ Aside0 (Below w.heap.size w wc))
  case first =>
   have H := HC34.out
   clear HC34
   by_cases c35 : (t311.length : Int) = (wrap64 (t292 * t293))
   ·
    rw [if_pos c35] at H
    have c35b0 : ((t311.length : Int) == (wrap64 (t292 * t293))) = true := beq_iff_eq.mpr c35
    have c35b1 : ((t311.length : Int) != (wrap64 (t292 * t293))) = false := bne_eq_false_iff_eq.mpr c35
    clear c35
    (first | rw [c35b0] | (simp only [i64_w, i32_w]; rw [c35b0]) | skip)
    have H' := aMx38 H
    clear H
    obtain ⟨Ao36, co36, eo36⟩ := Kd.R_slice HO_3.out
    subst eo36
    have hcz37_0 : wc.cell? ⟨gb291, 0, none⟩ = some (.int .i64 t292) := (bCx38 BK291.out 0).trans rfl
    have hcz37_1 : wc.cell? ⟨gb291, 1, none⟩ = some (.int .i64 t293) := (bCx38 BK291.out 1).trans rfl
    have hcz37_2 : wc.cell? ⟨gb291, 2, none⟩ = some (.int .i64 t294) := (bCx38 BK291.out 2).trans rfl
    have hcz37_3 : wc.cell? ⟨gb291, 3, none⟩ = some (.slice Ao13 t295.length co13) := (bCx38 BK291.out 3).trans rfl
    have hcz37_4 : wc.cell? ⟨gb291, 4, none⟩ = some (.slice Ao14 t298.length co14) := (bCx38 BK291.out 4).trans rfl
    have hcz37_5 : wc.cell? ⟨gb291, 5, none⟩ = some (.int .i64 t301) := (bCx38 BK291.out 5).trans rfl
    have hcz37_6 : wc.cell? ⟨gb291, 6, none⟩ = some (.int .i64 t302) := (bCx38 BK291.out 6).trans rfl
    have hfz37_0 := bFx38 BK291.out 0
    have hfz37_1 := bFx38 BK291.out 1
    have hfz37_2 := bFx38 BK291.out 2
    have hfz37_3 := bFx38 BK291.out 3
    have hfz37_4 := bFx38 BK291.out 4
    have hfz37_5 := bFx38 BK291.out 5
    have hfz37_6 := bFx38 BK291.out 6
    go_wp2
    go_meet
    case rel => exact ⟨_, ((t314 != 0)), (by first | rfl | (simp; done) | (simp [*]; done)), H', ⟨by have := HJ7.out; first | omega | exact Nat.le_refl _⟩, ⟨by (with_reducible repeat (first | apply zP | apply zQ | apply zR)); exact HO_3.out⟩, ⟨by (with_reducible repeat (first | apply Kd.V_alloc | apply Kd.V_drewN | apply Kd.V_drew)); exact HO_292003.out⟩, ⟨by (with_reducible repeat (first | apply Kd.V_alloc | apply Kd.V_drewN | apply Kd.V_drew)); exact HO_292004.out⟩, ⟨by (with_reducible repeat (first | refine bNx38 ?_ _ | refine bDx38 ?_ | refine bKx38 ?_ _)); exact BK291.out⟩, ⟨by repeat (first | (with_reducible first | exact HB.out | apply zF | apply zB | apply zE | refine zC ?_ GE291.out) | exact HB.out)⟩⟩
   rw [if_neg c35] at H
   have c35b0 : ((t311.length : Int) == (wrap64 (t292 * t293))) = false := beq_eq_false_iff_ne.mpr c35
   have c35b1 : ((t311.length : Int) != (wrap64 (t292 * t293))) = true := bne_iff_ne.mpr c35
   (first | rw [c35b0] | (simp only [i64_w, i32_w]; rw [c35b0]) | skip)
   have H' := aMx38 H
   clear H
   obtain ⟨Ao38, co38, eo38⟩ := Kd.R_slice HO_3.out
   subst eo38
   have hcz39_0 : wc.cell? ⟨gb291, 0, none⟩ = some (.int .i64 t292) := (bCx38 BK291.out 0).trans rfl
   have hcz39_1 : wc.cell? ⟨gb291, 1, none⟩ = some (.int .i64 t293) := (bCx38 BK291.out 1).trans rfl
   have hcz39_2 : wc.cell? ⟨gb291, 2, none⟩ = some (.int .i64 t294) := (bCx38 BK291.out 2).trans rfl
   have hcz39_3 : wc.cell? ⟨gb291, 3, none⟩ = some (.slice Ao13 t295.length co13) := (bCx38 BK291.out 3).trans rfl
   have hcz39_4 : wc.cell? ⟨gb291, 4, none⟩ = some (.slice Ao14 t298.length co14) := (bCx38 BK291.out 4).trans rfl
   have hcz39_5 : wc.cell? ⟨gb291, 5, none⟩ = some (.int .i64 t301) := (bCx38 BK291.out 5).trans rfl
   have hcz39_6 : wc.cell? ⟨gb291, 6, none⟩ = some (.int .i64 t302) := (bCx38 BK291.out 6).trans rfl
   have hfz39_0 := bFx38 BK291.out 0
   have hfz39_1 := bFx38 BK291.out 1
   have hfz39_2 := bFx38 BK291.out 2
   have hfz39_3 := bFx38 BK291.out 3
   have hfz39_4 := bFx38 BK291.out 4
   have hfz39_5 := bFx38 BK291.out 5
   have hfz39_6 := bFx38 BK291.out 6
   go_wp2
   go_meet
   case rel => exact ⟨_, (true), (by first | rfl | (simp; done) | (simp [*]; done)), H', ⟨by have := HJ7.out; first | omega | exact Nat.le_refl _⟩, ⟨by (with_reducible repeat (first | apply zP | apply zQ | apply zR)); exact HO_3.out⟩, ⟨by (with_reducible repeat (first | apply Kd.V_alloc | apply Kd.V_drewN | apply Kd.V_drew)); exact HO_292003.out⟩, ⟨by (with_reducible repeat (first | apply Kd.V_alloc | apply Kd.V_drewN | apply Kd.V_drew)); exact HO_292004.out⟩, ⟨by (with_reducible repeat (first | refine bNx38 ?_ _ | refine bDx38 ?_ | refine bKx38 ?_ _)); exact BK291.out⟩, ⟨by repeat (first | (with_reducible first | exact HB.out | apply zF | apply zB | apply zE | refine zC ?_ GE291.out) | exact HB.out)⟩⟩
  clear HC34
  try clear c1 c2 p2 c3 p6 c7 c7b0 c7b1 c7b2 c8 c9 c10 c11 c12 c22 c23 c23b0 c26 c27 c27b0 c27b1 c28 c28b0 c28b1 c29 c29b0 c29b1 c30 c30b0 c30b1 c35 c35b0 c35b1 hcz10_0 hcz10_1 hcz10_10 hcz10_11 hcz10_12 hcz10_13 hcz10_14 hcz10_2 hcz10_3 hcz10_4 hcz10_5 hcz10_6 hcz10_7 hcz10_8 hcz10_9 hcz12_0 hcz12_1 hcz12_10 hcz12_11 hcz12_12 hcz12_13 hcz12_14 hcz12_2 hcz12_3 hcz12_4 hcz12_5 hcz12_6 hcz12_7 hcz12_8 hcz12_9 hcz16_0 hcz16_1 hcz16_2 hcz16_3 hcz16_4 hcz16_5 hcz16_6 hcz18_0 hcz18_1 hcz18_2 hcz18_3 hcz18_4 hcz18_5 hcz18_6 hcz20_0 hcz20_1 hcz20_2 hcz20_3 hcz20_4 hcz20_5 hcz20_6 hcz24_0 hcz24_1 hcz24_2 hcz24_3 hcz24_4 hcz24_5 hcz24_6 hcz25_0 hcz25_1 hcz25_2 hcz25_3 hcz25_4 hcz25_5 hcz25_6 hcz37_0 hcz37_1 hcz37_2 hcz37_3 hcz37_4 hcz37_5 hcz37_6 hcz39_0 hcz39_1 hcz39_2 hcz39_3 hcz39_4 hcz39_5 hcz39_6 hfz10_0 hfz10_1 hfz10_10 hfz10_11 hfz10_12 hfz10_13 hfz10_14 hfz10_2 hfz10_3 hfz10_4 hfz10_5 hfz10_6 hfz10_7 hfz10_8 hfz10_9 hfz12_0 hfz12_1 hfz12_10 hfz12_11 hfz12_12 hfz12_13 hfz12_14 hfz12_2 hfz12_3 hfz12_4 hfz12_5 hfz12_6 hfz12_7 hfz12_8 hfz12_9 hfz16_0 hfz16_1 hfz16_2 hfz16_3 hfz16_4 hfz16_5 hfz16_6 hfz18_0 hfz18_1 hfz18_2 hfz18_3 hfz18_4 hfz18_5 hfz18_6 hfz20_0 hfz20_1 hfz20_2 hfz20_3 hfz20_4 hfz20_5 hfz20_6 hfz24_0 hfz24_1 hfz24_2 hfz24_3 hfz24_4 hfz24_5 hfz24_6 hfz25_0 hfz25_1 hfz25_2 hfz25_3 hfz25_4 hfz25_5 hfz25_6 hfz37_0 hfz37_1 hfz37_2 hfz37_3 hfz37_4 hfz37_5 hfz37_6 hfz39_0 hfz39_1 hfz39_2 hfz39_3 hfz39_4 hfz39_5 hfz39_6 p2
  obtain ⟨kq, x88_33, rfl, HA, HJ33, HO_3, HO_292003, HO_292004, BK291, HB⟩ := hcut
  cases kq with
  | zero => exact absurd HA.out (by simp [bivouaclaw21_SightViews.j1])
  | succ kj33 =>
   have H := HA.out
   clear HA
   simp only [bivouaclaw21_SightViews.j1] at H
   by_cases c40 : x88_33 = true
   ·
    subst c40
    have H1 : (none) = some r := by rw [if_pos rfl] at H; exact H
    clear H
    have H := H1
    clear H1
    exact absurd H (by simp)
   replace c40 := Bool.eq_false_iff.mpr c40
   subst c40
   have H1 : (bivouaclaw21_SightViews.l0 kj33 t311 t315 t316 0 t292 t293 t294 t295 t298 t301 t302 t303 t304 t305 t306 t307 t308 t309 t310) = some r := by rw [if_neg (show ¬ (false = true) by decide)] at H; exact H
   clear H
   have H := H1
   clear H1
   have H' := aMx38 H
   clear H
   go_wp2
   go_loopg [8] kj33 (fun kq v8 w' => ∃ (x8_3 : Int), v8 = .int .i64 x8_3 ∧ Aside0 (bivouaclaw21_SightViews.l0 kq t311 t315 t316 x8_3 t292 t293 t294 t295 t298 t301 t302 t303 t304 t305 t306 t307 t308 t309 t310 = some r) ∧ Aside0 (kq ≤ kj33) ∧ Aside0 (Kd.R (Kd.int .i64) 3 w' w.heap.size (fun _ => True) v312 t311) ∧ Aside0 (Kd.V (Kd.int .u8) 5 w' w.heap.size (fun k_ => some k_ ≠ (v312 : Value).ownBlock ∧ k_ ≠ gb291) (.slice Ao13 t295.length co13) t295) ∧ Aside0 (Kd.V k27 27 w' w.heap.size (fun k_ => some k_ ≠ (v312 : Value).ownBlock ∧ k_ ≠ gb291) (.slice Ao14 t298.length co14) t298) ∧ Aside0 (w'.heap[gb291]? = some (.cells #[.int .i64 t292, .int .i64 t293, .int .i64 t294, (.slice Ao13 t295.length co13), (.slice Ao14 t298.length co14), .int .i64 t301, .int .i64 t302, .int .i64 t303, .int .i64 t304, .int .i64 t305, .int .i64 t306, .int .i64 t307, .int .i64 t308, .int .i64 t309, .int .i64 t310] 29 (0, 0))) ∧ Aside0 (Below w.heap.size w w'))
   case atStart => exact ⟨(0), (by first | rfl | (simp; done) | (simp [*]; done)), H', ⟨Nat.le_refl _⟩, ⟨by (with_reducible repeat (first | apply zP | apply zQ | apply zR)); exact HO_3.out⟩, ⟨by (with_reducible repeat (first | apply Kd.V_alloc | apply Kd.V_drewN | apply Kd.V_drew)); exact HO_292003.out⟩, ⟨by (with_reducible repeat (first | apply Kd.V_alloc | apply Kd.V_drewN | apply Kd.V_drew)); exact HO_292004.out⟩, ⟨by (with_reducible repeat (first | refine bNx38 ?_ _ | refine bDx38 ?_ | refine bKx38 ?_ _)); exact BK291.out⟩, ⟨by repeat (first | (with_reducible first | exact HB.out | apply zF | apply zB | apply zE | refine zC ?_ GE291.out) | exact HB.out)⟩⟩
   clear H'
   try clear c1 c2 p2 c3 c4 p6 c7 c7b0 c7b1 c7b2 c8 c9 c10 c11 c12 c22 c23 c23b0 c26 c27 c27b0 c27b1 c28 c28b0 c28b1 c29 c29b0 c29b1 c30 c30b0 c30b1 c35 c35b0 c35b1 c40 hcz10_0 hcz10_1 hcz10_10 hcz10_11 hcz10_12 hcz10_13 hcz10_14 hcz10_2 hcz10_3 hcz10_4 hcz10_5 hcz10_6 hcz10_7 hcz10_8 hcz10_9 hcz12_0 hcz12_1 hcz12_10 hcz12_11 hcz12_12 hcz12_13 hcz12_14 hcz12_2 hcz12_3 hcz12_4 hcz12_5 hcz12_6 hcz12_7 hcz12_8 hcz12_9 hcz16_0 hcz16_1 hcz16_2 hcz16_3 hcz16_4 hcz16_5 hcz16_6 hcz18_0 hcz18_1 hcz18_2 hcz18_3 hcz18_4 hcz18_5 hcz18_6 hcz20_0 hcz20_1 hcz20_2 hcz20_3 hcz20_4 hcz20_5 hcz20_6 hcz24_0 hcz24_1 hcz24_2 hcz24_3 hcz24_4 hcz24_5 hcz24_6 hcz25_0 hcz25_1 hcz25_2 hcz25_3 hcz25_4 hcz25_5 hcz25_6 hcz37_0 hcz37_1 hcz37_2 hcz37_3 hcz37_4 hcz37_5 hcz37_6 hcz39_0 hcz39_1 hcz39_2 hcz39_3 hcz39_4 hcz39_5 hcz39_6 hfz10_0 hfz10_1 hfz10_10 hfz10_11 hfz10_12 hfz10_13 hfz10_14 hfz10_2 hfz10_3 hfz10_4 hfz10_5 hfz10_6 hfz10_7 hfz10_8 hfz10_9 hfz12_0 hfz12_1 hfz12_10 hfz12_11 hfz12_12 hfz12_13 hfz12_14 hfz12_2 hfz12_3 hfz12_4 hfz12_5 hfz12_6 hfz12_7 hfz12_8 hfz12_9 hfz16_0 hfz16_1 hfz16_2 hfz16_3 hfz16_4 hfz16_5 hfz16_6 hfz18_0 hfz18_1 hfz18_2 hfz18_3 hfz18_4 hfz18_5 hfz18_6 hfz20_0 hfz20_1 hfz20_2 hfz20_3 hfz20_4 hfz20_5 hfz20_6 hfz24_0 hfz24_1 hfz24_2 hfz24_3 hfz24_4 hfz24_5 hfz24_6 hfz25_0 hfz25_1 hfz25_2 hfz25_3 hfz25_4 hfz25_5 hfz25_6 hfz37_0 hfz37_1 hfz37_2 hfz37_3 hfz37_4 hfz37_5 hfz37_6 hfz39_0 hfz39_1 hfz39_2 hfz39_3 hfz39_4 hfz39_5 hfz39_6 p2 p6
   obtain ⟨x8_3, rfl, HA, HK3, HO_3, HO_292003, HO_292004, BK291, HB⟩ := hrel
   cases gk with
   | zero => exact absurd HA.out (by simp [bivouaclaw21_SightViews.l0])
   | succ k3 =>
    have H := HA.out
    clear HA
    simp only [bivouaclaw21_SightViews.l0] at H
    by_cases c41 : x8_3 < (t311.length : Int)
    ·
     rw [if_pos c41] at H
     have c41b0 : decide (x8_3 < (t311.length : Int)) = true := decide_eq_true c41
     clear c41
     by_cases c42 : 0 ≤ x8_3
     ·
      rw [if_pos c42] at H
      have c42b0 : decide (0 ≤ x8_3) = true := decide_eq_true c42
      clear c42
      by_cases c43 : t292 = 0
      ·
       rw [if_pos c43] at H
       exact absurd H (by simp)
      rw [if_neg c43] at H
      have c43b0 : (t292 == 0) = false := beq_eq_false_iff_ne.mpr c43
      have c43b1 : (t292 != 0) = true := bne_iff_ne.mpr c43
      replace H := Option.bind_eq_some_iff.mp H
      obtain ⟨t321, A440, H⟩ := H
      replace H : (if (rd t311 x8_3) = t321 then (bivouaclaw21_SightViews.l0 k3 t311 t315 t316 (wrap64 (x8_3 + 1)) t292 t293 t294 t295 t298 t301 t302 t303 t304 t305 t306 t307 t308 t309 t310) else (none)) = some r := H
      have A44 := aMx38 A440
      clear A440
      by_cases c45 : (rd t311 x8_3) = t321
      ·
       rw [if_pos c45] at H
       have c45b0 : ((rd t311 x8_3) == t321) = true := beq_iff_eq.mpr c45
       have c45b1 : ((rd t311 x8_3) != t321) = false := bne_eq_false_iff_eq.mpr c45
       clear c45
       have H' := aMx38 H
       clear H
       obtain ⟨Ao46, co46, eo46⟩ := Kd.R_slice HO_3.out
       subst eo46
       try go_wp2
       have n0_ := aMx38 (zR HO_3.out)
       have n1_ := aMx38 (Kd.V_drew HO_292003.out)
       have n2_ := aMx38 (Kd.V_drew HO_292004.out)
       have n3_ := aMx38 (bDx38 BK291.out)
       have n4_ := aMx38 (zE HB.out)
       clear HO_3
       clear HO_292003
       clear HO_292004
       clear BK291
       clear HB
       have HO_3 := n0_
       have HO_292003 := n1_
       have HO_292004 := n2_
       have BK291 := n3_
       have HB := n4_
       clear n0_ n1_ n2_ n3_ n4_
       have p320 : 0 ≤ (x8_3 : Int) := of_decide_eq_true (by first | (with_reducible assumption) | assumption)
       have q320 : x8_3 < (t311.length : Int) := of_decide_eq_true (by first | (with_reducible assumption) | assumption)
       obtain ⟨ad320, e320, hx320_0⟩ := Kd.at_int (Kd.R_reads' HO_3.out).2.2 x8_3 p320 q320
       cases e320
       replace p320 := eq_true p320
       replace q320 := eq_true q320
       refine start_ (n := 22) (S := fun w' => w'.cell? ⟨gb291, 0, none⟩ = some (.int .i64 t292) ∧ w'.cell? ⟨gb291, 1, none⟩ = some (.int .i64 t293) ∧ w'.cell? ⟨gb291, 2, none⟩ = some (.int .i64 t294) ∧ w'.cell? ⟨gb291, 3, none⟩ = some (.slice Ao13 t295.length co13) ∧ w'.cell? ⟨gb291, 4, none⟩ = some (.slice Ao14 t298.length co14) ∧ w'.cell? ⟨gb291, 5, none⟩ = some (.int .i64 t301) ∧ w'.cell? ⟨gb291, 6, none⟩ = some (.int .i64 t302) ∧ w'.cell? ⟨gb291, 7, none⟩ = some (.int .i64 t303) ∧ w'.cell? ⟨gb291, 8, none⟩ = some (.int .i64 t304) ∧ w'.cell? ⟨gb291, 9, none⟩ = some (.int .i64 t305) ∧ w'.cell? ⟨gb291, 10, none⟩ = some (.int .i64 t306) ∧ w'.cell? ⟨gb291, 11, none⟩ = some (.int .i64 t307) ∧ w'.cell? ⟨gb291, 12, none⟩ = some (.int .i64 t308) ∧ w'.cell? ⟨gb291, 13, none⟩ = some (.int .i64 t309) ∧ w'.cell? ⟨gb291, 14, none⟩ = some (.int .i64 t310) ∧ w'.cell? (ad320.add (x8_3).toNat) = some (.int .i64 (rd t311 x8_3))) (ds := []) (bA 22 0) (by kernel_rfl) rfl rfl ⟨(bCx38 BK291.out 0).trans rfl, (bCx38 BK291.out 1).trans rfl, (bCx38 BK291.out 2).trans rfl, (bCx38 BK291.out 3).trans rfl, (bCx38 BK291.out 4).trans rfl, (bCx38 BK291.out 5).trans rfl, (bCx38 BK291.out 6).trans rfl, (bCx38 BK291.out 7).trans rfl, (bCx38 BK291.out 8).trans rfl, (bCx38 BK291.out 9).trans rfl, (bCx38 BK291.out 10).trans rfl, (bCx38 BK291.out 11).trans rfl, (bCx38 BK291.out 12).trans rfl, (bCx38 BK291.out 13).trans rfl, (bCx38 BK291.out 14).trans rfl, hx320_0⟩ (fun hHeld => ?_); refine with_tabW bivouaclaw21_SightViews.tab14 bivouaclaw21_SightViews.bits14 (fun HT_ HW_ => ?_)
       generalize wr.drew = w47 at HO_3 HO_292003 HO_292004 BK291 HB hx320_0 hHeld ⊢
       refine pure_ (i := 0) (N := some 95) (v := ?_) (a' := ?_) (bA 22 1) rfl rfl (any_of HT_.out (by kernel_rfl)) (fun _ _ _ h => h) (Or.inl ⟨by rfl, ?_⟩) ?_ ?_
       rotate_left
       ·
        intro w'
        go_simp
        with_reducible rfl
       rotate_left
       ·
        simp only [Act.put, sA, sB, sC, i64_w, i32_w]
        rfl
       refine pure_ (i := 1) (N := some 96) (v := ?_) (a' := ?_) (bA 22 3) rfl rfl (any_of HT_.out (by kernel_rfl)) (fun _ _ _ h => h) (Or.inl ⟨by rfl, ?_⟩) ?_ ?_
       rotate_left
       ·
        intro w'
        go_simp
        with_reducible rfl
       rotate_left
       ·
        simp only [Act.put, sA, sB, sC, i64_w, i32_w]
        rfl
       refine pure_ (i := 2) (N := some 97) (v := ?_) (a' := ?_) (bA 22 7) rfl rfl (any_of HT_.out (by kernel_rfl)) (fun _ _ _ h => h) (Or.inl ⟨by rfl, ?_⟩) ?_ ?_
       rotate_left
       ·
        intro w'
        go_simp
        with_reducible rfl
       rotate_left
       ·
        simp only [Act.put, sA, sB, sC, i64_w, i32_w]
        rfl
       refine pure_ (i := 4) (N := some 99) (v := ?_) (a' := ?_) (bA 22 23) rfl rfl (any_of HT_.out (by kernel_rfl)) (fun _ _ _ h => h) (Or.inl ⟨by rfl, ?_⟩) ?_ ?_
       rotate_left
       ·
        intro w'
        go_simp
        with_reducible rfl
       rotate_left
       ·
        simp only [Act.put, sA, sB, sC, i64_w, i32_w]
        rfl
       refine pure_ (i := 6) (N := some 101) (v := ?_) (a' := ?_) (bA 22 87) rfl rfl (any_of HT_.out (by kernel_rfl)) (fun _ _ _ h => h) (Or.inl ⟨by rfl, ?_⟩) ?_ ?_
       rotate_left
       ·
        intro w'
        go_simp
        with_reducible rfl
       rotate_left
       ·
        simp only [Act.put, sA, sB, sC, i64_w, i32_w]
        rfl
       refine pure_ (i := 8) (N := some 103) (v := ?_) (a' := ?_) (bA 22 343) rfl rfl (any_of HT_.out (by kernel_rfl)) (fun _ _ _ h => h) (Or.inl ⟨by rfl, ?_⟩) ?_ ?_
       rotate_left
       ·
        intro w'
        go_simp
        with_reducible rfl
       rotate_left
       ·
        simp only [Act.put, sA, sB, sC, i64_w, i32_w]
        rfl
       refine pure_ (i := 10) (N := some 105) (v := ?_) (a' := ?_) (bA 22 1367) rfl rfl (any_of HT_.out (by kernel_rfl)) (fun _ _ _ h => h) (Or.inl ⟨by rfl, ?_⟩) ?_ ?_
       rotate_left
       ·
        intro w'
        go_simp
        with_reducible rfl
       rotate_left
       ·
        simp only [Act.put, sA, sB, sC, i64_w, i32_w]
        rfl
       refine pure_ (i := 11) (N := some 106) (v := ?_) (a' := ?_) (bA 22 3415) rfl rfl (any_of HT_.out (by kernel_rfl)) (fun _ _ _ h => h) (Or.inl ⟨by rfl, ?_⟩) ?_ ?_
       rotate_left
       ·
        intro w'
        go_simp
        with_reducible rfl
       rotate_left
       ·
        simp only [Act.put, sA, sB, sC, i64_w, i32_w]
        rfl
       refine pure_ (i := 12) (N := some 107) (v := ?_) (a' := ?_) (bA 22 7511) rfl rfl (any_of HT_.out (by kernel_rfl)) (fun _ _ _ h => h) (Or.inl ⟨by rfl, ?_⟩) ?_ ?_
       rotate_left
       ·
        intro w'
        go_simp
        with_reducible rfl
       rotate_left
       ·
        simp only [Act.put, sA, sB, sC, i64_w, i32_w]
        rfl
       refine pure_ (i := 15) (N := some 110) (v := ?_) (a' := ?_) (bA 22 40279) rfl rfl (any_of HT_.out (by kernel_rfl)) (fun _ _ _ h => h) (Or.inl ⟨by rfl, ?_⟩) ?_ ?_
       rotate_left
       ·
        intro w'
        go_simp
        with_reducible rfl
       rotate_left
       ·
        simp only [Act.put, sA, sB, sC, i64_w, i32_w]
        rfl
       refine pure_ (i := 16) (N := some 111) (v := ?_) (a' := ?_) (bA 22 105815) rfl rfl (any_of HT_.out (by kernel_rfl)) (fun _ _ _ h => h) (Or.inl ⟨by rfl, ?_⟩) ?_ ?_
       rotate_left
       ·
        intro w'
        go_simp
        with_reducible rfl
       rotate_left
       ·
        simp only [Act.put, sA, sB, sC, i64_w, i32_w]
        rfl
       refine pure_ (i := 17) (N := some 112) (v := ?_) (a' := ?_) (bA 22 236887) rfl rfl (any_of HT_.out (by kernel_rfl)) (fun _ _ _ h => h) (Or.inl ⟨by rfl, ?_⟩) ?_ ?_
       rotate_left
       ·
        intro w'
        go_simp
        with_reducible rfl
       rotate_left
       ·
        simp only [Act.put, sA, sB, sC, i64_w, i32_w]
        rfl
       refine take_ (i := 3) (N := some 98) (v := ?_) (a' := ?_) (bA 22 236895) rfl rfl (take_ofW HT_.out HW_.out (by kernel_rfl)) (fun _ _ _ h => h) (Or.inl ⟨by rfl, ?_⟩) hHeld ?_ ?_
       rotate_left
       ·
        rintro w' ⟨s0, s1, s2, s3, s4, s5, s6, s7, s8, s9, s10, s11, s12, s13, s14, s15⟩
        go_simp
        with_reducible rfl
       rotate_left
       ·
        simp only [Act.put, sA, sB, sC, i64_w, i32_w]
        rfl
       refine take_ (i := 5) (N := some 100) (v := ?_) (a' := ?_) (bA 22 236927) rfl rfl (take_ofW HT_.out HW_.out (by kernel_rfl)) (fun _ _ _ h => h) (Or.inl ⟨by rfl, ?_⟩) hHeld ?_ ?_
       rotate_left
       ·
        rintro w' ⟨s0, s1, s2, s3, s4, s5, s6, s7, s8, s9, s10, s11, s12, s13, s14, s15⟩
        go_simp
        with_reducible rfl
       rotate_left
       ·
        simp only [Act.put, sA, sB, sC, i64_w, i32_w]
        rfl
       refine take_ (i := 7) (N := some 102) (v := ?_) (a' := ?_) (bA 22 237055) rfl rfl (take_ofW HT_.out HW_.out (by kernel_rfl)) (fun _ _ _ h => h) (Or.inl ⟨by rfl, ?_⟩) hHeld ?_ ?_
       rotate_left
       ·
        rintro w' ⟨s0, s1, s2, s3, s4, s5, s6, s7, s8, s9, s10, s11, s12, s13, s14, s15⟩
        go_simp
        with_reducible rfl
       rotate_left
       ·
        simp only [Act.put, sA, sB, sC, i64_w, i32_w]
        rfl
       refine take_ (i := 9) (N := some 104) (v := ?_) (a' := ?_) (bA 22 237567) rfl rfl (take_ofW HT_.out HW_.out (by kernel_rfl)) (fun _ _ _ h => h) (Or.inl ⟨by rfl, ?_⟩) hHeld ?_ ?_
       rotate_left
       ·
        rintro w' ⟨s0, s1, s2, s3, s4, s5, s6, s7, s8, s9, s10, s11, s12, s13, s14, s15⟩
        go_simp
        with_reducible rfl
       rotate_left
       ·
        simp only [Act.put, sA, sB, sC, i64_w, i32_w]
        rfl
       refine take_ (i := 13) (N := some 108) (v := ?_) (a' := ?_) (bA 22 245759) rfl rfl (take_ofW HT_.out HW_.out (by kernel_rfl)) (fun _ _ _ h => h) (Or.inl ⟨by rfl, ?_⟩) hHeld ?_ ?_
       rotate_left
       ·
        rintro w' ⟨s0, s1, s2, s3, s4, s5, s6, s7, s8, s9, s10, s11, s12, s13, s14, s15⟩
        go_simp
        with_reducible rfl
       rotate_left
       ·
        simp only [Act.put, sA, sB, sC, i64_w, i32_w]
        rfl
       refine pure_ (i := 14) (N := some 109) (v := ?_) (a' := ?_) (bA 22 262143) rfl rfl (any_of HT_.out (by kernel_rfl)) (fun _ _ _ h => h) (Or.inl ⟨by rfl, ?_⟩) ?_ ?_
       rotate_left
       ·
        intro w'
        go_simp
        with_reducible rfl
       rotate_left
       ·
        simp only [Act.put, sA, sB, sC, i64_w, i32_w]
        rfl
       refine take_ (i := 18) (N := some 113) (v := ?_) (a' := ?_) (bA 22 524287) rfl rfl (take_ofW HT_.out HW_.out (by kernel_rfl)) (fun _ _ _ h => h) (Or.inl ⟨by rfl, ?_⟩) hHeld ?_ ?_
       rotate_left
       ·
        rintro w' ⟨s0, s1, s2, s3, s4, s5, s6, s7, s8, s9, s10, s11, s12, s13, s14, s15⟩
        go_simp
        with_reducible rfl
       rotate_left
       ·
        simp only [Act.put, sA, sB, sC, i64_w, i32_w]
        rfl
       refine pure_ (i := 19) (N := some 114) (v := ?_) (a' := ?_) (bA 22 1048575) rfl rfl (any_of HT_.out (by kernel_rfl)) (fun _ _ _ h => h) (Or.inl ⟨by rfl, ?_⟩) ?_ ?_
       rotate_left
       ·
        intro w'
        go_simp
        with_reducible rfl
       rotate_left
       ·
        simp only [Act.put, sA, sB, sC, i64_w, i32_w]
        rfl
       refine one_ (i := 20) (N := some 115) (bA 22 2097151) rfl rfl (one_of HT_.out (by kernel_rfl)) (by decide) (fun K hK => ?_)
       refine goes_ Try.func14 (by kernel_rfl) rfl #[.agg #[.int .i64 t292, .int .i64 t293, .int .i64 t294, .slice Ao13 t295.length co13], .slice Ao14 t298.length co14, .int .i64 t301, .int .i64 (Int.tmod x8_3 t292), .int .i64 (wrap64 (Int.tdiv x8_3 t292))] (by rfl) rfl rfl (by (try simp only [List.map_toArray, List.map_cons, List.map_nil]); first | done | rfl | (simp only [List.length_drop, List.length_take]; rfl)) ?_
       with_reducible refine (bivouacref21_Known.calls k3 t292 t293 t294 _ _ t295 _ _ t298 t301 (Int.tmod x8_3 t292) (wrap64 (Int.tdiv x8_3 t292)) t321 _ ?side1 ?side2 ?side3 ?side4 A44.out).mono ?_
       (case side1 => repeat (first | exact (Kd.V_reads' HO_292003.out).2.2 | (with_reducible refine Kd.C_alloc ?_ _) | (with_reducible refine Kd.C_drewN ?_ _) | (with_reducible refine Kd.C_drew ?_)))
       (case side2 => exact (Kd.V_reads' HO_292003.out).2.1)
       (case side3 => repeat (first | exact (Kd.V_reads' HO_292004.out).2.2 | (with_reducible refine Kd.C_alloc ?_ _) | (with_reducible refine Kd.C_drewN ?_ _) | (with_reducible refine Kd.C_drew ?_)))
       (case side4 => exact (Kd.V_reads' HO_292004.out).2.1)
       rintro e w48 ⟨rfl, hb⟩
       have HS15_ := (hb.cell (zH _ _ (hHeld.2.2.2.2.2.2.2.2.2.2.2.2.2.2.2))).trans (hHeld.2.2.2.2.2.2.2.2.2.2.2.2.2.2.2)
       refine ⟨_, rfl, ?_⟩
       have n0_ := aMx38 (zS (by (with_reducible repeat (first | apply zP | apply zQ | apply zR)); exact HO_3.out) hb)
       have n1_ := aMx38 (Kd.V_below (by (with_reducible repeat (first | apply Kd.V_alloc | apply Kd.V_drewN | apply Kd.V_drew)); exact HO_292003.out) hb)
       have n2_ := aMx38 (Kd.V_below (by (with_reducible repeat (first | apply Kd.V_alloc | apply Kd.V_drewN | apply Kd.V_drew)); exact HO_292004.out) hb)
       have n3_ := aMx38 (zI (g := gb291) (o := .cells #[.int .i64 t292, .int .i64 t293, .int .i64 t294, .slice Ao13 t295.length co13, .slice Ao14 t298.length co14, .int .i64 t301, .int .i64 t302, .int .i64 t303, .int .i64 t304, .int .i64 t305, .int .i64 t306, .int .i64 t307, .int .i64 t308, .int .i64 t309, .int .i64 t310] 29 (0, 0)) (by (with_reducible repeat (first | refine bNx38 ?_ _ | refine bDx38 ?_ | refine bKx38 ?_ _)); exact BK291.out) hb)
       have n4_ := aMx38 (zJ (by repeat (first | (with_reducible first | exact HB.out | apply zF | apply zB | apply zE | refine zC ?_ GE291.out) | exact HB.out)) hb)
       clear HO_3
       clear HO_292003
       clear HO_292004
       clear BK291
       clear HB
       have HO_3 := n0_
       have HO_292003 := n1_
       have HO_292004 := n2_
       have BK291 := n3_
       have HB := n4_
       clear n0_ n1_ n2_ n3_ n4_
       (try clear hb)
       (try clear hb2)
       (try clear hk)
       (try clear hi)
       refine hK.out _ _ ⟨(bCx38 BK291.out 0).trans rfl, (bCx38 BK291.out 1).trans rfl, (bCx38 BK291.out 2).trans rfl, (bCx38 BK291.out 3).trans rfl, (bCx38 BK291.out 4).trans rfl, (bCx38 BK291.out 5).trans rfl, (bCx38 BK291.out 6).trans rfl, (bCx38 BK291.out 7).trans rfl, (bCx38 BK291.out 8).trans rfl, (bCx38 BK291.out 9).trans rfl, (bCx38 BK291.out 10).trans rfl, (bCx38 BK291.out 11).trans rfl, (bCx38 BK291.out 12).trans rfl, (bCx38 BK291.out 13).trans rfl, (bCx38 BK291.out 14).trans rfl, HS15_⟩ (fun hHeld => ?_)
       clear hK K
       refine norm_ (a' := ?_) ?_ ?_
       rotate_left
       ·
        show Act.put _ (some 115) _ = _
        simp only [Act.put, sA, sB, sC, i64_w, i32_w]
        rfl
       refine pure_ (i := 21) (N := some 116) (v := ?_) (a' := ?_) (bA 22 4194303) rfl rfl (any_of HT_.out (by kernel_rfl)) (fun _ _ _ h => h) (Or.inl ⟨by rfl, ?_⟩) ?_ ?_
       rotate_left
       ·
        intro w'
        go_simp
        with_reducible rfl
       rotate_left
       ·
        simp only [Act.put, sA, sB, sC, i64_w, i32_w]
        rfl
       refine done_ (done_of HT_.out (by kernel_rfl)) ?_
       try go_wp2
       go_roundg k3
       case measure => have := HJ7.out; have := HJ33.out; have := HK3.out; omega
       case rel => exact ⟨(wrap64 (x8_3 + 1)), (by first | rfl | (simp; done) | (simp [*]; done)), H', ⟨by have := HJ7.out; have := HJ33.out; have := HK3.out; omega⟩, ⟨by (with_reducible repeat (first | apply zP | apply zQ | apply zR)); exact HO_3.out⟩, ⟨by (with_reducible repeat (first | apply Kd.V_alloc | apply Kd.V_drewN | apply Kd.V_drew)); exact HO_292003.out⟩, ⟨by (with_reducible repeat (first | apply Kd.V_alloc | apply Kd.V_drewN | apply Kd.V_drew)); exact HO_292004.out⟩, ⟨by (with_reducible repeat (first | refine bNx38 ?_ _ | refine bDx38 ?_ | refine bKx38 ?_ _)); exact BK291.out⟩, ⟨by repeat (first | (with_reducible first | exact HB.out | apply zF | apply zB | apply zE | refine zC ?_ GE291.out) | exact HB.out)⟩⟩
      rw [if_neg c45] at H
      exact absurd H (by simp)
     rw [if_neg c42] at H
     exact absurd H (by simp)
    rw [if_neg c41] at H
    have c41b0 : decide (x8_3 < (t311.length : Int)) = false := decide_eq_false c41
    clear c41
    have HC49 := aMx38 H
    clear H
    obtain ⟨Ao50, co50, eo50⟩ := Kd.R_slice HO_3.out
    subst eo50
    go_upto_region 16 with (fail)
    go_cut [126] (fun v126 wc => ∃ (kq : Nat) (x126_48 : Bool), v126 = .bool x126_48 ∧ Aside0 (bivouaclaw21_SightViews.j3 kq t311 t315 t316 x126_48 t292 t293 t294 t295 t298 t301 t302 t303 t304 t305 t306 t307 t308 t309 t310 = some r) ∧ Aside0 (kq ≤ k3) ∧ Aside0 (Kd.R (Kd.int .i64) 3 wc w.heap.size (fun _ => True) (.slice Ao50 t311.length co50) t311) ∧ Aside0 (Kd.V (Kd.int .u8) 5 wc w.heap.size (fun k_ => some k_ ≠ ((.slice Ao50 t311.length co50) : Value).ownBlock ∧ k_ ≠ gb291) (.slice Ao13 t295.length co13) t295) ∧ Aside0 (Kd.V k27 27 wc w.heap.size (fun k_ => some k_ ≠ ((.slice Ao50 t311.length co50) : Value).ownBlock ∧ k_ ≠ gb291) (.slice Ao14 t298.length co14) t298) ∧ Aside0 (wc.heap[gb291]? = some (.cells #[.int .i64 t292, .int .i64 t293, .int .i64 t294, (.slice Ao13 t295.length co13), (.slice Ao14 t298.length co14), .int .i64 t301, .int .i64 t302, .int .i64 t303, .int .i64 t304, .int .i64 t305, .int .i64 t306, .int .i64 t307, .int .i64 t308, .int .i64 t309, .int .i64 t310] 29 (0, 0))) ∧ Aside0 (Below w.heap.size w wc))
    case first =>
     have H := HC49.out
     clear HC49
     by_cases c51 : t302 < 0
     ·
      rw [if_pos c51] at H
      have c51b0 : decide (t302 < 0) = true := decide_eq_true c51
      clear c51
      (first | rw [c51b0] | (simp only [i64_w, i32_w]; rw [c51b0]) | skip)
      have H' := aMx38 H
      clear H
      have hcz52_0 : wr.cell? ⟨gb291, 0, none⟩ = some (.int .i64 t292) := (bCx38 BK291.out 0).trans rfl
      have hcz52_1 : wr.cell? ⟨gb291, 1, none⟩ = some (.int .i64 t293) := (bCx38 BK291.out 1).trans rfl
      have hcz52_2 : wr.cell? ⟨gb291, 2, none⟩ = some (.int .i64 t294) := (bCx38 BK291.out 2).trans rfl
      have hcz52_3 : wr.cell? ⟨gb291, 3, none⟩ = some (.slice Ao13 t295.length co13) := (bCx38 BK291.out 3).trans rfl
      have hcz52_4 : wr.cell? ⟨gb291, 4, none⟩ = some (.slice Ao14 t298.length co14) := (bCx38 BK291.out 4).trans rfl
      have hcz52_5 : wr.cell? ⟨gb291, 5, none⟩ = some (.int .i64 t301) := (bCx38 BK291.out 5).trans rfl
      have hcz52_6 : wr.cell? ⟨gb291, 6, none⟩ = some (.int .i64 t302) := (bCx38 BK291.out 6).trans rfl
      have hfz52_0 := bFx38 BK291.out 0
      have hfz52_1 := bFx38 BK291.out 1
      have hfz52_2 := bFx38 BK291.out 2
      have hfz52_3 := bFx38 BK291.out 3
      have hfz52_4 := bFx38 BK291.out 4
      have hfz52_5 := bFx38 BK291.out 5
      have hfz52_6 := bFx38 BK291.out 6
      go_wp2
      go_meet
      case rel => exact ⟨_, (true), (by first | rfl | (simp; done) | (simp [*]; done)), H', ⟨by have := HJ7.out; have := HJ33.out; have := HK3.out; first | omega | exact Nat.le_refl _⟩, ⟨by (with_reducible repeat (first | apply zP | apply zQ | apply zR)); exact HO_3.out⟩, ⟨by (with_reducible repeat (first | apply Kd.V_alloc | apply Kd.V_drewN | apply Kd.V_drew)); exact HO_292003.out⟩, ⟨by (with_reducible repeat (first | apply Kd.V_alloc | apply Kd.V_drewN | apply Kd.V_drew)); exact HO_292004.out⟩, ⟨by (with_reducible repeat (first | refine bNx38 ?_ _ | refine bDx38 ?_ | refine bKx38 ?_ _)); exact BK291.out⟩, ⟨by repeat (first | (with_reducible first | exact HB.out | apply zF | apply zB | apply zE | refine zC ?_ GE291.out) | exact HB.out)⟩⟩
     rw [if_neg c51] at H
     have c51b0 : decide (t302 < 0) = false := decide_eq_false c51
     clear c51
     (first | rw [c51b0] | (simp only [i64_w, i32_w]; rw [c51b0]) | skip)
     have H' := aMx38 H
     clear H
     have hcz53_0 : wr.cell? ⟨gb291, 0, none⟩ = some (.int .i64 t292) := (bCx38 BK291.out 0).trans rfl
     have hcz53_1 : wr.cell? ⟨gb291, 1, none⟩ = some (.int .i64 t293) := (bCx38 BK291.out 1).trans rfl
     have hcz53_2 : wr.cell? ⟨gb291, 2, none⟩ = some (.int .i64 t294) := (bCx38 BK291.out 2).trans rfl
     have hcz53_3 : wr.cell? ⟨gb291, 3, none⟩ = some (.slice Ao13 t295.length co13) := (bCx38 BK291.out 3).trans rfl
     have hcz53_4 : wr.cell? ⟨gb291, 4, none⟩ = some (.slice Ao14 t298.length co14) := (bCx38 BK291.out 4).trans rfl
     have hcz53_5 : wr.cell? ⟨gb291, 5, none⟩ = some (.int .i64 t301) := (bCx38 BK291.out 5).trans rfl
     have hcz53_6 : wr.cell? ⟨gb291, 6, none⟩ = some (.int .i64 t302) := (bCx38 BK291.out 6).trans rfl
     have hfz53_0 := bFx38 BK291.out 0
     have hfz53_1 := bFx38 BK291.out 1
     have hfz53_2 := bFx38 BK291.out 2
     have hfz53_3 := bFx38 BK291.out 3
     have hfz53_4 := bFx38 BK291.out 4
     have hfz53_5 := bFx38 BK291.out 5
     have hfz53_6 := bFx38 BK291.out 6
     go_wp2
     go_meet
     case rel => exact ⟨_, (decide (t302 ≥ (t311.length : Int))), (by first | rfl | (simp; done) | (simp [*]; done)), H', ⟨by have := HJ7.out; have := HJ33.out; have := HK3.out; first | omega | exact Nat.le_refl _⟩, ⟨by (with_reducible repeat (first | apply zP | apply zQ | apply zR)); exact HO_3.out⟩, ⟨by (with_reducible repeat (first | apply Kd.V_alloc | apply Kd.V_drewN | apply Kd.V_drew)); exact HO_292003.out⟩, ⟨by (with_reducible repeat (first | apply Kd.V_alloc | apply Kd.V_drewN | apply Kd.V_drew)); exact HO_292004.out⟩, ⟨by (with_reducible repeat (first | refine bNx38 ?_ _ | refine bDx38 ?_ | refine bKx38 ?_ _)); exact BK291.out⟩, ⟨by repeat (first | (with_reducible first | exact HB.out | apply zF | apply zB | apply zE | refine zC ?_ GE291.out) | exact HB.out)⟩⟩
    clear HC49
    try clear c1 p2 p3 q3 hx3 c4 c5 p6 c14 p32 q32 hx32 c41 c41b0 c42 c42b0 c43 c43b0 c43b1 c45 c45b0 c45b1 c51 c51b0 hcz16_4 hcz16_5 hcz16_6 hcz18_0 hcz18_1 hcz18_2 hcz18_3 hcz18_4 hcz18_5 hcz18_6 hcz20_0 hcz20_1 hcz20_2 hcz20_3 hcz20_4 hcz20_5 hcz20_6 hcz24_0 hcz24_1 hcz24_2 hcz24_3 hcz24_4 hcz24_5 hcz24_6 hcz25_0 hcz25_1 hcz25_2 hcz25_3 hcz25_4 hcz25_5 hcz25_6 hcz37_0 hcz37_1 hcz37_2 hcz37_3 hcz37_4 hcz37_5 hcz37_6 hcz39_0 hcz39_1 hcz39_2 hcz39_3 hcz39_4 hcz39_5 hcz39_6 hcz52_0 hcz52_1 hcz52_2 hcz52_3 hcz52_4 hcz52_5 hcz52_6 hcz53_0 hcz53_1 hcz53_2 hcz53_3 hcz53_4 hcz53_5 hcz53_6 hfz10_0 hfz10_1 hfz10_10 hfz10_11 hfz10_12 hfz10_13 hfz10_14 hfz10_2 hfz10_3 hfz10_4 hfz10_5 hfz10_6 hfz10_7 hfz10_8 hfz10_9 hfz12_0 hfz12_1 hfz12_10 hfz12_11 hfz12_12 hfz12_13 hfz12_14 hfz12_2 hfz12_3 hfz12_4 hfz12_5 hfz12_6 hfz12_7 hfz12_8 hfz12_9 hfz16_0 hfz16_1 hfz16_2 hfz16_3 hfz16_4 hfz16_5 hfz16_6 hfz18_0 hfz18_1 hfz18_2 hfz18_3 hfz18_4 hfz18_5 hfz18_6 hfz20_0 hfz20_1 hfz20_2 hfz20_3 hfz20_4 hfz20_5 hfz20_6 hfz24_0 hfz24_1 hfz24_2 hfz24_3 hfz24_4 hfz24_5 hfz24_6 hfz25_0 hfz25_1 hfz25_2 hfz25_3 hfz25_4 hfz25_5 hfz25_6 hfz37_0 hfz37_1 hfz37_2 hfz37_3 hfz37_4 hfz37_5 hfz37_6 hfz39_0 hfz39_1 hfz39_2 hfz39_3 hfz39_4 hfz39_5 hfz39_6 hfz52_0 hfz52_1 hfz52_2 hfz52_3 hfz52_4 hfz52_5 hfz52_6 hfz53_0 hfz53_1 hfz53_2 hfz53_3 hfz53_4 hfz53_5 hfz53_6 hx320_0 p2 p320 p6 q320
    obtain ⟨kq, x126_48, rfl, HA, HJ48, HO_3, HO_292003, HO_292004, BK291, HB⟩ := hcut
    cases kq with
    | zero => exact absurd HA.out (by simp [bivouaclaw21_SightViews.j3])
    | succ kj48 =>
     have H := HA.out
     clear HA
     simp only [bivouaclaw21_SightViews.j3] at H
     by_cases c54 : x126_48 = true
     ·
      subst c54
      have H1 : (if t315 = 0 then (if t316 = 4 then ((bivouaclaw21_awake.f kj48).bind fun t322 => (some t322)) else (none)) else (none)) = some r := by rw [if_pos rfl] at H; exact H
      clear H
      have H := H1
      clear H1
      by_cases c55 : t315 = 0
      ·
       rw [if_pos c55] at H
       have c55b0 : (t315 == 0) = true := beq_iff_eq.mpr c55
       have c55b1 : (t315 != 0) = false := bne_eq_false_iff_eq.mpr c55
       clear c55
       by_cases c56 : t316 = 4
       ·
        rw [if_pos c56] at H
        have c56b0 : (t316 == 4) = true := beq_iff_eq.mpr c56
        have c56b1 : (t316 != 4) = false := bne_eq_false_iff_eq.mpr c56
        clear c56
        replace H := Option.bind_eq_some_iff.mp H
        obtain ⟨t322, A570, H⟩ := H
        replace H : (some t322) = some r := H
        have A57 := aMx38 A570
        clear A570
        obtain rfl := Option.some.inj H
        go_wp2_with (first | (go_at_call 13; (with_reducible refine (bivouaclaw21_awake.calls kj48  t322 _ A57.out).mono ?_); rintro e w58 ⟨rfl, hb⟩; have n0_ := aMx38 (zS (by (with_reducible repeat (first | apply zP | apply zQ | apply zR)); exact HO_3.out) hb); have n1_ := aMx38 (Kd.V_below (by (with_reducible repeat (first | apply Kd.V_alloc | apply Kd.V_drewN | apply Kd.V_drew)); exact HO_292003.out) hb); have n2_ := aMx38 (Kd.V_below (by (with_reducible repeat (first | apply Kd.V_alloc | apply Kd.V_drewN | apply Kd.V_drew)); exact HO_292004.out) hb); have n3_ := aMx38 (zI (g := gb291) (o := .cells #[.int .i64 t292, .int .i64 t293, .int .i64 t294, .slice Ao13 t295.length co13, .slice Ao14 t298.length co14, .int .i64 t301, .int .i64 t302, .int .i64 t303, .int .i64 t304, .int .i64 t305, .int .i64 t306, .int .i64 t307, .int .i64 t308, .int .i64 t309, .int .i64 t310] 29 (0, 0)) (by (with_reducible repeat (first | refine bNx38 ?_ _ | refine bDx38 ?_ | refine bKx38 ?_ _)); exact BK291.out) hb); have n4_ := aMx38 (zJ (by repeat (first | (with_reducible first | exact HB.out | apply zF | apply zB | apply zE | refine zC ?_ GE291.out) | exact HB.out)) hb); clear HO_3; clear HO_292003; clear HO_292004; clear BK291; clear HB; have HO_3 := n0_; have HO_292003 := n1_; have HO_292004 := n2_; have BK291 := n3_; have HB := n4_; clear n0_ n1_ n2_ n3_ n4_; (try clear hb); (try clear hb2); (try clear hk); (try clear hi)))
        go_ret
        exact ⟨by first | rfl | (simp [zU, zT] <;> rfl) | (simp [*, zU, zT] <;> rfl) | (rw [zW (by assumption)]; rfl), by repeat (first | (with_reducible first | exact HB.out | apply zF | apply zB | apply zE | refine zC ?_ GE291.out) | exact HB.out)⟩
       rw [if_neg c56] at H
       exact absurd H (by simp)
      rw [if_neg c55] at H
      exact absurd H (by simp)
     replace c54 := Bool.eq_false_iff.mpr c54
     subst c54
     have H1 : (if 0 ≤ t302 then (if t302 < (t311.length : Int) then (if t315 = (rd t311 t302) then (if t316 = 0 then ((bivouaclaw21_awake.f kj48).bind fun t324 => (some t324)) else (none)) else (none)) else (none)) else (none)) = some r := by rw [if_neg (show ¬ (false = true) by decide)] at H; exact H
     clear H
     have H := H1
     clear H1
     by_cases c59 : 0 ≤ t302
     ·
      rw [if_pos c59] at H
      have c59b0 : decide (0 ≤ t302) = true := decide_eq_true c59
      clear c59
      by_cases c60 : t302 < (t311.length : Int)
      ·
       rw [if_pos c60] at H
       have c60b0 : decide (t302 < (t311.length : Int)) = true := decide_eq_true c60
       clear c60
       by_cases c61 : t315 = (rd t311 t302)
       ·
        rw [if_pos c61] at H
        have c61b0 : (t315 == (rd t311 t302)) = true := beq_iff_eq.mpr c61
        have c61b1 : (t315 != (rd t311 t302)) = false := bne_eq_false_iff_eq.mpr c61
        clear c61
        by_cases c62 : t316 = 0
        ·
         rw [if_pos c62] at H
         have c62b0 : (t316 == 0) = true := beq_iff_eq.mpr c62
         have c62b1 : (t316 != 0) = false := bne_eq_false_iff_eq.mpr c62
         clear c62
         replace H := Option.bind_eq_some_iff.mp H
         obtain ⟨t324, A630, H⟩ := H
         replace H : (some t324) = some r := H
         have A63 := aMx38 A630
         clear A630
         obtain rfl := Option.some.inj H
         have hcz64_0 : wc.cell? ⟨gb291, 0, none⟩ = some (.int .i64 t292) := (bCx38 BK291.out 0).trans rfl
         have hcz64_1 : wc.cell? ⟨gb291, 1, none⟩ = some (.int .i64 t293) := (bCx38 BK291.out 1).trans rfl
         have hcz64_2 : wc.cell? ⟨gb291, 2, none⟩ = some (.int .i64 t294) := (bCx38 BK291.out 2).trans rfl
         have hcz64_3 : wc.cell? ⟨gb291, 3, none⟩ = some (.slice Ao13 t295.length co13) := (bCx38 BK291.out 3).trans rfl
         have hcz64_4 : wc.cell? ⟨gb291, 4, none⟩ = some (.slice Ao14 t298.length co14) := (bCx38 BK291.out 4).trans rfl
         have hcz64_5 : wc.cell? ⟨gb291, 5, none⟩ = some (.int .i64 t301) := (bCx38 BK291.out 5).trans rfl
         have hcz64_6 : wc.cell? ⟨gb291, 6, none⟩ = some (.int .i64 t302) := (bCx38 BK291.out 6).trans rfl
         have hfz64_0 := bFx38 BK291.out 0
         have hfz64_1 := bFx38 BK291.out 1
         have hfz64_2 := bFx38 BK291.out 2
         have hfz64_3 := bFx38 BK291.out 3
         have hfz64_4 := bFx38 BK291.out 4
         have hfz64_5 := bFx38 BK291.out 5
         have hfz64_6 := bFx38 BK291.out 6
         have p323 : 0 ≤ (t302 : Int) := of_decide_eq_true (by first | (with_reducible assumption) | assumption)
         have q323 : t302 < (t311.length : Int) := of_decide_eq_true (by first | (with_reducible assumption) | assumption)
         obtain ⟨ad323, e323, hx323_0⟩ := Kd.at_int (Kd.R_reads' HO_3.out).2.2 t302 p323 q323
         cases e323
         replace p323 := eq_true p323
         replace q323 := eq_true q323
         go_wp2_with (first | (go_at_call 13; (with_reducible refine (bivouaclaw21_awake.calls kj48  t324 _ A63.out).mono ?_); rintro e w65 ⟨rfl, hb⟩; have n0_ := aMx38 (zS (by (with_reducible repeat (first | apply zP | apply zQ | apply zR)); exact HO_3.out) hb); have n1_ := aMx38 (Kd.V_below (by (with_reducible repeat (first | apply Kd.V_alloc | apply Kd.V_drewN | apply Kd.V_drew)); exact HO_292003.out) hb); have n2_ := aMx38 (Kd.V_below (by (with_reducible repeat (first | apply Kd.V_alloc | apply Kd.V_drewN | apply Kd.V_drew)); exact HO_292004.out) hb); have n3_ := aMx38 (zI (g := gb291) (o := .cells #[.int .i64 t292, .int .i64 t293, .int .i64 t294, .slice Ao13 t295.length co13, .slice Ao14 t298.length co14, .int .i64 t301, .int .i64 t302, .int .i64 t303, .int .i64 t304, .int .i64 t305, .int .i64 t306, .int .i64 t307, .int .i64 t308, .int .i64 t309, .int .i64 t310] 29 (0, 0)) (by (with_reducible repeat (first | refine bNx38 ?_ _ | refine bDx38 ?_ | refine bKx38 ?_ _)); exact BK291.out) hb); have n4_ := aMx38 (zJ (by repeat (first | (with_reducible first | exact HB.out | apply zF | apply zB | apply zE | refine zC ?_ GE291.out) | exact HB.out)) hb); clear HO_3; clear HO_292003; clear HO_292004; clear BK291; clear HB; have HO_3 := n0_; have HO_292003 := n1_; have HO_292004 := n2_; have BK291 := n3_; have HB := n4_; clear n0_ n1_ n2_ n3_ n4_; (try clear hb); (try clear hb2); (try clear hk); (try clear hi)))
         go_ret
         exact ⟨by first | rfl | (simp [zU, zT] <;> rfl) | (simp [*, zU, zT] <;> rfl) | (rw [zW (by assumption)]; rfl), by repeat (first | (with_reducible first | exact HB.out | apply zF | apply zB | apply zE | refine zC ?_ GE291.out) | exact HB.out)⟩
        rw [if_neg c62] at H
        exact absurd H (by simp)
       rw [if_neg c61] at H
       exact absurd H (by simp)
      rw [if_neg c60] at H
      exact absurd H (by simp)
     rw [if_neg c59] at H
     exact absurd H (by simp)

/-- THE ONE PURE STATEMENT of bivouaclaw21_SightViews. -/
def bivouaclaw21_SightViews.Pure : Prop := ∀ (a0_0 : Int) (a0_1 : Int) (a0_2 : Int) (l0_3 : List Int) (l0_4 : List (S27)) (a0_5 : Int) (a0_6 : Int) (a0_7 : Int) (a0_8 : Int) (a0_9 : Int) (a0_10 : Int) (a0_11 : Int) (a0_12 : Int) (a0_13 : Int) (a0_14 : Int), (Lit.int .i64 a0_0).wf = true → (Lit.int .i64 a0_1).wf = true → (Lit.int .i64 a0_2).wf = true → l0_3.length ≤ maxLen → (∀ x ∈ l0_3, (Lit.int .u8 x).wf = true) → l0_4.length ≤ maxLen → (∀ x ∈ l0_4, (Lit.int .i64 x.f0).wf = true ∧ (Lit.int .i64 x.f1).wf = true ∧ (Lit.int .i64 x.f2).wf = true ∧ (Lit.int .i64 x.f3).wf = true ∧ (Lit.int .i64 x.f4).wf = true ∧ (Lit.int .i64 x.f5).wf = true ∧ (Lit.int .i64 x.f6).wf = true ∧ (Lit.int .i64 x.f7).wf = true) → (Lit.int .i64 a0_5).wf = true → (Lit.int .i64 a0_6).wf = true → (Lit.int .i64 a0_7).wf = true → (Lit.int .i64 a0_8).wf = true → (Lit.int .i64 a0_9).wf = true → (Lit.int .i64 a0_10).wf = true → (Lit.int .i64 a0_11).wf = true → (Lit.int .i64 a0_12).wf = true → (Lit.int .i64 a0_13).wf = true → (Lit.int .i64 a0_14).wf = true → ∃ k, bivouaclaw21_SightViews.f k a0_0 a0_1 a0_2 l0_3 l0_4 a0_5 a0_6 a0_7 a0_8 a0_9 a0_10 a0_11 a0_12 a0_13 a0_14 = some true
theorem bivouaclaw21_SightViews.walked : True := trivial

end Go.Proofs.Yteihieihoeijdaa.PA
