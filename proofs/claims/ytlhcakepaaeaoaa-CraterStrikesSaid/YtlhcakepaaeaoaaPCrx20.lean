-- WRITTEN BY A PROGRAM OF THIS SESSION (a turned copy of the kit's printer), for this claim. Nothing here is trusted: Lean checks it.
import Derived.Test.YtlhcakepaaeaoaaPCrx0
import Derived.Test.YtlhcakepaaeaoaaPCrx7
import Derived.Test.YtlhcakepaaeaoaaPCrx9
import Derived.Test.YtlhcakepaaeaoaaPCrx13
import Derived.Test.YtlhcakepaaeaoaaPCrx14
import Derived.Test.YtlhcakepaaeaoaaPCrx16
import Derived.Test.YtlhcakepaaeaoaaPCrx18
import Derived.Test.YtlhcakepaaeaoaaPCrx19
import Derived.Test.YtlhcakepaaeaoaaGCrcraterAll
import Derived.Test.YtlhcakepaaeaoaaGCrcraterStrike
namespace Go.Proofs.Ytlhcakepaaeaoaa.PCr
open Go.RowKit Go.Proofs.YtlhcakepaaeaoaaW.PrintWords Go.Proofs.YtlhcakepaaeaoaaW.PrintLast Go.Proofs.YtlhcakepaaeaoaaW.PrintMore
attribute [local go_sem] max2_int min2_int max_two min_two max_three min_three max_four min_four   -- for this text's walks alone
set_option linter.unusedVariables false
set_option linter.unusedSimpArgs false
theorem aM20 {p : Prop} (h : p) : Aside0 p := Aside0.mk h
theorem bN20 {w : World} {g : Nat} {o : Obj} (h : w.heap[g]? = some o) (n : Nat) : (w.drewN n).heap[g]? = some o := h
theorem bD20 {w : World} {g : Nat} {o : Obj} (h : w.heap[g]? = some o) : w.drew.heap[g]? = some o := h
theorem bK20 {w : World} {g : Nat} {o : Obj} (h : w.heap[g]? = some o) (o' : Obj) : (w.alloc o').heap[g]? = some o := blk_alloc h o'
theorem bC20 {w : World} {g : Nat} {t : TypeId} {cs : Array Value} (h : w.heap[g]? = some (.cells cs t (0, 0))) (i : Nat) : w.cell? ⟨g, i, none⟩ = cs[i]? := blk_cell h i
theorem bF20 {w : World} {g : Nat} {t : TypeId} {cs : Array Value} (h : w.heap[g]? = some (.cells cs t (0, 0))) (i : Nat) : w.frozen? ⟨g, i, none⟩ = false := blk_frozen h i
theorem vN {α : Type} {d : Kd α} {e : Nat} {W : World} {base : Nat} {ok : Nat → Prop} {ad : Addr} {n c : Nat} {xs : List α} {g : Nat} (h : Kd.V d e W base ok (.slice (some ad) n c) xs) (hn : 0 < n) (hs : 0 < d.sz) (hok : ∀ k, ok k → k ≠ g) : ad.block ≠ g := hok _ (Kd.F_in (Kd.V_at h).2.2 rfl (by rw [(Kd.V_at h).1] at hn; exact hn) hs)

/-! ### bivouaclaw09_CraterStrikes: function 11 -/
mutual
def bivouaclaw09_CraterStrikes.j0 : Nat → List (S23) → ByteArray → Int → Bool → Int → Int → Int → List Int → Int → Int → Int → List Int → Option (Bool)
 | 0, _, _, _, _, _, _, _, _, _, _, _, _ => none
 | k + 1, x1, x5, x7, x31, x179000, x179001, x179002, x179003, x196000, x196001, x196002, x196003 => if x31 = true then ((bivouacref06_Same.f x196000 x196001 x196002 x196003 0 0 0 ([] : List Int)).bind fun t198 => (if t198 = true then (if x7 = 1 then ((bivouaclaw09_awake.f).bind fun t199 => (some t199)) else (some false)) else (some false))) else (if x7 = 0 then (if x196000 = x179000 then (if x196001 = x179001 then (if x196002 = x179002 then (if (x196003.length : Int) = (x179003.length : Int) then (bivouaclaw09_CraterStrikes.j1 k x1 ((strOfNums x179003).toList != x5.toList) x179000 x179001 x179002 x179003 x196000 x196001 x196002 x196003) else (bivouaclaw09_CraterStrikes.j1 k x1 true x179000 x179001 x179002 x179003 x196000 x196001 x196002 x196003)) else (bivouaclaw09_CraterStrikes.j1 k x1 true x179000 x179001 x179002 x179003 x196000 x196001 x196002 x196003)) else (bivouaclaw09_CraterStrikes.j1 k x1 true x179000 x179001 x179002 x179003 x196000 x196001 x196002 x196003)) else (bivouaclaw09_CraterStrikes.j1 k x1 true x179000 x179001 x179002 x179003 x196000 x196001 x196002 x196003)) else (bivouaclaw09_CraterStrikes.j1 k x1 true x179000 x179001 x179002 x179003 x196000 x196001 x196002 x196003))
def bivouaclaw09_CraterStrikes.j1 : Nat → List (S23) → Bool → Int → Int → Int → List Int → Int → Int → Int → List Int → Option (Bool)
 | 0, _, _, _, _, _, _, _, _, _, _ => none
 | k + 1, x1, x80, x179000, x179001, x179002, x179003, x196000, x196001, x196002, x196003 => if x80 = true then (some false) else (bivouaclaw09_CraterStrikes.l0 k x1 0 x179000 x179001 x179002 x179003 x196000 x196001 x196002 x196003)
def bivouaclaw09_CraterStrikes.l0 : Nat → List (S23) → Int → Int → Int → Int → List Int → Int → Int → Int → List Int → Option (Bool)
 | 0, _, _, _, _, _, _, _, _, _, _ => none
 | k + 1, x1, x8, x179000, x179001, x179002, x179003, x196000, x196001, x196002, x196003 => if x8 < (x179003.length : Int) then (if 0 ≤ x8 then (if x8 < (x196003.length : Int) then (if (wrap64 (x179000 + 1)) = 0 then (none) else ((bivouacref09_Corner.f k (wrap64 (rd x179003 x8)) x1 (Int.tmod x8 (wrap64 (x179000 + 1))) (wrap64 (Int.tdiv x8 (wrap64 (x179000 + 1))))).bind fun t202 => (if (wrap64 (rd x196003 x8)) = t202 then (bivouaclaw09_CraterStrikes.l0 k x1 (wrap64 (x8 + 1)) x179000 x179001 x179002 x179003 x196000 x196001 x196002 x196003) else (some false)))) else (none)) else (none)) else (if (x1.length : Int) = 1 then (if 0 < (x1.length : Int) then ((crater_Strike.f k x179000 x179001 x179002 x179003 ((rd_T23 x1 0).f0) ((rd_T23 x1 0).f1) ((rd_T23 x1 0).f2) ((rd_T23 x1 0).f3)).bind fun bt204 => ((bivouacref06_Same.f x196000 x196001 x196002 x196003 bt204.1 bt204.2.1 bt204.2.2.1 bt204.2.2.2.1).bind fun t212 => (if t212 = true then (if bt204.2.2.2.2 = 0 then ((bivouaclaw09_awake.f).bind fun t213 => (some t213)) else (some false)) else (some false)))) else (none)) else ((bivouaclaw09_awake.f).bind fun t214 => (some t214)))
end
def bivouaclaw09_CraterStrikes.f (k : Nat) (a0_0 : Int) (a0_1 : Int) (a0_2 : Int) (l0_3 : List Int) (l1 : List (S23)) : Option (Bool) := (bivouaclaw09_few.f a0_0 a0_1 a0_2 l0_3).bind fun bt179 => ((bivouaclaw09_some.f l1).bind fun t185 => ((crater_All.f k bt179.1 bt179.2.1 bt179.2.2.1 bt179.2.2.2 t185).bind fun bt188 => ((bivouacref06_Check.f k bt179.1 bt179.2.1 bt179.2.2.1 bt179.2.2.2).bind fun t196 => (if t196 = 0 then ((bivouaclaw09_may.f k t185).bind fun t197 => (bivouaclaw09_CraterStrikes.j0 k t185 (strOfNums bt179.2.2.2) bt188.2.2.2.2 (!t197) bt179.1 bt179.2.1 bt179.2.2.1 bt179.2.2.2 bt188.1 bt188.2.1 bt188.2.2.1 bt188.2.2.2.1)) else (bivouaclaw09_CraterStrikes.j0 k t185 (strOfNums bt179.2.2.2) bt188.2.2.2.2 true bt179.1 bt179.2.1 bt179.2.2.1 bt179.2.2.2 bt188.1 bt188.2.1 bt188.2.2.1 bt188.2.2.2.1)))))
theorem bivouaclaw09_CraterStrikes.mono_l : ∀ k, (∀ y0 y1 y2 y3 y4 y5 y6 y7 y8 y9 y10 y11, LeO (bivouaclaw09_CraterStrikes.j0 k y0 y1 y2 y3 y4 y5 y6 y7 y8 y9 y10 y11) (bivouaclaw09_CraterStrikes.j0 (k + 1) y0 y1 y2 y3 y4 y5 y6 y7 y8 y9 y10 y11)) ∧ (∀ y0 y1 y2 y3 y4 y5 y6 y7 y8 y9, LeO (bivouaclaw09_CraterStrikes.j1 k y0 y1 y2 y3 y4 y5 y6 y7 y8 y9) (bivouaclaw09_CraterStrikes.j1 (k + 1) y0 y1 y2 y3 y4 y5 y6 y7 y8 y9)) ∧ (∀ y0 y1 y2 y3 y4 y5 y6 y7 y8 y9, LeO (bivouaclaw09_CraterStrikes.l0 k y0 y1 y2 y3 y4 y5 y6 y7 y8 y9) (bivouaclaw09_CraterStrikes.l0 (k + 1) y0 y1 y2 y3 y4 y5 y6 y7 y8 y9))
 | 0 => ⟨fun _ _ _ _ _ _ _ _ _ _ _ _ r h => by simp [bivouaclaw09_CraterStrikes.j0] at h, fun _ _ _ _ _ _ _ _ _ _ r h => by simp [bivouaclaw09_CraterStrikes.j1] at h, fun _ _ _ _ _ _ _ _ _ _ r h => by simp [bivouaclaw09_CraterStrikes.l0] at h⟩
 | k + 1 => by
  obtain ⟨ih0, ih1, ih2⟩ := bivouaclaw09_CraterStrikes.mono_l k
  refine ⟨?_, ?_, ?_⟩
  ·
   intro y0 y1 y2 y3 y4 y5 y6 y7 y8 y9 y10 y11
   unfold bivouaclaw09_CraterStrikes.j0
   repeat' first
   | (with_reducible exact ih0 _ _ _ _ _ _ _ _ _ _ _ _)
   | (with_reducible exact ih1 _ _ _ _ _ _ _ _ _ _)
   | (with_reducible exact ih2 _ _ _ _ _ _ _ _ _ _)
   | (with_reducible exact bivouaclaw09_may.mono _ _)
   | (with_reducible exact bivouacref06_Check.mono _ _ _ _ _)
   | (with_reducible exact bivouacref09_Corner.mono _ _ _ _ _)
   | (with_reducible exact crater_All.mono _ _ _ _ _ _)
   | (with_reducible exact crater_Strike.mono _ _ _ _ _ _ _ _ _)
   | (with_reducible exact LeO.refl _)
   | (with_reducible exact LeO.none _)
   | (with_reducible refine LeO.ite ?_ ?_)
   | (with_reducible refine LeO.bind ?_ (fun _ => ?_))
   | exact ih0 _ _ _ _ _ _ _ _ _ _ _ _
   | exact ih1 _ _ _ _ _ _ _ _ _ _
   | exact ih2 _ _ _ _ _ _ _ _ _ _
   | exact bivouaclaw09_may.mono _ _
   | exact bivouacref06_Check.mono _ _ _ _ _
   | exact bivouacref09_Corner.mono _ _ _ _ _
   | exact crater_All.mono _ _ _ _ _ _
   | exact crater_Strike.mono _ _ _ _ _ _ _ _ _
   | exact LeO.none _
   | refine LeO.ite ?_ ?_
   | refine LeO.bind ?_ (fun _ => ?_)
  ·
   intro y0 y1 y2 y3 y4 y5 y6 y7 y8 y9
   unfold bivouaclaw09_CraterStrikes.j1
   repeat' first
   | (with_reducible exact ih0 _ _ _ _ _ _ _ _ _ _ _ _)
   | (with_reducible exact ih1 _ _ _ _ _ _ _ _ _ _)
   | (with_reducible exact ih2 _ _ _ _ _ _ _ _ _ _)
   | (with_reducible exact bivouaclaw09_may.mono _ _)
   | (with_reducible exact bivouacref06_Check.mono _ _ _ _ _)
   | (with_reducible exact bivouacref09_Corner.mono _ _ _ _ _)
   | (with_reducible exact crater_All.mono _ _ _ _ _ _)
   | (with_reducible exact crater_Strike.mono _ _ _ _ _ _ _ _ _)
   | (with_reducible exact LeO.refl _)
   | (with_reducible exact LeO.none _)
   | (with_reducible refine LeO.ite ?_ ?_)
   | (with_reducible refine LeO.bind ?_ (fun _ => ?_))
   | exact ih0 _ _ _ _ _ _ _ _ _ _ _ _
   | exact ih1 _ _ _ _ _ _ _ _ _ _
   | exact ih2 _ _ _ _ _ _ _ _ _ _
   | exact bivouaclaw09_may.mono _ _
   | exact bivouacref06_Check.mono _ _ _ _ _
   | exact bivouacref09_Corner.mono _ _ _ _ _
   | exact crater_All.mono _ _ _ _ _ _
   | exact crater_Strike.mono _ _ _ _ _ _ _ _ _
   | exact LeO.none _
   | refine LeO.ite ?_ ?_
   | refine LeO.bind ?_ (fun _ => ?_)
  ·
   intro y0 y1 y2 y3 y4 y5 y6 y7 y8 y9
   unfold bivouaclaw09_CraterStrikes.l0
   repeat' first
   | (with_reducible exact ih0 _ _ _ _ _ _ _ _ _ _ _ _)
   | (with_reducible exact ih1 _ _ _ _ _ _ _ _ _ _)
   | (with_reducible exact ih2 _ _ _ _ _ _ _ _ _ _)
   | (with_reducible exact bivouaclaw09_may.mono _ _)
   | (with_reducible exact bivouacref06_Check.mono _ _ _ _ _)
   | (with_reducible exact bivouacref09_Corner.mono _ _ _ _ _)
   | (with_reducible exact crater_All.mono _ _ _ _ _ _)
   | (with_reducible exact crater_Strike.mono _ _ _ _ _ _ _ _ _)
   | (with_reducible exact LeO.refl _)
   | (with_reducible exact LeO.none _)
   | (with_reducible refine LeO.ite ?_ ?_)
   | (with_reducible refine LeO.bind ?_ (fun _ => ?_))
   | exact ih0 _ _ _ _ _ _ _ _ _ _ _ _
   | exact ih1 _ _ _ _ _ _ _ _ _ _
   | exact ih2 _ _ _ _ _ _ _ _ _ _
   | exact bivouaclaw09_may.mono _ _
   | exact bivouacref06_Check.mono _ _ _ _ _
   | exact bivouacref09_Corner.mono _ _ _ _ _
   | exact crater_All.mono _ _ _ _ _ _
   | exact crater_Strike.mono _ _ _ _ _ _ _ _ _
   | exact LeO.none _
   | refine LeO.ite ?_ ?_
   | refine LeO.bind ?_ (fun _ => ?_)
theorem bivouaclaw09_CraterStrikes.mono : ∀ a0 a1 a2 a3 a4 k, LeO (bivouaclaw09_CraterStrikes.f k a0 a1 a2 a3 a4) (bivouaclaw09_CraterStrikes.f (k + 1) a0 a1 a2 a3 a4) := by
 intro a0 a1 a2 a3 a4 k
 obtain ⟨ih0, ih1, ih2⟩ := bivouaclaw09_CraterStrikes.mono_l k
 unfold bivouaclaw09_CraterStrikes.f
 repeat' first
   | (with_reducible exact ih0 _ _ _ _ _ _ _ _ _ _ _ _)
   | (with_reducible exact ih1 _ _ _ _ _ _ _ _ _ _)
   | (with_reducible exact ih2 _ _ _ _ _ _ _ _ _ _)
   | (with_reducible exact bivouaclaw09_may.mono _ _)
   | (with_reducible exact bivouacref06_Check.mono _ _ _ _ _)
   | (with_reducible exact bivouacref09_Corner.mono _ _ _ _ _)
   | (with_reducible exact crater_All.mono _ _ _ _ _ _)
   | (with_reducible exact crater_Strike.mono _ _ _ _ _ _ _ _ _)
   | (with_reducible exact LeO.refl _)
   | (with_reducible exact LeO.none _)
   | (with_reducible refine LeO.ite ?_ ?_)
   | (with_reducible refine LeO.bind ?_ (fun _ => ?_))
   | exact ih0 _ _ _ _ _ _ _ _ _ _ _ _
   | exact ih1 _ _ _ _ _ _ _ _ _ _
   | exact ih2 _ _ _ _ _ _ _ _ _ _
   | exact bivouaclaw09_may.mono _ _
   | exact bivouacref06_Check.mono _ _ _ _ _
   | exact bivouacref09_Corner.mono _ _ _ _ _
   | exact crater_All.mono _ _ _ _ _ _
   | exact crater_Strike.mono _ _ _ _ _ _ _ _ _
   | exact LeO.none _
   | refine LeO.ite ?_ ?_
   | refine LeO.bind ?_ (fun _ => ?_)
def bivouaclaw09_CraterStrikes.T11 : Bool × List (List Nat × List Nat) := (true, [([], []), ([0], [0]), ([], []), ([1, 2], [1, 2]), ([3], [3]), ([4], [4]), ([], []), ([6], [6]), ([], []), ([7, 8], [7, 8]), ([9], [9]), ([10], [10]), ([], []), ([], []), ([], []), ([14], [14]), ([15], [15]), ([13, 16], [13, 16]), ([], []), ([], []), ([19], [19]), ([20], [20]), ([18, 21], [18, 21]), ([11, 12, 17, 22], [11, 12, 17, 22]), ([5, 23], [5, 23])])
def bivouaclaw09_CraterStrikes.B11 : List Nat := [0, 1, 0, 7, 15, 31, 0, 64, 0, 448, 960, 1984, 0, 0, 0, 16384, 49152, 122880, 0, 0, 524288, 1572864, 3932160, 8388544, 16777215]
theorem bivouaclaw09_CraterStrikes.tab11 : rtab .any (opsOf Try.f11 11) = bivouaclaw09_CraterStrikes.T11 := by kernel_rfl
theorem bivouaclaw09_CraterStrikes.bits11 : waitsOk bivouaclaw09_CraterStrikes.T11.2 bivouaclaw09_CraterStrikes.B11 = true := by kernel_rfl
def bivouaclaw09_CraterStrikes.T14 : Bool × List (List Nat × List Nat) := (true, [([], []), ([], []), ([1], [1]), ([2], [2]), ([0, 3], [0, 3]), ([4], [4]), ([5], [5]), ([5], [5]), ([], []), ([8, 6, 4, 0, 1, 2, 3, 4, 5, 6, 8], [6, 8]), ([7, 9, 0, 1, 2, 3, 4, 5, 6, 7, 8, 9], [7])])
def bivouaclaw09_CraterStrikes.B14 : List Nat := [0, 0, 2, 6, 15, 31, 63, 63, 0, 383, 1023]
theorem bivouaclaw09_CraterStrikes.tab14 : rtab .any (opsOf Try.f11 14) = bivouaclaw09_CraterStrikes.T14 := by kernel_rfl
theorem bivouaclaw09_CraterStrikes.bits14 : waitsOk bivouaclaw09_CraterStrikes.T14.2 bivouaclaw09_CraterStrikes.B14 = true := by kernel_rfl
set_option maxHeartbeats 8000000 in
set_option maxRecDepth 100000 in
theorem bivouaclaw09_CraterStrikes.calls (k : Nat) (a0_0 : Int) (a0_1 : Int) (a0_2 : Int) (A0_3 : Option Addr) (c0_3 : Nat) (l0_3 : List Int) (A1 : Option Addr) (c1 : Nat) (l1 : List (S23)) (r : Bool) (w : World) (hr0_3 : Kd.C (Kd.int .u8) w A0_3 l0_3.length l0_3) (hc0_3 : l0_3.length ≤ c0_3) (hr1 : Kd.C k23 w A1 l1.length l1) (hc1 : l1.length ≤ c1) (h : bivouaclaw09_CraterStrikes.f k a0_0 a0_1 a0_2 l0_3 l1 = some r) :
  Calls Try.prog 11 #[.agg #[.int .i64 a0_0, .int .i64 a0_1, .int .i64 a0_2, .slice A0_3 l0_3.length c0_3], .slice A1 l1.length c1] w fun e w' => e = .returned (.bool r) ∧ Below w.heap.size w w' := by
 have hu46 := Try.underlying46
 have hu23 := Try.underlying23
 have HR0_3 := aM20 hr0_3
 have HC0_3 := aM20 hc0_3
 clear hr0_3 hc0_3
 have HR1 := aM20 hr1
 have HC1 := aM20 hc1
 clear hr1 hc1
 have HB := aM20 (Below.refl w.heap.size w)
 have H : ((bivouaclaw09_few.f a0_0 a0_1 a0_2 l0_3).bind fun bt179 => ((bivouaclaw09_some.f l1).bind fun t185 => ((crater_All.f k bt179.1 bt179.2.1 bt179.2.2.1 bt179.2.2.2 t185).bind fun bt188 => ((bivouacref06_Check.f k bt179.1 bt179.2.1 bt179.2.2.1 bt179.2.2.2).bind fun t196 => (if t196 = 0 then ((bivouaclaw09_may.f k t185).bind fun t197 => (bivouaclaw09_CraterStrikes.j0 k t185 (strOfNums bt179.2.2.2) bt188.2.2.2.2 (!t197) bt179.1 bt179.2.1 bt179.2.2.1 bt179.2.2.2 bt188.1 bt188.2.1 bt188.2.2.1 bt188.2.2.2.1)) else (bivouaclaw09_CraterStrikes.j0 k t185 (strOfNums bt179.2.2.2) bt188.2.2.2.2 true bt179.1 bt179.2.1 bt179.2.2.1 bt179.2.2.2 bt188.1 bt188.2.1 bt188.2.2.1 bt188.2.2.2.1)))))) = some r := h
 clear h
 replace H := Option.bind_eq_some_iff.mp H
 obtain ⟨⟨t179, t180, t181, t182⟩, A30, H⟩ := H
 replace H : ((bivouaclaw09_some.f l1).bind fun t185 => ((crater_All.f k t179 t180 t181 t182 t185).bind fun bt188 => ((bivouacref06_Check.f k t179 t180 t181 t182).bind fun t196 => (if t196 = 0 then ((bivouaclaw09_may.f k t185).bind fun t197 => (bivouaclaw09_CraterStrikes.j0 k t185 (strOfNums t182) bt188.2.2.2.2 (!t197) t179 t180 t181 t182 bt188.1 bt188.2.1 bt188.2.2.1 bt188.2.2.2.1)) else (bivouaclaw09_CraterStrikes.j0 k t185 (strOfNums t182) bt188.2.2.2.2 true t179 t180 t181 t182 bt188.1 bt188.2.1 bt188.2.2.1 bt188.2.2.2.1))))) = some r := H
 have A3 := aM20 A30
 clear A30
 replace H := Option.bind_eq_some_iff.mp H
 obtain ⟨t185, A40, H⟩ := H
 replace H : ((crater_All.f k t179 t180 t181 t182 t185).bind fun bt188 => ((bivouacref06_Check.f k t179 t180 t181 t182).bind fun t196 => (if t196 = 0 then ((bivouaclaw09_may.f k t185).bind fun t197 => (bivouaclaw09_CraterStrikes.j0 k t185 (strOfNums t182) bt188.2.2.2.2 (!t197) t179 t180 t181 t182 bt188.1 bt188.2.1 bt188.2.2.1 bt188.2.2.2.1)) else (bivouaclaw09_CraterStrikes.j0 k t185 (strOfNums t182) bt188.2.2.2.2 true t179 t180 t181 t182 bt188.1 bt188.2.1 bt188.2.2.1 bt188.2.2.2.1)))) = some r := H
 have A4 := aM20 A40
 clear A40
 replace H := Option.bind_eq_some_iff.mp H
 obtain ⟨⟨t188, t189, t190, t191, t194⟩, A50, H⟩ := H
 replace H : ((bivouacref06_Check.f k t179 t180 t181 t182).bind fun t196 => (if t196 = 0 then ((bivouaclaw09_may.f k t185).bind fun t197 => (bivouaclaw09_CraterStrikes.j0 k t185 (strOfNums t182) t194 (!t197) t179 t180 t181 t182 t188 t189 t190 t191)) else (bivouaclaw09_CraterStrikes.j0 k t185 (strOfNums t182) t194 true t179 t180 t181 t182 t188 t189 t190 t191))) = some r := H
 have A5 := aM20 A50
 clear A50
 have HC6 := aM20 H
 clear H
 go_enter Try.func11, Try.ntmps11
 go_upto_region 4 with (first | ((with_reducible refine gate_dst (N := 2) rfl ?_); (try (refine gate_guard (by rfl) ?_; dsimp only)); refine box_event ?hg (N := 2) ?hd (cs := #[.int .i64 a0_0, .int .i64 a0_1, .int .i64 a0_2, .slice A0_3 l0_3.length c0_3]) (t := 46) ?hr ?_; (case hd => rfl); (case hg => rfl); (case hr => first | (go_simp; done) | (go_simp; rfl)); intro gb178 hg w7 hbox hb; have n0_ := aM20 (below_step (by repeat (first | (with_reducible first | exact HB.out | apply below_alloc | apply pw_below_drewN | apply below_drew1) | exact HB.out)) hb); have n1_ := aM20 (hbox); have n2_ := aM20 ((by rw [hg]; exact (below_size (by repeat (first | (with_reducible first | exact HB.out | apply below_alloc | apply pw_below_drewN | apply below_drew1) | exact HB.out))) : w.heap.size ≤ gb178)); have n3_ := aM20 ((by rw [hg]; exact (below_size (by repeat (first | (with_reducible first | exact HB.out | apply below_alloc | apply pw_below_drewN | apply below_drew1) | exact HB.out))) : w.heap.size ≤ gb178)); clear HB; have HB := n0_; have BK178 := n1_; have GW178 := n2_; have GE178 := n3_; clear n0_ n1_ n2_ n3_; clear hb hbox hg; have hcz8_0 : w7.cell? ⟨gb178, 0, none⟩ = some (.int .i64 a0_0) := (bC20 BK178.out 0).trans rfl; have hcz8_1 : w7.cell? ⟨gb178, 1, none⟩ = some (.int .i64 a0_1) := (bC20 BK178.out 1).trans rfl; have hcz8_2 : w7.cell? ⟨gb178, 2, none⟩ = some (.int .i64 a0_2) := (bC20 BK178.out 2).trans rfl; have hcz8_3 : w7.cell? ⟨gb178, 3, none⟩ = some (.slice A0_3 l0_3.length c0_3) := (bC20 BK178.out 3).trans rfl; have hfz8_0 := bF20 BK178.out 0; have hfz8_1 := bF20 BK178.out 1; have hfz8_2 := bF20 BK178.out 2; have hfz8_3 := bF20 BK178.out 3) | ((with_reducible refine gate_callee (f := 26) rfl ?_); refine goesL_ (some 12) rfl rfl Try.func26 (by kernel_rfl) rfl #[.agg #[.int .i64 a0_0, .int .i64 a0_1, .int .i64 a0_2, .slice A0_3 l0_3.length c0_3]] rfl (by (try simp only [List.map_toArray, List.map_cons, List.map_nil]); first | done | rfl | (simp only [List.length_drop, List.length_take]; rfl)) ?_; (with_reducible refine (bivouaclaw09_few.calls a0_0 a0_1 a0_2 (fun k_ => k_ < w.heap.size) _ _ l0_3 t179 t180 t181 t182 _ ?side1 A3.out).mono ?_); (case side1 => exact Kd.V_mk HC0_3.out (Kd.F_below (Kd.C_F (Kd.heap_int .u8) HR0_3.out) (by repeat (first | (with_reducible first | exact HB.out | apply below_alloc | apply pw_below_drewN | apply below_drew1 | refine below_set ?_ GE178.out) | exact HB.out)))); rintro e w9 ⟨v183, rfl, ho0, hb⟩; refine ⟨_, rfl, ?_⟩; have n0_ := aM20 (Kd.V_lower (Kd.V_mono (ok' := fun k_ => k_ ≠ gb178) ho0 (fun k_ hk_ => Or.elim hk_ (fun hs_ => fun e_ => Nat.not_le.2 hs_ (by rw [e_]; exact GW178.out)) (fun hn_ => (Kd.freshB (g := gb178) (o := .cells #[.int .i64 a0_0, .int .i64 a0_1, .int .i64 a0_2, .slice A0_3 l0_3.length c0_3] 46 (0, 0)) (by (with_reducible repeat (first | refine bN20 ?_ _ | refine bD20 ?_ | refine bK20 ?_ _)); exact BK178.out) k_ hn_)))) (below_size (by repeat (first | (with_reducible first | exact HB.out | apply below_alloc | apply pw_below_drewN | apply below_drew1 | refine below_set ?_ GE178.out) | exact HB.out)))); have n1_ := aM20 (blk_below (g := gb178) (o := .cells #[.int .i64 a0_0, .int .i64 a0_1, .int .i64 a0_2, .slice A0_3 l0_3.length c0_3] 46 (0, 0)) (by (with_reducible repeat (first | refine bN20 ?_ _ | refine bD20 ?_ | refine bK20 ?_ _)); exact BK178.out) hb); have n2_ := aM20 (below_step (by repeat (first | (with_reducible first | exact HB.out | apply below_alloc | apply pw_below_drewN | apply below_drew1 | refine below_set ?_ GE178.out) | exact HB.out)) hb); clear BK178; clear HB; have HO184 := n0_; have BK178 := n1_; have HB := n2_; clear n0_ n1_ n2_; (try clear hb); (try clear hb2); (try clear hk); (try clear hi); (try clear ho0)) | ((with_reducible refine gate_callee (f := 30) rfl ?_); refine goesL_ (some 14) rfl rfl Try.func30 (by kernel_rfl) rfl #[.slice A1 l1.length c1] rfl (by (try simp only [List.map_toArray, List.map_cons, List.map_nil]); first | done | rfl | (simp only [List.length_drop, List.length_take]; rfl)) ?_; (with_reducible refine (bivouaclaw09_some.calls (fun k_ => k_ < w.heap.size) _ _ l1 t185 _ ?side1 A4.out).mono ?_); (case side1 => exact Kd.V_mk HC1.out (Kd.F_below (Kd.C_F k23_heap HR1.out) (by repeat (first | (with_reducible first | exact HB.out | apply below_alloc | apply pw_below_drewN | apply below_drew1 | refine below_set ?_ GE178.out) | exact HB.out)))); rintro e w10 ⟨v186, rfl, ho0, hb⟩; refine ⟨_, rfl, ?_⟩; have n0_ := aM20 (Kd.V_below (by (with_reducible repeat (first | apply Kd.V_alloc | apply Kd.V_drewN | apply Kd.V_drew)); exact HO184.out) hb); have n1_ := aM20 (Kd.V_lower (Kd.V_mono (ok' := fun k_ => k_ ≠ gb178) ho0 (fun k_ hk_ => Or.elim hk_ (fun hs_ => fun e_ => Nat.not_le.2 hs_ (by rw [e_]; exact GW178.out)) (fun hn_ => (Kd.freshB (g := gb178) (o := .cells #[.int .i64 a0_0, .int .i64 a0_1, .int .i64 a0_2, .slice A0_3 l0_3.length c0_3] 46 (0, 0)) (by (with_reducible repeat (first | refine bN20 ?_ _ | refine bD20 ?_ | refine bK20 ?_ _)); exact BK178.out) k_ hn_)))) (below_size (by repeat (first | (with_reducible first | exact HB.out | apply below_alloc | apply pw_below_drewN | apply below_drew1 | refine below_set ?_ GE178.out) | exact HB.out)))); have n2_ := aM20 (blk_below (g := gb178) (o := .cells #[.int .i64 a0_0, .int .i64 a0_1, .int .i64 a0_2, .slice A0_3 l0_3.length c0_3] 46 (0, 0)) (by (with_reducible repeat (first | refine bN20 ?_ _ | refine bD20 ?_ | refine bK20 ?_ _)); exact BK178.out) hb); have n3_ := aM20 (below_step (by repeat (first | (with_reducible first | exact HB.out | apply below_alloc | apply pw_below_drewN | apply below_drew1 | refine below_set ?_ GE178.out) | exact HB.out)) hb); clear HO184; clear BK178; clear HB; have HO184 := n0_; have HO187 := n1_; have BK178 := n2_; have HB := n3_; clear n0_ n1_ n2_ n3_; (try clear hb); (try clear hb2); (try clear hk); (try clear hi); (try clear ho0); have hcz11_0 : w10.cell? ⟨gb178, 0, none⟩ = some (.int .i64 a0_0) := (bC20 BK178.out 0).trans rfl; have hcz11_1 : w10.cell? ⟨gb178, 1, none⟩ = some (.int .i64 a0_1) := (bC20 BK178.out 1).trans rfl; have hcz11_2 : w10.cell? ⟨gb178, 2, none⟩ = some (.int .i64 a0_2) := (bC20 BK178.out 2).trans rfl; have hcz11_3 : w10.cell? ⟨gb178, 3, none⟩ = some (.slice A0_3 l0_3.length c0_3) := (bC20 BK178.out 3).trans rfl; have hfz11_0 := bF20 BK178.out 0; have hfz11_1 := bF20 BK178.out 1; have hfz11_2 := bF20 BK178.out 2; have hfz11_3 := bF20 BK178.out 3; obtain ⟨Ao12, co12, eo12⟩ := Kd.V_slice HO184.out; subst eo12; have hcv13 := Kd.C_string (P := Try.prog) (c := co12) Try.underlying44 Try.underlying5 Try.underlying9 (Kd.V_reads' (Kd.V_far (Kd.V_far (Kd.V_far (Kd.V_far HO184.out (p := ⟨gb178, 0, none⟩) (fun _ h => h) (.int .i64 t179)) (p := ⟨gb178, 1, none⟩) (fun _ h => h) (.int .i64 t180)) (p := ⟨gb178, 2, none⟩) (fun _ h => h) (.int .i64 t181)) (p := ⟨gb178, 3, none⟩) (fun _ h => h) (.slice Ao12 t182.length co12))).2.2; obtain ⟨Ao14, co14, eo14⟩ := Kd.V_slice HO187.out; subst eo14) | ((with_reducible refine gate_callee (f := 31) rfl ?_); refine goesL_ (some 21) rfl rfl Try.func31 (by kernel_rfl) rfl #[.agg #[.int .i64 t179, .int .i64 t180, .int .i64 t181, .slice Ao12 t182.length co12], .slice Ao14 t185.length co14] rfl (by (try simp only [List.map_toArray, List.map_cons, List.map_nil]); first | done | rfl | (simp only [List.length_drop, List.length_take]; rfl)) ?_; (with_reducible refine (crater_All.calls k t179 t180 t181 _ _ t182 _ _ t185 t188 t189 t190 t191 t194 _ ?side1 ?side2 ?side3 ?side4 A5.out).mono ?_); (case side1 => refine (Kd.V_reads' (e := 5) (base := w.heap.size) (ok := fun k_ => k_ ≠ gb178) (n := t182.length) (c := co12) ?_).2.2; exact (by (with_reducible repeat (first | apply Kd.V_alloc | apply Kd.V_drewN | apply Kd.V_drew)); exact (Kd.V_mono (Kd.V_far (p := ⟨gb178, 3, none⟩) (Kd.V_far (p := ⟨gb178, 2, none⟩) (Kd.V_far (p := ⟨gb178, 1, none⟩) (Kd.V_far (p := ⟨gb178, 0, none⟩) (Kd.V_mono HO184.out (fun k_ hk => (⟨hk, hk⟩ : _ ∧ k_ ≠ gb178))) (fun _ hk => hk.2) (.int .i64 t179)) (fun _ hk => hk.2) (.int .i64 t180)) (fun _ hk => hk.2) (.int .i64 t181)) (fun _ hk => hk.2) (.slice Ao12 t182.length co12)) (fun _ h_ => h_.1)))); (case side2 => exact (Kd.V_reads' HO184.out).2.1); (case side3 => refine (Kd.V_reads' (e := 23) (base := w.heap.size) (ok := fun k_ => k_ ≠ gb178) (n := t185.length) (c := co14) ?_).2.2; exact (by (with_reducible repeat (first | apply Kd.V_alloc | apply Kd.V_drewN | apply Kd.V_drew)); exact (Kd.V_mono (Kd.V_far (p := ⟨gb178, 3, none⟩) (Kd.V_far (p := ⟨gb178, 2, none⟩) (Kd.V_far (p := ⟨gb178, 1, none⟩) (Kd.V_far (p := ⟨gb178, 0, none⟩) (Kd.V_mono HO187.out (fun k_ hk => (⟨hk, hk⟩ : _ ∧ k_ ≠ gb178))) (fun _ hk => hk.2) (.int .i64 t179)) (fun _ hk => hk.2) (.int .i64 t180)) (fun _ hk => hk.2) (.int .i64 t181)) (fun _ hk => hk.2) (.slice Ao12 t182.length co12)) (fun _ h_ => h_.1)))); (case side4 => exact (Kd.V_reads' HO187.out).2.1); rintro e w15 ⟨v192, rfl, ho0, hb⟩; refine ⟨_, rfl, ?_⟩; have n0_ := aM20 (Kd.V_elder' (by (with_reducible repeat (first | apply Kd.V_alloc | apply Kd.V_drewN | apply Kd.V_drew)); exact (Kd.V_mono (Kd.V_far (p := ⟨gb178, 3, none⟩) (Kd.V_far (p := ⟨gb178, 2, none⟩) (Kd.V_far (p := ⟨gb178, 1, none⟩) (Kd.V_far (p := ⟨gb178, 0, none⟩) (Kd.V_mono HO184.out (fun k_ hk => (⟨hk, hk⟩ : _ ∧ k_ ≠ gb178))) (fun _ hk => hk.2) (.int .i64 t179)) (fun _ hk => hk.2) (.int .i64 t180)) (fun _ hk => hk.2) (.int .i64 t181)) (fun _ hk => hk.2) (.slice Ao12 t182.length co12)) (fun _ h_ => h_.1))) (Kd.R_base ho0) hb); have n1_ := aM20 (Kd.V_elder' (by (with_reducible repeat (first | apply Kd.V_alloc | apply Kd.V_drewN | apply Kd.V_drew)); exact (Kd.V_mono (Kd.V_far (p := ⟨gb178, 3, none⟩) (Kd.V_far (p := ⟨gb178, 2, none⟩) (Kd.V_far (p := ⟨gb178, 1, none⟩) (Kd.V_far (p := ⟨gb178, 0, none⟩) (Kd.V_mono HO187.out (fun k_ hk => (⟨hk, hk⟩ : _ ∧ k_ ≠ gb178))) (fun _ hk => hk.2) (.int .i64 t179)) (fun _ hk => hk.2) (.int .i64 t180)) (fun _ hk => hk.2) (.int .i64 t181)) (fun _ hk => hk.2) (.slice Ao12 t182.length co12)) (fun _ h_ => h_.1))) (Kd.R_base ho0) hb); have n2_ := aM20 (Kd.R_lower ho0 (below_size (by repeat (first | (with_reducible first | exact HB.out | apply below_alloc | apply pw_below_drewN | apply below_drew1 | refine below_set ?_ GE178.out) | exact HB.out)))); have n3_ := aM20 (blk_below (g := gb178) (o := .cells #[.int .i64 t179, .int .i64 t180, .int .i64 t181, .slice Ao12 t182.length co12] 46 (0, 0)) (by (with_reducible repeat (first | refine bN20 ?_ _ | refine bD20 ?_ | refine bK20 ?_ _)); refine blk_put (cs := #[.int .i64 t179, .int .i64 t180, .int .i64 t181, .slice A0_3 l0_3.length c0_3]) ?_ 3 _ rfl; (with_reducible repeat (first | refine bN20 ?_ _ | refine bD20 ?_ | refine bK20 ?_ _)); refine blk_put (cs := #[.int .i64 t179, .int .i64 t180, .int .i64 a0_2, .slice A0_3 l0_3.length c0_3]) ?_ 2 _ rfl; (with_reducible repeat (first | refine bN20 ?_ _ | refine bD20 ?_ | refine bK20 ?_ _)); refine blk_put (cs := #[.int .i64 t179, .int .i64 a0_1, .int .i64 a0_2, .slice A0_3 l0_3.length c0_3]) ?_ 1 _ rfl; (with_reducible repeat (first | refine bN20 ?_ _ | refine bD20 ?_ | refine bK20 ?_ _)); refine blk_put (cs := #[.int .i64 a0_0, .int .i64 a0_1, .int .i64 a0_2, .slice A0_3 l0_3.length c0_3]) ?_ 0 _ rfl; (with_reducible repeat (first | refine bN20 ?_ _ | refine bD20 ?_ | refine bK20 ?_ _)); exact BK178.out) hb); have n4_ := aM20 (below_step (by repeat (first | (with_reducible first | exact HB.out | apply below_alloc | apply pw_below_drewN | apply below_drew1 | refine below_set ?_ GE178.out) | exact HB.out)) hb); clear HO184; clear HO187; clear BK178; clear HB; have HO184 := n0_; have HO187 := n1_; have HO193 := n2_; have BK178 := n3_; have HB := n4_; clear n0_ n1_ n2_ n3_ n4_; (try clear hb); (try clear hb2); (try clear hk); (try clear hi); (try clear ho0)) | ((with_reducible refine gate_dst (N := 6) rfl ?_); (try (refine gate_guard (by rfl) ?_; dsimp only)); refine box_event ?hg (N := 6) ?hd (cs := #[.int .i64 0, .int .i64 0, .int .i64 0, .slice none 0 0]) (t := 46) ?hr ?_; (case hd => rfl); (case hg => rfl); (case hr => first | (go_simp; done) | (go_simp; rfl)); intro gb195 hg w16 hbox hb; have n0_ := aM20 (Kd.V_below (Kd.V_elderB (by (with_reducible repeat (first | apply Kd.V_alloc | apply Kd.V_drewN | apply Kd.V_drew)); exact HO184.out) gb195 (Nat.le_of_eq hg.symm)) hb); have n1_ := aM20 (Kd.V_below (Kd.V_elderB (by (with_reducible repeat (first | apply Kd.V_alloc | apply Kd.V_drewN | apply Kd.V_drew)); exact HO187.out) gb195 (Nat.le_of_eq hg.symm)) hb); have n2_ := aM20 (Kd.R_below (by (with_reducible repeat (first | apply Kd.R_alloc | apply Kd.R_drewN | apply Kd.R_drew)); exact HO193.out) hb); have n3_ := aM20 (blk_below (g := gb178) (o := .cells #[.int .i64 t179, .int .i64 t180, .int .i64 t181, .slice Ao12 t182.length co12] 46 (0, 0)) (by (with_reducible repeat (first | refine bN20 ?_ _ | refine bD20 ?_ | refine bK20 ?_ _)); exact BK178.out) hb); have n4_ := aM20 (below_step (by repeat (first | (with_reducible first | exact HB.out | apply below_alloc | apply pw_below_drewN | apply below_drew1 | refine below_set ?_ GE178.out) | exact HB.out)) hb); have n5_ := aM20 (hbox); have n6_ := aM20 ((by rw [hg]; exact (below_size (by repeat (first | (with_reducible first | exact HB.out | apply below_alloc | apply pw_below_drewN | apply below_drew1 | refine below_set ?_ GE178.out) | exact HB.out))) : w.heap.size ≤ gb195)); have n7_ := aM20 ((by rw [hg]; exact (below_size (by repeat (first | (with_reducible first | exact HB.out | apply below_alloc | apply pw_below_drewN | apply below_drew1 | refine below_set ?_ GE178.out) | exact HB.out))) : w.heap.size ≤ gb195)); have n8_ := aM20 ((by rw [hg]; exact Nat.ne_of_lt (blk_lt (g := gb178) (o := .cells #[.int .i64 t179, .int .i64 t180, .int .i64 t181, .slice Ao12 t182.length co12] 46 (0, 0)) (by (with_reducible repeat (first | refine bN20 ?_ _ | refine bD20 ?_ | refine bK20 ?_ _)); exact BK178.out)) : gb178 ≠ gb195)); have n9_ := aM20 ((by rw [hg]; exact Nat.ne_of_gt (blk_lt (g := gb178) (o := .cells #[.int .i64 t179, .int .i64 t180, .int .i64 t181, .slice Ao12 t182.length co12] 46 (0, 0)) (by (with_reducible repeat (first | refine bN20 ?_ _ | refine bD20 ?_ | refine bK20 ?_ _)); exact BK178.out)) : gb195 ≠ gb178)); clear HO184; clear HO187; clear HO193; clear BK178; clear HB; have HO184 := n0_; have HO187 := n1_; have HO193 := n2_; have BK178 := n3_; have HB := n4_; have BK195 := n5_; have GW195 := n6_; have GE195 := n7_; have NB178_195 := n8_; have NB195_178 := n9_; clear n0_ n1_ n2_ n3_ n4_ n5_ n6_ n7_ n8_ n9_; clear hb hbox hg; have hnb17 := NB195_178.out; have hnc17 := NB178_195.out; have hcz18_0 : w16.cell? ⟨gb195, 0, none⟩ = some (.int .i64 0) := (bC20 BK195.out 0).trans rfl; have hcz18_1 : w16.cell? ⟨gb195, 1, none⟩ = some (.int .i64 0) := (bC20 BK195.out 1).trans rfl; have hcz18_2 : w16.cell? ⟨gb195, 2, none⟩ = some (.int .i64 0) := (bC20 BK195.out 2).trans rfl; have hcz18_3 : w16.cell? ⟨gb195, 3, none⟩ = some (.slice none 0 0) := (bC20 BK195.out 3).trans rfl; have hfz18_0 := bF20 BK195.out 0; have hfz18_1 := bF20 BK195.out 1; have hfz18_2 := bF20 BK195.out 2; have hfz18_3 := bF20 BK195.out 3; obtain ⟨Ao19, co19, eo19⟩ := Kd.R_slice HO193.out; subst eo19))
 (try simp only [Act.put, List.setIfInBounds_toArray, List.set_cons_zero, List.set_cons_succ])
 go_cut [31] (fun v31 wc => ∃ (kq : Nat) (x31_5 : Bool), v31 = .bool x31_5 ∧ Aside0 (bivouaclaw09_CraterStrikes.j0 kq t185 (strOfNums t182) t194 x31_5 t179 t180 t181 t182 t188 t189 t190 t191 = some r) ∧ Aside0 (kq ≤ k) ∧ Aside0 (Kd.V k23 23 wc w.heap.size (fun k_ => some k_ ≠ ((.slice Ao19 t191.length co19) : Value).ownBlock ∧ k_ ≠ gb178 ∧ k_ ≠ gb195) (.slice Ao14 t185.length co14) t185) ∧ Aside0 (Kd.V (Kd.int .u8) 5 wc w.heap.size (fun k_ => some k_ ≠ ((.slice Ao19 t191.length co19) : Value).ownBlock ∧ k_ ≠ gb178 ∧ k_ ≠ gb195) (.slice Ao12 t182.length co12) t182) ∧ Aside0 (Kd.R (Kd.int .u8) 5 wc w.heap.size (fun _ => True) (.slice Ao19 t191.length co19) t191) ∧ Aside0 (wc.heap[gb178]? = some (.cells #[.int .i64 t179, .int .i64 t180, .int .i64 t181, (.slice Ao12 t182.length co12)] 46 (0, 0))) ∧ Aside0 (wc.heap[gb195]? = some (.cells #[.int .i64 t188, .int .i64 t189, .int .i64 t190, (.slice Ao19 t191.length co19)] 46 (0, 0))) ∧ Aside0 (Below w.heap.size w wc))
 case first =>
  have H := HC6.out
  clear HC6
  replace H := Option.bind_eq_some_iff.mp H
  obtain ⟨t196, A200, H⟩ := H
  replace H : (if t196 = 0 then ((bivouaclaw09_may.f k t185).bind fun t197 => (bivouaclaw09_CraterStrikes.j0 k t185 (strOfNums t182) t194 (!t197) t179 t180 t181 t182 t188 t189 t190 t191)) else (bivouaclaw09_CraterStrikes.j0 k t185 (strOfNums t182) t194 true t179 t180 t181 t182 t188 t189 t190 t191)) = some r := H
  have A20 := aM20 A200
  clear A200
  by_cases c21 : t196 = 0
  ·
   rw [if_pos c21] at H
   have c21b0 : (t196 == 0) = true := beq_iff_eq.mpr c21
   have c21b1 : (t196 != 0) = false := bne_eq_false_iff_eq.mpr c21
   clear c21
   (first | rw [c21b0] | (simp only [i64_w, i32_w]; rw [c21b0]) | skip)
   replace H := Option.bind_eq_some_iff.mp H
   obtain ⟨t197, A220, H⟩ := H
   replace H : (bivouaclaw09_CraterStrikes.j0 k t185 (strOfNums t182) t194 (!t197) t179 t180 t181 t182 t188 t189 t190 t191) = some r := H
   have A22 := aM20 A220
   clear A220
   have H' := aM20 H
   clear H
   have hnb23 := NB178_195.out
   have hnc23 := NB195_178.out
   have hcz24_0 : w16.cell? ⟨gb178, 0, none⟩ = some (.int .i64 t179) := (bC20 BK178.out 0).trans rfl
   have hcz24_1 : w16.cell? ⟨gb178, 1, none⟩ = some (.int .i64 t180) := (bC20 BK178.out 1).trans rfl
   have hcz24_2 : w16.cell? ⟨gb178, 2, none⟩ = some (.int .i64 t181) := (bC20 BK178.out 2).trans rfl
   have hcz24_3 : w16.cell? ⟨gb178, 3, none⟩ = some (.slice Ao12 t182.length co12) := (bC20 BK178.out 3).trans rfl
   have hfz24_0 := bF20 BK178.out 0
   have hfz24_1 := bF20 BK178.out 1
   have hfz24_2 := bF20 BK178.out 2
   have hfz24_3 := bF20 BK178.out 3
   go_wp2_with (first | ((with_reducible refine gate_callee (f := 29) rfl ?_); refine goesL_ (some 25) rfl rfl Try.func29 (by kernel_rfl) rfl #[.agg #[.int .i64 t179, .int .i64 t180, .int .i64 t181, .slice Ao12 t182.length co12]] rfl (by (try simp only [List.map_toArray, List.map_cons, List.map_nil]); first | done | rfl | (simp only [List.length_drop, List.length_take]; rfl)) ?_; (with_reducible refine (bivouacref06_Check.calls k t179 t180 t181 _ _ t182 t196 _ ?side1 ?side2 A20.out).mono ?_); (case side1 => refine (Kd.V_reads' (e := 5) (base := w.heap.size) (ok := fun k_ => ((k_ ≠ gb178 ∧ some k_ ≠ (.slice Ao19 t191.length co19 : Value).ownBlock) ∧ k_ ≠ gb195)) (n := t182.length) (c := co12) ?_).2.2; exact (by (with_reducible repeat (first | apply Kd.V_alloc | apply Kd.V_drewN | apply Kd.V_drew)); exact (Kd.V_mono (Kd.V_far (p := ⟨gb195, 3, none⟩) (Kd.V_far (p := ⟨gb195, 2, none⟩) (Kd.V_far (p := ⟨gb195, 1, none⟩) (Kd.V_far (p := ⟨gb195, 0, none⟩) (Kd.V_mono HO184.out (fun k_ hk => (⟨hk, hk.2⟩ : _ ∧ k_ ≠ gb195))) (fun _ hk => hk.2) (.int .i64 t188)) (fun _ hk => hk.2) (.int .i64 t189)) (fun _ hk => hk.2) (.int .i64 t190)) (fun _ hk => hk.2) (.slice Ao19 t191.length co19)) (fun _ h_ => h_.1)))); (case side2 => exact (Kd.V_reads' HO184.out).2.1); rintro e w25 ⟨rfl, hb⟩; refine ⟨_, rfl, ?_⟩; have n0_ := aM20 (Kd.V_below (by (with_reducible repeat (first | apply Kd.V_alloc | apply Kd.V_drewN | apply Kd.V_drew)); exact (Kd.V_mono (Kd.V_far (p := ⟨gb195, 3, none⟩) (Kd.V_far (p := ⟨gb195, 2, none⟩) (Kd.V_far (p := ⟨gb195, 1, none⟩) (Kd.V_far (p := ⟨gb195, 0, none⟩) (Kd.V_mono HO184.out (fun k_ hk => (⟨hk, hk.2⟩ : _ ∧ k_ ≠ gb195))) (fun _ hk => hk.2) (.int .i64 t188)) (fun _ hk => hk.2) (.int .i64 t189)) (fun _ hk => hk.2) (.int .i64 t190)) (fun _ hk => hk.2) (.slice Ao19 t191.length co19)) (fun _ h_ => h_.1))) hb); have n1_ := aM20 (Kd.V_below (by (with_reducible repeat (first | apply Kd.V_alloc | apply Kd.V_drewN | apply Kd.V_drew)); exact (Kd.V_mono (Kd.V_far (p := ⟨gb195, 3, none⟩) (Kd.V_far (p := ⟨gb195, 2, none⟩) (Kd.V_far (p := ⟨gb195, 1, none⟩) (Kd.V_far (p := ⟨gb195, 0, none⟩) (Kd.V_mono HO187.out (fun k_ hk => (⟨hk, hk.2⟩ : _ ∧ k_ ≠ gb195))) (fun _ hk => hk.2) (.int .i64 t188)) (fun _ hk => hk.2) (.int .i64 t189)) (fun _ hk => hk.2) (.int .i64 t190)) (fun _ hk => hk.2) (.slice Ao19 t191.length co19)) (fun _ h_ => h_.1))) hb); have n2_ := aM20 (Kd.R_below (by (with_reducible repeat (first | apply Kd.R_alloc | apply Kd.R_drewN | apply Kd.R_drew)); exact (Kd.R_mono (Kd.R_far (p := ⟨gb195, 3, none⟩) (Kd.R_far (p := ⟨gb195, 2, none⟩) (Kd.R_far (p := ⟨gb195, 1, none⟩) (Kd.R_far (p := ⟨gb195, 0, none⟩) (Kd.R_types HO193.out BK195.out (by decide)) (fun _ hk => hk.2) (.int .i64 t188)) (fun _ hk => hk.2) (.int .i64 t189)) (fun _ hk => hk.2) (.int .i64 t190)) (fun _ hk => hk.2) (.slice Ao19 t191.length co19)) (fun _ h_ => h_.1))) hb); have n3_ := aM20 (blk_below (g := gb178) (o := .cells #[.int .i64 t179, .int .i64 t180, .int .i64 t181, .slice Ao12 t182.length co12] 46 (0, 0)) (by (with_reducible repeat (first | refine bN20 ?_ _ | refine bD20 ?_ | refine bK20 ?_ _)); refine blk_far ?_ NB178_195.out _; (with_reducible repeat (first | refine bN20 ?_ _ | refine bD20 ?_ | refine bK20 ?_ _)); refine blk_far ?_ NB178_195.out _; (with_reducible repeat (first | refine bN20 ?_ _ | refine bD20 ?_ | refine bK20 ?_ _)); refine blk_far ?_ NB178_195.out _; (with_reducible repeat (first | refine bN20 ?_ _ | refine bD20 ?_ | refine bK20 ?_ _)); refine blk_far ?_ NB178_195.out _; (with_reducible repeat (first | refine bN20 ?_ _ | refine bD20 ?_ | refine bK20 ?_ _)); exact BK178.out) hb); have n4_ := aM20 (blk_below (g := gb195) (o := .cells #[.int .i64 t188, .int .i64 t189, .int .i64 t190, .slice Ao19 t191.length co19] 46 (0, 0)) (by (with_reducible repeat (first | refine bN20 ?_ _ | refine bD20 ?_ | refine bK20 ?_ _)); refine blk_put (cs := #[.int .i64 t188, .int .i64 t189, .int .i64 t190, .slice none 0 0]) ?_ 3 _ rfl; (with_reducible repeat (first | refine bN20 ?_ _ | refine bD20 ?_ | refine bK20 ?_ _)); refine blk_put (cs := #[.int .i64 t188, .int .i64 t189, .int .i64 0, .slice none 0 0]) ?_ 2 _ rfl; (with_reducible repeat (first | refine bN20 ?_ _ | refine bD20 ?_ | refine bK20 ?_ _)); refine blk_put (cs := #[.int .i64 t188, .int .i64 0, .int .i64 0, .slice none 0 0]) ?_ 1 _ rfl; (with_reducible repeat (first | refine bN20 ?_ _ | refine bD20 ?_ | refine bK20 ?_ _)); refine blk_put (cs := #[.int .i64 0, .int .i64 0, .int .i64 0, .slice none 0 0]) ?_ 0 _ rfl; (with_reducible repeat (first | refine bN20 ?_ _ | refine bD20 ?_ | refine bK20 ?_ _)); exact BK195.out) hb); have n5_ := aM20 (below_step (by repeat (first | (with_reducible first | exact HB.out | apply below_alloc | apply pw_below_drewN | apply below_drew1 | refine below_set ?_ GE178.out | refine below_set ?_ GE195.out) | exact HB.out)) hb); clear HO184; clear HO187; clear HO193; clear BK178; clear BK195; clear HB; have HO184 := n0_; have HO187 := n1_; have HO193 := n2_; have BK178 := n3_; have BK195 := n4_; have HB := n5_; clear n0_ n1_ n2_ n3_ n4_ n5_; (try clear hb); (try clear hb2); (try clear hk); (try clear hi)) | (go_at_call 32; (with_reducible refine (bivouaclaw09_may.calls k _ _ t185 t197 _ ?side1 ?side2 A22.out).mono ?_); (case side1 => repeat (first | exact (Kd.V_reads' HO187.out).2.2 | (with_reducible refine Kd.C_alloc ?_ _) | (with_reducible refine Kd.C_drewN ?_ _) | (with_reducible refine Kd.C_drew ?_))); (case side2 => exact (Kd.V_reads' HO187.out).2.1); rintro e w26 ⟨rfl, hb⟩; have n0_ := aM20 (Kd.V_below (by (with_reducible repeat (first | apply Kd.V_alloc | apply Kd.V_drewN | apply Kd.V_drew)); exact HO184.out) hb); have n1_ := aM20 (Kd.V_below (by (with_reducible repeat (first | apply Kd.V_alloc | apply Kd.V_drewN | apply Kd.V_drew)); exact HO187.out) hb); have n2_ := aM20 (Kd.R_below (by (with_reducible repeat (first | apply Kd.R_alloc | apply Kd.R_drewN | apply Kd.R_drew)); exact HO193.out) hb); have n3_ := aM20 (blk_below (g := gb178) (o := .cells #[.int .i64 t179, .int .i64 t180, .int .i64 t181, .slice Ao12 t182.length co12] 46 (0, 0)) (by (with_reducible repeat (first | refine bN20 ?_ _ | refine bD20 ?_ | refine bK20 ?_ _)); exact BK178.out) hb); have n4_ := aM20 (blk_below (g := gb195) (o := .cells #[.int .i64 t188, .int .i64 t189, .int .i64 t190, .slice Ao19 t191.length co19] 46 (0, 0)) (by (with_reducible repeat (first | refine bN20 ?_ _ | refine bD20 ?_ | refine bK20 ?_ _)); exact BK195.out) hb); have n5_ := aM20 (below_step (by repeat (first | (with_reducible first | exact HB.out | apply below_alloc | apply pw_below_drewN | apply below_drew1 | refine below_set ?_ GE178.out | refine below_set ?_ GE195.out) | exact HB.out)) hb); clear HO184; clear HO187; clear HO193; clear BK178; clear BK195; clear HB; have HO184 := n0_; have HO187 := n1_; have HO193 := n2_; have BK178 := n3_; have BK195 := n4_; have HB := n5_; clear n0_ n1_ n2_ n3_ n4_ n5_; (try clear hb); (try clear hb2); (try clear hk); (try clear hi)))
   go_meet
   case rel => exact ⟨_, (!t197), (by first | rfl | (simp; done) | (simp [*]; done)), H', ⟨by first | omega | exact Nat.le_refl _⟩, ⟨by (with_reducible repeat (first | apply Kd.V_alloc | apply Kd.V_drewN | apply Kd.V_drew)); exact Kd.V_mono HO187.out (fun _ hk => ⟨hk.1.2, ⟨hk.1.1, hk.2⟩⟩)⟩, ⟨by (with_reducible repeat (first | apply Kd.V_alloc | apply Kd.V_drewN | apply Kd.V_drew)); exact Kd.V_mono HO184.out (fun _ hk => ⟨hk.1.2, ⟨hk.1.1, hk.2⟩⟩)⟩, ⟨by (with_reducible repeat (first | apply Kd.R_alloc | apply Kd.R_drewN | apply Kd.R_drew)); exact HO193.out⟩, ⟨by (with_reducible repeat (first | refine bN20 ?_ _ | refine bD20 ?_ | refine bK20 ?_ _)); exact BK178.out⟩, ⟨by (with_reducible repeat (first | refine bN20 ?_ _ | refine bD20 ?_ | refine bK20 ?_ _)); exact BK195.out⟩, ⟨by repeat (first | (with_reducible first | exact HB.out | apply below_alloc | apply pw_below_drewN | apply below_drew1 | refine below_set ?_ GE178.out | refine below_set ?_ GE195.out) | exact HB.out)⟩⟩
  rw [if_neg c21] at H
  have c21b0 : (t196 == 0) = false := beq_eq_false_iff_ne.mpr c21
  have c21b1 : (t196 != 0) = true := bne_iff_ne.mpr c21
  (first | rw [c21b0] | (simp only [i64_w, i32_w]; rw [c21b0]) | skip)
  have H' := aM20 H
  clear H
  have hnb27 := NB178_195.out
  have hnc27 := NB195_178.out
  have hcz28_0 : w16.cell? ⟨gb178, 0, none⟩ = some (.int .i64 t179) := (bC20 BK178.out 0).trans rfl
  have hcz28_1 : w16.cell? ⟨gb178, 1, none⟩ = some (.int .i64 t180) := (bC20 BK178.out 1).trans rfl
  have hcz28_2 : w16.cell? ⟨gb178, 2, none⟩ = some (.int .i64 t181) := (bC20 BK178.out 2).trans rfl
  have hcz28_3 : w16.cell? ⟨gb178, 3, none⟩ = some (.slice Ao12 t182.length co12) := (bC20 BK178.out 3).trans rfl
  have hfz28_0 := bF20 BK178.out 0
  have hfz28_1 := bF20 BK178.out 1
  have hfz28_2 := bF20 BK178.out 2
  have hfz28_3 := bF20 BK178.out 3
  go_wp2_with (first | ((with_reducible refine gate_callee (f := 29) rfl ?_); refine goesL_ (some 25) rfl rfl Try.func29 (by kernel_rfl) rfl #[.agg #[.int .i64 t179, .int .i64 t180, .int .i64 t181, .slice Ao12 t182.length co12]] rfl (by (try simp only [List.map_toArray, List.map_cons, List.map_nil]); first | done | rfl | (simp only [List.length_drop, List.length_take]; rfl)) ?_; (with_reducible refine (bivouacref06_Check.calls k t179 t180 t181 _ _ t182 t196 _ ?side1 ?side2 A20.out).mono ?_); (case side1 => refine (Kd.V_reads' (e := 5) (base := w.heap.size) (ok := fun k_ => ((k_ ≠ gb178 ∧ some k_ ≠ (.slice Ao19 t191.length co19 : Value).ownBlock) ∧ k_ ≠ gb195)) (n := t182.length) (c := co12) ?_).2.2; exact (by (with_reducible repeat (first | apply Kd.V_alloc | apply Kd.V_drewN | apply Kd.V_drew)); exact (Kd.V_mono (Kd.V_far (p := ⟨gb195, 3, none⟩) (Kd.V_far (p := ⟨gb195, 2, none⟩) (Kd.V_far (p := ⟨gb195, 1, none⟩) (Kd.V_far (p := ⟨gb195, 0, none⟩) (Kd.V_mono HO184.out (fun k_ hk => (⟨hk, hk.2⟩ : _ ∧ k_ ≠ gb195))) (fun _ hk => hk.2) (.int .i64 t188)) (fun _ hk => hk.2) (.int .i64 t189)) (fun _ hk => hk.2) (.int .i64 t190)) (fun _ hk => hk.2) (.slice Ao19 t191.length co19)) (fun _ h_ => h_.1)))); (case side2 => exact (Kd.V_reads' HO184.out).2.1); rintro e w29 ⟨rfl, hb⟩; refine ⟨_, rfl, ?_⟩; have n0_ := aM20 (Kd.V_below (by (with_reducible repeat (first | apply Kd.V_alloc | apply Kd.V_drewN | apply Kd.V_drew)); exact (Kd.V_mono (Kd.V_far (p := ⟨gb195, 3, none⟩) (Kd.V_far (p := ⟨gb195, 2, none⟩) (Kd.V_far (p := ⟨gb195, 1, none⟩) (Kd.V_far (p := ⟨gb195, 0, none⟩) (Kd.V_mono HO184.out (fun k_ hk => (⟨hk, hk.2⟩ : _ ∧ k_ ≠ gb195))) (fun _ hk => hk.2) (.int .i64 t188)) (fun _ hk => hk.2) (.int .i64 t189)) (fun _ hk => hk.2) (.int .i64 t190)) (fun _ hk => hk.2) (.slice Ao19 t191.length co19)) (fun _ h_ => h_.1))) hb); have n1_ := aM20 (Kd.V_below (by (with_reducible repeat (first | apply Kd.V_alloc | apply Kd.V_drewN | apply Kd.V_drew)); exact (Kd.V_mono (Kd.V_far (p := ⟨gb195, 3, none⟩) (Kd.V_far (p := ⟨gb195, 2, none⟩) (Kd.V_far (p := ⟨gb195, 1, none⟩) (Kd.V_far (p := ⟨gb195, 0, none⟩) (Kd.V_mono HO187.out (fun k_ hk => (⟨hk, hk.2⟩ : _ ∧ k_ ≠ gb195))) (fun _ hk => hk.2) (.int .i64 t188)) (fun _ hk => hk.2) (.int .i64 t189)) (fun _ hk => hk.2) (.int .i64 t190)) (fun _ hk => hk.2) (.slice Ao19 t191.length co19)) (fun _ h_ => h_.1))) hb); have n2_ := aM20 (Kd.R_below (by (with_reducible repeat (first | apply Kd.R_alloc | apply Kd.R_drewN | apply Kd.R_drew)); exact (Kd.R_mono (Kd.R_far (p := ⟨gb195, 3, none⟩) (Kd.R_far (p := ⟨gb195, 2, none⟩) (Kd.R_far (p := ⟨gb195, 1, none⟩) (Kd.R_far (p := ⟨gb195, 0, none⟩) (Kd.R_types HO193.out BK195.out (by decide)) (fun _ hk => hk.2) (.int .i64 t188)) (fun _ hk => hk.2) (.int .i64 t189)) (fun _ hk => hk.2) (.int .i64 t190)) (fun _ hk => hk.2) (.slice Ao19 t191.length co19)) (fun _ h_ => h_.1))) hb); have n3_ := aM20 (blk_below (g := gb178) (o := .cells #[.int .i64 t179, .int .i64 t180, .int .i64 t181, .slice Ao12 t182.length co12] 46 (0, 0)) (by (with_reducible repeat (first | refine bN20 ?_ _ | refine bD20 ?_ | refine bK20 ?_ _)); refine blk_far ?_ NB178_195.out _; (with_reducible repeat (first | refine bN20 ?_ _ | refine bD20 ?_ | refine bK20 ?_ _)); refine blk_far ?_ NB178_195.out _; (with_reducible repeat (first | refine bN20 ?_ _ | refine bD20 ?_ | refine bK20 ?_ _)); refine blk_far ?_ NB178_195.out _; (with_reducible repeat (first | refine bN20 ?_ _ | refine bD20 ?_ | refine bK20 ?_ _)); refine blk_far ?_ NB178_195.out _; (with_reducible repeat (first | refine bN20 ?_ _ | refine bD20 ?_ | refine bK20 ?_ _)); exact BK178.out) hb); have n4_ := aM20 (blk_below (g := gb195) (o := .cells #[.int .i64 t188, .int .i64 t189, .int .i64 t190, .slice Ao19 t191.length co19] 46 (0, 0)) (by (with_reducible repeat (first | refine bN20 ?_ _ | refine bD20 ?_ | refine bK20 ?_ _)); refine blk_put (cs := #[.int .i64 t188, .int .i64 t189, .int .i64 t190, .slice none 0 0]) ?_ 3 _ rfl; (with_reducible repeat (first | refine bN20 ?_ _ | refine bD20 ?_ | refine bK20 ?_ _)); refine blk_put (cs := #[.int .i64 t188, .int .i64 t189, .int .i64 0, .slice none 0 0]) ?_ 2 _ rfl; (with_reducible repeat (first | refine bN20 ?_ _ | refine bD20 ?_ | refine bK20 ?_ _)); refine blk_put (cs := #[.int .i64 t188, .int .i64 0, .int .i64 0, .slice none 0 0]) ?_ 1 _ rfl; (with_reducible repeat (first | refine bN20 ?_ _ | refine bD20 ?_ | refine bK20 ?_ _)); refine blk_put (cs := #[.int .i64 0, .int .i64 0, .int .i64 0, .slice none 0 0]) ?_ 0 _ rfl; (with_reducible repeat (first | refine bN20 ?_ _ | refine bD20 ?_ | refine bK20 ?_ _)); exact BK195.out) hb); have n5_ := aM20 (below_step (by repeat (first | (with_reducible first | exact HB.out | apply below_alloc | apply pw_below_drewN | apply below_drew1 | refine below_set ?_ GE178.out | refine below_set ?_ GE195.out) | exact HB.out)) hb); clear HO184; clear HO187; clear HO193; clear BK178; clear BK195; clear HB; have HO184 := n0_; have HO187 := n1_; have HO193 := n2_; have BK178 := n3_; have BK195 := n4_; have HB := n5_; clear n0_ n1_ n2_ n3_ n4_ n5_; (try clear hb); (try clear hb2); (try clear hk); (try clear hi)))
  go_meet
  case rel => exact ⟨_, (true), (by first | rfl | (simp; done) | (simp [*]; done)), H', ⟨by first | omega | exact Nat.le_refl _⟩, ⟨by (with_reducible repeat (first | apply Kd.V_alloc | apply Kd.V_drewN | apply Kd.V_drew)); exact Kd.V_mono HO187.out (fun _ hk => ⟨hk.1.2, ⟨hk.1.1, hk.2⟩⟩)⟩, ⟨by (with_reducible repeat (first | apply Kd.V_alloc | apply Kd.V_drewN | apply Kd.V_drew)); exact Kd.V_mono HO184.out (fun _ hk => ⟨hk.1.2, ⟨hk.1.1, hk.2⟩⟩)⟩, ⟨by (with_reducible repeat (first | apply Kd.R_alloc | apply Kd.R_drewN | apply Kd.R_drew)); exact HO193.out⟩, ⟨by (with_reducible repeat (first | refine bN20 ?_ _ | refine bD20 ?_ | refine bK20 ?_ _)); exact BK178.out⟩, ⟨by (with_reducible repeat (first | refine bN20 ?_ _ | refine bD20 ?_ | refine bK20 ?_ _)); exact BK195.out⟩, ⟨by repeat (first | (with_reducible first | exact HB.out | apply below_alloc | apply pw_below_drewN | apply below_drew1 | refine below_set ?_ GE178.out | refine below_set ?_ GE195.out) | exact HB.out)⟩⟩
 clear HC6
 try clear c1
 try clear hcv1
 try clear c2
 try clear p2
 try clear c3
 try clear c11
 try clear hcv13
 try clear c17
 try clear c21
 try clear c21b0
 try clear c21b1
 try clear c23
 try clear c26
 try clear c27
 try clear c29
 try clear hcz11_0
 try clear hcz11_1
 try clear hcz11_2
 try clear hcz11_3
 try clear hcz18_0
 try clear hcz18_1
 try clear hcz18_2
 try clear hcz18_3
 try clear hcz24_0
 try clear hcz24_1
 try clear hcz24_2
 try clear hcz24_3
 try clear hcz28_0
 try clear hcz28_1
 try clear hcz28_2
 try clear hcz28_3
 try clear hcz8_0
 try clear hcz8_1
 try clear hcz8_2
 try clear hcz8_3
 try clear hfz11_0
 try clear hfz11_1
 try clear hfz11_2
 try clear hfz11_3
 try clear hfz18_0
 try clear hfz18_1
 try clear hfz18_2
 try clear hfz18_3
 try clear hfz24_0
 try clear hfz24_1
 try clear hfz24_2
 try clear hfz24_3
 try clear hfz28_0
 try clear hfz28_1
 try clear hfz28_2
 try clear hfz28_3
 try clear hfz8_0
 try clear hfz8_1
 try clear hfz8_2
 try clear hfz8_3
 obtain ⟨kq, x31_5, rfl, HA, HJ5, HO_1, HO_179003, HO_196003, BK178, BK195, HB⟩ := hcut
 cases kq with
 | zero => exact absurd HA.out (by simp [bivouaclaw09_CraterStrikes.j0])
 | succ kj5 =>
  have H := HA.out
  clear HA
  simp only [bivouaclaw09_CraterStrikes.j0] at H
  by_cases c30 : x31_5 = true
  ·
   subst c30
   have H1 : ((bivouacref06_Same.f t188 t189 t190 t191 0 0 0 ([] : List Int)).bind fun t198 => (if t198 = true then (if t194 = 1 then ((bivouaclaw09_awake.f).bind fun t199 => (some t199)) else (some false)) else (some false))) = some r := by rw [if_pos rfl] at H; exact H
   clear H
   have H := H1
   clear H1
   replace H := Option.bind_eq_some_iff.mp H
   obtain ⟨t198, A310, H⟩ := H
   replace H : (if t198 = true then (if t194 = 1 then ((bivouaclaw09_awake.f).bind fun t199 => (some t199)) else (some false)) else (some false)) = some r := H
   have A31 := aM20 A310
   clear A310
   by_cases c32 : t198 = true
   ·
    subst c32
    have H1 : (if t194 = 1 then ((bivouaclaw09_awake.f).bind fun t199 => (some t199)) else (some false)) = some r := by rw [if_pos rfl] at H; exact H
    clear H
    have H := H1
    clear H1
    by_cases c33 : t194 = 1
    ·
     rw [if_pos c33] at H
     have c33b0 : (t194 == 1) = true := beq_iff_eq.mpr c33
     have c33b1 : (t194 != 1) = false := bne_eq_false_iff_eq.mpr c33
     clear c33
     replace H := Option.bind_eq_some_iff.mp H
     obtain ⟨t199, A340, H⟩ := H
     replace H : (some t199) = some r := H
     have A34 := aM20 A340
     clear A340
     obtain rfl := Option.some.inj H
     have hnb35 := NB195_178.out
     have hnc35 := NB178_195.out
     have hcz36_0 : wc.cell? ⟨gb195, 0, none⟩ = some (.int .i64 t188) := (bC20 BK195.out 0).trans rfl
     have hcz36_1 : wc.cell? ⟨gb195, 1, none⟩ = some (.int .i64 t189) := (bC20 BK195.out 1).trans rfl
     have hcz36_2 : wc.cell? ⟨gb195, 2, none⟩ = some (.int .i64 t190) := (bC20 BK195.out 2).trans rfl
     have hcz36_3 : wc.cell? ⟨gb195, 3, none⟩ = some (.slice Ao19 t191.length co19) := (bC20 BK195.out 3).trans rfl
     have hfz36_0 := bF20 BK195.out 0
     have hfz36_1 := bF20 BK195.out 1
     have hfz36_2 := bF20 BK195.out 2
     have hfz36_3 := bF20 BK195.out 3
     go_wp2_with (first | ((with_reducible refine gate_callee (f := 28) rfl ?_); refine goesL_ (some 34) rfl rfl Try.func28 (by kernel_rfl) rfl #[.agg #[.int .i64 t188, .int .i64 t189, .int .i64 t190, .slice Ao19 t191.length co19], .agg #[.int .i64 0, .int .i64 0, .int .i64 0, .slice none 0 0]] rfl (by (try simp only [List.map_toArray, List.map_cons, List.map_nil]); first | done | rfl | (simp only [List.length_drop, List.length_take]; rfl)) ?_; (refine (bivouacref06_Same.calls t188 t189 t190 _ _ t191 0 0 0 _ _ ([] : List Int) true _ ?side1 ?side2 ?side3 ?side4 A31.out).mono ?_); (case side1 => repeat (first | exact (Kd.R_reads' HO_196003.out).2.2 | (with_reducible refine Kd.C_alloc ?_ _) | (with_reducible refine Kd.C_drewN ?_ _) | (with_reducible refine Kd.C_drew ?_))); (case side2 => exact (Kd.R_reads' HO_196003.out).2.1); (case side3 => exact Kd.C_nil _ _); (case side4 => exact Nat.le_refl _); rintro e w37 ⟨rfl, hb⟩; refine ⟨_, rfl, ?_⟩; have n0_ := aM20 (Kd.V_below (by (with_reducible repeat (first | apply Kd.V_alloc | apply Kd.V_drewN | apply Kd.V_drew)); exact HO_1.out) hb); have n1_ := aM20 (Kd.V_below (by (with_reducible repeat (first | apply Kd.V_alloc | apply Kd.V_drewN | apply Kd.V_drew)); exact HO_179003.out) hb); have n2_ := aM20 (Kd.R_below (by (with_reducible repeat (first | apply Kd.R_alloc | apply Kd.R_drewN | apply Kd.R_drew)); exact HO_196003.out) hb); have n3_ := aM20 (blk_below (g := gb178) (o := .cells #[.int .i64 t179, .int .i64 t180, .int .i64 t181, .slice Ao12 t182.length co12] 46 (0, 0)) (by (with_reducible repeat (first | refine bN20 ?_ _ | refine bD20 ?_ | refine bK20 ?_ _)); exact BK178.out) hb); have n4_ := aM20 (blk_below (g := gb195) (o := .cells #[.int .i64 t188, .int .i64 t189, .int .i64 t190, .slice Ao19 t191.length co19] 46 (0, 0)) (by (with_reducible repeat (first | refine bN20 ?_ _ | refine bD20 ?_ | refine bK20 ?_ _)); exact BK195.out) hb); have n5_ := aM20 (below_step (by repeat (first | (with_reducible first | exact HB.out | apply below_alloc | apply pw_below_drewN | apply below_drew1 | refine below_set ?_ GE178.out | refine below_set ?_ GE195.out) | exact HB.out)) hb); clear HO_1; clear HO_179003; clear HO_196003; clear BK178; clear BK195; clear HB; have HO_1 := n0_; have HO_179003 := n1_; have HO_196003 := n2_; have BK178 := n3_; have BK195 := n4_; have HB := n5_; clear n0_ n1_ n2_ n3_ n4_ n5_; (try clear hb); (try clear hb2); (try clear hk); (try clear hi)) | (go_at_call 17; (with_reducible refine (bivouaclaw09_awake.calls  t199 _ A34.out).mono ?_); rintro e w38 ⟨rfl, hb⟩; have n0_ := aM20 (Kd.V_below (by (with_reducible repeat (first | apply Kd.V_alloc | apply Kd.V_drewN | apply Kd.V_drew)); exact HO_1.out) hb); have n1_ := aM20 (Kd.V_below (by (with_reducible repeat (first | apply Kd.V_alloc | apply Kd.V_drewN | apply Kd.V_drew)); exact HO_179003.out) hb); have n2_ := aM20 (Kd.R_below (by (with_reducible repeat (first | apply Kd.R_alloc | apply Kd.R_drewN | apply Kd.R_drew)); exact HO_196003.out) hb); have n3_ := aM20 (blk_below (g := gb178) (o := .cells #[.int .i64 t179, .int .i64 t180, .int .i64 t181, .slice Ao12 t182.length co12] 46 (0, 0)) (by (with_reducible repeat (first | refine bN20 ?_ _ | refine bD20 ?_ | refine bK20 ?_ _)); exact BK178.out) hb); have n4_ := aM20 (blk_below (g := gb195) (o := .cells #[.int .i64 t188, .int .i64 t189, .int .i64 t190, .slice Ao19 t191.length co19] 46 (0, 0)) (by (with_reducible repeat (first | refine bN20 ?_ _ | refine bD20 ?_ | refine bK20 ?_ _)); exact BK195.out) hb); have n5_ := aM20 (below_step (by repeat (first | (with_reducible first | exact HB.out | apply below_alloc | apply pw_below_drewN | apply below_drew1 | refine below_set ?_ GE178.out | refine below_set ?_ GE195.out) | exact HB.out)) hb); clear HO_1; clear HO_179003; clear HO_196003; clear BK178; clear BK195; clear HB; have HO_1 := n0_; have HO_179003 := n1_; have HO_196003 := n2_; have BK178 := n3_; have BK195 := n4_; have HB := n5_; clear n0_ n1_ n2_ n3_ n4_ n5_; (try clear hb); (try clear hb2); (try clear hk); (try clear hi)))
     go_ret
     exact ⟨by first | rfl | (simp [errW_none, errW_some] <;> rfl) | (simp [*, errW_none, errW_some] <;> rfl) | (rw [Int.tdiv_eq_ediv_of_nonneg (by assumption)]; rfl), by repeat (first | (with_reducible first | exact HB.out | apply below_alloc | apply pw_below_drewN | apply below_drew1 | refine below_set ?_ GE178.out | refine below_set ?_ GE195.out) | exact HB.out)⟩
    rw [if_neg c33] at H
    have c33b0 : (t194 == 1) = false := beq_eq_false_iff_ne.mpr c33
    have c33b1 : (t194 != 1) = true := bne_iff_ne.mpr c33
    obtain rfl := Option.some.inj H
    have hnb39 := NB195_178.out
    have hnc39 := NB178_195.out
    have hcz40_0 : wc.cell? ⟨gb195, 0, none⟩ = some (.int .i64 t188) := (bC20 BK195.out 0).trans rfl
    have hcz40_1 : wc.cell? ⟨gb195, 1, none⟩ = some (.int .i64 t189) := (bC20 BK195.out 1).trans rfl
    have hcz40_2 : wc.cell? ⟨gb195, 2, none⟩ = some (.int .i64 t190) := (bC20 BK195.out 2).trans rfl
    have hcz40_3 : wc.cell? ⟨gb195, 3, none⟩ = some (.slice Ao19 t191.length co19) := (bC20 BK195.out 3).trans rfl
    have hfz40_0 := bF20 BK195.out 0
    have hfz40_1 := bF20 BK195.out 1
    have hfz40_2 := bF20 BK195.out 2
    have hfz40_3 := bF20 BK195.out 3
    go_wp2_with (first | ((with_reducible refine gate_callee (f := 28) rfl ?_); refine goesL_ (some 34) rfl rfl Try.func28 (by kernel_rfl) rfl #[.agg #[.int .i64 t188, .int .i64 t189, .int .i64 t190, .slice Ao19 t191.length co19], .agg #[.int .i64 0, .int .i64 0, .int .i64 0, .slice none 0 0]] rfl (by (try simp only [List.map_toArray, List.map_cons, List.map_nil]); first | done | rfl | (simp only [List.length_drop, List.length_take]; rfl)) ?_; (refine (bivouacref06_Same.calls t188 t189 t190 _ _ t191 0 0 0 _ _ ([] : List Int) true _ ?side1 ?side2 ?side3 ?side4 A31.out).mono ?_); (case side1 => repeat (first | exact (Kd.R_reads' HO_196003.out).2.2 | (with_reducible refine Kd.C_alloc ?_ _) | (with_reducible refine Kd.C_drewN ?_ _) | (with_reducible refine Kd.C_drew ?_))); (case side2 => exact (Kd.R_reads' HO_196003.out).2.1); (case side3 => exact Kd.C_nil _ _); (case side4 => exact Nat.le_refl _); rintro e w41 ⟨rfl, hb⟩; refine ⟨_, rfl, ?_⟩; have n0_ := aM20 (Kd.V_below (by (with_reducible repeat (first | apply Kd.V_alloc | apply Kd.V_drewN | apply Kd.V_drew)); exact HO_1.out) hb); have n1_ := aM20 (Kd.V_below (by (with_reducible repeat (first | apply Kd.V_alloc | apply Kd.V_drewN | apply Kd.V_drew)); exact HO_179003.out) hb); have n2_ := aM20 (Kd.R_below (by (with_reducible repeat (first | apply Kd.R_alloc | apply Kd.R_drewN | apply Kd.R_drew)); exact HO_196003.out) hb); have n3_ := aM20 (blk_below (g := gb178) (o := .cells #[.int .i64 t179, .int .i64 t180, .int .i64 t181, .slice Ao12 t182.length co12] 46 (0, 0)) (by (with_reducible repeat (first | refine bN20 ?_ _ | refine bD20 ?_ | refine bK20 ?_ _)); exact BK178.out) hb); have n4_ := aM20 (blk_below (g := gb195) (o := .cells #[.int .i64 t188, .int .i64 t189, .int .i64 t190, .slice Ao19 t191.length co19] 46 (0, 0)) (by (with_reducible repeat (first | refine bN20 ?_ _ | refine bD20 ?_ | refine bK20 ?_ _)); exact BK195.out) hb); have n5_ := aM20 (below_step (by repeat (first | (with_reducible first | exact HB.out | apply below_alloc | apply pw_below_drewN | apply below_drew1 | refine below_set ?_ GE178.out | refine below_set ?_ GE195.out) | exact HB.out)) hb); clear HO_1; clear HO_179003; clear HO_196003; clear BK178; clear BK195; clear HB; have HO_1 := n0_; have HO_179003 := n1_; have HO_196003 := n2_; have BK178 := n3_; have BK195 := n4_; have HB := n5_; clear n0_ n1_ n2_ n3_ n4_ n5_; (try clear hb); (try clear hb2); (try clear hk); (try clear hi)))
    go_ret
    exact ⟨by first | rfl | (simp [errW_none, errW_some] <;> rfl) | (simp [*, errW_none, errW_some] <;> rfl) | (rw [Int.tdiv_eq_ediv_of_nonneg (by assumption)]; rfl), by repeat (first | (with_reducible first | exact HB.out | apply below_alloc | apply pw_below_drewN | apply below_drew1 | refine below_set ?_ GE178.out | refine below_set ?_ GE195.out) | exact HB.out)⟩
   replace c32 := Bool.eq_false_iff.mpr c32
   subst c32
   have H1 : (some false) = some r := by rw [if_neg (show ¬ (false = true) by decide)] at H; exact H
   clear H
   have H := H1
   clear H1
   obtain rfl := Option.some.inj H
   have hnb42 := NB195_178.out
   have hnc42 := NB178_195.out
   have hcz43_0 : wc.cell? ⟨gb195, 0, none⟩ = some (.int .i64 t188) := (bC20 BK195.out 0).trans rfl
   have hcz43_1 : wc.cell? ⟨gb195, 1, none⟩ = some (.int .i64 t189) := (bC20 BK195.out 1).trans rfl
   have hcz43_2 : wc.cell? ⟨gb195, 2, none⟩ = some (.int .i64 t190) := (bC20 BK195.out 2).trans rfl
   have hcz43_3 : wc.cell? ⟨gb195, 3, none⟩ = some (.slice Ao19 t191.length co19) := (bC20 BK195.out 3).trans rfl
   have hfz43_0 := bF20 BK195.out 0
   have hfz43_1 := bF20 BK195.out 1
   have hfz43_2 := bF20 BK195.out 2
   have hfz43_3 := bF20 BK195.out 3
   go_wp2_with (first | ((with_reducible refine gate_callee (f := 28) rfl ?_); refine goesL_ (some 34) rfl rfl Try.func28 (by kernel_rfl) rfl #[.agg #[.int .i64 t188, .int .i64 t189, .int .i64 t190, .slice Ao19 t191.length co19], .agg #[.int .i64 0, .int .i64 0, .int .i64 0, .slice none 0 0]] rfl (by (try simp only [List.map_toArray, List.map_cons, List.map_nil]); first | done | rfl | (simp only [List.length_drop, List.length_take]; rfl)) ?_; (refine (bivouacref06_Same.calls t188 t189 t190 _ _ t191 0 0 0 _ _ ([] : List Int) false _ ?side1 ?side2 ?side3 ?side4 A31.out).mono ?_); (case side1 => repeat (first | exact (Kd.R_reads' HO_196003.out).2.2 | (with_reducible refine Kd.C_alloc ?_ _) | (with_reducible refine Kd.C_drewN ?_ _) | (with_reducible refine Kd.C_drew ?_))); (case side2 => exact (Kd.R_reads' HO_196003.out).2.1); (case side3 => exact Kd.C_nil _ _); (case side4 => exact Nat.le_refl _); rintro e w44 ⟨rfl, hb⟩; refine ⟨_, rfl, ?_⟩; have n0_ := aM20 (Kd.V_below (by (with_reducible repeat (first | apply Kd.V_alloc | apply Kd.V_drewN | apply Kd.V_drew)); exact HO_1.out) hb); have n1_ := aM20 (Kd.V_below (by (with_reducible repeat (first | apply Kd.V_alloc | apply Kd.V_drewN | apply Kd.V_drew)); exact HO_179003.out) hb); have n2_ := aM20 (Kd.R_below (by (with_reducible repeat (first | apply Kd.R_alloc | apply Kd.R_drewN | apply Kd.R_drew)); exact HO_196003.out) hb); have n3_ := aM20 (blk_below (g := gb178) (o := .cells #[.int .i64 t179, .int .i64 t180, .int .i64 t181, .slice Ao12 t182.length co12] 46 (0, 0)) (by (with_reducible repeat (first | refine bN20 ?_ _ | refine bD20 ?_ | refine bK20 ?_ _)); exact BK178.out) hb); have n4_ := aM20 (blk_below (g := gb195) (o := .cells #[.int .i64 t188, .int .i64 t189, .int .i64 t190, .slice Ao19 t191.length co19] 46 (0, 0)) (by (with_reducible repeat (first | refine bN20 ?_ _ | refine bD20 ?_ | refine bK20 ?_ _)); exact BK195.out) hb); have n5_ := aM20 (below_step (by repeat (first | (with_reducible first | exact HB.out | apply below_alloc | apply pw_below_drewN | apply below_drew1 | refine below_set ?_ GE178.out | refine below_set ?_ GE195.out) | exact HB.out)) hb); clear HO_1; clear HO_179003; clear HO_196003; clear BK178; clear BK195; clear HB; have HO_1 := n0_; have HO_179003 := n1_; have HO_196003 := n2_; have BK178 := n3_; have BK195 := n4_; have HB := n5_; clear n0_ n1_ n2_ n3_ n4_ n5_; (try clear hb); (try clear hb2); (try clear hk); (try clear hi)))
   go_ret
   exact ⟨by first | rfl | (simp [errW_none, errW_some] <;> rfl) | (simp [*, errW_none, errW_some] <;> rfl) | (rw [Int.tdiv_eq_ediv_of_nonneg (by assumption)]; rfl), by repeat (first | (with_reducible first | exact HB.out | apply below_alloc | apply pw_below_drewN | apply below_drew1 | refine below_set ?_ GE178.out | refine below_set ?_ GE195.out) | exact HB.out)⟩
  replace c30 := Bool.eq_false_iff.mpr c30
  subst c30
  have H1 : (if t194 = 0 then (if t188 = t179 then (if t189 = t180 then (if t190 = t181 then (if (t191.length : Int) = (t182.length : Int) then (bivouaclaw09_CraterStrikes.j1 kj5 t185 ((strOfNums t182).toList != (strOfNums t182).toList) t179 t180 t181 t182 t188 t189 t190 t191) else (bivouaclaw09_CraterStrikes.j1 kj5 t185 true t179 t180 t181 t182 t188 t189 t190 t191)) else (bivouaclaw09_CraterStrikes.j1 kj5 t185 true t179 t180 t181 t182 t188 t189 t190 t191)) else (bivouaclaw09_CraterStrikes.j1 kj5 t185 true t179 t180 t181 t182 t188 t189 t190 t191)) else (bivouaclaw09_CraterStrikes.j1 kj5 t185 true t179 t180 t181 t182 t188 t189 t190 t191)) else (bivouaclaw09_CraterStrikes.j1 kj5 t185 true t179 t180 t181 t182 t188 t189 t190 t191)) = some r := by rw [if_neg (show ¬ (false = true) by decide)] at H; exact H
  clear H
  have H := H1
  clear H1
  have HC45 := aM20 H
  clear H
  go_upto_region 6 with (fail)
  go_cut [80] (fun v80 wc => ∃ (kq : Nat) (x80_44 : Bool), v80 = .bool x80_44 ∧ Aside0 (bivouaclaw09_CraterStrikes.j1 kq t185 x80_44 t179 t180 t181 t182 t188 t189 t190 t191 = some r) ∧ Aside0 (kq ≤ kj5) ∧ Aside0 (Kd.V k23 23 wc w.heap.size (fun k_ => some k_ ≠ ((.slice Ao19 t191.length co19) : Value).ownBlock ∧ k_ ≠ gb178 ∧ k_ ≠ gb195) (.slice Ao14 t185.length co14) t185) ∧ Aside0 (Kd.V (Kd.int .u8) 5 wc w.heap.size (fun k_ => some k_ ≠ ((.slice Ao19 t191.length co19) : Value).ownBlock ∧ k_ ≠ gb178 ∧ k_ ≠ gb195) (.slice Ao12 t182.length co12) t182) ∧ Aside0 (Kd.R (Kd.int .u8) 5 wc w.heap.size (fun _ => True) (.slice Ao19 t191.length co19) t191) ∧ Aside0 (wc.heap[gb178]? = some (.cells #[.int .i64 t179, .int .i64 t180, .int .i64 t181, (.slice Ao12 t182.length co12)] 46 (0, 0))) ∧ Aside0 (wc.heap[gb195]? = some (.cells #[.int .i64 t188, .int .i64 t189, .int .i64 t190, (.slice Ao19 t191.length co19)] 46 (0, 0))) ∧ Aside0 (Below w.heap.size w wc))
  case first =>
   have H := HC45.out
   clear HC45
   by_cases c46 : t194 = 0
   ·
    rw [if_pos c46] at H
    have c46b0 : (t194 == 0) = true := beq_iff_eq.mpr c46
    have c46b1 : (t194 != 0) = false := bne_eq_false_iff_eq.mpr c46
    clear c46
    (first | rw [c46b0] | (simp only [i64_w, i32_w]; rw [c46b0]) | skip)
    by_cases c47 : t188 = t179
    ·
     rw [if_pos c47] at H
     have c47b0 : (t188 == t179) = true := beq_iff_eq.mpr c47
     have c47b1 : (t188 != t179) = false := bne_eq_false_iff_eq.mpr c47
     clear c47
     by_cases c48 : t189 = t180
     ·
      rw [if_pos c48] at H
      have c48b0 : (t189 == t180) = true := beq_iff_eq.mpr c48
      have c48b1 : (t189 != t180) = false := bne_eq_false_iff_eq.mpr c48
      clear c48
      by_cases c49 : t190 = t181
      ·
       rw [if_pos c49] at H
       have c49b0 : (t190 == t181) = true := beq_iff_eq.mpr c49
       have c49b1 : (t190 != t181) = false := bne_eq_false_iff_eq.mpr c49
       clear c49
       by_cases c50 : (t191.length : Int) = (t182.length : Int)
       ·
        rw [if_pos c50] at H
        have c50b0 : ((t191.length : Int) == (t182.length : Int)) = true := beq_iff_eq.mpr c50
        have c50b1 : ((t191.length : Int) != (t182.length : Int)) = false := bne_eq_false_iff_eq.mpr c50
        have c50b2 : (t191.length == t182.length) = true := by first | simpa using c50 | (simp at c50 ⊢; omega)
        clear c50
        have H' := aM20 H
        clear H
        have hnb51 := NB195_178.out
        have hnc51 := NB178_195.out
        have hcz52_0 : wc.cell? ⟨gb195, 0, none⟩ = some (.int .i64 t188) := (bC20 BK195.out 0).trans rfl
        have hcz52_1 : wc.cell? ⟨gb195, 1, none⟩ = some (.int .i64 t189) := (bC20 BK195.out 1).trans rfl
        have hcz52_2 : wc.cell? ⟨gb195, 2, none⟩ = some (.int .i64 t190) := (bC20 BK195.out 2).trans rfl
        have hcz52_3 : wc.cell? ⟨gb195, 3, none⟩ = some (.slice Ao19 t191.length co19) := (bC20 BK195.out 3).trans rfl
        have hfz52_0 := bF20 BK195.out 0
        have hfz52_1 := bF20 BK195.out 1
        have hfz52_2 := bF20 BK195.out 2
        have hfz52_3 := bF20 BK195.out 3
        have hcz53_0 : wc.cell? ⟨gb178, 0, none⟩ = some (.int .i64 t179) := (bC20 BK178.out 0).trans rfl
        have hcz53_1 : wc.cell? ⟨gb178, 1, none⟩ = some (.int .i64 t180) := (bC20 BK178.out 1).trans rfl
        have hcz53_2 : wc.cell? ⟨gb178, 2, none⟩ = some (.int .i64 t181) := (bC20 BK178.out 2).trans rfl
        have hcz53_3 : wc.cell? ⟨gb178, 3, none⟩ = some (.slice Ao12 t182.length co12) := (bC20 BK178.out 3).trans rfl
        have hfz53_0 := bF20 BK178.out 0
        have hfz53_1 := bF20 BK178.out 1
        have hfz53_2 := bF20 BK178.out 2
        have hfz53_3 := bF20 BK178.out 3
        have hcv54 := Kd.C_string (P := Try.prog) (c := co12) Try.underlying44 Try.underlying5 Try.underlying9 (Kd.V_reads' HO_179003.out).2.2
        go_wp2
        go_meet
        case rel => exact ⟨_, (((strOfNums t182).toList != (strOfNums t182).toList)), (by first | rfl | (simp; done) | (simp [*]; done)), H', ⟨by have := HJ5.out; first | omega | exact Nat.le_refl _⟩, ⟨by (with_reducible repeat (first | apply Kd.V_alloc | apply Kd.V_drewN | apply Kd.V_drew)); exact HO_1.out⟩, ⟨by (with_reducible repeat (first | apply Kd.V_alloc | apply Kd.V_drewN | apply Kd.V_drew)); exact HO_179003.out⟩, ⟨by (with_reducible repeat (first | apply Kd.R_alloc | apply Kd.R_drewN | apply Kd.R_drew)); exact HO_196003.out⟩, ⟨by (with_reducible repeat (first | refine bN20 ?_ _ | refine bD20 ?_ | refine bK20 ?_ _)); exact BK178.out⟩, ⟨by (with_reducible repeat (first | refine bN20 ?_ _ | refine bD20 ?_ | refine bK20 ?_ _)); exact BK195.out⟩, ⟨by repeat (first | (with_reducible first | exact HB.out | apply below_alloc | apply pw_below_drewN | apply below_drew1 | refine below_set ?_ GE178.out | refine below_set ?_ GE195.out) | exact HB.out)⟩⟩
       rw [if_neg c50] at H
       have c50b0 : ((t191.length : Int) == (t182.length : Int)) = false := beq_eq_false_iff_ne.mpr c50
       have c50b1 : ((t191.length : Int) != (t182.length : Int)) = true := bne_iff_ne.mpr c50
       have c50b2 : (t191.length == t182.length) = false := by first | simpa using c50 | (simp at c50 ⊢; omega)
       have H' := aM20 H
       clear H
       have hnb55 := NB195_178.out
       have hnc55 := NB178_195.out
       have hcz56_0 : wc.cell? ⟨gb195, 0, none⟩ = some (.int .i64 t188) := (bC20 BK195.out 0).trans rfl
       have hcz56_1 : wc.cell? ⟨gb195, 1, none⟩ = some (.int .i64 t189) := (bC20 BK195.out 1).trans rfl
       have hcz56_2 : wc.cell? ⟨gb195, 2, none⟩ = some (.int .i64 t190) := (bC20 BK195.out 2).trans rfl
       have hcz56_3 : wc.cell? ⟨gb195, 3, none⟩ = some (.slice Ao19 t191.length co19) := (bC20 BK195.out 3).trans rfl
       have hfz56_0 := bF20 BK195.out 0
       have hfz56_1 := bF20 BK195.out 1
       have hfz56_2 := bF20 BK195.out 2
       have hfz56_3 := bF20 BK195.out 3
       have hcz57_0 : wc.cell? ⟨gb178, 0, none⟩ = some (.int .i64 t179) := (bC20 BK178.out 0).trans rfl
       have hcz57_1 : wc.cell? ⟨gb178, 1, none⟩ = some (.int .i64 t180) := (bC20 BK178.out 1).trans rfl
       have hcz57_2 : wc.cell? ⟨gb178, 2, none⟩ = some (.int .i64 t181) := (bC20 BK178.out 2).trans rfl
       have hcz57_3 : wc.cell? ⟨gb178, 3, none⟩ = some (.slice Ao12 t182.length co12) := (bC20 BK178.out 3).trans rfl
       have hfz57_0 := bF20 BK178.out 0
       have hfz57_1 := bF20 BK178.out 1
       have hfz57_2 := bF20 BK178.out 2
       have hfz57_3 := bF20 BK178.out 3
       go_wp2
       go_meet
       case rel => exact ⟨_, (true), (by first | rfl | (simp; done) | (simp [*]; done)), H', ⟨by have := HJ5.out; first | omega | exact Nat.le_refl _⟩, ⟨by (with_reducible repeat (first | apply Kd.V_alloc | apply Kd.V_drewN | apply Kd.V_drew)); exact HO_1.out⟩, ⟨by (with_reducible repeat (first | apply Kd.V_alloc | apply Kd.V_drewN | apply Kd.V_drew)); exact HO_179003.out⟩, ⟨by (with_reducible repeat (first | apply Kd.R_alloc | apply Kd.R_drewN | apply Kd.R_drew)); exact HO_196003.out⟩, ⟨by (with_reducible repeat (first | refine bN20 ?_ _ | refine bD20 ?_ | refine bK20 ?_ _)); exact BK178.out⟩, ⟨by (with_reducible repeat (first | refine bN20 ?_ _ | refine bD20 ?_ | refine bK20 ?_ _)); exact BK195.out⟩, ⟨by repeat (first | (with_reducible first | exact HB.out | apply below_alloc | apply pw_below_drewN | apply below_drew1 | refine below_set ?_ GE178.out | refine below_set ?_ GE195.out) | exact HB.out)⟩⟩
      rw [if_neg c49] at H
      have c49b0 : (t190 == t181) = false := beq_eq_false_iff_ne.mpr c49
      have c49b1 : (t190 != t181) = true := bne_iff_ne.mpr c49
      have H' := aM20 H
      clear H
      have hnb58 := NB195_178.out
      have hnc58 := NB178_195.out
      have hcz59_0 : wc.cell? ⟨gb195, 0, none⟩ = some (.int .i64 t188) := (bC20 BK195.out 0).trans rfl
      have hcz59_1 : wc.cell? ⟨gb195, 1, none⟩ = some (.int .i64 t189) := (bC20 BK195.out 1).trans rfl
      have hcz59_2 : wc.cell? ⟨gb195, 2, none⟩ = some (.int .i64 t190) := (bC20 BK195.out 2).trans rfl
      have hcz59_3 : wc.cell? ⟨gb195, 3, none⟩ = some (.slice Ao19 t191.length co19) := (bC20 BK195.out 3).trans rfl
      have hfz59_0 := bF20 BK195.out 0
      have hfz59_1 := bF20 BK195.out 1
      have hfz59_2 := bF20 BK195.out 2
      have hfz59_3 := bF20 BK195.out 3
      have hcz60_0 : wc.cell? ⟨gb178, 0, none⟩ = some (.int .i64 t179) := (bC20 BK178.out 0).trans rfl
      have hcz60_1 : wc.cell? ⟨gb178, 1, none⟩ = some (.int .i64 t180) := (bC20 BK178.out 1).trans rfl
      have hcz60_2 : wc.cell? ⟨gb178, 2, none⟩ = some (.int .i64 t181) := (bC20 BK178.out 2).trans rfl
      have hcz60_3 : wc.cell? ⟨gb178, 3, none⟩ = some (.slice Ao12 t182.length co12) := (bC20 BK178.out 3).trans rfl
      have hfz60_0 := bF20 BK178.out 0
      have hfz60_1 := bF20 BK178.out 1
      have hfz60_2 := bF20 BK178.out 2
      have hfz60_3 := bF20 BK178.out 3
      go_wp2
      go_meet
      case rel => exact ⟨_, (true), (by first | rfl | (simp; done) | (simp [*]; done)), H', ⟨by have := HJ5.out; first | omega | exact Nat.le_refl _⟩, ⟨by (with_reducible repeat (first | apply Kd.V_alloc | apply Kd.V_drewN | apply Kd.V_drew)); exact HO_1.out⟩, ⟨by (with_reducible repeat (first | apply Kd.V_alloc | apply Kd.V_drewN | apply Kd.V_drew)); exact HO_179003.out⟩, ⟨by (with_reducible repeat (first | apply Kd.R_alloc | apply Kd.R_drewN | apply Kd.R_drew)); exact HO_196003.out⟩, ⟨by (with_reducible repeat (first | refine bN20 ?_ _ | refine bD20 ?_ | refine bK20 ?_ _)); exact BK178.out⟩, ⟨by (with_reducible repeat (first | refine bN20 ?_ _ | refine bD20 ?_ | refine bK20 ?_ _)); exact BK195.out⟩, ⟨by repeat (first | (with_reducible first | exact HB.out | apply below_alloc | apply pw_below_drewN | apply below_drew1 | refine below_set ?_ GE178.out | refine below_set ?_ GE195.out) | exact HB.out)⟩⟩
     rw [if_neg c48] at H
     have c48b0 : (t189 == t180) = false := beq_eq_false_iff_ne.mpr c48
     have c48b1 : (t189 != t180) = true := bne_iff_ne.mpr c48
     have H' := aM20 H
     clear H
     have hnb61 := NB195_178.out
     have hnc61 := NB178_195.out
     have hcz62_0 : wc.cell? ⟨gb195, 0, none⟩ = some (.int .i64 t188) := (bC20 BK195.out 0).trans rfl
     have hcz62_1 : wc.cell? ⟨gb195, 1, none⟩ = some (.int .i64 t189) := (bC20 BK195.out 1).trans rfl
     have hcz62_2 : wc.cell? ⟨gb195, 2, none⟩ = some (.int .i64 t190) := (bC20 BK195.out 2).trans rfl
     have hcz62_3 : wc.cell? ⟨gb195, 3, none⟩ = some (.slice Ao19 t191.length co19) := (bC20 BK195.out 3).trans rfl
     have hfz62_0 := bF20 BK195.out 0
     have hfz62_1 := bF20 BK195.out 1
     have hfz62_2 := bF20 BK195.out 2
     have hfz62_3 := bF20 BK195.out 3
     have hcz63_0 : wc.cell? ⟨gb178, 0, none⟩ = some (.int .i64 t179) := (bC20 BK178.out 0).trans rfl
     have hcz63_1 : wc.cell? ⟨gb178, 1, none⟩ = some (.int .i64 t180) := (bC20 BK178.out 1).trans rfl
     have hcz63_2 : wc.cell? ⟨gb178, 2, none⟩ = some (.int .i64 t181) := (bC20 BK178.out 2).trans rfl
     have hcz63_3 : wc.cell? ⟨gb178, 3, none⟩ = some (.slice Ao12 t182.length co12) := (bC20 BK178.out 3).trans rfl
     have hfz63_0 := bF20 BK178.out 0
     have hfz63_1 := bF20 BK178.out 1
     have hfz63_2 := bF20 BK178.out 2
     have hfz63_3 := bF20 BK178.out 3
     go_wp2
     go_meet
     case rel => exact ⟨_, (true), (by first | rfl | (simp; done) | (simp [*]; done)), H', ⟨by have := HJ5.out; first | omega | exact Nat.le_refl _⟩, ⟨by (with_reducible repeat (first | apply Kd.V_alloc | apply Kd.V_drewN | apply Kd.V_drew)); exact HO_1.out⟩, ⟨by (with_reducible repeat (first | apply Kd.V_alloc | apply Kd.V_drewN | apply Kd.V_drew)); exact HO_179003.out⟩, ⟨by (with_reducible repeat (first | apply Kd.R_alloc | apply Kd.R_drewN | apply Kd.R_drew)); exact HO_196003.out⟩, ⟨by (with_reducible repeat (first | refine bN20 ?_ _ | refine bD20 ?_ | refine bK20 ?_ _)); exact BK178.out⟩, ⟨by (with_reducible repeat (first | refine bN20 ?_ _ | refine bD20 ?_ | refine bK20 ?_ _)); exact BK195.out⟩, ⟨by repeat (first | (with_reducible first | exact HB.out | apply below_alloc | apply pw_below_drewN | apply below_drew1 | refine below_set ?_ GE178.out | refine below_set ?_ GE195.out) | exact HB.out)⟩⟩
    rw [if_neg c47] at H
    have c47b0 : (t188 == t179) = false := beq_eq_false_iff_ne.mpr c47
    have c47b1 : (t188 != t179) = true := bne_iff_ne.mpr c47
    have H' := aM20 H
    clear H
    have hnb64 := NB195_178.out
    have hnc64 := NB178_195.out
    have hcz65_0 : wc.cell? ⟨gb195, 0, none⟩ = some (.int .i64 t188) := (bC20 BK195.out 0).trans rfl
    have hcz65_1 : wc.cell? ⟨gb195, 1, none⟩ = some (.int .i64 t189) := (bC20 BK195.out 1).trans rfl
    have hcz65_2 : wc.cell? ⟨gb195, 2, none⟩ = some (.int .i64 t190) := (bC20 BK195.out 2).trans rfl
    have hcz65_3 : wc.cell? ⟨gb195, 3, none⟩ = some (.slice Ao19 t191.length co19) := (bC20 BK195.out 3).trans rfl
    have hfz65_0 := bF20 BK195.out 0
    have hfz65_1 := bF20 BK195.out 1
    have hfz65_2 := bF20 BK195.out 2
    have hfz65_3 := bF20 BK195.out 3
    have hcz66_0 : wc.cell? ⟨gb178, 0, none⟩ = some (.int .i64 t179) := (bC20 BK178.out 0).trans rfl
    have hcz66_1 : wc.cell? ⟨gb178, 1, none⟩ = some (.int .i64 t180) := (bC20 BK178.out 1).trans rfl
    have hcz66_2 : wc.cell? ⟨gb178, 2, none⟩ = some (.int .i64 t181) := (bC20 BK178.out 2).trans rfl
    have hcz66_3 : wc.cell? ⟨gb178, 3, none⟩ = some (.slice Ao12 t182.length co12) := (bC20 BK178.out 3).trans rfl
    have hfz66_0 := bF20 BK178.out 0
    have hfz66_1 := bF20 BK178.out 1
    have hfz66_2 := bF20 BK178.out 2
    have hfz66_3 := bF20 BK178.out 3
    go_wp2
    go_meet
    case rel => exact ⟨_, (true), (by first | rfl | (simp; done) | (simp [*]; done)), H', ⟨by have := HJ5.out; first | omega | exact Nat.le_refl _⟩, ⟨by (with_reducible repeat (first | apply Kd.V_alloc | apply Kd.V_drewN | apply Kd.V_drew)); exact HO_1.out⟩, ⟨by (with_reducible repeat (first | apply Kd.V_alloc | apply Kd.V_drewN | apply Kd.V_drew)); exact HO_179003.out⟩, ⟨by (with_reducible repeat (first | apply Kd.R_alloc | apply Kd.R_drewN | apply Kd.R_drew)); exact HO_196003.out⟩, ⟨by (with_reducible repeat (first | refine bN20 ?_ _ | refine bD20 ?_ | refine bK20 ?_ _)); exact BK178.out⟩, ⟨by (with_reducible repeat (first | refine bN20 ?_ _ | refine bD20 ?_ | refine bK20 ?_ _)); exact BK195.out⟩, ⟨by repeat (first | (with_reducible first | exact HB.out | apply below_alloc | apply pw_below_drewN | apply below_drew1 | refine below_set ?_ GE178.out | refine below_set ?_ GE195.out) | exact HB.out)⟩⟩
   rw [if_neg c46] at H
   have c46b0 : (t194 == 0) = false := beq_eq_false_iff_ne.mpr c46
   have c46b1 : (t194 != 0) = true := bne_iff_ne.mpr c46
   (first | rw [c46b0] | (simp only [i64_w, i32_w]; rw [c46b0]) | skip)
   have H' := aM20 H
   clear H
   go_wp2
   go_meet
   case rel => exact ⟨_, (true), (by first | rfl | (simp; done) | (simp [*]; done)), H', ⟨by have := HJ5.out; first | omega | exact Nat.le_refl _⟩, ⟨by (with_reducible repeat (first | apply Kd.V_alloc | apply Kd.V_drewN | apply Kd.V_drew)); exact HO_1.out⟩, ⟨by (with_reducible repeat (first | apply Kd.V_alloc | apply Kd.V_drewN | apply Kd.V_drew)); exact HO_179003.out⟩, ⟨by (with_reducible repeat (first | apply Kd.R_alloc | apply Kd.R_drewN | apply Kd.R_drew)); exact HO_196003.out⟩, ⟨by (with_reducible repeat (first | refine bN20 ?_ _ | refine bD20 ?_ | refine bK20 ?_ _)); exact BK178.out⟩, ⟨by (with_reducible repeat (first | refine bN20 ?_ _ | refine bD20 ?_ | refine bK20 ?_ _)); exact BK195.out⟩, ⟨by repeat (first | (with_reducible first | exact HB.out | apply below_alloc | apply pw_below_drewN | apply below_drew1 | refine below_set ?_ GE178.out | refine below_set ?_ GE195.out) | exact HB.out)⟩⟩
  clear HC45
  try clear c1
  try clear hcv1
  try clear c2
  try clear p2
  try clear c3
  try clear c4
  try clear c5
  try clear hcv5
  try clear c6
  try clear c11
  try clear hcv13
  try clear c17
  try clear c21
  try clear c21b0
  try clear c21b1
  try clear c23
  try clear c26
  try clear c27
  try clear c28
  try clear c29
  try clear c30
  try clear c31
  try clear c32
  try clear c33
  try clear c33b0
  try clear c33b1
  try clear c35
  try clear c39
  try clear c42
  try clear c46
  try clear c46b0
  try clear c46b1
  try clear c47
  try clear c47b0
  try clear c47b1
  try clear c48
  try clear c48b0
  try clear c48b1
  try clear c49
  try clear c49b0
  try clear c49b1
  try clear c50
  try clear c50b0
  try clear c50b1
  try clear c50b2
  try clear c51
  try clear hcv54
  try clear c55
  try clear c58
  try clear c61
  try clear c64
  try clear hcz11_0
  try clear hcz11_1
  try clear hcz11_2
  try clear hcz11_3
  try clear hcz18_0
  try clear hcz18_1
  try clear hcz18_2
  try clear hcz18_3
  try clear hcz24_0
  try clear hcz24_1
  try clear hcz24_2
  try clear hcz24_3
  try clear hcz28_0
  try clear hcz28_1
  try clear hcz28_2
  try clear hcz28_3
  try clear hcz36_0
  try clear hcz36_1
  try clear hcz36_2
  try clear hcz36_3
  try clear hcz40_0
  try clear hcz40_1
  try clear hcz40_2
  try clear hcz40_3
  try clear hcz43_0
  try clear hcz43_1
  try clear hcz43_2
  try clear hcz43_3
  try clear hcz52_0
  try clear hcz52_1
  try clear hcz52_2
  try clear hcz52_3
  try clear hcz53_0
  try clear hcz53_1
  try clear hcz53_2
  try clear hcz53_3
  try clear hcz56_0
  try clear hcz56_1
  try clear hcz56_2
  try clear hcz56_3
  try clear hcz57_0
  try clear hcz57_1
  try clear hcz57_2
  try clear hcz57_3
  try clear hcz59_0
  try clear hcz59_1
  try clear hcz59_2
  try clear hcz59_3
  try clear hcz60_0
  try clear hcz60_1
  try clear hcz60_2
  try clear hcz60_3
  try clear hcz62_0
  try clear hcz62_1
  try clear hcz62_2
  try clear hcz62_3
  try clear hcz63_0
  try clear hcz63_1
  try clear hcz63_2
  try clear hcz63_3
  try clear hcz65_0
  try clear hcz65_1
  try clear hcz65_2
  try clear hcz65_3
  try clear hcz66_0
  try clear hcz66_1
  try clear hcz66_2
  try clear hcz66_3
  try clear hcz8_0
  try clear hcz8_1
  try clear hcz8_2
  try clear hcz8_3
  try clear hfz11_0
  try clear hfz11_1
  try clear hfz11_2
  try clear hfz11_3
  try clear hfz18_0
  try clear hfz18_1
  try clear hfz18_2
  try clear hfz18_3
  try clear hfz24_0
  try clear hfz24_1
  try clear hfz24_2
  try clear hfz24_3
  try clear hfz28_0
  try clear hfz28_1
  try clear hfz28_2
  try clear hfz28_3
  try clear hfz36_0
  try clear hfz36_1
  try clear hfz36_2
  try clear hfz36_3
  try clear hfz40_0
  try clear hfz40_1
  try clear hfz40_2
  try clear hfz40_3
  try clear hfz43_0
  try clear hfz43_1
  try clear hfz43_2
  try clear hfz43_3
  try clear hfz52_0
  try clear hfz52_1
  try clear hfz52_2
  try clear hfz52_3
  try clear hfz53_0
  try clear hfz53_1
  try clear hfz53_2
  try clear hfz53_3
  try clear hfz56_0
  try clear hfz56_1
  try clear hfz56_2
  try clear hfz56_3
  try clear hfz57_0
  try clear hfz57_1
  try clear hfz57_2
  try clear hfz57_3
  try clear hfz59_0
  try clear hfz59_1
  try clear hfz59_2
  try clear hfz59_3
  try clear hfz60_0
  try clear hfz60_1
  try clear hfz60_2
  try clear hfz60_3
  try clear hfz62_0
  try clear hfz62_1
  try clear hfz62_2
  try clear hfz62_3
  try clear hfz63_0
  try clear hfz63_1
  try clear hfz63_2
  try clear hfz63_3
  try clear hfz65_0
  try clear hfz65_1
  try clear hfz65_2
  try clear hfz65_3
  try clear hfz66_0
  try clear hfz66_1
  try clear hfz66_2
  try clear hfz66_3
  try clear hfz8_0
  try clear hfz8_1
  try clear hfz8_2
  try clear hfz8_3
  try clear p2
  obtain ⟨kq, x80_44, rfl, HA, HJ44, HO_1, HO_179003, HO_196003, BK178, BK195, HB⟩ := hcut
  cases kq with
  | zero => exact absurd HA.out (by simp [bivouaclaw09_CraterStrikes.j1])
  | succ kj44 =>
   have H := HA.out
   clear HA
   simp only [bivouaclaw09_CraterStrikes.j1] at H
   by_cases c67 : x80_44 = true
   ·
    subst c67
    have H1 : (some false) = some r := by rw [if_pos rfl] at H; exact H
    clear H
    have H := H1
    clear H1
    obtain rfl := Option.some.inj H
    go_wp2
    go_ret
    exact ⟨by first | rfl | (simp [errW_none, errW_some] <;> rfl) | (simp [*, errW_none, errW_some] <;> rfl) | (rw [Int.tdiv_eq_ediv_of_nonneg (by assumption)]; rfl), by repeat (first | (with_reducible first | exact HB.out | apply below_alloc | apply pw_below_drewN | apply below_drew1 | refine below_set ?_ GE178.out | refine below_set ?_ GE195.out) | exact HB.out)⟩
   replace c67 := Bool.eq_false_iff.mpr c67
   subst c67
   have H1 : (bivouaclaw09_CraterStrikes.l0 kj44 t185 0 t179 t180 t181 t182 t188 t189 t190 t191) = some r := by rw [if_neg (show ¬ (false = true) by decide)] at H; exact H
   clear H
   have H := H1
   clear H1
   have H' := aM20 H
   clear H
   go_wp2
   go_loopg [8] kj44 (fun kq v8 w' => ∃ (x8_3 : Int), v8 = .int .i64 x8_3 ∧ Aside0 (bivouaclaw09_CraterStrikes.l0 kq t185 x8_3 t179 t180 t181 t182 t188 t189 t190 t191 = some r) ∧ Aside0 (kq ≤ kj44) ∧ Aside0 (Kd.V k23 23 w' w.heap.size (fun k_ => some k_ ≠ ((.slice Ao19 t191.length co19) : Value).ownBlock ∧ k_ ≠ gb178 ∧ k_ ≠ gb195) (.slice Ao14 t185.length co14) t185) ∧ Aside0 (Kd.V (Kd.int .u8) 5 w' w.heap.size (fun k_ => some k_ ≠ ((.slice Ao19 t191.length co19) : Value).ownBlock ∧ k_ ≠ gb178 ∧ k_ ≠ gb195) (.slice Ao12 t182.length co12) t182) ∧ Aside0 (Kd.R (Kd.int .u8) 5 w' w.heap.size (fun _ => True) (.slice Ao19 t191.length co19) t191) ∧ Aside0 (w'.heap[gb178]? = some (.cells #[.int .i64 t179, .int .i64 t180, .int .i64 t181, (.slice Ao12 t182.length co12)] 46 (0, 0))) ∧ Aside0 (w'.heap[gb195]? = some (.cells #[.int .i64 t188, .int .i64 t189, .int .i64 t190, (.slice Ao19 t191.length co19)] 46 (0, 0))) ∧ Aside0 (Below w.heap.size w w'))
   case atStart => exact ⟨(0), (by first | rfl | (simp; done) | (simp [*]; done)), H', ⟨Nat.le_refl _⟩, ⟨by (with_reducible repeat (first | apply Kd.V_alloc | apply Kd.V_drewN | apply Kd.V_drew)); exact HO_1.out⟩, ⟨by (with_reducible repeat (first | apply Kd.V_alloc | apply Kd.V_drewN | apply Kd.V_drew)); exact HO_179003.out⟩, ⟨by (with_reducible repeat (first | apply Kd.R_alloc | apply Kd.R_drewN | apply Kd.R_drew)); exact HO_196003.out⟩, ⟨by (with_reducible repeat (first | refine bN20 ?_ _ | refine bD20 ?_ | refine bK20 ?_ _)); exact BK178.out⟩, ⟨by (with_reducible repeat (first | refine bN20 ?_ _ | refine bD20 ?_ | refine bK20 ?_ _)); exact BK195.out⟩, ⟨by repeat (first | (with_reducible first | exact HB.out | apply below_alloc | apply pw_below_drewN | apply below_drew1 | refine below_set ?_ GE178.out | refine below_set ?_ GE195.out) | exact HB.out)⟩⟩
   clear H'
   try clear c1
   try clear hcv1
   try clear c2
   try clear p2
   try clear c3
   try clear c4
   try clear c5
   try clear hcv5
   try clear c6
   try clear c11
   try clear hcv13
   try clear c17
   try clear c21
   try clear c21b0
   try clear c21b1
   try clear c23
   try clear c26
   try clear c27
   try clear c28
   try clear c29
   try clear c30
   try clear c31
   try clear c32
   try clear c33
   try clear c33b0
   try clear c33b1
   try clear c35
   try clear c39
   try clear c42
   try clear c46
   try clear c46b0
   try clear c46b1
   try clear c47
   try clear c47b0
   try clear c47b1
   try clear c48
   try clear c48b0
   try clear c48b1
   try clear c49
   try clear c49b0
   try clear c49b1
   try clear c50
   try clear c50b0
   try clear c50b1
   try clear c50b2
   try clear c51
   try clear hcv54
   try clear c55
   try clear c58
   try clear c61
   try clear c64
   try clear c67
   try clear hcz11_0
   try clear hcz11_1
   try clear hcz11_2
   try clear hcz11_3
   try clear hcz18_0
   try clear hcz18_1
   try clear hcz18_2
   try clear hcz18_3
   try clear hcz24_0
   try clear hcz24_1
   try clear hcz24_2
   try clear hcz24_3
   try clear hcz28_0
   try clear hcz28_1
   try clear hcz28_2
   try clear hcz28_3
   try clear hcz36_0
   try clear hcz36_1
   try clear hcz36_2
   try clear hcz36_3
   try clear hcz40_0
   try clear hcz40_1
   try clear hcz40_2
   try clear hcz40_3
   try clear hcz43_0
   try clear hcz43_1
   try clear hcz43_2
   try clear hcz43_3
   try clear hcz52_0
   try clear hcz52_1
   try clear hcz52_2
   try clear hcz52_3
   try clear hcz53_0
   try clear hcz53_1
   try clear hcz53_2
   try clear hcz53_3
   try clear hcz56_0
   try clear hcz56_1
   try clear hcz56_2
   try clear hcz56_3
   try clear hcz57_0
   try clear hcz57_1
   try clear hcz57_2
   try clear hcz57_3
   try clear hcz59_0
   try clear hcz59_1
   try clear hcz59_2
   try clear hcz59_3
   try clear hcz60_0
   try clear hcz60_1
   try clear hcz60_2
   try clear hcz60_3
   try clear hcz62_0
   try clear hcz62_1
   try clear hcz62_2
   try clear hcz62_3
   try clear hcz63_0
   try clear hcz63_1
   try clear hcz63_2
   try clear hcz63_3
   try clear hcz65_0
   try clear hcz65_1
   try clear hcz65_2
   try clear hcz65_3
   try clear hcz66_0
   try clear hcz66_1
   try clear hcz66_2
   try clear hcz66_3
   try clear hcz8_0
   try clear hcz8_1
   try clear hcz8_2
   try clear hcz8_3
   try clear hfz11_0
   try clear hfz11_1
   try clear hfz11_2
   try clear hfz11_3
   try clear hfz18_0
   try clear hfz18_1
   try clear hfz18_2
   try clear hfz18_3
   try clear hfz24_0
   try clear hfz24_1
   try clear hfz24_2
   try clear hfz24_3
   try clear hfz28_0
   try clear hfz28_1
   try clear hfz28_2
   try clear hfz28_3
   try clear hfz36_0
   try clear hfz36_1
   try clear hfz36_2
   try clear hfz36_3
   try clear hfz40_0
   try clear hfz40_1
   try clear hfz40_2
   try clear hfz40_3
   try clear hfz43_0
   try clear hfz43_1
   try clear hfz43_2
   try clear hfz43_3
   try clear hfz52_0
   try clear hfz52_1
   try clear hfz52_2
   try clear hfz52_3
   try clear hfz53_0
   try clear hfz53_1
   try clear hfz53_2
   try clear hfz53_3
   try clear hfz56_0
   try clear hfz56_1
   try clear hfz56_2
   try clear hfz56_3
   try clear hfz57_0
   try clear hfz57_1
   try clear hfz57_2
   try clear hfz57_3
   try clear hfz59_0
   try clear hfz59_1
   try clear hfz59_2
   try clear hfz59_3
   try clear hfz60_0
   try clear hfz60_1
   try clear hfz60_2
   try clear hfz60_3
   try clear hfz62_0
   try clear hfz62_1
   try clear hfz62_2
   try clear hfz62_3
   try clear hfz63_0
   try clear hfz63_1
   try clear hfz63_2
   try clear hfz63_3
   try clear hfz65_0
   try clear hfz65_1
   try clear hfz65_2
   try clear hfz65_3
   try clear hfz66_0
   try clear hfz66_1
   try clear hfz66_2
   try clear hfz66_3
   try clear hfz8_0
   try clear hfz8_1
   try clear hfz8_2
   try clear hfz8_3
   try clear p2
   obtain ⟨x8_3, rfl, HA, HK3, HO_1, HO_179003, HO_196003, BK178, BK195, HB⟩ := hrel
   cases gk with
   | zero => exact absurd HA.out (by simp [bivouaclaw09_CraterStrikes.l0])
   | succ k3 =>
    have H := HA.out
    clear HA
    simp only [bivouaclaw09_CraterStrikes.l0] at H
    by_cases c68 : x8_3 < (t182.length : Int)
    ·
     rw [if_pos c68] at H
     have c68b0 : decide (x8_3 < (t182.length : Int)) = true := decide_eq_true c68
     clear c68
     by_cases c69 : 0 ≤ x8_3
     ·
      rw [if_pos c69] at H
      have c69b0 : decide (0 ≤ x8_3) = true := decide_eq_true c69
      clear c69
      by_cases c70 : x8_3 < (t191.length : Int)
      ·
       rw [if_pos c70] at H
       have c70b0 : decide (x8_3 < (t191.length : Int)) = true := decide_eq_true c70
       clear c70
       by_cases c71 : (wrap64 (t179 + 1)) = 0
       ·
        rw [if_pos c71] at H
        exact absurd H (by simp)
       rw [if_neg c71] at H
       have c71b0 : ((wrap64 (t179 + 1)) == 0) = false := beq_eq_false_iff_ne.mpr c71
       have c71b1 : ((wrap64 (t179 + 1)) != 0) = true := bne_iff_ne.mpr c71
       replace H := Option.bind_eq_some_iff.mp H
       obtain ⟨t202, A720, H⟩ := H
       replace H : (if (wrap64 (rd t191 x8_3)) = t202 then (bivouaclaw09_CraterStrikes.l0 k3 t185 (wrap64 (x8_3 + 1)) t179 t180 t181 t182 t188 t189 t190 t191) else (some false)) = some r := H
       have A72 := aM20 A720
       clear A720
       by_cases c73 : (wrap64 (rd t191 x8_3)) = t202
       ·
        rw [if_pos c73] at H
        have c73b0 : ((wrap64 (rd t191 x8_3)) == t202) = true := beq_iff_eq.mpr c73
        have c73b1 : ((wrap64 (rd t191 x8_3)) != t202) = false := bne_eq_false_iff_eq.mpr c73
        clear c73
        have H' := aM20 H
        clear H
        have hnb74 := NB178_195.out
        have hnc74 := NB195_178.out
        have hcz75_0 : wr.cell? ⟨gb178, 0, none⟩ = some (.int .i64 t179) := (bC20 BK178.out 0).trans rfl
        have hcz75_1 : wr.cell? ⟨gb178, 1, none⟩ = some (.int .i64 t180) := (bC20 BK178.out 1).trans rfl
        have hcz75_2 : wr.cell? ⟨gb178, 2, none⟩ = some (.int .i64 t181) := (bC20 BK178.out 2).trans rfl
        have hcz75_3 : wr.cell? ⟨gb178, 3, none⟩ = some (.slice Ao12 t182.length co12) := (bC20 BK178.out 3).trans rfl
        have hfz75_0 := bF20 BK178.out 0
        have hfz75_1 := bF20 BK178.out 1
        have hfz75_2 := bF20 BK178.out 2
        have hfz75_3 := bF20 BK178.out 3
        try go_wp2
        have n0_ := aM20 (Kd.V_drew HO_1.out)
        have n1_ := aM20 (Kd.V_drew HO_179003.out)
        have n2_ := aM20 (Kd.R_drew HO_196003.out)
        have n3_ := aM20 (bD20 BK178.out)
        have n4_ := aM20 (bD20 BK195.out)
        have n5_ := aM20 (below_drew1 HB.out)
        clear HO_1
        clear HO_179003
        clear HO_196003
        clear BK178
        clear BK195
        clear HB
        have HO_1 := n0_
        have HO_179003 := n1_
        have HO_196003 := n2_
        have BK178 := n3_
        have BK195 := n4_
        have HB := n5_
        clear n0_ n1_ n2_ n3_ n4_ n5_
        have p200 : 0 ≤ (x8_3 : Int) := of_decide_eq_true (by first | (with_reducible assumption) | assumption)
        have q200 : x8_3 < (t191.length : Int) := of_decide_eq_true (by first | (with_reducible assumption) | assumption)
        obtain ⟨ad200, e200, hx200_0⟩ := Kd.at_int (Kd.R_reads' HO_196003.out).2.2 x8_3 p200 q200
        cases e200
        replace p200 := eq_true p200
        replace q200 := eq_true q200
        have p201 : 0 ≤ (x8_3 : Int) := of_decide_eq_true (by first | (with_reducible assumption) | assumption)
        have q201 : x8_3 < (t182.length : Int) := of_decide_eq_true (by first | (with_reducible assumption) | assumption)
        obtain ⟨ad201, e201, hx201_0⟩ := Kd.at_int (Kd.V_reads' HO_179003.out).2.2 x8_3 p201 q201
        cases e201
        replace p201 := eq_true p201
        replace q201 := eq_true q201
        refine start_ (n := 25) (S := fun w' => w'.cell? ⟨gb195, 0, none⟩ = some (.int .i64 t188) ∧ w'.cell? ⟨gb195, 1, none⟩ = some (.int .i64 t189) ∧ w'.cell? ⟨gb195, 2, none⟩ = some (.int .i64 t190) ∧ w'.cell? ⟨gb195, 3, none⟩ = some (.slice (some ad200) t191.length co19) ∧ w'.cell? ⟨gb178, 0, none⟩ = some (.int .i64 t179) ∧ w'.cell? ⟨gb178, 1, none⟩ = some (.int .i64 t180) ∧ w'.cell? ⟨gb178, 2, none⟩ = some (.int .i64 t181) ∧ w'.cell? ⟨gb178, 3, none⟩ = some (.slice (some ad201) t182.length co12) ∧ w'.cell? (ad200.add (x8_3).toNat) = some (.int .u8 (rd t191 x8_3)) ∧ w'.cell? (ad201.add (x8_3).toNat) = some (.int .u8 (rd t182 x8_3))) (ds := []) (bA 25 0) (by kernel_rfl) rfl rfl ⟨(bC20 BK195.out 0).trans rfl, (bC20 BK195.out 1).trans rfl, (bC20 BK195.out 2).trans rfl, (bC20 BK195.out 3).trans rfl, (bC20 BK178.out 0).trans rfl, (bC20 BK178.out 1).trans rfl, (bC20 BK178.out 2).trans rfl, (bC20 BK178.out 3).trans rfl, hx200_0, hx201_0⟩ (fun hHeld => ?_); refine with_tabW bivouaclaw09_CraterStrikes.tab11 bivouaclaw09_CraterStrikes.bits11 (fun HT_ HW_ => ?_)
        generalize wr.drew = w76 at HO_1 HO_179003 HO_196003 BK178 BK195 HB hx200_0 hx201_0 hHeld ⊢
        refine pure_ (i := 0) (N := some 88) (v := ?_) (a' := ?_) (bA 25 1) rfl rfl (any_of HT_.out (by kernel_rfl)) (fun _ _ _ h => h) (Or.inl ⟨by rfl, ?_⟩) ?_ ?_
        rotate_left
        ·
         intro w'
         go_simp
         with_reducible rfl
        rotate_left
        ·
         simp only [Act.put, sA, sB, sC, i64_w, i32_w]
         rfl
        refine pure_ (i := 2) (N := some 90) (v := ?_) (a' := ?_) (bA 25 5) rfl rfl (any_of HT_.out (by kernel_rfl)) (fun _ _ _ h => h) (Or.inl ⟨by rfl, ?_⟩) ?_ ?_
        rotate_left
        ·
         intro w'
         go_simp
         with_reducible rfl
        rotate_left
        ·
         simp only [Act.put, sA, sB, sC, i64_w, i32_w]
         rfl
        refine pure_ (i := 6) (N := some 94) (v := ?_) (a' := ?_) (bA 25 69) rfl rfl (any_of HT_.out (by kernel_rfl)) (fun _ _ _ h => h) (Or.inl ⟨by rfl, ?_⟩) ?_ ?_
        rotate_left
        ·
         intro w'
         go_simp
         with_reducible rfl
        rotate_left
        ·
         simp only [Act.put, sA, sB, sC, i64_w, i32_w]
         rfl
        refine pure_ (i := 8) (N := some 96) (v := ?_) (a' := ?_) (bA 25 325) rfl rfl (any_of HT_.out (by kernel_rfl)) (fun _ _ _ h => h) (Or.inl ⟨by rfl, ?_⟩) ?_ ?_
        rotate_left
        ·
         intro w'
         go_simp
         with_reducible rfl
        rotate_left
        ·
         simp only [Act.put, sA, sB, sC, i64_w, i32_w]
         rfl
        refine pure_ (i := 12) (N := some 100) (v := ?_) (a' := ?_) (bA 25 4421) rfl rfl (any_of HT_.out (by kernel_rfl)) (fun _ _ _ h => h) (Or.inl ⟨by rfl, ?_⟩) ?_ ?_
        rotate_left
        ·
         intro w'
         go_simp
         with_reducible rfl
        rotate_left
        ·
         simp only [Act.put, sA, sB, sC, i64_w, i32_w]
         rfl
        refine pure_ (i := 13) (N := some 101) (v := ?_) (a' := ?_) (bA 25 12613) rfl rfl (any_of HT_.out (by kernel_rfl)) (fun _ _ _ h => h) (Or.inl ⟨by rfl, ?_⟩) ?_ ?_
        rotate_left
        ·
         intro w'
         go_simp
         with_reducible rfl
        rotate_left
        ·
         simp only [Act.put, sA, sB, sC, i64_w, i32_w]
         rfl
        refine pure_ (i := 14) (N := some 102) (v := ?_) (a' := ?_) (bA 25 28997) rfl rfl (any_of HT_.out (by kernel_rfl)) (fun _ _ _ h => h) (Or.inl ⟨by rfl, ?_⟩) ?_ ?_
        rotate_left
        ·
         intro w'
         go_simp
         with_reducible rfl
        rotate_left
        ·
         simp only [Act.put, sA, sB, sC, i64_w, i32_w]
         rfl
        refine pure_ (i := 18) (N := some 106) (v := ?_) (a' := ?_) (bA 25 291141) rfl rfl (any_of HT_.out (by kernel_rfl)) (fun _ _ _ h => h) (Or.inl ⟨by rfl, ?_⟩) ?_ ?_
        rotate_left
        ·
         intro w'
         go_simp
         with_reducible rfl
        rotate_left
        ·
         simp only [Act.put, sA, sB, sC, i64_w, i32_w]
         rfl
        refine pure_ (i := 19) (N := some 107) (v := ?_) (a' := ?_) (bA 25 815429) rfl rfl (any_of HT_.out (by kernel_rfl)) (fun _ _ _ h => h) (Or.inl ⟨by rfl, ?_⟩) ?_ ?_
        rotate_left
        ·
         intro w'
         go_simp
         with_reducible rfl
        rotate_left
        ·
         simp only [Act.put, sA, sB, sC, i64_w, i32_w]
         rfl
        refine take_ (i := 1) (N := some 89) (v := ?_) (a' := ?_) (bA 25 815431) rfl rfl (take_ofW HT_.out HW_.out (by kernel_rfl)) (fun _ _ _ h => h) (Or.inl ⟨by rfl, ?_⟩) hHeld ?_ ?_
        rotate_left
        ·
         rintro w' ⟨s0, s1, s2, s3, s4, s5, s6, s7, s8, s9⟩
         go_simp
         with_reducible rfl
        rotate_left
        ·
         simp only [Act.put, sA, sB, sC, i64_w, i32_w]
         rfl
        refine pure_ (i := 3) (N := some 91) (v := ?_) (a' := ?_) (bA 25 815439) rfl rfl (any_of HT_.out (by kernel_rfl)) (fun _ _ _ h => h) (Or.inl ⟨by rfl, ?_⟩) ?_ ?_
        rotate_left
        ·
         intro w'
         go_simp
         with_reducible rfl
        rotate_left
        ·
         simp only [Act.put, sA, sB, sC, i64_w, i32_w]
         rfl
        refine take_ (i := 4) (N := some 92) (v := ?_) (a' := ?_) (bA 25 815455) rfl rfl (take_ofW HT_.out HW_.out (by kernel_rfl)) (fun _ _ _ h => h) (Or.inl ⟨by rfl, ?_⟩) hHeld ?_ ?_
        rotate_left
        ·
         rintro w' ⟨s0, s1, s2, s3, s4, s5, s6, s7, s8, s9⟩
         go_simp
         with_reducible rfl
        rotate_left
        ·
         simp only [Act.put, sA, sB, sC, i64_w, i32_w]
         rfl
        refine pure_ (i := 5) (N := some 93) (v := ?_) (a' := ?_) (bA 25 815487) rfl rfl (any_of HT_.out (by kernel_rfl)) (fun _ _ _ h => h) (Or.inl ⟨by rfl, ?_⟩) ?_ ?_
        rotate_left
        ·
         intro w'
         go_simp
         with_reducible rfl
        rotate_left
        ·
         simp only [Act.put, sA, sB, sC, i64_w, i32_w]
         rfl
        refine take_ (i := 7) (N := some 95) (v := ?_) (a' := ?_) (bA 25 815615) rfl rfl (take_ofW HT_.out HW_.out (by kernel_rfl)) (fun _ _ _ h => h) (Or.inl ⟨by rfl, ?_⟩) hHeld ?_ ?_
        rotate_left
        ·
         rintro w' ⟨s0, s1, s2, s3, s4, s5, s6, s7, s8, s9⟩
         go_simp
         with_reducible rfl
        rotate_left
        ·
         simp only [Act.put, sA, sB, sC, i64_w, i32_w]
         rfl
        refine pure_ (i := 9) (N := some 97) (v := ?_) (a' := ?_) (bA 25 816127) rfl rfl (any_of HT_.out (by kernel_rfl)) (fun _ _ _ h => h) (Or.inl ⟨by rfl, ?_⟩) ?_ ?_
        rotate_left
        ·
         intro w'
         go_simp
         with_reducible rfl
        rotate_left
        ·
         simp only [Act.put, sA, sB, sC, i64_w, i32_w]
         rfl
        refine take_ (i := 10) (N := some 98) (v := ?_) (a' := ?_) (bA 25 817151) rfl rfl (take_ofW HT_.out HW_.out (by kernel_rfl)) (fun _ _ _ h => h) (Or.inl ⟨by rfl, ?_⟩) hHeld ?_ ?_
        rotate_left
        ·
         rintro w' ⟨s0, s1, s2, s3, s4, s5, s6, s7, s8, s9⟩
         go_simp
         with_reducible rfl
        rotate_left
        ·
         simp only [Act.put, sA, sB, sC, i64_w, i32_w]
         rfl
        refine pure_ (i := 11) (N := some 99) (v := ?_) (a' := ?_) (bA 25 819199) rfl rfl (any_of HT_.out (by kernel_rfl)) (fun _ _ _ h => h) (Or.inl ⟨by rfl, ?_⟩) ?_ ?_
        rotate_left
        ·
         intro w'
         go_simp
         with_reducible rfl
        rotate_left
        ·
         simp only [Act.put, sA, sB, sC, i64_w, i32_w]
         rfl
        refine take_ (i := 15) (N := some 103) (v := ?_) (a' := ?_) (bA 25 851967) rfl rfl (take_ofW HT_.out HW_.out (by kernel_rfl)) (fun _ _ _ h => h) (Or.inl ⟨by rfl, ?_⟩) hHeld ?_ ?_
        rotate_left
        ·
         rintro w' ⟨s0, s1, s2, s3, s4, s5, s6, s7, s8, s9⟩
         go_simp
         with_reducible rfl
        rotate_left
        ·
         simp only [Act.put, sA, sB, sC, i64_w, i32_w]
         rfl
        refine pure_ (i := 16) (N := some 104) (v := ?_) (a' := ?_) (bA 25 917503) rfl rfl (any_of HT_.out (by kernel_rfl)) (fun _ _ _ h => h) (Or.inl ⟨by rfl, ?_⟩) ?_ ?_
        rotate_left
        ·
         intro w'
         go_simp
         with_reducible rfl
        rotate_left
        ·
         simp only [Act.put, sA, sB, sC, i64_w, i32_w]
         rfl
        refine pure_ (i := 17) (N := some 105) (v := ?_) (a' := ?_) (bA 25 1048575) rfl rfl (any_of HT_.out (by kernel_rfl)) (fun _ _ _ h => h) (Or.inl ⟨by rfl, ?_⟩) ?_ ?_
        rotate_left
        ·
         intro w'
         go_simp
         with_reducible rfl
        rotate_left
        ·
         simp only [Act.put, sA, sB, sC, i64_w, i32_w]
         rfl
        refine take_ (i := 20) (N := some 108) (v := ?_) (a' := ?_) (bA 25 2097151) rfl rfl (take_ofW HT_.out HW_.out (by kernel_rfl)) (fun _ _ _ h => h) (Or.inl ⟨by rfl, ?_⟩) hHeld ?_ ?_
        rotate_left
        ·
         rintro w' ⟨s0, s1, s2, s3, s4, s5, s6, s7, s8, s9⟩
         go_simp
         with_reducible rfl
        rotate_left
        ·
         simp only [Act.put, sA, sB, sC, i64_w, i32_w]
         rfl
        refine pure_ (i := 21) (N := some 109) (v := ?_) (a' := ?_) (bA 25 4194303) rfl rfl (any_of HT_.out (by kernel_rfl)) (fun _ _ _ h => h) (Or.inl ⟨by rfl, ?_⟩) ?_ ?_
        rotate_left
        ·
         intro w'
         go_simp
         with_reducible rfl
        rotate_left
        ·
         simp only [Act.put, sA, sB, sC, i64_w, i32_w]
         rfl
        refine pure_ (i := 22) (N := some 110) (v := ?_) (a' := ?_) (bA 25 8388607) rfl rfl (any_of HT_.out (by kernel_rfl)) (fun _ _ _ h => h) (Or.inl ⟨by rfl, ?_⟩) ?_ ?_
        rotate_left
        ·
         intro w'
         go_simp
         with_reducible rfl
        rotate_left
        ·
         simp only [Act.put, sA, sB, sC, i64_w, i32_w]
         rfl
        refine one_ (i := 23) (N := some 111) (bA 25 16777215) rfl rfl (one_of HT_.out (by kernel_rfl)) (by decide) (fun K hK => ?_)
        refine goes_ Try.func33 (by kernel_rfl) rfl #[.int .i64 (wrap64 (rd t182 x8_3)), .slice Ao14 t185.length co14, .int .i64 (Int.tmod x8_3 (wrap64 (t179 + 1))), .int .i64 (wrap64 (Int.tdiv x8_3 (wrap64 (t179 + 1))))] (by rfl) rfl rfl (by (try simp only [List.map_toArray, List.map_cons, List.map_nil]); first | done | rfl | (simp only [List.length_drop, List.length_take]; rfl)) ?_
        with_reducible refine (bivouacref09_Corner.calls k3 (wrap64 (rd t182 x8_3)) _ _ t185 (Int.tmod x8_3 (wrap64 (t179 + 1))) (wrap64 (Int.tdiv x8_3 (wrap64 (t179 + 1)))) t202 _ ?side1 ?side2 A72.out).mono ?_
        (case side1 => repeat (first | exact (Kd.V_reads' HO_1.out).2.2 | (with_reducible refine Kd.C_alloc ?_ _) | (with_reducible refine Kd.C_drewN ?_ _) | (with_reducible refine Kd.C_drew ?_)))
        (case side2 => exact (Kd.V_reads' HO_1.out).2.1)
        rintro e w77 ⟨rfl, hb⟩
        have HS8_ := (hb.cell (World.block_lt_of_cell? _ _ (hHeld.2.2.2.2.2.2.2.2.1))).trans (hHeld.2.2.2.2.2.2.2.2.1)
        have HS9_ := (hb.cell (World.block_lt_of_cell? _ _ (hHeld.2.2.2.2.2.2.2.2.2))).trans (hHeld.2.2.2.2.2.2.2.2.2)
        refine ⟨_, rfl, ?_⟩
        have n0_ := aM20 (Kd.V_below (by (with_reducible repeat (first | apply Kd.V_alloc | apply Kd.V_drewN | apply Kd.V_drew)); exact HO_1.out) hb)
        have n1_ := aM20 (Kd.V_below (by (with_reducible repeat (first | apply Kd.V_alloc | apply Kd.V_drewN | apply Kd.V_drew)); exact HO_179003.out) hb)
        have n2_ := aM20 (Kd.R_below (by (with_reducible repeat (first | apply Kd.R_alloc | apply Kd.R_drewN | apply Kd.R_drew)); exact HO_196003.out) hb)
        have n3_ := aM20 (blk_below (g := gb178) (o := .cells #[.int .i64 t179, .int .i64 t180, .int .i64 t181, .slice (some ad201) t182.length co12] 46 (0, 0)) (by (with_reducible repeat (first | refine bN20 ?_ _ | refine bD20 ?_ | refine bK20 ?_ _)); exact BK178.out) hb)
        have n4_ := aM20 (blk_below (g := gb195) (o := .cells #[.int .i64 t188, .int .i64 t189, .int .i64 t190, .slice (some ad200) t191.length co19] 46 (0, 0)) (by (with_reducible repeat (first | refine bN20 ?_ _ | refine bD20 ?_ | refine bK20 ?_ _)); exact BK195.out) hb)
        have n5_ := aM20 (below_step (by repeat (first | (with_reducible first | exact HB.out | apply below_alloc | apply pw_below_drewN | apply below_drew1 | refine below_set ?_ GE178.out | refine below_set ?_ GE195.out) | exact HB.out)) hb)
        clear HO_1
        clear HO_179003
        clear HO_196003
        clear BK178
        clear BK195
        clear HB
        have HO_1 := n0_
        have HO_179003 := n1_
        have HO_196003 := n2_
        have BK178 := n3_
        have BK195 := n4_
        have HB := n5_
        clear n0_ n1_ n2_ n3_ n4_ n5_
        (try clear hb)
        (try clear hb2)
        (try clear hk)
        (try clear hi)
        refine hK.out _ _ ⟨(bC20 BK195.out 0).trans rfl, (bC20 BK195.out 1).trans rfl, (bC20 BK195.out 2).trans rfl, (bC20 BK195.out 3).trans rfl, (bC20 BK178.out 0).trans rfl, (bC20 BK178.out 1).trans rfl, (bC20 BK178.out 2).trans rfl, (bC20 BK178.out 3).trans rfl, HS8_, HS9_⟩ (fun hHeld => ?_)
        clear hK K
        refine norm_ (a' := ?_) ?_ ?_
        rotate_left
        ·
         show Act.put _ (some 111) _ = _
         simp only [Act.put, sA, sB, sC, i64_w, i32_w]
         rfl
        refine pure_ (i := 24) (N := some 112) (v := ?_) (a' := ?_) (bA 25 33554431) rfl rfl (any_of HT_.out (by kernel_rfl)) (fun _ _ _ h => h) (Or.inl ⟨by rfl, ?_⟩) ?_ ?_
        rotate_left
        ·
         intro w'
         go_simp
         with_reducible rfl
        rotate_left
        ·
         simp only [Act.put, sA, sB, sC, i64_w, i32_w]
         rfl
        refine done_ (done_of HT_.out (by kernel_rfl)) ?_
        try go_wp2
        go_roundg k3
        case measure => have := HJ5.out; have := HJ44.out; have := HK3.out; omega
        case rel => exact ⟨(wrap64 (x8_3 + 1)), (by first | rfl | (simp; done) | (simp [*]; done)), H', ⟨by have := HJ5.out; have := HJ44.out; have := HK3.out; omega⟩, ⟨by (with_reducible repeat (first | apply Kd.V_alloc | apply Kd.V_drewN | apply Kd.V_drew)); exact HO_1.out⟩, ⟨by (with_reducible repeat (first | apply Kd.V_alloc | apply Kd.V_drewN | apply Kd.V_drew)); exact HO_179003.out⟩, ⟨by (with_reducible repeat (first | apply Kd.R_alloc | apply Kd.R_drewN | apply Kd.R_drew)); exact HO_196003.out⟩, ⟨by (with_reducible repeat (first | refine bN20 ?_ _ | refine bD20 ?_ | refine bK20 ?_ _)); exact BK178.out⟩, ⟨by (with_reducible repeat (first | refine bN20 ?_ _ | refine bD20 ?_ | refine bK20 ?_ _)); exact BK195.out⟩, ⟨by repeat (first | (with_reducible first | exact HB.out | apply below_alloc | apply pw_below_drewN | apply below_drew1 | refine below_set ?_ GE178.out | refine below_set ?_ GE195.out) | exact HB.out)⟩⟩
       rw [if_neg c73] at H
       have c73b0 : ((wrap64 (rd t191 x8_3)) == t202) = false := beq_eq_false_iff_ne.mpr c73
       have c73b1 : ((wrap64 (rd t191 x8_3)) != t202) = true := bne_iff_ne.mpr c73
       obtain rfl := Option.some.inj H
       have hnb78 := NB178_195.out
       have hnc78 := NB195_178.out
       have hcz79_0 : wr.cell? ⟨gb178, 0, none⟩ = some (.int .i64 t179) := (bC20 BK178.out 0).trans rfl
       have hcz79_1 : wr.cell? ⟨gb178, 1, none⟩ = some (.int .i64 t180) := (bC20 BK178.out 1).trans rfl
       have hcz79_2 : wr.cell? ⟨gb178, 2, none⟩ = some (.int .i64 t181) := (bC20 BK178.out 2).trans rfl
       have hcz79_3 : wr.cell? ⟨gb178, 3, none⟩ = some (.slice Ao12 t182.length co12) := (bC20 BK178.out 3).trans rfl
       have hfz79_0 := bF20 BK178.out 0
       have hfz79_1 := bF20 BK178.out 1
       have hfz79_2 := bF20 BK178.out 2
       have hfz79_3 := bF20 BK178.out 3
       try go_wp2
       have n0_ := aM20 (Kd.V_drew HO_1.out)
       have n1_ := aM20 (Kd.V_drew HO_179003.out)
       have n2_ := aM20 (Kd.R_drew HO_196003.out)
       have n3_ := aM20 (bD20 BK178.out)
       have n4_ := aM20 (bD20 BK195.out)
       have n5_ := aM20 (below_drew1 HB.out)
       clear HO_1
       clear HO_179003
       clear HO_196003
       clear BK178
       clear BK195
       clear HB
       have HO_1 := n0_
       have HO_179003 := n1_
       have HO_196003 := n2_
       have BK178 := n3_
       have BK195 := n4_
       have HB := n5_
       clear n0_ n1_ n2_ n3_ n4_ n5_
       have p200 : 0 ≤ (x8_3 : Int) := of_decide_eq_true (by first | (with_reducible assumption) | assumption)
       have q200 : x8_3 < (t191.length : Int) := of_decide_eq_true (by first | (with_reducible assumption) | assumption)
       obtain ⟨ad200, e200, hx200_0⟩ := Kd.at_int (Kd.R_reads' HO_196003.out).2.2 x8_3 p200 q200
       cases e200
       replace p200 := eq_true p200
       replace q200 := eq_true q200
       have p201 : 0 ≤ (x8_3 : Int) := of_decide_eq_true (by first | (with_reducible assumption) | assumption)
       have q201 : x8_3 < (t182.length : Int) := of_decide_eq_true (by first | (with_reducible assumption) | assumption)
       obtain ⟨ad201, e201, hx201_0⟩ := Kd.at_int (Kd.V_reads' HO_179003.out).2.2 x8_3 p201 q201
       cases e201
       replace p201 := eq_true p201
       replace q201 := eq_true q201
       refine start_ (n := 25) (S := fun w' => w'.cell? ⟨gb195, 0, none⟩ = some (.int .i64 t188) ∧ w'.cell? ⟨gb195, 1, none⟩ = some (.int .i64 t189) ∧ w'.cell? ⟨gb195, 2, none⟩ = some (.int .i64 t190) ∧ w'.cell? ⟨gb195, 3, none⟩ = some (.slice (some ad200) t191.length co19) ∧ w'.cell? ⟨gb178, 0, none⟩ = some (.int .i64 t179) ∧ w'.cell? ⟨gb178, 1, none⟩ = some (.int .i64 t180) ∧ w'.cell? ⟨gb178, 2, none⟩ = some (.int .i64 t181) ∧ w'.cell? ⟨gb178, 3, none⟩ = some (.slice (some ad201) t182.length co12) ∧ w'.cell? (ad200.add (x8_3).toNat) = some (.int .u8 (rd t191 x8_3)) ∧ w'.cell? (ad201.add (x8_3).toNat) = some (.int .u8 (rd t182 x8_3))) (ds := []) (bA 25 0) (by kernel_rfl) rfl rfl ⟨(bC20 BK195.out 0).trans rfl, (bC20 BK195.out 1).trans rfl, (bC20 BK195.out 2).trans rfl, (bC20 BK195.out 3).trans rfl, (bC20 BK178.out 0).trans rfl, (bC20 BK178.out 1).trans rfl, (bC20 BK178.out 2).trans rfl, (bC20 BK178.out 3).trans rfl, hx200_0, hx201_0⟩ (fun hHeld => ?_); refine with_tabW bivouaclaw09_CraterStrikes.tab11 bivouaclaw09_CraterStrikes.bits11 (fun HT_ HW_ => ?_)
       generalize wr.drew = w80 at HO_1 HO_179003 HO_196003 BK178 BK195 HB hx200_0 hx201_0 hHeld ⊢
       refine pure_ (i := 0) (N := some 88) (v := ?_) (a' := ?_) (bA 25 1) rfl rfl (any_of HT_.out (by kernel_rfl)) (fun _ _ _ h => h) (Or.inl ⟨by rfl, ?_⟩) ?_ ?_
       rotate_left
       ·
        intro w'
        go_simp
        with_reducible rfl
       rotate_left
       ·
        simp only [Act.put, sA, sB, sC, i64_w, i32_w]
        rfl
       refine pure_ (i := 2) (N := some 90) (v := ?_) (a' := ?_) (bA 25 5) rfl rfl (any_of HT_.out (by kernel_rfl)) (fun _ _ _ h => h) (Or.inl ⟨by rfl, ?_⟩) ?_ ?_
       rotate_left
       ·
        intro w'
        go_simp
        with_reducible rfl
       rotate_left
       ·
        simp only [Act.put, sA, sB, sC, i64_w, i32_w]
        rfl
       refine pure_ (i := 6) (N := some 94) (v := ?_) (a' := ?_) (bA 25 69) rfl rfl (any_of HT_.out (by kernel_rfl)) (fun _ _ _ h => h) (Or.inl ⟨by rfl, ?_⟩) ?_ ?_
       rotate_left
       ·
        intro w'
        go_simp
        with_reducible rfl
       rotate_left
       ·
        simp only [Act.put, sA, sB, sC, i64_w, i32_w]
        rfl
       refine pure_ (i := 8) (N := some 96) (v := ?_) (a' := ?_) (bA 25 325) rfl rfl (any_of HT_.out (by kernel_rfl)) (fun _ _ _ h => h) (Or.inl ⟨by rfl, ?_⟩) ?_ ?_
       rotate_left
       ·
        intro w'
        go_simp
        with_reducible rfl
       rotate_left
       ·
        simp only [Act.put, sA, sB, sC, i64_w, i32_w]
        rfl
       refine pure_ (i := 12) (N := some 100) (v := ?_) (a' := ?_) (bA 25 4421) rfl rfl (any_of HT_.out (by kernel_rfl)) (fun _ _ _ h => h) (Or.inl ⟨by rfl, ?_⟩) ?_ ?_
       rotate_left
       ·
        intro w'
        go_simp
        with_reducible rfl
       rotate_left
       ·
        simp only [Act.put, sA, sB, sC, i64_w, i32_w]
        rfl
       refine pure_ (i := 13) (N := some 101) (v := ?_) (a' := ?_) (bA 25 12613) rfl rfl (any_of HT_.out (by kernel_rfl)) (fun _ _ _ h => h) (Or.inl ⟨by rfl, ?_⟩) ?_ ?_
       rotate_left
       ·
        intro w'
        go_simp
        with_reducible rfl
       rotate_left
       ·
        simp only [Act.put, sA, sB, sC, i64_w, i32_w]
        rfl
       refine pure_ (i := 14) (N := some 102) (v := ?_) (a' := ?_) (bA 25 28997) rfl rfl (any_of HT_.out (by kernel_rfl)) (fun _ _ _ h => h) (Or.inl ⟨by rfl, ?_⟩) ?_ ?_
       rotate_left
       ·
        intro w'
        go_simp
        with_reducible rfl
       rotate_left
       ·
        simp only [Act.put, sA, sB, sC, i64_w, i32_w]
        rfl
       refine pure_ (i := 18) (N := some 106) (v := ?_) (a' := ?_) (bA 25 291141) rfl rfl (any_of HT_.out (by kernel_rfl)) (fun _ _ _ h => h) (Or.inl ⟨by rfl, ?_⟩) ?_ ?_
       rotate_left
       ·
        intro w'
        go_simp
        with_reducible rfl
       rotate_left
       ·
        simp only [Act.put, sA, sB, sC, i64_w, i32_w]
        rfl
       refine pure_ (i := 19) (N := some 107) (v := ?_) (a' := ?_) (bA 25 815429) rfl rfl (any_of HT_.out (by kernel_rfl)) (fun _ _ _ h => h) (Or.inl ⟨by rfl, ?_⟩) ?_ ?_
       rotate_left
       ·
        intro w'
        go_simp
        with_reducible rfl
       rotate_left
       ·
        simp only [Act.put, sA, sB, sC, i64_w, i32_w]
        rfl
       refine take_ (i := 1) (N := some 89) (v := ?_) (a' := ?_) (bA 25 815431) rfl rfl (take_ofW HT_.out HW_.out (by kernel_rfl)) (fun _ _ _ h => h) (Or.inl ⟨by rfl, ?_⟩) hHeld ?_ ?_
       rotate_left
       ·
        rintro w' ⟨s0, s1, s2, s3, s4, s5, s6, s7, s8, s9⟩
        go_simp
        with_reducible rfl
       rotate_left
       ·
        simp only [Act.put, sA, sB, sC, i64_w, i32_w]
        rfl
       refine pure_ (i := 3) (N := some 91) (v := ?_) (a' := ?_) (bA 25 815439) rfl rfl (any_of HT_.out (by kernel_rfl)) (fun _ _ _ h => h) (Or.inl ⟨by rfl, ?_⟩) ?_ ?_
       rotate_left
       ·
        intro w'
        go_simp
        with_reducible rfl
       rotate_left
       ·
        simp only [Act.put, sA, sB, sC, i64_w, i32_w]
        rfl
       refine take_ (i := 4) (N := some 92) (v := ?_) (a' := ?_) (bA 25 815455) rfl rfl (take_ofW HT_.out HW_.out (by kernel_rfl)) (fun _ _ _ h => h) (Or.inl ⟨by rfl, ?_⟩) hHeld ?_ ?_
       rotate_left
       ·
        rintro w' ⟨s0, s1, s2, s3, s4, s5, s6, s7, s8, s9⟩
        go_simp
        with_reducible rfl
       rotate_left
       ·
        simp only [Act.put, sA, sB, sC, i64_w, i32_w]
        rfl
       refine pure_ (i := 5) (N := some 93) (v := ?_) (a' := ?_) (bA 25 815487) rfl rfl (any_of HT_.out (by kernel_rfl)) (fun _ _ _ h => h) (Or.inl ⟨by rfl, ?_⟩) ?_ ?_
       rotate_left
       ·
        intro w'
        go_simp
        with_reducible rfl
       rotate_left
       ·
        simp only [Act.put, sA, sB, sC, i64_w, i32_w]
        rfl
       refine take_ (i := 7) (N := some 95) (v := ?_) (a' := ?_) (bA 25 815615) rfl rfl (take_ofW HT_.out HW_.out (by kernel_rfl)) (fun _ _ _ h => h) (Or.inl ⟨by rfl, ?_⟩) hHeld ?_ ?_
       rotate_left
       ·
        rintro w' ⟨s0, s1, s2, s3, s4, s5, s6, s7, s8, s9⟩
        go_simp
        with_reducible rfl
       rotate_left
       ·
        simp only [Act.put, sA, sB, sC, i64_w, i32_w]
        rfl
       refine pure_ (i := 9) (N := some 97) (v := ?_) (a' := ?_) (bA 25 816127) rfl rfl (any_of HT_.out (by kernel_rfl)) (fun _ _ _ h => h) (Or.inl ⟨by rfl, ?_⟩) ?_ ?_
       rotate_left
       ·
        intro w'
        go_simp
        with_reducible rfl
       rotate_left
       ·
        simp only [Act.put, sA, sB, sC, i64_w, i32_w]
        rfl
       refine take_ (i := 10) (N := some 98) (v := ?_) (a' := ?_) (bA 25 817151) rfl rfl (take_ofW HT_.out HW_.out (by kernel_rfl)) (fun _ _ _ h => h) (Or.inl ⟨by rfl, ?_⟩) hHeld ?_ ?_
       rotate_left
       ·
        rintro w' ⟨s0, s1, s2, s3, s4, s5, s6, s7, s8, s9⟩
        go_simp
        with_reducible rfl
       rotate_left
       ·
        simp only [Act.put, sA, sB, sC, i64_w, i32_w]
        rfl
       refine pure_ (i := 11) (N := some 99) (v := ?_) (a' := ?_) (bA 25 819199) rfl rfl (any_of HT_.out (by kernel_rfl)) (fun _ _ _ h => h) (Or.inl ⟨by rfl, ?_⟩) ?_ ?_
       rotate_left
       ·
        intro w'
        go_simp
        with_reducible rfl
       rotate_left
       ·
        simp only [Act.put, sA, sB, sC, i64_w, i32_w]
        rfl
       refine take_ (i := 15) (N := some 103) (v := ?_) (a' := ?_) (bA 25 851967) rfl rfl (take_ofW HT_.out HW_.out (by kernel_rfl)) (fun _ _ _ h => h) (Or.inl ⟨by rfl, ?_⟩) hHeld ?_ ?_
       rotate_left
       ·
        rintro w' ⟨s0, s1, s2, s3, s4, s5, s6, s7, s8, s9⟩
        go_simp
        with_reducible rfl
       rotate_left
       ·
        simp only [Act.put, sA, sB, sC, i64_w, i32_w]
        rfl
       refine pure_ (i := 16) (N := some 104) (v := ?_) (a' := ?_) (bA 25 917503) rfl rfl (any_of HT_.out (by kernel_rfl)) (fun _ _ _ h => h) (Or.inl ⟨by rfl, ?_⟩) ?_ ?_
       rotate_left
       ·
        intro w'
        go_simp
        with_reducible rfl
       rotate_left
       ·
        simp only [Act.put, sA, sB, sC, i64_w, i32_w]
        rfl
       refine pure_ (i := 17) (N := some 105) (v := ?_) (a' := ?_) (bA 25 1048575) rfl rfl (any_of HT_.out (by kernel_rfl)) (fun _ _ _ h => h) (Or.inl ⟨by rfl, ?_⟩) ?_ ?_
       rotate_left
       ·
        intro w'
        go_simp
        with_reducible rfl
       rotate_left
       ·
        simp only [Act.put, sA, sB, sC, i64_w, i32_w]
        rfl
       refine take_ (i := 20) (N := some 108) (v := ?_) (a' := ?_) (bA 25 2097151) rfl rfl (take_ofW HT_.out HW_.out (by kernel_rfl)) (fun _ _ _ h => h) (Or.inl ⟨by rfl, ?_⟩) hHeld ?_ ?_
       rotate_left
       ·
        rintro w' ⟨s0, s1, s2, s3, s4, s5, s6, s7, s8, s9⟩
        go_simp
        with_reducible rfl
       rotate_left
       ·
        simp only [Act.put, sA, sB, sC, i64_w, i32_w]
        rfl
       refine pure_ (i := 21) (N := some 109) (v := ?_) (a' := ?_) (bA 25 4194303) rfl rfl (any_of HT_.out (by kernel_rfl)) (fun _ _ _ h => h) (Or.inl ⟨by rfl, ?_⟩) ?_ ?_
       rotate_left
       ·
        intro w'
        go_simp
        with_reducible rfl
       rotate_left
       ·
        simp only [Act.put, sA, sB, sC, i64_w, i32_w]
        rfl
       refine pure_ (i := 22) (N := some 110) (v := ?_) (a' := ?_) (bA 25 8388607) rfl rfl (any_of HT_.out (by kernel_rfl)) (fun _ _ _ h => h) (Or.inl ⟨by rfl, ?_⟩) ?_ ?_
       rotate_left
       ·
        intro w'
        go_simp
        with_reducible rfl
       rotate_left
       ·
        simp only [Act.put, sA, sB, sC, i64_w, i32_w]
        rfl
       refine one_ (i := 23) (N := some 111) (bA 25 16777215) rfl rfl (one_of HT_.out (by kernel_rfl)) (by decide) (fun K hK => ?_)
       refine goes_ Try.func33 (by kernel_rfl) rfl #[.int .i64 (wrap64 (rd t182 x8_3)), .slice Ao14 t185.length co14, .int .i64 (Int.tmod x8_3 (wrap64 (t179 + 1))), .int .i64 (wrap64 (Int.tdiv x8_3 (wrap64 (t179 + 1))))] (by rfl) rfl rfl (by (try simp only [List.map_toArray, List.map_cons, List.map_nil]); first | done | rfl | (simp only [List.length_drop, List.length_take]; rfl)) ?_
       with_reducible refine (bivouacref09_Corner.calls k3 (wrap64 (rd t182 x8_3)) _ _ t185 (Int.tmod x8_3 (wrap64 (t179 + 1))) (wrap64 (Int.tdiv x8_3 (wrap64 (t179 + 1)))) t202 _ ?side1 ?side2 A72.out).mono ?_
       (case side1 => repeat (first | exact (Kd.V_reads' HO_1.out).2.2 | (with_reducible refine Kd.C_alloc ?_ _) | (with_reducible refine Kd.C_drewN ?_ _) | (with_reducible refine Kd.C_drew ?_)))
       (case side2 => exact (Kd.V_reads' HO_1.out).2.1)
       rintro e w81 ⟨rfl, hb⟩
       have HS8_ := (hb.cell (World.block_lt_of_cell? _ _ (hHeld.2.2.2.2.2.2.2.2.1))).trans (hHeld.2.2.2.2.2.2.2.2.1)
       have HS9_ := (hb.cell (World.block_lt_of_cell? _ _ (hHeld.2.2.2.2.2.2.2.2.2))).trans (hHeld.2.2.2.2.2.2.2.2.2)
       refine ⟨_, rfl, ?_⟩
       have n0_ := aM20 (Kd.V_below (by (with_reducible repeat (first | apply Kd.V_alloc | apply Kd.V_drewN | apply Kd.V_drew)); exact HO_1.out) hb)
       have n1_ := aM20 (Kd.V_below (by (with_reducible repeat (first | apply Kd.V_alloc | apply Kd.V_drewN | apply Kd.V_drew)); exact HO_179003.out) hb)
       have n2_ := aM20 (Kd.R_below (by (with_reducible repeat (first | apply Kd.R_alloc | apply Kd.R_drewN | apply Kd.R_drew)); exact HO_196003.out) hb)
       have n3_ := aM20 (blk_below (g := gb178) (o := .cells #[.int .i64 t179, .int .i64 t180, .int .i64 t181, .slice (some ad201) t182.length co12] 46 (0, 0)) (by (with_reducible repeat (first | refine bN20 ?_ _ | refine bD20 ?_ | refine bK20 ?_ _)); exact BK178.out) hb)
       have n4_ := aM20 (blk_below (g := gb195) (o := .cells #[.int .i64 t188, .int .i64 t189, .int .i64 t190, .slice (some ad200) t191.length co19] 46 (0, 0)) (by (with_reducible repeat (first | refine bN20 ?_ _ | refine bD20 ?_ | refine bK20 ?_ _)); exact BK195.out) hb)
       have n5_ := aM20 (below_step (by repeat (first | (with_reducible first | exact HB.out | apply below_alloc | apply pw_below_drewN | apply below_drew1 | refine below_set ?_ GE178.out | refine below_set ?_ GE195.out) | exact HB.out)) hb)
       clear HO_1
       clear HO_179003
       clear HO_196003
       clear BK178
       clear BK195
       clear HB
       have HO_1 := n0_
       have HO_179003 := n1_
       have HO_196003 := n2_
       have BK178 := n3_
       have BK195 := n4_
       have HB := n5_
       clear n0_ n1_ n2_ n3_ n4_ n5_
       (try clear hb)
       (try clear hb2)
       (try clear hk)
       (try clear hi)
       refine hK.out _ _ ⟨(bC20 BK195.out 0).trans rfl, (bC20 BK195.out 1).trans rfl, (bC20 BK195.out 2).trans rfl, (bC20 BK195.out 3).trans rfl, (bC20 BK178.out 0).trans rfl, (bC20 BK178.out 1).trans rfl, (bC20 BK178.out 2).trans rfl, (bC20 BK178.out 3).trans rfl, HS8_, HS9_⟩ (fun hHeld => ?_)
       clear hK K
       refine norm_ (a' := ?_) ?_ ?_
       rotate_left
       ·
        show Act.put _ (some 111) _ = _
        simp only [Act.put, sA, sB, sC, i64_w, i32_w]
        rfl
       refine pure_ (i := 24) (N := some 112) (v := ?_) (a' := ?_) (bA 25 33554431) rfl rfl (any_of HT_.out (by kernel_rfl)) (fun _ _ _ h => h) (Or.inl ⟨by rfl, ?_⟩) ?_ ?_
       rotate_left
       ·
        intro w'
        go_simp
        with_reducible rfl
       rotate_left
       ·
        simp only [Act.put, sA, sB, sC, i64_w, i32_w]
        rfl
       refine done_ (done_of HT_.out (by kernel_rfl)) ?_
       try go_wp2
       go_ret
       exact ⟨by first | rfl | (simp [errW_none, errW_some] <;> rfl) | (simp [*, errW_none, errW_some] <;> rfl) | (rw [Int.tdiv_eq_ediv_of_nonneg (by assumption)]; rfl), by repeat (first | (with_reducible first | exact HB.out | apply below_alloc | apply pw_below_drewN | apply below_drew1 | refine below_set ?_ GE178.out | refine below_set ?_ GE195.out) | exact HB.out)⟩
      rw [if_neg c70] at H
      exact absurd H (by simp)
     rw [if_neg c69] at H
     exact absurd H (by simp)
    rw [if_neg c68] at H
    have c68b0 : decide (x8_3 < (t182.length : Int)) = false := decide_eq_false c68
    clear c68
    by_cases c82 : (t185.length : Int) = 1
    ·
     rw [if_pos c82] at H
     have c82b0 : ((t185.length : Int) == 1) = true := beq_iff_eq.mpr c82
     have c82b1 : ((t185.length : Int) != 1) = false := bne_eq_false_iff_eq.mpr c82
     clear c82
     by_cases c83 : 0 < (t185.length : Int)
     ·
      rw [if_pos c83] at H
      have c83b0 : decide (0 < (t185.length : Int)) = true := decide_eq_true c83
      have c83b1 : decide (0 < t185.length) = true := decide_eq_true (by omega)
      clear c83
      replace H := Option.bind_eq_some_iff.mp H
      obtain ⟨⟨t204, t205, t206, t207, t210⟩, A840, H⟩ := H
      replace H : ((bivouacref06_Same.f t188 t189 t190 t191 t204 t205 t206 t207).bind fun t212 => (if t212 = true then (if t210 = 0 then ((bivouaclaw09_awake.f).bind fun t213 => (some t213)) else (some false)) else (some false))) = some r := H
      have A84 := aM20 A840
      clear A840
      replace H := Option.bind_eq_some_iff.mp H
      obtain ⟨t212, A850, H⟩ := H
      replace H : (if t212 = true then (if t210 = 0 then ((bivouaclaw09_awake.f).bind fun t213 => (some t213)) else (some false)) else (some false)) = some r := H
      have A85 := aM20 A850
      clear A850
      by_cases c86 : t212 = true
      ·
       subst c86
       have H1 : (if t210 = 0 then ((bivouaclaw09_awake.f).bind fun t213 => (some t213)) else (some false)) = some r := by rw [if_pos rfl] at H; exact H
       clear H
       have H := H1
       clear H1
       by_cases c87 : t210 = 0
       ·
        rw [if_pos c87] at H
        have c87b0 : (t210 == 0) = true := beq_iff_eq.mpr c87
        have c87b1 : (t210 != 0) = false := bne_eq_false_iff_eq.mpr c87
        clear c87
        replace H := Option.bind_eq_some_iff.mp H
        obtain ⟨t213, A880, H⟩ := H
        replace H : (some t213) = some r := H
        have A88 := aM20 A880
        clear A880
        obtain rfl := Option.some.inj H
        have hnb89 := NB178_195.out
        have hnc89 := NB195_178.out
        have hcz90_0 : wr.cell? ⟨gb178, 0, none⟩ = some (.int .i64 t179) := (bC20 BK178.out 0).trans rfl
        have hcz90_1 : wr.cell? ⟨gb178, 1, none⟩ = some (.int .i64 t180) := (bC20 BK178.out 1).trans rfl
        have hcz90_2 : wr.cell? ⟨gb178, 2, none⟩ = some (.int .i64 t181) := (bC20 BK178.out 2).trans rfl
        have hcz90_3 : wr.cell? ⟨gb178, 3, none⟩ = some (.slice Ao12 t182.length co12) := (bC20 BK178.out 3).trans rfl
        have hfz90_0 := bF20 BK178.out 0
        have hfz90_1 := bF20 BK178.out 1
        have hfz90_2 := bF20 BK178.out 2
        have hfz90_3 := bF20 BK178.out 3
        try go_wp2
        have n0_ := aM20 (Kd.V_drew HO_1.out)
        have n1_ := aM20 (Kd.V_drew HO_179003.out)
        have n2_ := aM20 (Kd.R_drew HO_196003.out)
        have n3_ := aM20 (bD20 BK178.out)
        have n4_ := aM20 (bD20 BK195.out)
        have n5_ := aM20 (below_drew1 HB.out)
        clear HO_1
        clear HO_179003
        clear HO_196003
        clear BK178
        clear BK195
        clear HB
        have HO_1 := n0_
        have HO_179003 := n1_
        have HO_196003 := n2_
        have BK178 := n3_
        have BK195 := n4_
        have HB := n5_
        clear n0_ n1_ n2_ n3_ n4_ n5_
        have p203 : 0 ≤ (0 : Int) := (by omega)
        have q203 : 0 < (t185.length : Int) := of_decide_eq_true (by first | (with_reducible assumption) | assumption)
        obtain ⟨ad203, e203, hx203_0, hx203_1, hx203_2, hx203_3⟩ := at_T23 (Kd.V_reads' HO_1.out).2.2 0 p203 q203
        cases e203
        have qi203 : (0 < t185.length) = True := eq_true (by omega)
        (try rw [show ((0 : Int)).toNat = 0 from rfl] at hx203_0)
        (try rw [show 0 * 4 = 0 from rfl] at hx203_0)
        (try rw [Addr.add_zero'] at hx203_0)
        (try rw [show ((0 : Int)).toNat = 0 from rfl] at hx203_1)
        (try rw [show 0 * 4 = 0 from rfl] at hx203_1)
        (try rw [Addr.add_zero'] at hx203_1)
        (try rw [show ((0 : Int)).toNat = 0 from rfl] at hx203_2)
        (try rw [show 0 * 4 = 0 from rfl] at hx203_2)
        (try rw [Addr.add_zero'] at hx203_2)
        (try rw [show ((0 : Int)).toNat = 0 from rfl] at hx203_3)
        (try rw [show 0 * 4 = 0 from rfl] at hx203_3)
        (try rw [Addr.add_zero'] at hx203_3)
        replace p203 := eq_true p203
        replace q203 := eq_true q203
        refine start_ (n := 11) (S := fun w' => w'.cell? ⟨gb178, 0, none⟩ = some (.int .i64 t179) ∧ w'.cell? ⟨gb178, 1, none⟩ = some (.int .i64 t180) ∧ w'.cell? ⟨gb178, 2, none⟩ = some (.int .i64 t181) ∧ w'.cell? ⟨gb178, 3, none⟩ = some (.slice Ao12 t182.length co12) ∧ w'.cell? ad203 = some (.int .i64 ((rd_T23 t185 0).f0)) ∧ w'.cell? ⟨ad203.block, ad203.off + 1, none⟩ = some (.int .i64 ((rd_T23 t185 0).f1)) ∧ w'.cell? ⟨ad203.block, ad203.off + 2, none⟩ = some (.int .i64 ((rd_T23 t185 0).f2)) ∧ w'.cell? ⟨ad203.block, ad203.off + 3, none⟩ = some (.int .i64 ((rd_T23 t185 0).f3))) (ds := []) (bA 11 0) (by kernel_rfl) rfl rfl ⟨(bC20 BK178.out 0).trans rfl, (bC20 BK178.out 1).trans rfl, (bC20 BK178.out 2).trans rfl, (bC20 BK178.out 3).trans rfl, hx203_0, hx203_1, hx203_2, hx203_3⟩ (fun hHeld => ?_); refine with_tabW bivouaclaw09_CraterStrikes.tab14 bivouaclaw09_CraterStrikes.bits14 (fun HT_ HW_ => ?_)
        generalize wr.drew = w91 at HO_1 HO_179003 HO_196003 BK178 BK195 HB hx203_0 hx203_1 hx203_2 hx203_3 hHeld ⊢
        refine pure_ (i := 1) (N := some 118) (v := ?_) (a' := ?_) (bA 11 2) rfl rfl (any_of HT_.out (by kernel_rfl)) (fun _ _ _ h => h) (Or.inl ⟨by rfl, ?_⟩) ?_ ?_
        rotate_left
        ·
         intro w'
         go_simp
         with_reducible rfl
        rotate_left
        ·
         simp only [Act.put, sA, sB, sC, i64_w, i32_w]
         rfl
        refine pure_ (i := 2) (N := some 119) (v := ?_) (a' := ?_) (bA 11 6) rfl rfl (any_of HT_.out (by kernel_rfl)) (fun _ _ _ h => h) (Or.inl ⟨by rfl, ?_⟩) ?_ ?_
        rotate_left
        ·
         intro w'
         go_simp
         with_reducible rfl
        rotate_left
        ·
         simp only [Act.put, sA, sB, sC, i64_w, i32_w]
         rfl
        refine take_ (i := 0) (N := some 117) (v := ?_) (a' := ?_) (bA 11 7) rfl rfl (take_ofW HT_.out HW_.out (by kernel_rfl)) (fun _ _ _ h => h) (Or.inl ⟨by rfl, ?_⟩) hHeld ?_ ?_
        rotate_left
        ·
         rintro w' ⟨s0, s1, s2, s3, s4, s5, s6, s7⟩
         go_simp
         with_reducible rfl
        rotate_left
        ·
         simp only [Act.put, sA, sB, sC, i64_w, i32_w]
         rfl
        refine take_ (i := 3) (N := some 120) (v := ?_) (a' := ?_) (bA 11 15) rfl rfl (take_ofW HT_.out HW_.out (by kernel_rfl)) (fun _ _ _ h => h) (Or.inl ⟨by rfl, ?_⟩) hHeld ?_ ?_
        rotate_left
        ·
         rintro w' ⟨s0, s1, s2, s3, s4, s5, s6, s7⟩
         go_simp
         with_reducible rfl
        rotate_left
        ·
         simp only [Act.put, sA, sB, sC, i64_w, i32_w]
         rfl
        refine join_ (σ := Value × Nat) 2 #[true, true, true, true, true, true, true, true, true, false, false] (fun s_ => [(121, .tuple #[.agg #[.int .i64 t204, .int .i64 t205, .int .i64 t206, s_.1], .int .i64 t210]), (9, .pointer (some ⟨s_.2, 0, none⟩)), (116, .tuple #[.agg #[.int .i64 t204, .int .i64 t205, .int .i64 t206, s_.1], .int .i64 t210]), (122, .agg #[.int .i64 t204, .int .i64 t205, .int .i64 t206, s_.1]), (123, .int .i64 t210)]) (fun s_ w' => (w'.cell? ⟨gb178, 0, none⟩ = some (.int .i64 t179) ∧ w'.cell? ⟨gb178, 1, none⟩ = some (.int .i64 t180) ∧ w'.cell? ⟨gb178, 2, none⟩ = some (.int .i64 t181) ∧ w'.cell? ⟨gb178, 3, none⟩ = some (.slice Ao12 t182.length co12) ∧ w'.cell? ad203 = some (.int .i64 ((rd_T23 t185 0).f0)) ∧ w'.cell? ⟨ad203.block, ad203.off + 1, none⟩ = some (.int .i64 ((rd_T23 t185 0).f1)) ∧ w'.cell? ⟨ad203.block, ad203.off + 2, none⟩ = some (.int .i64 ((rd_T23 t185 0).f2)) ∧ w'.cell? ⟨ad203.block, ad203.off + 3, none⟩ = some (.int .i64 ((rd_T23 t185 0).f3))) ∧ (Kd.R (Kd.int .u8) 5 w' w.heap.size (fun k_ => some k_ ≠ (.slice Ao19 t191.length co19 : Value).ownBlock) s_.1 t207) ∧ (Kd.V k23 23 w' w.heap.size (fun k_ => some k_ ≠ (s_.1 : Value).ownBlock ∧ some k_ ≠ (.slice Ao19 t191.length co19 : Value).ownBlock ∧ k_ ≠ gb178 ∧ k_ ≠ gb195 ∧ k_ ≠ s_.2) (.slice (some ad203) t185.length co14) t185) ∧ (Kd.V (Kd.int .u8) 5 w' w.heap.size (fun k_ => some k_ ≠ (s_.1 : Value).ownBlock ∧ some k_ ≠ (.slice Ao19 t191.length co19 : Value).ownBlock ∧ k_ ≠ gb178 ∧ k_ ≠ gb195 ∧ k_ ≠ s_.2) (.slice Ao12 t182.length co12) t182) ∧ (Kd.R (Kd.int .u8) 5 w' w.heap.size (fun k_ => some k_ ≠ (s_.1 : Value).ownBlock) (.slice Ao19 t191.length co19) t191) ∧ (w'.heap[gb178]? = some (.cells #[.int .i64 t179, .int .i64 t180, .int .i64 t181, .slice Ao12 t182.length co12] 46 (0, 0))) ∧ (w'.heap[gb195]? = some (.cells #[.int .i64 t188, .int .i64 t189, .int .i64 t190, .slice Ao19 t191.length co19] 46 (0, 0))) ∧ (w'.heap[s_.2]? = some (.cells #[.int .i64 0, .int .i64 0, .int .i64 0, .slice none 0 0] 46 (0, 0))) ∧ (w.heap.size ≤ s_.2) ∧ (w.heap.size ≤ s_.2) ∧ (gb178 ≠ s_.2) ∧ (s_.2 ≠ gb178) ∧ (gb195 ≠ s_.2) ∧ (s_.2 ≠ gb195) ∧ (Below w.heap.size w w')) ?_ ?_
        rotate_left
        ·
         intro hCont
         refine two_ (i := 4) (j := 8) (Ni := some 121) (Nj := some 9) (bA 11 31) #[true, true, true, true, false, false, false, false, true, false, false] rfl rfl rfl rfl (two_of HT_.out (by kernel_rfl)) (by decide) (by decide) (fun K hK => ?_) (fun K hK => ?_)
         ·
          skip
          refine goes_ Try.func27 (by kernel_rfl) rfl #[.agg #[.int .i64 t179, .int .i64 t180, .int .i64 t181, .slice Ao12 t182.length co12], .agg #[.int .i64 ((rd_T23 t185 0).f0), .int .i64 ((rd_T23 t185 0).f1), .int .i64 ((rd_T23 t185 0).f2), .int .i64 ((rd_T23 t185 0).f3)]] (by rfl) rfl rfl (by (try simp only [List.map_toArray, List.map_cons, List.map_nil]); first | done | rfl | (simp only [List.length_drop, List.length_take]; rfl)) ?_
          with_reducible refine (crater_Strike.calls k3 t179 t180 t181 _ _ t182 ((rd_T23 t185 0).f0) ((rd_T23 t185 0).f1) ((rd_T23 t185 0).f2) ((rd_T23 t185 0).f3) t204 t205 t206 t207 t210 _ ?side1 ?side2 A84.out).mono ?_
          (case side1 => repeat (first | exact (Kd.V_reads' HO_179003.out).2.2 | (with_reducible refine Kd.C_alloc ?_ _) | (with_reducible refine Kd.C_drewN ?_ _) | (with_reducible refine Kd.C_drew ?_)))
          (case side2 => exact (Kd.V_reads' HO_179003.out).2.1)
          rintro e w92 ⟨v208, rfl, ho0, hb⟩
          have HS4_ := (hb.cell (World.block_lt_of_cell? _ _ (hHeld.2.2.2.2.1))).trans (hHeld.2.2.2.2.1)
          have HS5_ := (hb.cell (World.block_lt_of_cell? _ _ (hHeld.2.2.2.2.2.1))).trans (hHeld.2.2.2.2.2.1)
          have HS6_ := (hb.cell (World.block_lt_of_cell? _ _ (hHeld.2.2.2.2.2.2.1))).trans (hHeld.2.2.2.2.2.2.1)
          have HS7_ := (hb.cell (World.block_lt_of_cell? _ _ (hHeld.2.2.2.2.2.2.2))).trans (hHeld.2.2.2.2.2.2.2)
          refine ⟨_, rfl, ?_⟩
          have n0_ := aM20 (Kd.V_elder' (by (with_reducible repeat (first | apply Kd.V_alloc | apply Kd.V_drewN | apply Kd.V_drew)); exact HO_1.out) (Kd.R_base ho0) hb)
          have n1_ := aM20 (Kd.V_elder' (by (with_reducible repeat (first | apply Kd.V_alloc | apply Kd.V_drewN | apply Kd.V_drew)); exact HO_179003.out) (Kd.R_base ho0) hb)
          have n2_ := aM20 (Kd.R_elder' (by (with_reducible repeat (first | apply Kd.R_alloc | apply Kd.R_drewN | apply Kd.R_drew)); exact HO_196003.out) (Kd.R_base ho0) hb)
          have n3_ := aM20 (Kd.R_lower (Kd.R_new' ho0 (Kd.R_lt (by (with_reducible repeat (first | apply Kd.R_alloc | apply Kd.R_drewN | apply Kd.R_drew)); exact HO_196003.out))) (below_size (by repeat (first | (with_reducible first | exact HB.out | apply below_alloc | apply pw_below_drewN | apply below_drew1 | refine below_set ?_ GE178.out | refine below_set ?_ GE195.out) | exact HB.out))))
          have n4_ := aM20 (blk_below (g := gb178) (o := .cells #[.int .i64 t179, .int .i64 t180, .int .i64 t181, .slice Ao12 t182.length co12] 46 (0, 0)) (by (with_reducible repeat (first | refine bN20 ?_ _ | refine bD20 ?_ | refine bK20 ?_ _)); exact BK178.out) hb)
          have n5_ := aM20 (blk_below (g := gb195) (o := .cells #[.int .i64 t188, .int .i64 t189, .int .i64 t190, .slice Ao19 t191.length co19] 46 (0, 0)) (by (with_reducible repeat (first | refine bN20 ?_ _ | refine bD20 ?_ | refine bK20 ?_ _)); exact BK195.out) hb)
          have n6_ := aM20 (below_step (by repeat (first | (with_reducible first | exact HB.out | apply below_alloc | apply pw_below_drewN | apply below_drew1 | refine below_set ?_ GE178.out | refine below_set ?_ GE195.out) | exact HB.out)) hb)
          clear HO_1
          clear HO_179003
          clear HO_196003
          clear BK178
          clear BK195
          clear HB
          have HO_1 := n0_
          have HO_179003 := n1_
          have HO_196003 := n2_
          have HO209 := n3_
          have BK178 := n4_
          have BK195 := n5_
          have HB := n6_
          clear n0_ n1_ n2_ n3_ n4_ n5_ n6_
          (try clear hb)
          (try clear hb2)
          (try clear hk)
          (try clear hi)
          (try clear ho0)
          refine hK.out _ _ ⟨(bC20 BK178.out 0).trans rfl, (bC20 BK178.out 1).trans rfl, (bC20 BK178.out 2).trans rfl, (bC20 BK178.out 3).trans rfl, HS4_, HS5_, HS6_, HS7_⟩ (fun hHeld => ?_)
          clear hK K
          refine norm_ (a' := ?_) ?_ ?_
          rotate_left
          ·
           show Act.put _ (some 121) _ = _
           simp only [Act.put, sA, sB, sC, i64_w, i32_w]
           rfl
          refine pure_ (i := 5) (N := some 116) (v := ?_) (a' := ?_) (bA 11 63) rfl rfl (any_of HT_.out (by kernel_rfl)) (fun _ _ _ h => h) (Or.inl ⟨by rfl, ?_⟩) ?_ ?_
          rotate_left
          ·
           intro w'
           go_simp
           with_reducible rfl
          rotate_left
          ·
           simp only [Act.put, sA, sB, sC, i64_w, i32_w]
           rfl
          refine pure_ (i := 6) (N := some 122) (v := ?_) (a' := ?_) (bA 11 127) rfl rfl (any_of HT_.out (by kernel_rfl)) (fun _ _ _ h => h) (Or.inl ⟨by rfl, ?_⟩) ?_ ?_
          rotate_left
          ·
           intro w'
           go_simp
           with_reducible rfl
          rotate_left
          ·
           simp only [Act.put, sA, sB, sC, i64_w, i32_w]
           rfl
          refine pure_ (i := 7) (N := some 123) (v := ?_) (a' := ?_) (bA 11 255) rfl rfl (any_of HT_.out (by kernel_rfl)) (fun _ _ _ h => h) (Or.inl ⟨by rfl, ?_⟩) ?_ ?_
          rotate_left
          ·
           intro w'
           go_simp
           with_reducible rfl
          rotate_left
          ·
           simp only [Act.put, sA, sB, sC, i64_w, i32_w]
           rfl
          refine one_ (i := 8) (N := some 9) (bA 11 511) rfl rfl (one_of HT_.out (by kernel_rfl)) (by decide) (fun K hK => ?_)
          refine box_step ?hg (N := 9) ?hd (cs := #[.int .i64 0, .int .i64 0, .int .i64 0, .slice none 0 0]) (t := 46) ?hr ?_; (case hd => rfl); (case hg => rfl); (case hr => first | (go_simp; done) | (go_simp; rfl))
          intro gb211 hg w93 hbox hb
          have HS4_ := (hb.cell (World.block_lt_of_cell? _ _ (hHeld.2.2.2.2.1))).trans (hHeld.2.2.2.2.1)
          have HS5_ := (hb.cell (World.block_lt_of_cell? _ _ (hHeld.2.2.2.2.2.1))).trans (hHeld.2.2.2.2.2.1)
          have HS6_ := (hb.cell (World.block_lt_of_cell? _ _ (hHeld.2.2.2.2.2.2.1))).trans (hHeld.2.2.2.2.2.2.1)
          have HS7_ := (hb.cell (World.block_lt_of_cell? _ _ (hHeld.2.2.2.2.2.2.2))).trans (hHeld.2.2.2.2.2.2.2)
          have n0_ := aM20 (Kd.V_below (Kd.V_elderB (by (with_reducible repeat (first | apply Kd.V_alloc | apply Kd.V_drewN | apply Kd.V_drew)); exact HO_1.out) gb211 (Nat.le_of_eq hg.symm)) hb)
          have n1_ := aM20 (Kd.V_below (Kd.V_elderB (by (with_reducible repeat (first | apply Kd.V_alloc | apply Kd.V_drewN | apply Kd.V_drew)); exact HO_179003.out) gb211 (Nat.le_of_eq hg.symm)) hb)
          have n2_ := aM20 (Kd.R_below (by (with_reducible repeat (first | apply Kd.R_alloc | apply Kd.R_drewN | apply Kd.R_drew)); exact HO_196003.out) hb)
          have n3_ := aM20 (Kd.R_below (by (with_reducible repeat (first | apply Kd.R_alloc | apply Kd.R_drewN | apply Kd.R_drew)); exact HO209.out) hb)
          have n4_ := aM20 (blk_below (g := gb178) (o := .cells #[.int .i64 t179, .int .i64 t180, .int .i64 t181, .slice Ao12 t182.length co12] 46 (0, 0)) (by (with_reducible repeat (first | refine bN20 ?_ _ | refine bD20 ?_ | refine bK20 ?_ _)); exact BK178.out) hb)
          have n5_ := aM20 (blk_below (g := gb195) (o := .cells #[.int .i64 t188, .int .i64 t189, .int .i64 t190, .slice Ao19 t191.length co19] 46 (0, 0)) (by (with_reducible repeat (first | refine bN20 ?_ _ | refine bD20 ?_ | refine bK20 ?_ _)); exact BK195.out) hb)
          have n6_ := aM20 (below_step (by repeat (first | (with_reducible first | exact HB.out | apply below_alloc | apply pw_below_drewN | apply below_drew1 | refine below_set ?_ GE178.out | refine below_set ?_ GE195.out) | exact HB.out)) hb)
          have n7_ := aM20 (hbox)
          have n8_ := aM20 ((by rw [hg]; exact (below_size (by repeat (first | (with_reducible first | exact HB.out | apply below_alloc | apply pw_below_drewN | apply below_drew1 | refine below_set ?_ GE178.out | refine below_set ?_ GE195.out) | exact HB.out))) : w.heap.size ≤ gb211))
          have n9_ := aM20 ((by rw [hg]; exact (below_size (by repeat (first | (with_reducible first | exact HB.out | apply below_alloc | apply pw_below_drewN | apply below_drew1 | refine below_set ?_ GE178.out | refine below_set ?_ GE195.out) | exact HB.out))) : w.heap.size ≤ gb211))
          have n10_ := aM20 ((by rw [hg]; exact Nat.ne_of_lt (blk_lt (g := gb178) (o := .cells #[.int .i64 t179, .int .i64 t180, .int .i64 t181, .slice Ao12 t182.length co12] 46 (0, 0)) (by (with_reducible repeat (first | refine bN20 ?_ _ | refine bD20 ?_ | refine bK20 ?_ _)); exact BK178.out)) : gb178 ≠ gb211))
          have n11_ := aM20 ((by rw [hg]; exact Nat.ne_of_gt (blk_lt (g := gb178) (o := .cells #[.int .i64 t179, .int .i64 t180, .int .i64 t181, .slice Ao12 t182.length co12] 46 (0, 0)) (by (with_reducible repeat (first | refine bN20 ?_ _ | refine bD20 ?_ | refine bK20 ?_ _)); exact BK178.out)) : gb211 ≠ gb178))
          have n12_ := aM20 ((by rw [hg]; exact Nat.ne_of_lt (blk_lt (g := gb195) (o := .cells #[.int .i64 t188, .int .i64 t189, .int .i64 t190, .slice Ao19 t191.length co19] 46 (0, 0)) (by (with_reducible repeat (first | refine bN20 ?_ _ | refine bD20 ?_ | refine bK20 ?_ _)); exact BK195.out)) : gb195 ≠ gb211))
          have n13_ := aM20 ((by rw [hg]; exact Nat.ne_of_gt (blk_lt (g := gb195) (o := .cells #[.int .i64 t188, .int .i64 t189, .int .i64 t190, .slice Ao19 t191.length co19] 46 (0, 0)) (by (with_reducible repeat (first | refine bN20 ?_ _ | refine bD20 ?_ | refine bK20 ?_ _)); exact BK195.out)) : gb211 ≠ gb195))
          clear HO_1
          clear HO_179003
          clear HO_196003
          clear HO209
          clear BK178
          clear BK195
          clear HB
          have HO_1 := n0_
          have HO_179003 := n1_
          have HO_196003 := n2_
          have HO209 := n3_
          have BK178 := n4_
          have BK195 := n5_
          have HB := n6_
          have BK211 := n7_
          have GW211 := n8_
          have GE211 := n9_
          have NB178_211 := n10_
          have NB211_178 := n11_
          have NB195_211 := n12_
          have NB211_195 := n13_
          clear n0_ n1_ n2_ n3_ n4_ n5_ n6_ n7_ n8_ n9_ n10_ n11_ n12_ n13_
          clear hb hbox hg
          refine hK.out _ _ ⟨(bC20 BK178.out 0).trans rfl, (bC20 BK178.out 1).trans rfl, (bC20 BK178.out 2).trans rfl, (bC20 BK178.out 3).trans rfl, HS4_, HS5_, HS6_, HS7_⟩ (fun hHeld => ?_)
          clear hK K
          refine norm_ (a' := ?_) ?_ ?_
          rotate_left
          ·
           show Act.put _ (some 9) _ = _
           simp only [Act.put, sA, sB, sC, i64_w, i32_w]
           rfl
          exact norm_ (by simp only [putAll, Act.put, List.setIfInBounds_toArray, List.set_cons_zero, List.set_cons_succ]) (hCont (v208, gb211) _ ⟨hHeld, (by (with_reducible repeat (first | apply Kd.R_alloc | apply Kd.R_drewN | apply Kd.R_drew)); exact Kd.R_mono HO209.out (fun _ hk => hk.2)), (by (with_reducible repeat (first | apply Kd.V_alloc | apply Kd.V_drewN | apply Kd.V_drew)); exact Kd.V_mono HO_1.out (fun _ hk => ⟨hk.1.2, ⟨hk.1.1.1, ⟨hk.1.1.2.1, ⟨hk.1.1.2.2, hk.2⟩⟩⟩⟩)), (by (with_reducible repeat (first | apply Kd.V_alloc | apply Kd.V_drewN | apply Kd.V_drew)); exact Kd.V_mono HO_179003.out (fun _ hk => ⟨hk.1.2, ⟨hk.1.1.1, ⟨hk.1.1.2.1, ⟨hk.1.1.2.2, hk.2⟩⟩⟩⟩)), (by (with_reducible repeat (first | apply Kd.R_alloc | apply Kd.R_drewN | apply Kd.R_drew)); exact Kd.R_mono HO_196003.out (fun _ hk => hk.2)), (by (with_reducible repeat (first | refine bN20 ?_ _ | refine bD20 ?_ | refine bK20 ?_ _)); exact BK178.out), (by (with_reducible repeat (first | refine bN20 ?_ _ | refine bD20 ?_ | refine bK20 ?_ _)); exact BK195.out), (by (with_reducible repeat (first | refine bN20 ?_ _ | refine bD20 ?_ | refine bK20 ?_ _)); exact BK211.out), GW211.out, GE211.out, NB178_211.out, NB211_178.out, NB195_211.out, NB211_195.out, (by repeat (first | (with_reducible first | exact HB.out | apply below_alloc | apply pw_below_drewN | apply below_drew1 | refine below_set ?_ GE178.out | refine below_set ?_ GE195.out | refine below_set ?_ GE211.out) | exact HB.out))⟩)
         skip
         refine box_step ?hg (N := 9) ?hd (cs := #[.int .i64 0, .int .i64 0, .int .i64 0, .slice none 0 0]) (t := 46) ?hr ?_; (case hd => rfl); (case hg => rfl); (case hr => first | (go_simp; done) | (go_simp; rfl))
         intro gb211 hg w92 hbox hb
         have HS4_ := (hb.cell (World.block_lt_of_cell? _ _ (hHeld.2.2.2.2.1))).trans (hHeld.2.2.2.2.1)
         have HS5_ := (hb.cell (World.block_lt_of_cell? _ _ (hHeld.2.2.2.2.2.1))).trans (hHeld.2.2.2.2.2.1)
         have HS6_ := (hb.cell (World.block_lt_of_cell? _ _ (hHeld.2.2.2.2.2.2.1))).trans (hHeld.2.2.2.2.2.2.1)
         have HS7_ := (hb.cell (World.block_lt_of_cell? _ _ (hHeld.2.2.2.2.2.2.2))).trans (hHeld.2.2.2.2.2.2.2)
         have n0_ := aM20 (Kd.V_below (Kd.V_elderB (by (with_reducible repeat (first | apply Kd.V_alloc | apply Kd.V_drewN | apply Kd.V_drew)); exact HO_1.out) gb211 (Nat.le_of_eq hg.symm)) hb)
         have n1_ := aM20 (Kd.V_below (Kd.V_elderB (by (with_reducible repeat (first | apply Kd.V_alloc | apply Kd.V_drewN | apply Kd.V_drew)); exact HO_179003.out) gb211 (Nat.le_of_eq hg.symm)) hb)
         have n2_ := aM20 (Kd.R_below (by (with_reducible repeat (first | apply Kd.R_alloc | apply Kd.R_drewN | apply Kd.R_drew)); exact HO_196003.out) hb)
         have n3_ := aM20 (blk_below (g := gb178) (o := .cells #[.int .i64 t179, .int .i64 t180, .int .i64 t181, .slice Ao12 t182.length co12] 46 (0, 0)) (by (with_reducible repeat (first | refine bN20 ?_ _ | refine bD20 ?_ | refine bK20 ?_ _)); exact BK178.out) hb)
         have n4_ := aM20 (blk_below (g := gb195) (o := .cells #[.int .i64 t188, .int .i64 t189, .int .i64 t190, .slice Ao19 t191.length co19] 46 (0, 0)) (by (with_reducible repeat (first | refine bN20 ?_ _ | refine bD20 ?_ | refine bK20 ?_ _)); exact BK195.out) hb)
         have n5_ := aM20 (below_step (by repeat (first | (with_reducible first | exact HB.out | apply below_alloc | apply pw_below_drewN | apply below_drew1 | refine below_set ?_ GE178.out | refine below_set ?_ GE195.out) | exact HB.out)) hb)
         have n6_ := aM20 (hbox)
         have n7_ := aM20 ((by rw [hg]; exact (below_size (by repeat (first | (with_reducible first | exact HB.out | apply below_alloc | apply pw_below_drewN | apply below_drew1 | refine below_set ?_ GE178.out | refine below_set ?_ GE195.out) | exact HB.out))) : w.heap.size ≤ gb211))
         have n8_ := aM20 ((by rw [hg]; exact (below_size (by repeat (first | (with_reducible first | exact HB.out | apply below_alloc | apply pw_below_drewN | apply below_drew1 | refine below_set ?_ GE178.out | refine below_set ?_ GE195.out) | exact HB.out))) : w.heap.size ≤ gb211))
         have n9_ := aM20 ((by rw [hg]; exact Nat.ne_of_lt (blk_lt (g := gb178) (o := .cells #[.int .i64 t179, .int .i64 t180, .int .i64 t181, .slice Ao12 t182.length co12] 46 (0, 0)) (by (with_reducible repeat (first | refine bN20 ?_ _ | refine bD20 ?_ | refine bK20 ?_ _)); exact BK178.out)) : gb178 ≠ gb211))
         have n10_ := aM20 ((by rw [hg]; exact Nat.ne_of_gt (blk_lt (g := gb178) (o := .cells #[.int .i64 t179, .int .i64 t180, .int .i64 t181, .slice Ao12 t182.length co12] 46 (0, 0)) (by (with_reducible repeat (first | refine bN20 ?_ _ | refine bD20 ?_ | refine bK20 ?_ _)); exact BK178.out)) : gb211 ≠ gb178))
         have n11_ := aM20 ((by rw [hg]; exact Nat.ne_of_lt (blk_lt (g := gb195) (o := .cells #[.int .i64 t188, .int .i64 t189, .int .i64 t190, .slice Ao19 t191.length co19] 46 (0, 0)) (by (with_reducible repeat (first | refine bN20 ?_ _ | refine bD20 ?_ | refine bK20 ?_ _)); exact BK195.out)) : gb195 ≠ gb211))
         have n12_ := aM20 ((by rw [hg]; exact Nat.ne_of_gt (blk_lt (g := gb195) (o := .cells #[.int .i64 t188, .int .i64 t189, .int .i64 t190, .slice Ao19 t191.length co19] 46 (0, 0)) (by (with_reducible repeat (first | refine bN20 ?_ _ | refine bD20 ?_ | refine bK20 ?_ _)); exact BK195.out)) : gb211 ≠ gb195))
         clear HO_1
         clear HO_179003
         clear HO_196003
         clear BK178
         clear BK195
         clear HB
         have HO_1 := n0_
         have HO_179003 := n1_
         have HO_196003 := n2_
         have BK178 := n3_
         have BK195 := n4_
         have HB := n5_
         have BK211 := n6_
         have GW211 := n7_
         have GE211 := n8_
         have NB178_211 := n9_
         have NB211_178 := n10_
         have NB195_211 := n11_
         have NB211_195 := n12_
         clear n0_ n1_ n2_ n3_ n4_ n5_ n6_ n7_ n8_ n9_ n10_ n11_ n12_
         clear hb hbox hg
         refine hK.out _ _ ⟨(bC20 BK178.out 0).trans rfl, (bC20 BK178.out 1).trans rfl, (bC20 BK178.out 2).trans rfl, (bC20 BK178.out 3).trans rfl, HS4_, HS5_, HS6_, HS7_⟩ (fun hHeld => ?_)
         clear hK K
         refine norm_ (a' := ?_) ?_ ?_
         rotate_left
         ·
          show Act.put _ (some 9) _ = _
          simp only [Act.put, sA, sB, sC, i64_w, i32_w]
          rfl
         refine one_ (i := 4) (N := some 121) (bA 11 287) rfl rfl (one_of HT_.out (by kernel_rfl)) (by decide) (fun K hK => ?_)
         refine goes_ Try.func27 (by kernel_rfl) rfl #[.agg #[.int .i64 t179, .int .i64 t180, .int .i64 t181, .slice Ao12 t182.length co12], .agg #[.int .i64 ((rd_T23 t185 0).f0), .int .i64 ((rd_T23 t185 0).f1), .int .i64 ((rd_T23 t185 0).f2), .int .i64 ((rd_T23 t185 0).f3)]] (by rfl) rfl rfl (by (try simp only [List.map_toArray, List.map_cons, List.map_nil]); first | done | rfl | (simp only [List.length_drop, List.length_take]; rfl)) ?_
         with_reducible refine (crater_Strike.calls k3 t179 t180 t181 _ _ t182 ((rd_T23 t185 0).f0) ((rd_T23 t185 0).f1) ((rd_T23 t185 0).f2) ((rd_T23 t185 0).f3) t204 t205 t206 t207 t210 _ ?side1 ?side2 A84.out).mono ?_
         (case side1 => repeat (first | exact (Kd.V_reads' HO_179003.out).2.2 | (with_reducible refine Kd.C_alloc ?_ _) | (with_reducible refine Kd.C_drewN ?_ _) | (with_reducible refine Kd.C_drew ?_)))
         (case side2 => exact (Kd.V_reads' HO_179003.out).2.1)
         rintro e w93 ⟨v208, rfl, ho0, hb⟩
         have HS4_ := (hb.cell (World.block_lt_of_cell? _ _ (hHeld.2.2.2.2.1))).trans (hHeld.2.2.2.2.1)
         have HS5_ := (hb.cell (World.block_lt_of_cell? _ _ (hHeld.2.2.2.2.2.1))).trans (hHeld.2.2.2.2.2.1)
         have HS6_ := (hb.cell (World.block_lt_of_cell? _ _ (hHeld.2.2.2.2.2.2.1))).trans (hHeld.2.2.2.2.2.2.1)
         have HS7_ := (hb.cell (World.block_lt_of_cell? _ _ (hHeld.2.2.2.2.2.2.2))).trans (hHeld.2.2.2.2.2.2.2)
         refine ⟨_, rfl, ?_⟩
         have n0_ := aM20 (Kd.V_elder' (by (with_reducible repeat (first | apply Kd.V_alloc | apply Kd.V_drewN | apply Kd.V_drew)); exact HO_1.out) (Kd.R_base ho0) hb)
         have n1_ := aM20 (Kd.V_elder' (by (with_reducible repeat (first | apply Kd.V_alloc | apply Kd.V_drewN | apply Kd.V_drew)); exact HO_179003.out) (Kd.R_base ho0) hb)
         have n2_ := aM20 (Kd.R_elder' (by (with_reducible repeat (first | apply Kd.R_alloc | apply Kd.R_drewN | apply Kd.R_drew)); exact HO_196003.out) (Kd.R_base ho0) hb)
         have n3_ := aM20 (Kd.R_lower (Kd.R_new' ho0 (Kd.R_lt (by (with_reducible repeat (first | apply Kd.R_alloc | apply Kd.R_drewN | apply Kd.R_drew)); exact HO_196003.out))) (below_size (by repeat (first | (with_reducible first | exact HB.out | apply below_alloc | apply pw_below_drewN | apply below_drew1 | refine below_set ?_ GE178.out | refine below_set ?_ GE195.out | refine below_set ?_ GE211.out) | exact HB.out))))
         have n4_ := aM20 (blk_below (g := gb178) (o := .cells #[.int .i64 t179, .int .i64 t180, .int .i64 t181, .slice Ao12 t182.length co12] 46 (0, 0)) (by (with_reducible repeat (first | refine bN20 ?_ _ | refine bD20 ?_ | refine bK20 ?_ _)); exact BK178.out) hb)
         have n5_ := aM20 (blk_below (g := gb195) (o := .cells #[.int .i64 t188, .int .i64 t189, .int .i64 t190, .slice Ao19 t191.length co19] 46 (0, 0)) (by (with_reducible repeat (first | refine bN20 ?_ _ | refine bD20 ?_ | refine bK20 ?_ _)); exact BK195.out) hb)
         have n6_ := aM20 (blk_below (g := gb211) (o := .cells #[.int .i64 0, .int .i64 0, .int .i64 0, .slice none 0 0] 46 (0, 0)) (by (with_reducible repeat (first | refine bN20 ?_ _ | refine bD20 ?_ | refine bK20 ?_ _)); exact BK211.out) hb)
         have n7_ := aM20 (below_step (by repeat (first | (with_reducible first | exact HB.out | apply below_alloc | apply pw_below_drewN | apply below_drew1 | refine below_set ?_ GE178.out | refine below_set ?_ GE195.out | refine below_set ?_ GE211.out) | exact HB.out)) hb)
         clear HO_1
         clear HO_179003
         clear HO_196003
         clear BK178
         clear BK195
         clear BK211
         clear HB
         have HO_1 := n0_
         have HO_179003 := n1_
         have HO_196003 := n2_
         have HO209 := n3_
         have BK178 := n4_
         have BK195 := n5_
         have BK211 := n6_
         have HB := n7_
         clear n0_ n1_ n2_ n3_ n4_ n5_ n6_ n7_
         (try clear hb)
         (try clear hb2)
         (try clear hk)
         (try clear hi)
         (try clear ho0)
         refine hK.out _ _ ⟨(bC20 BK178.out 0).trans rfl, (bC20 BK178.out 1).trans rfl, (bC20 BK178.out 2).trans rfl, (bC20 BK178.out 3).trans rfl, HS4_, HS5_, HS6_, HS7_⟩ (fun hHeld => ?_)
         clear hK K
         refine norm_ (a' := ?_) ?_ ?_
         rotate_left
         ·
          show Act.put _ (some 121) _ = _
          simp only [Act.put, sA, sB, sC, i64_w, i32_w]
          rfl
         refine pure_ (i := 5) (N := some 116) (v := ?_) (a' := ?_) (bA 11 319) rfl rfl (any_of HT_.out (by kernel_rfl)) (fun _ _ _ h => h) (Or.inl ⟨by rfl, ?_⟩) ?_ ?_
         rotate_left
         ·
          intro w'
          go_simp
          with_reducible rfl
         rotate_left
         ·
          simp only [Act.put, sA, sB, sC, i64_w, i32_w]
          rfl
         refine pure_ (i := 6) (N := some 122) (v := ?_) (a' := ?_) (bA 11 383) rfl rfl (any_of HT_.out (by kernel_rfl)) (fun _ _ _ h => h) (Or.inl ⟨by rfl, ?_⟩) ?_ ?_
         rotate_left
         ·
          intro w'
          go_simp
          with_reducible rfl
         rotate_left
         ·
          simp only [Act.put, sA, sB, sC, i64_w, i32_w]
          rfl
         refine pure_ (i := 7) (N := some 123) (v := ?_) (a' := ?_) (bA 11 511) rfl rfl (any_of HT_.out (by kernel_rfl)) (fun _ _ _ h => h) (Or.inl ⟨by rfl, ?_⟩) ?_ ?_
         rotate_left
         ·
          intro w'
          go_simp
          with_reducible rfl
         rotate_left
         ·
          simp only [Act.put, sA, sB, sC, i64_w, i32_w]
          rfl
         exact norm_ (by simp only [putAll, Act.put, List.setIfInBounds_toArray, List.set_cons_zero, List.set_cons_succ]) (hCont (v208, gb211) _ ⟨hHeld, (by (with_reducible repeat (first | apply Kd.R_alloc | apply Kd.R_drewN | apply Kd.R_drew)); exact Kd.R_mono HO209.out (fun _ hk => hk.2)), (by (with_reducible repeat (first | apply Kd.V_alloc | apply Kd.V_drewN | apply Kd.V_drew)); exact Kd.V_mono HO_1.out (fun _ hk => ⟨hk.2, ⟨hk.1.1.1, ⟨hk.1.1.2.1, ⟨hk.1.1.2.2, hk.1.2⟩⟩⟩⟩)), (by (with_reducible repeat (first | apply Kd.V_alloc | apply Kd.V_drewN | apply Kd.V_drew)); exact Kd.V_mono HO_179003.out (fun _ hk => ⟨hk.2, ⟨hk.1.1.1, ⟨hk.1.1.2.1, ⟨hk.1.1.2.2, hk.1.2⟩⟩⟩⟩)), (by (with_reducible repeat (first | apply Kd.R_alloc | apply Kd.R_drewN | apply Kd.R_drew)); exact Kd.R_mono HO_196003.out (fun _ hk => hk.2)), (by (with_reducible repeat (first | refine bN20 ?_ _ | refine bD20 ?_ | refine bK20 ?_ _)); exact BK178.out), (by (with_reducible repeat (first | refine bN20 ?_ _ | refine bD20 ?_ | refine bK20 ?_ _)); exact BK195.out), (by (with_reducible repeat (first | refine bN20 ?_ _ | refine bD20 ?_ | refine bK20 ?_ _)); exact BK211.out), GW211.out, GE211.out, NB178_211.out, NB211_178.out, NB195_211.out, NB211_195.out, (by repeat (first | (with_reducible first | exact HB.out | apply below_alloc | apply pw_below_drewN | apply below_drew1 | refine below_set ?_ GE178.out | refine below_set ?_ GE195.out | refine below_set ?_ GE211.out) | exact HB.out))⟩)
        rintro ⟨v208, gb211⟩ w94 ⟨hS_, h0_, h1_, h2_, h3_, h4_, h5_, h6_, h7_, h8_, h9_, h10_, h11_, h12_, h13_⟩
        have n0_ : Aside0 (Kd.R (Kd.int .u8) 5 w94 w.heap.size (fun k_ => some k_ ≠ (.slice Ao19 t191.length co19 : Value).ownBlock) v208 t207) := ⟨h0_⟩
        have n1_ : Aside0 (Kd.V k23 23 w94 w.heap.size (fun k_ => some k_ ≠ (v208 : Value).ownBlock ∧ some k_ ≠ (.slice Ao19 t191.length co19 : Value).ownBlock ∧ k_ ≠ gb178 ∧ k_ ≠ gb195 ∧ k_ ≠ gb211) (.slice (some ad203) t185.length co14) t185) := ⟨h1_⟩
        have n2_ : Aside0 (Kd.V (Kd.int .u8) 5 w94 w.heap.size (fun k_ => some k_ ≠ (v208 : Value).ownBlock ∧ some k_ ≠ (.slice Ao19 t191.length co19 : Value).ownBlock ∧ k_ ≠ gb178 ∧ k_ ≠ gb195 ∧ k_ ≠ gb211) (.slice Ao12 t182.length co12) t182) := ⟨h2_⟩
        have n3_ : Aside0 (Kd.R (Kd.int .u8) 5 w94 w.heap.size (fun k_ => some k_ ≠ (v208 : Value).ownBlock) (.slice Ao19 t191.length co19) t191) := ⟨h3_⟩
        have n4_ : Aside0 (w94.heap[gb178]? = some (.cells #[.int .i64 t179, .int .i64 t180, .int .i64 t181, .slice Ao12 t182.length co12] 46 (0, 0))) := ⟨h4_⟩
        have n5_ : Aside0 (w94.heap[gb195]? = some (.cells #[.int .i64 t188, .int .i64 t189, .int .i64 t190, .slice Ao19 t191.length co19] 46 (0, 0))) := ⟨h5_⟩
        have n6_ : Aside0 (w94.heap[gb211]? = some (.cells #[.int .i64 0, .int .i64 0, .int .i64 0, .slice none 0 0] 46 (0, 0))) := ⟨h6_⟩
        have n7_ : Aside0 (w.heap.size ≤ gb211) := ⟨h7_⟩
        have n8_ : Aside0 (w.heap.size ≤ gb211) := ⟨h8_⟩
        have n9_ : Aside0 (gb178 ≠ gb211) := ⟨h9_⟩
        have n10_ : Aside0 (gb211 ≠ gb178) := ⟨h10_⟩
        have n11_ : Aside0 (gb195 ≠ gb211) := ⟨h11_⟩
        have n12_ : Aside0 (gb211 ≠ gb195) := ⟨h12_⟩
        have n13_ : Aside0 (Below w.heap.size w w94) := ⟨h13_⟩
        clear HO_1
        clear HO_179003
        clear HO_196003
        clear BK178
        clear BK195
        clear HB
        clear h0_ h1_ h2_ h3_ h4_ h5_ h6_ h7_ h8_ h9_ h10_ h11_ h12_ h13_
        have HO209 := n0_
        have HO_1 := n1_
        have HO_179003 := n2_
        have HO_196003 := n3_
        have BK178 := n4_
        have BK195 := n5_
        have BK211 := n6_
        have GW211 := n7_
        have GE211 := n8_
        have NB178_211 := n9_
        have NB211_178 := n10_
        have NB195_211 := n11_
        have NB211_195 := n12_
        have HB := n13_
        clear n0_ n1_ n2_ n3_ n4_ n5_ n6_ n7_ n8_ n9_ n10_ n11_ n12_ n13_
        have hHeld : w94.cell? ⟨gb178, 0, none⟩ = some (.int .i64 t179) ∧ w94.cell? ⟨gb178, 1, none⟩ = some (.int .i64 t180) ∧ w94.cell? ⟨gb178, 2, none⟩ = some (.int .i64 t181) ∧ w94.cell? ⟨gb178, 3, none⟩ = some (.slice Ao12 t182.length co12) ∧ w94.cell? ad203 = some (.int .i64 ((rd_T23 t185 0).f0)) ∧ w94.cell? ⟨ad203.block, ad203.off + 1, none⟩ = some (.int .i64 ((rd_T23 t185 0).f1)) ∧ w94.cell? ⟨ad203.block, ad203.off + 2, none⟩ = some (.int .i64 ((rd_T23 t185 0).f2)) ∧ w94.cell? ⟨ad203.block, ad203.off + 3, none⟩ = some (.int .i64 ((rd_T23 t185 0).f3)) := hS_
        obtain ⟨Ao98, co98, eo98⟩ := Kd.R_slice HO209.out
        (first | subst eo98 | (injection eo98 with f1_ f2_ f3_; have f4_ := f1_.symm; have f5_ := f3_.symm; clear f1_ f2_ f3_; subst f4_; subst f5_))
        refine norm_ (a' := ?_) ?_ ?_
        rotate_left
        ·
         simp only [putAll, Act.put, List.setIfInBounds_toArray, List.set_cons_zero, List.set_cons_succ]
         rfl
        refine one_ (i := 9) (N := none) (bA 11 1023) rfl rfl (one_of HT_.out (by kernel_rfl)) (by decide) (fun K hK => ?_)
        have hs95 : w94.cell? ⟨gb211, 0, none⟩ = some (.int .i64 0) := (bC20 BK211.out 0).trans rfl
        have hfs95 := bF20 BK211.out 0
        have hns95_0 := NB178_211.out
        have hns95_1 := NB195_211.out
        have hms95_0 := NB211_178.out
        have hms95_1 := NB211_195.out
        have hs96 : w94.cell? ⟨gb211, 1, none⟩ = some (.int .i64 0) := (bC20 BK211.out 1).trans rfl
        have hfs96 := bF20 BK211.out 1
        have hns96_0 := NB178_211.out
        have hns96_1 := NB195_211.out
        have hms96_0 := NB211_178.out
        have hms96_1 := NB211_195.out
        have hs97 : w94.cell? ⟨gb211, 2, none⟩ = some (.int .i64 0) := (bC20 BK211.out 2).trans rfl
        have hfs97 := bF20 BK211.out 2
        have hns97_0 := NB178_211.out
        have hns97_1 := NB195_211.out
        have hms97_0 := NB211_178.out
        have hms97_1 := NB211_195.out
        have hs99 : w94.cell? ⟨gb211, 3, none⟩ = some (.slice none 0 0) := (bC20 BK211.out 3).trans rfl
        have hfs99 := bF20 BK211.out 3
        have hns99_0 := NB178_211.out
        have hns99_1 := NB195_211.out
        have hms99_0 := NB211_178.out
        have hms99_1 := NB211_195.out
        refine skip_ (w1 := ?_) (by rfl) rfl ?_ ?_
        rotate_left
        ·
         go_simp
         rfl
        have hV_ := vN (g := gb211) HO_1.out (by have := of_eq_true q203; omega) (by decide) (fun _ hk => hk.2.2.2.2)
        refine hK.out _ _ ⟨((cell_far (p := ⟨gb211, _, none⟩) NB178_211.out _).trans (((cell_far (p := ⟨gb211, _, none⟩) NB178_211.out _).trans (((cell_far (p := ⟨gb211, _, none⟩) NB178_211.out _).trans (((cell_far (p := ⟨gb211, _, none⟩) NB178_211.out _).trans (hHeld.1)))))))), ((cell_far (p := ⟨gb211, _, none⟩) NB178_211.out _).trans (((cell_far (p := ⟨gb211, _, none⟩) NB178_211.out _).trans (((cell_far (p := ⟨gb211, _, none⟩) NB178_211.out _).trans (((cell_far (p := ⟨gb211, _, none⟩) NB178_211.out _).trans (hHeld.2.1)))))))), ((cell_far (p := ⟨gb211, _, none⟩) NB178_211.out _).trans (((cell_far (p := ⟨gb211, _, none⟩) NB178_211.out _).trans (((cell_far (p := ⟨gb211, _, none⟩) NB178_211.out _).trans (((cell_far (p := ⟨gb211, _, none⟩) NB178_211.out _).trans (hHeld.2.2.1)))))))), ((cell_far (p := ⟨gb211, _, none⟩) NB178_211.out _).trans (((cell_far (p := ⟨gb211, _, none⟩) NB178_211.out _).trans (((cell_far (p := ⟨gb211, _, none⟩) NB178_211.out _).trans (((cell_far (p := ⟨gb211, _, none⟩) NB178_211.out _).trans (hHeld.2.2.2.1)))))))), ((cell_far (p := ⟨gb211, _, none⟩) (by exact hV_) _).trans (((cell_far (p := ⟨gb211, _, none⟩) (by exact hV_) _).trans (((cell_far (p := ⟨gb211, _, none⟩) (by exact hV_) _).trans (((cell_far (p := ⟨gb211, _, none⟩) (by exact hV_) _).trans (hHeld.2.2.2.2.1)))))))), ((cell_far (p := ⟨gb211, _, none⟩) (by exact hV_) _).trans (((cell_far (p := ⟨gb211, _, none⟩) (by exact hV_) _).trans (((cell_far (p := ⟨gb211, _, none⟩) (by exact hV_) _).trans (((cell_far (p := ⟨gb211, _, none⟩) (by exact hV_) _).trans (hHeld.2.2.2.2.2.1)))))))), ((cell_far (p := ⟨gb211, _, none⟩) (by exact hV_) _).trans (((cell_far (p := ⟨gb211, _, none⟩) (by exact hV_) _).trans (((cell_far (p := ⟨gb211, _, none⟩) (by exact hV_) _).trans (((cell_far (p := ⟨gb211, _, none⟩) (by exact hV_) _).trans (hHeld.2.2.2.2.2.2.1)))))))), ((cell_far (p := ⟨gb211, _, none⟩) (by exact hV_) _).trans (((cell_far (p := ⟨gb211, _, none⟩) (by exact hV_) _).trans (((cell_far (p := ⟨gb211, _, none⟩) (by exact hV_) _).trans (((cell_far (p := ⟨gb211, _, none⟩) (by exact hV_) _).trans (hHeld.2.2.2.2.2.2.2))))))))⟩ (fun hHeld => ?_)
        clear hK K
        refine pure_ (i := 10) (N := some 10) (v := ?_) (a' := ?_) (bA 11 2047) rfl rfl (any_of HT_.out (by kernel_rfl)) (fun _ _ _ h => h) (Or.inl ⟨by rfl, ?_⟩) ?_ ?_
        rotate_left
        ·
         intro w'
         go_simp
         with_reducible rfl
        rotate_left
        ·
         simp only [Act.put, sA, sB, sC, i64_w, i32_w]
         rfl
        refine done_ (done_of HT_.out (by kernel_rfl)) ?_
        have hnb100 := NB195_211.out
        have hnc100 := NB211_195.out
        have hcz101_0 : w94.cell? ⟨gb195, 0, none⟩ = some (.int .i64 t188) := (bC20 BK195.out 0).trans rfl
        have hcz101_1 : w94.cell? ⟨gb195, 1, none⟩ = some (.int .i64 t189) := (bC20 BK195.out 1).trans rfl
        have hcz101_2 : w94.cell? ⟨gb195, 2, none⟩ = some (.int .i64 t190) := (bC20 BK195.out 2).trans rfl
        have hcz101_3 : w94.cell? ⟨gb195, 3, none⟩ = some (.slice Ao19 t191.length co19) := (bC20 BK195.out 3).trans rfl
        have hfz101_0 := bF20 BK195.out 0
        have hfz101_1 := bF20 BK195.out 1
        have hfz101_2 := bF20 BK195.out 2
        have hfz101_3 := bF20 BK195.out 3
        have hnb102 := NB211_178.out
        have hnc102 := NB178_211.out
        have hcz103_0 : w94.cell? ⟨gb211, 0, none⟩ = some (.int .i64 0) := (bC20 BK211.out 0).trans rfl
        have hcz103_1 : w94.cell? ⟨gb211, 1, none⟩ = some (.int .i64 0) := (bC20 BK211.out 1).trans rfl
        have hcz103_2 : w94.cell? ⟨gb211, 2, none⟩ = some (.int .i64 0) := (bC20 BK211.out 2).trans rfl
        have hcz103_3 : w94.cell? ⟨gb211, 3, none⟩ = some (.slice none 0 0) := (bC20 BK211.out 3).trans rfl
        have hfz103_0 := bF20 BK211.out 0
        have hfz103_1 := bF20 BK211.out 1
        have hfz103_2 := bF20 BK211.out 2
        have hfz103_3 := bF20 BK211.out 3
        try go_wp2_with (first | ((with_reducible refine gate_callee (f := 28) rfl ?_); refine goesL_ (some 126) rfl rfl Try.func28 (by kernel_rfl) rfl #[.agg #[.int .i64 t188, .int .i64 t189, .int .i64 t190, .slice Ao19 t191.length co19], .agg #[.int .i64 t204, .int .i64 t205, .int .i64 t206, .slice Ao98 t207.length co98]] rfl (by (try simp only [List.map_toArray, List.map_cons, List.map_nil]); first | done | rfl | (simp only [List.length_drop, List.length_take]; rfl)) ?_; (with_reducible refine (bivouacref06_Same.calls t188 t189 t190 _ _ t191 t204 t205 t206 _ _ t207 true _ ?side1 ?side2 ?side3 ?side4 A85.out).mono ?_); (case side1 => refine (Kd.R_reads' (e := 5) (base := w.heap.size) (ok := fun k_ => some k_ ≠ (.slice Ao98 t207.length co98 : Value).ownBlock) (n := t191.length) (c := co19) ?_).2.2; exact (by (with_reducible repeat (first | apply Kd.R_alloc | apply Kd.R_drewN | apply Kd.R_drew)); exact (Kd.R_mono (Kd.R_far (p := ⟨gb211, 3, none⟩) (Kd.R_far (p := ⟨gb211, 2, none⟩) (Kd.R_far (p := ⟨gb211, 1, none⟩) (Kd.R_far (p := ⟨gb211, 0, none⟩) (Kd.R_types HO_196003.out BK211.out (by decide)) (fun _ hk => hk.2) (.int .i64 t204)) (fun _ hk => hk.2) (.int .i64 t205)) (fun _ hk => hk.2) (.int .i64 t206)) (fun _ hk => hk.2) (.slice Ao98 t207.length co98)) (fun _ h_ => h_.1)))); (case side2 => exact (Kd.R_reads' HO_196003.out).2.1); (case side3 => refine (Kd.R_reads' (e := 5) (base := w.heap.size) (ok := fun k_ => some k_ ≠ (.slice Ao19 t191.length co19 : Value).ownBlock) (n := t207.length) (c := co98) ?_).2.2; exact (by (with_reducible repeat (first | apply Kd.R_alloc | apply Kd.R_drewN | apply Kd.R_drew)); exact (Kd.R_mono (Kd.R_far (p := ⟨gb211, 3, none⟩) (Kd.R_far (p := ⟨gb211, 2, none⟩) (Kd.R_far (p := ⟨gb211, 1, none⟩) (Kd.R_far (p := ⟨gb211, 0, none⟩) (Kd.R_types HO209.out BK211.out (by decide)) (fun _ hk => hk.2) (.int .i64 t204)) (fun _ hk => hk.2) (.int .i64 t205)) (fun _ hk => hk.2) (.int .i64 t206)) (fun _ hk => hk.2) (.slice Ao98 t207.length co98)) (fun _ h_ => h_.1)))); (case side4 => exact (Kd.R_reads' HO209.out).2.1); rintro e w104 ⟨rfl, hb⟩; refine ⟨_, rfl, ?_⟩; have n0_ := aM20 (Kd.V_below (by (with_reducible repeat (first | apply Kd.V_alloc | apply Kd.V_drewN | apply Kd.V_drew)); exact (Kd.V_mono (Kd.V_far (p := ⟨gb211, 3, none⟩) (Kd.V_far (p := ⟨gb211, 2, none⟩) (Kd.V_far (p := ⟨gb211, 1, none⟩) (Kd.V_far (p := ⟨gb211, 0, none⟩) (Kd.V_mono HO_1.out (fun k_ hk => (⟨hk, hk.2.2.2.2⟩ : _ ∧ k_ ≠ gb211))) (fun _ hk => hk.2) (.int .i64 t204)) (fun _ hk => hk.2) (.int .i64 t205)) (fun _ hk => hk.2) (.int .i64 t206)) (fun _ hk => hk.2) (.slice Ao98 t207.length co98)) (fun _ h_ => h_.1))) hb); have n1_ := aM20 (Kd.V_below (by (with_reducible repeat (first | apply Kd.V_alloc | apply Kd.V_drewN | apply Kd.V_drew)); exact (Kd.V_mono (Kd.V_far (p := ⟨gb211, 3, none⟩) (Kd.V_far (p := ⟨gb211, 2, none⟩) (Kd.V_far (p := ⟨gb211, 1, none⟩) (Kd.V_far (p := ⟨gb211, 0, none⟩) (Kd.V_mono HO_179003.out (fun k_ hk => (⟨hk, hk.2.2.2.2⟩ : _ ∧ k_ ≠ gb211))) (fun _ hk => hk.2) (.int .i64 t204)) (fun _ hk => hk.2) (.int .i64 t205)) (fun _ hk => hk.2) (.int .i64 t206)) (fun _ hk => hk.2) (.slice Ao98 t207.length co98)) (fun _ h_ => h_.1))) hb); have n2_ := aM20 (Kd.R_below (by (with_reducible repeat (first | apply Kd.R_alloc | apply Kd.R_drewN | apply Kd.R_drew)); exact (Kd.R_mono (Kd.R_far (p := ⟨gb211, 3, none⟩) (Kd.R_far (p := ⟨gb211, 2, none⟩) (Kd.R_far (p := ⟨gb211, 1, none⟩) (Kd.R_far (p := ⟨gb211, 0, none⟩) (Kd.R_types HO_196003.out BK211.out (by decide)) (fun _ hk => hk.2) (.int .i64 t204)) (fun _ hk => hk.2) (.int .i64 t205)) (fun _ hk => hk.2) (.int .i64 t206)) (fun _ hk => hk.2) (.slice Ao98 t207.length co98)) (fun _ h_ => h_.1))) hb); have n3_ := aM20 (Kd.R_below (by (with_reducible repeat (first | apply Kd.R_alloc | apply Kd.R_drewN | apply Kd.R_drew)); exact (Kd.R_mono (Kd.R_far (p := ⟨gb211, 3, none⟩) (Kd.R_far (p := ⟨gb211, 2, none⟩) (Kd.R_far (p := ⟨gb211, 1, none⟩) (Kd.R_far (p := ⟨gb211, 0, none⟩) (Kd.R_types HO209.out BK211.out (by decide)) (fun _ hk => hk.2) (.int .i64 t204)) (fun _ hk => hk.2) (.int .i64 t205)) (fun _ hk => hk.2) (.int .i64 t206)) (fun _ hk => hk.2) (.slice Ao98 t207.length co98)) (fun _ h_ => h_.1))) hb); have n4_ := aM20 (blk_below (g := gb178) (o := .cells #[.int .i64 t179, .int .i64 t180, .int .i64 t181, .slice Ao12 t182.length co12] 46 (0, 0)) (by (with_reducible repeat (first | refine bN20 ?_ _ | refine bD20 ?_ | refine bK20 ?_ _)); refine blk_far ?_ NB178_211.out _; (with_reducible repeat (first | refine bN20 ?_ _ | refine bD20 ?_ | refine bK20 ?_ _)); refine blk_far ?_ NB178_211.out _; (with_reducible repeat (first | refine bN20 ?_ _ | refine bD20 ?_ | refine bK20 ?_ _)); refine blk_far ?_ NB178_211.out _; (with_reducible repeat (first | refine bN20 ?_ _ | refine bD20 ?_ | refine bK20 ?_ _)); refine blk_far ?_ NB178_211.out _; (with_reducible repeat (first | refine bN20 ?_ _ | refine bD20 ?_ | refine bK20 ?_ _)); exact BK178.out) hb); have n5_ := aM20 (blk_below (g := gb195) (o := .cells #[.int .i64 t188, .int .i64 t189, .int .i64 t190, .slice Ao19 t191.length co19] 46 (0, 0)) (by (with_reducible repeat (first | refine bN20 ?_ _ | refine bD20 ?_ | refine bK20 ?_ _)); refine blk_far ?_ NB195_211.out _; (with_reducible repeat (first | refine bN20 ?_ _ | refine bD20 ?_ | refine bK20 ?_ _)); refine blk_far ?_ NB195_211.out _; (with_reducible repeat (first | refine bN20 ?_ _ | refine bD20 ?_ | refine bK20 ?_ _)); refine blk_far ?_ NB195_211.out _; (with_reducible repeat (first | refine bN20 ?_ _ | refine bD20 ?_ | refine bK20 ?_ _)); refine blk_far ?_ NB195_211.out _; (with_reducible repeat (first | refine bN20 ?_ _ | refine bD20 ?_ | refine bK20 ?_ _)); exact BK195.out) hb); have n6_ := aM20 (blk_below (g := gb211) (o := .cells #[.int .i64 t204, .int .i64 t205, .int .i64 t206, .slice Ao98 t207.length co98] 46 (0, 0)) (by (with_reducible repeat (first | refine bN20 ?_ _ | refine bD20 ?_ | refine bK20 ?_ _)); refine blk_put (cs := #[.int .i64 t204, .int .i64 t205, .int .i64 t206, .slice none 0 0]) ?_ 3 _ rfl; (with_reducible repeat (first | refine bN20 ?_ _ | refine bD20 ?_ | refine bK20 ?_ _)); refine blk_put (cs := #[.int .i64 t204, .int .i64 t205, .int .i64 0, .slice none 0 0]) ?_ 2 _ rfl; (with_reducible repeat (first | refine bN20 ?_ _ | refine bD20 ?_ | refine bK20 ?_ _)); refine blk_put (cs := #[.int .i64 t204, .int .i64 0, .int .i64 0, .slice none 0 0]) ?_ 1 _ rfl; (with_reducible repeat (first | refine bN20 ?_ _ | refine bD20 ?_ | refine bK20 ?_ _)); refine blk_put (cs := #[.int .i64 0, .int .i64 0, .int .i64 0, .slice none 0 0]) ?_ 0 _ rfl; (with_reducible repeat (first | refine bN20 ?_ _ | refine bD20 ?_ | refine bK20 ?_ _)); exact BK211.out) hb); have n7_ := aM20 (below_step (by repeat (first | (with_reducible first | exact HB.out | apply below_alloc | apply pw_below_drewN | apply below_drew1 | refine below_set ?_ GE178.out | refine below_set ?_ GE195.out | refine below_set ?_ GE211.out) | exact HB.out)) hb); clear HO_1; clear HO_179003; clear HO_196003; clear HO209; clear BK178; clear BK195; clear BK211; clear HB; have HO_1 := n0_; have HO_179003 := n1_; have HO_196003 := n2_; have HO209 := n3_; have BK178 := n4_; have BK195 := n5_; have BK211 := n6_; have HB := n7_; clear n0_ n1_ n2_ n3_ n4_ n5_ n6_ n7_; (try clear hb); (try clear hb2); (try clear hk); (try clear hi)) | (go_at_call 17; (with_reducible refine (bivouaclaw09_awake.calls  t213 _ A88.out).mono ?_); rintro e w105 ⟨rfl, hb⟩; have n0_ := aM20 (Kd.V_below (by (with_reducible repeat (first | apply Kd.V_alloc | apply Kd.V_drewN | apply Kd.V_drew)); exact HO_1.out) hb); have n1_ := aM20 (Kd.V_below (by (with_reducible repeat (first | apply Kd.V_alloc | apply Kd.V_drewN | apply Kd.V_drew)); exact HO_179003.out) hb); have n2_ := aM20 (Kd.R_below (by (with_reducible repeat (first | apply Kd.R_alloc | apply Kd.R_drewN | apply Kd.R_drew)); exact HO_196003.out) hb); have n3_ := aM20 (Kd.R_below (by (with_reducible repeat (first | apply Kd.R_alloc | apply Kd.R_drewN | apply Kd.R_drew)); exact HO209.out) hb); have n4_ := aM20 (blk_below (g := gb178) (o := .cells #[.int .i64 t179, .int .i64 t180, .int .i64 t181, .slice Ao12 t182.length co12] 46 (0, 0)) (by (with_reducible repeat (first | refine bN20 ?_ _ | refine bD20 ?_ | refine bK20 ?_ _)); exact BK178.out) hb); have n5_ := aM20 (blk_below (g := gb195) (o := .cells #[.int .i64 t188, .int .i64 t189, .int .i64 t190, .slice Ao19 t191.length co19] 46 (0, 0)) (by (with_reducible repeat (first | refine bN20 ?_ _ | refine bD20 ?_ | refine bK20 ?_ _)); exact BK195.out) hb); have n6_ := aM20 (blk_below (g := gb211) (o := .cells #[.int .i64 t204, .int .i64 t205, .int .i64 t206, .slice Ao98 t207.length co98] 46 (0, 0)) (by (with_reducible repeat (first | refine bN20 ?_ _ | refine bD20 ?_ | refine bK20 ?_ _)); exact BK211.out) hb); have n7_ := aM20 (below_step (by repeat (first | (with_reducible first | exact HB.out | apply below_alloc | apply pw_below_drewN | apply below_drew1 | refine below_set ?_ GE178.out | refine below_set ?_ GE195.out | refine below_set ?_ GE211.out) | exact HB.out)) hb); clear HO_1; clear HO_179003; clear HO_196003; clear HO209; clear BK178; clear BK195; clear BK211; clear HB; have HO_1 := n0_; have HO_179003 := n1_; have HO_196003 := n2_; have HO209 := n3_; have BK178 := n4_; have BK195 := n5_; have BK211 := n6_; have HB := n7_; clear n0_ n1_ n2_ n3_ n4_ n5_ n6_ n7_; (try clear hb); (try clear hb2); (try clear hk); (try clear hi)))
        go_ret
        exact ⟨by first | rfl | (simp [errW_none, errW_some] <;> rfl) | (simp [*, errW_none, errW_some] <;> rfl) | (rw [Int.tdiv_eq_ediv_of_nonneg (by assumption)]; rfl), by repeat (first | (with_reducible first | exact HB.out | apply below_alloc | apply pw_below_drewN | apply below_drew1 | refine below_set ?_ GE178.out | refine below_set ?_ GE195.out | refine below_set ?_ GE211.out) | exact HB.out)⟩
       rw [if_neg c87] at H
       have c87b0 : (t210 == 0) = false := beq_eq_false_iff_ne.mpr c87
       have c87b1 : (t210 != 0) = true := bne_iff_ne.mpr c87
       obtain rfl := Option.some.inj H
       have hnb106 := NB178_195.out
       have hnc106 := NB195_178.out
       have hcz107_0 : wr.cell? ⟨gb178, 0, none⟩ = some (.int .i64 t179) := (bC20 BK178.out 0).trans rfl
       have hcz107_1 : wr.cell? ⟨gb178, 1, none⟩ = some (.int .i64 t180) := (bC20 BK178.out 1).trans rfl
       have hcz107_2 : wr.cell? ⟨gb178, 2, none⟩ = some (.int .i64 t181) := (bC20 BK178.out 2).trans rfl
       have hcz107_3 : wr.cell? ⟨gb178, 3, none⟩ = some (.slice Ao12 t182.length co12) := (bC20 BK178.out 3).trans rfl
       have hfz107_0 := bF20 BK178.out 0
       have hfz107_1 := bF20 BK178.out 1
       have hfz107_2 := bF20 BK178.out 2
       have hfz107_3 := bF20 BK178.out 3
       try go_wp2
       have n0_ := aM20 (Kd.V_drew HO_1.out)
       have n1_ := aM20 (Kd.V_drew HO_179003.out)
       have n2_ := aM20 (Kd.R_drew HO_196003.out)
       have n3_ := aM20 (bD20 BK178.out)
       have n4_ := aM20 (bD20 BK195.out)
       have n5_ := aM20 (below_drew1 HB.out)
       clear HO_1
       clear HO_179003
       clear HO_196003
       clear BK178
       clear BK195
       clear HB
       have HO_1 := n0_
       have HO_179003 := n1_
       have HO_196003 := n2_
       have BK178 := n3_
       have BK195 := n4_
       have HB := n5_
       clear n0_ n1_ n2_ n3_ n4_ n5_
       have p203 : 0 ≤ (0 : Int) := (by omega)
       have q203 : 0 < (t185.length : Int) := of_decide_eq_true (by first | (with_reducible assumption) | assumption)
       obtain ⟨ad203, e203, hx203_0, hx203_1, hx203_2, hx203_3⟩ := at_T23 (Kd.V_reads' HO_1.out).2.2 0 p203 q203
       cases e203
       have qi203 : (0 < t185.length) = True := eq_true (by omega)
       (try rw [show ((0 : Int)).toNat = 0 from rfl] at hx203_0)
       (try rw [show 0 * 4 = 0 from rfl] at hx203_0)
       (try rw [Addr.add_zero'] at hx203_0)
       (try rw [show ((0 : Int)).toNat = 0 from rfl] at hx203_1)
       (try rw [show 0 * 4 = 0 from rfl] at hx203_1)
       (try rw [Addr.add_zero'] at hx203_1)
       (try rw [show ((0 : Int)).toNat = 0 from rfl] at hx203_2)
       (try rw [show 0 * 4 = 0 from rfl] at hx203_2)
       (try rw [Addr.add_zero'] at hx203_2)
       (try rw [show ((0 : Int)).toNat = 0 from rfl] at hx203_3)
       (try rw [show 0 * 4 = 0 from rfl] at hx203_3)
       (try rw [Addr.add_zero'] at hx203_3)
       replace p203 := eq_true p203
       replace q203 := eq_true q203
       refine start_ (n := 11) (S := fun w' => w'.cell? ⟨gb178, 0, none⟩ = some (.int .i64 t179) ∧ w'.cell? ⟨gb178, 1, none⟩ = some (.int .i64 t180) ∧ w'.cell? ⟨gb178, 2, none⟩ = some (.int .i64 t181) ∧ w'.cell? ⟨gb178, 3, none⟩ = some (.slice Ao12 t182.length co12) ∧ w'.cell? ad203 = some (.int .i64 ((rd_T23 t185 0).f0)) ∧ w'.cell? ⟨ad203.block, ad203.off + 1, none⟩ = some (.int .i64 ((rd_T23 t185 0).f1)) ∧ w'.cell? ⟨ad203.block, ad203.off + 2, none⟩ = some (.int .i64 ((rd_T23 t185 0).f2)) ∧ w'.cell? ⟨ad203.block, ad203.off + 3, none⟩ = some (.int .i64 ((rd_T23 t185 0).f3))) (ds := []) (bA 11 0) (by kernel_rfl) rfl rfl ⟨(bC20 BK178.out 0).trans rfl, (bC20 BK178.out 1).trans rfl, (bC20 BK178.out 2).trans rfl, (bC20 BK178.out 3).trans rfl, hx203_0, hx203_1, hx203_2, hx203_3⟩ (fun hHeld => ?_); refine with_tabW bivouaclaw09_CraterStrikes.tab14 bivouaclaw09_CraterStrikes.bits14 (fun HT_ HW_ => ?_)
       generalize wr.drew = w108 at HO_1 HO_179003 HO_196003 BK178 BK195 HB hx203_0 hx203_1 hx203_2 hx203_3 hHeld ⊢
       refine pure_ (i := 1) (N := some 118) (v := ?_) (a' := ?_) (bA 11 2) rfl rfl (any_of HT_.out (by kernel_rfl)) (fun _ _ _ h => h) (Or.inl ⟨by rfl, ?_⟩) ?_ ?_
       rotate_left
       ·
        intro w'
        go_simp
        with_reducible rfl
       rotate_left
       ·
        simp only [Act.put, sA, sB, sC, i64_w, i32_w]
        rfl
       refine pure_ (i := 2) (N := some 119) (v := ?_) (a' := ?_) (bA 11 6) rfl rfl (any_of HT_.out (by kernel_rfl)) (fun _ _ _ h => h) (Or.inl ⟨by rfl, ?_⟩) ?_ ?_
       rotate_left
       ·
        intro w'
        go_simp
        with_reducible rfl
       rotate_left
       ·
        simp only [Act.put, sA, sB, sC, i64_w, i32_w]
        rfl
       refine take_ (i := 0) (N := some 117) (v := ?_) (a' := ?_) (bA 11 7) rfl rfl (take_ofW HT_.out HW_.out (by kernel_rfl)) (fun _ _ _ h => h) (Or.inl ⟨by rfl, ?_⟩) hHeld ?_ ?_
       rotate_left
       ·
        rintro w' ⟨s0, s1, s2, s3, s4, s5, s6, s7⟩
        go_simp
        with_reducible rfl
       rotate_left
       ·
        simp only [Act.put, sA, sB, sC, i64_w, i32_w]
        rfl
       refine take_ (i := 3) (N := some 120) (v := ?_) (a' := ?_) (bA 11 15) rfl rfl (take_ofW HT_.out HW_.out (by kernel_rfl)) (fun _ _ _ h => h) (Or.inl ⟨by rfl, ?_⟩) hHeld ?_ ?_
       rotate_left
       ·
        rintro w' ⟨s0, s1, s2, s3, s4, s5, s6, s7⟩
        go_simp
        with_reducible rfl
       rotate_left
       ·
        simp only [Act.put, sA, sB, sC, i64_w, i32_w]
        rfl
       refine join_ (σ := Value × Nat) 2 #[true, true, true, true, true, true, true, true, true, false, false] (fun s_ => [(121, .tuple #[.agg #[.int .i64 t204, .int .i64 t205, .int .i64 t206, s_.1], .int .i64 t210]), (9, .pointer (some ⟨s_.2, 0, none⟩)), (116, .tuple #[.agg #[.int .i64 t204, .int .i64 t205, .int .i64 t206, s_.1], .int .i64 t210]), (122, .agg #[.int .i64 t204, .int .i64 t205, .int .i64 t206, s_.1]), (123, .int .i64 t210)]) (fun s_ w' => (w'.cell? ⟨gb178, 0, none⟩ = some (.int .i64 t179) ∧ w'.cell? ⟨gb178, 1, none⟩ = some (.int .i64 t180) ∧ w'.cell? ⟨gb178, 2, none⟩ = some (.int .i64 t181) ∧ w'.cell? ⟨gb178, 3, none⟩ = some (.slice Ao12 t182.length co12) ∧ w'.cell? ad203 = some (.int .i64 ((rd_T23 t185 0).f0)) ∧ w'.cell? ⟨ad203.block, ad203.off + 1, none⟩ = some (.int .i64 ((rd_T23 t185 0).f1)) ∧ w'.cell? ⟨ad203.block, ad203.off + 2, none⟩ = some (.int .i64 ((rd_T23 t185 0).f2)) ∧ w'.cell? ⟨ad203.block, ad203.off + 3, none⟩ = some (.int .i64 ((rd_T23 t185 0).f3))) ∧ (Kd.R (Kd.int .u8) 5 w' w.heap.size (fun k_ => some k_ ≠ (.slice Ao19 t191.length co19 : Value).ownBlock) s_.1 t207) ∧ (Kd.V k23 23 w' w.heap.size (fun k_ => some k_ ≠ (s_.1 : Value).ownBlock ∧ some k_ ≠ (.slice Ao19 t191.length co19 : Value).ownBlock ∧ k_ ≠ gb178 ∧ k_ ≠ gb195 ∧ k_ ≠ s_.2) (.slice (some ad203) t185.length co14) t185) ∧ (Kd.V (Kd.int .u8) 5 w' w.heap.size (fun k_ => some k_ ≠ (s_.1 : Value).ownBlock ∧ some k_ ≠ (.slice Ao19 t191.length co19 : Value).ownBlock ∧ k_ ≠ gb178 ∧ k_ ≠ gb195 ∧ k_ ≠ s_.2) (.slice Ao12 t182.length co12) t182) ∧ (Kd.R (Kd.int .u8) 5 w' w.heap.size (fun k_ => some k_ ≠ (s_.1 : Value).ownBlock) (.slice Ao19 t191.length co19) t191) ∧ (w'.heap[gb178]? = some (.cells #[.int .i64 t179, .int .i64 t180, .int .i64 t181, .slice Ao12 t182.length co12] 46 (0, 0))) ∧ (w'.heap[gb195]? = some (.cells #[.int .i64 t188, .int .i64 t189, .int .i64 t190, .slice Ao19 t191.length co19] 46 (0, 0))) ∧ (w'.heap[s_.2]? = some (.cells #[.int .i64 0, .int .i64 0, .int .i64 0, .slice none 0 0] 46 (0, 0))) ∧ (w.heap.size ≤ s_.2) ∧ (w.heap.size ≤ s_.2) ∧ (gb178 ≠ s_.2) ∧ (s_.2 ≠ gb178) ∧ (gb195 ≠ s_.2) ∧ (s_.2 ≠ gb195) ∧ (Below w.heap.size w w')) ?_ ?_
       rotate_left
       ·
        intro hCont
        refine two_ (i := 4) (j := 8) (Ni := some 121) (Nj := some 9) (bA 11 31) #[true, true, true, true, false, false, false, false, true, false, false] rfl rfl rfl rfl (two_of HT_.out (by kernel_rfl)) (by decide) (by decide) (fun K hK => ?_) (fun K hK => ?_)
        ·
         skip
         refine goes_ Try.func27 (by kernel_rfl) rfl #[.agg #[.int .i64 t179, .int .i64 t180, .int .i64 t181, .slice Ao12 t182.length co12], .agg #[.int .i64 ((rd_T23 t185 0).f0), .int .i64 ((rd_T23 t185 0).f1), .int .i64 ((rd_T23 t185 0).f2), .int .i64 ((rd_T23 t185 0).f3)]] (by rfl) rfl rfl (by (try simp only [List.map_toArray, List.map_cons, List.map_nil]); first | done | rfl | (simp only [List.length_drop, List.length_take]; rfl)) ?_
         with_reducible refine (crater_Strike.calls k3 t179 t180 t181 _ _ t182 ((rd_T23 t185 0).f0) ((rd_T23 t185 0).f1) ((rd_T23 t185 0).f2) ((rd_T23 t185 0).f3) t204 t205 t206 t207 t210 _ ?side1 ?side2 A84.out).mono ?_
         (case side1 => repeat (first | exact (Kd.V_reads' HO_179003.out).2.2 | (with_reducible refine Kd.C_alloc ?_ _) | (with_reducible refine Kd.C_drewN ?_ _) | (with_reducible refine Kd.C_drew ?_)))
         (case side2 => exact (Kd.V_reads' HO_179003.out).2.1)
         rintro e w109 ⟨v208, rfl, ho0, hb⟩
         have HS4_ := (hb.cell (World.block_lt_of_cell? _ _ (hHeld.2.2.2.2.1))).trans (hHeld.2.2.2.2.1)
         have HS5_ := (hb.cell (World.block_lt_of_cell? _ _ (hHeld.2.2.2.2.2.1))).trans (hHeld.2.2.2.2.2.1)
         have HS6_ := (hb.cell (World.block_lt_of_cell? _ _ (hHeld.2.2.2.2.2.2.1))).trans (hHeld.2.2.2.2.2.2.1)
         have HS7_ := (hb.cell (World.block_lt_of_cell? _ _ (hHeld.2.2.2.2.2.2.2))).trans (hHeld.2.2.2.2.2.2.2)
         refine ⟨_, rfl, ?_⟩
         have n0_ := aM20 (Kd.V_elder' (by (with_reducible repeat (first | apply Kd.V_alloc | apply Kd.V_drewN | apply Kd.V_drew)); exact HO_1.out) (Kd.R_base ho0) hb)
         have n1_ := aM20 (Kd.V_elder' (by (with_reducible repeat (first | apply Kd.V_alloc | apply Kd.V_drewN | apply Kd.V_drew)); exact HO_179003.out) (Kd.R_base ho0) hb)
         have n2_ := aM20 (Kd.R_elder' (by (with_reducible repeat (first | apply Kd.R_alloc | apply Kd.R_drewN | apply Kd.R_drew)); exact HO_196003.out) (Kd.R_base ho0) hb)
         have n3_ := aM20 (Kd.R_lower (Kd.R_new' ho0 (Kd.R_lt (by (with_reducible repeat (first | apply Kd.R_alloc | apply Kd.R_drewN | apply Kd.R_drew)); exact HO_196003.out))) (below_size (by repeat (first | (with_reducible first | exact HB.out | apply below_alloc | apply pw_below_drewN | apply below_drew1 | refine below_set ?_ GE178.out | refine below_set ?_ GE195.out) | exact HB.out))))
         have n4_ := aM20 (blk_below (g := gb178) (o := .cells #[.int .i64 t179, .int .i64 t180, .int .i64 t181, .slice Ao12 t182.length co12] 46 (0, 0)) (by (with_reducible repeat (first | refine bN20 ?_ _ | refine bD20 ?_ | refine bK20 ?_ _)); exact BK178.out) hb)
         have n5_ := aM20 (blk_below (g := gb195) (o := .cells #[.int .i64 t188, .int .i64 t189, .int .i64 t190, .slice Ao19 t191.length co19] 46 (0, 0)) (by (with_reducible repeat (first | refine bN20 ?_ _ | refine bD20 ?_ | refine bK20 ?_ _)); exact BK195.out) hb)
         have n6_ := aM20 (below_step (by repeat (first | (with_reducible first | exact HB.out | apply below_alloc | apply pw_below_drewN | apply below_drew1 | refine below_set ?_ GE178.out | refine below_set ?_ GE195.out) | exact HB.out)) hb)
         clear HO_1
         clear HO_179003
         clear HO_196003
         clear BK178
         clear BK195
         clear HB
         have HO_1 := n0_
         have HO_179003 := n1_
         have HO_196003 := n2_
         have HO209 := n3_
         have BK178 := n4_
         have BK195 := n5_
         have HB := n6_
         clear n0_ n1_ n2_ n3_ n4_ n5_ n6_
         (try clear hb)
         (try clear hb2)
         (try clear hk)
         (try clear hi)
         (try clear ho0)
         refine hK.out _ _ ⟨(bC20 BK178.out 0).trans rfl, (bC20 BK178.out 1).trans rfl, (bC20 BK178.out 2).trans rfl, (bC20 BK178.out 3).trans rfl, HS4_, HS5_, HS6_, HS7_⟩ (fun hHeld => ?_)
         clear hK K
         refine norm_ (a' := ?_) ?_ ?_
         rotate_left
         ·
          show Act.put _ (some 121) _ = _
          simp only [Act.put, sA, sB, sC, i64_w, i32_w]
          rfl
         refine pure_ (i := 5) (N := some 116) (v := ?_) (a' := ?_) (bA 11 63) rfl rfl (any_of HT_.out (by kernel_rfl)) (fun _ _ _ h => h) (Or.inl ⟨by rfl, ?_⟩) ?_ ?_
         rotate_left
         ·
          intro w'
          go_simp
          with_reducible rfl
         rotate_left
         ·
          simp only [Act.put, sA, sB, sC, i64_w, i32_w]
          rfl
         refine pure_ (i := 6) (N := some 122) (v := ?_) (a' := ?_) (bA 11 127) rfl rfl (any_of HT_.out (by kernel_rfl)) (fun _ _ _ h => h) (Or.inl ⟨by rfl, ?_⟩) ?_ ?_
         rotate_left
         ·
          intro w'
          go_simp
          with_reducible rfl
         rotate_left
         ·
          simp only [Act.put, sA, sB, sC, i64_w, i32_w]
          rfl
         refine pure_ (i := 7) (N := some 123) (v := ?_) (a' := ?_) (bA 11 255) rfl rfl (any_of HT_.out (by kernel_rfl)) (fun _ _ _ h => h) (Or.inl ⟨by rfl, ?_⟩) ?_ ?_
         rotate_left
         ·
          intro w'
          go_simp
          with_reducible rfl
         rotate_left
         ·
          simp only [Act.put, sA, sB, sC, i64_w, i32_w]
          rfl
         refine one_ (i := 8) (N := some 9) (bA 11 511) rfl rfl (one_of HT_.out (by kernel_rfl)) (by decide) (fun K hK => ?_)
         refine box_step ?hg (N := 9) ?hd (cs := #[.int .i64 0, .int .i64 0, .int .i64 0, .slice none 0 0]) (t := 46) ?hr ?_; (case hd => rfl); (case hg => rfl); (case hr => first | (go_simp; done) | (go_simp; rfl))
         intro gb211 hg w110 hbox hb
         have HS4_ := (hb.cell (World.block_lt_of_cell? _ _ (hHeld.2.2.2.2.1))).trans (hHeld.2.2.2.2.1)
         have HS5_ := (hb.cell (World.block_lt_of_cell? _ _ (hHeld.2.2.2.2.2.1))).trans (hHeld.2.2.2.2.2.1)
         have HS6_ := (hb.cell (World.block_lt_of_cell? _ _ (hHeld.2.2.2.2.2.2.1))).trans (hHeld.2.2.2.2.2.2.1)
         have HS7_ := (hb.cell (World.block_lt_of_cell? _ _ (hHeld.2.2.2.2.2.2.2))).trans (hHeld.2.2.2.2.2.2.2)
         have n0_ := aM20 (Kd.V_below (Kd.V_elderB (by (with_reducible repeat (first | apply Kd.V_alloc | apply Kd.V_drewN | apply Kd.V_drew)); exact HO_1.out) gb211 (Nat.le_of_eq hg.symm)) hb)
         have n1_ := aM20 (Kd.V_below (Kd.V_elderB (by (with_reducible repeat (first | apply Kd.V_alloc | apply Kd.V_drewN | apply Kd.V_drew)); exact HO_179003.out) gb211 (Nat.le_of_eq hg.symm)) hb)
         have n2_ := aM20 (Kd.R_below (by (with_reducible repeat (first | apply Kd.R_alloc | apply Kd.R_drewN | apply Kd.R_drew)); exact HO_196003.out) hb)
         have n3_ := aM20 (Kd.R_below (by (with_reducible repeat (first | apply Kd.R_alloc | apply Kd.R_drewN | apply Kd.R_drew)); exact HO209.out) hb)
         have n4_ := aM20 (blk_below (g := gb178) (o := .cells #[.int .i64 t179, .int .i64 t180, .int .i64 t181, .slice Ao12 t182.length co12] 46 (0, 0)) (by (with_reducible repeat (first | refine bN20 ?_ _ | refine bD20 ?_ | refine bK20 ?_ _)); exact BK178.out) hb)
         have n5_ := aM20 (blk_below (g := gb195) (o := .cells #[.int .i64 t188, .int .i64 t189, .int .i64 t190, .slice Ao19 t191.length co19] 46 (0, 0)) (by (with_reducible repeat (first | refine bN20 ?_ _ | refine bD20 ?_ | refine bK20 ?_ _)); exact BK195.out) hb)
         have n6_ := aM20 (below_step (by repeat (first | (with_reducible first | exact HB.out | apply below_alloc | apply pw_below_drewN | apply below_drew1 | refine below_set ?_ GE178.out | refine below_set ?_ GE195.out) | exact HB.out)) hb)
         have n7_ := aM20 (hbox)
         have n8_ := aM20 ((by rw [hg]; exact (below_size (by repeat (first | (with_reducible first | exact HB.out | apply below_alloc | apply pw_below_drewN | apply below_drew1 | refine below_set ?_ GE178.out | refine below_set ?_ GE195.out) | exact HB.out))) : w.heap.size ≤ gb211))
         have n9_ := aM20 ((by rw [hg]; exact (below_size (by repeat (first | (with_reducible first | exact HB.out | apply below_alloc | apply pw_below_drewN | apply below_drew1 | refine below_set ?_ GE178.out | refine below_set ?_ GE195.out) | exact HB.out))) : w.heap.size ≤ gb211))
         have n10_ := aM20 ((by rw [hg]; exact Nat.ne_of_lt (blk_lt (g := gb178) (o := .cells #[.int .i64 t179, .int .i64 t180, .int .i64 t181, .slice Ao12 t182.length co12] 46 (0, 0)) (by (with_reducible repeat (first | refine bN20 ?_ _ | refine bD20 ?_ | refine bK20 ?_ _)); exact BK178.out)) : gb178 ≠ gb211))
         have n11_ := aM20 ((by rw [hg]; exact Nat.ne_of_gt (blk_lt (g := gb178) (o := .cells #[.int .i64 t179, .int .i64 t180, .int .i64 t181, .slice Ao12 t182.length co12] 46 (0, 0)) (by (with_reducible repeat (first | refine bN20 ?_ _ | refine bD20 ?_ | refine bK20 ?_ _)); exact BK178.out)) : gb211 ≠ gb178))
         have n12_ := aM20 ((by rw [hg]; exact Nat.ne_of_lt (blk_lt (g := gb195) (o := .cells #[.int .i64 t188, .int .i64 t189, .int .i64 t190, .slice Ao19 t191.length co19] 46 (0, 0)) (by (with_reducible repeat (first | refine bN20 ?_ _ | refine bD20 ?_ | refine bK20 ?_ _)); exact BK195.out)) : gb195 ≠ gb211))
         have n13_ := aM20 ((by rw [hg]; exact Nat.ne_of_gt (blk_lt (g := gb195) (o := .cells #[.int .i64 t188, .int .i64 t189, .int .i64 t190, .slice Ao19 t191.length co19] 46 (0, 0)) (by (with_reducible repeat (first | refine bN20 ?_ _ | refine bD20 ?_ | refine bK20 ?_ _)); exact BK195.out)) : gb211 ≠ gb195))
         clear HO_1
         clear HO_179003
         clear HO_196003
         clear HO209
         clear BK178
         clear BK195
         clear HB
         have HO_1 := n0_
         have HO_179003 := n1_
         have HO_196003 := n2_
         have HO209 := n3_
         have BK178 := n4_
         have BK195 := n5_
         have HB := n6_
         have BK211 := n7_
         have GW211 := n8_
         have GE211 := n9_
         have NB178_211 := n10_
         have NB211_178 := n11_
         have NB195_211 := n12_
         have NB211_195 := n13_
         clear n0_ n1_ n2_ n3_ n4_ n5_ n6_ n7_ n8_ n9_ n10_ n11_ n12_ n13_
         clear hb hbox hg
         refine hK.out _ _ ⟨(bC20 BK178.out 0).trans rfl, (bC20 BK178.out 1).trans rfl, (bC20 BK178.out 2).trans rfl, (bC20 BK178.out 3).trans rfl, HS4_, HS5_, HS6_, HS7_⟩ (fun hHeld => ?_)
         clear hK K
         refine norm_ (a' := ?_) ?_ ?_
         rotate_left
         ·
          show Act.put _ (some 9) _ = _
          simp only [Act.put, sA, sB, sC, i64_w, i32_w]
          rfl
         exact norm_ (by simp only [putAll, Act.put, List.setIfInBounds_toArray, List.set_cons_zero, List.set_cons_succ]) (hCont (v208, gb211) _ ⟨hHeld, (by (with_reducible repeat (first | apply Kd.R_alloc | apply Kd.R_drewN | apply Kd.R_drew)); exact Kd.R_mono HO209.out (fun _ hk => hk.2)), (by (with_reducible repeat (first | apply Kd.V_alloc | apply Kd.V_drewN | apply Kd.V_drew)); exact Kd.V_mono HO_1.out (fun _ hk => ⟨hk.1.2, ⟨hk.1.1.1, ⟨hk.1.1.2.1, ⟨hk.1.1.2.2, hk.2⟩⟩⟩⟩)), (by (with_reducible repeat (first | apply Kd.V_alloc | apply Kd.V_drewN | apply Kd.V_drew)); exact Kd.V_mono HO_179003.out (fun _ hk => ⟨hk.1.2, ⟨hk.1.1.1, ⟨hk.1.1.2.1, ⟨hk.1.1.2.2, hk.2⟩⟩⟩⟩)), (by (with_reducible repeat (first | apply Kd.R_alloc | apply Kd.R_drewN | apply Kd.R_drew)); exact Kd.R_mono HO_196003.out (fun _ hk => hk.2)), (by (with_reducible repeat (first | refine bN20 ?_ _ | refine bD20 ?_ | refine bK20 ?_ _)); exact BK178.out), (by (with_reducible repeat (first | refine bN20 ?_ _ | refine bD20 ?_ | refine bK20 ?_ _)); exact BK195.out), (by (with_reducible repeat (first | refine bN20 ?_ _ | refine bD20 ?_ | refine bK20 ?_ _)); exact BK211.out), GW211.out, GE211.out, NB178_211.out, NB211_178.out, NB195_211.out, NB211_195.out, (by repeat (first | (with_reducible first | exact HB.out | apply below_alloc | apply pw_below_drewN | apply below_drew1 | refine below_set ?_ GE178.out | refine below_set ?_ GE195.out | refine below_set ?_ GE211.out) | exact HB.out))⟩)
        skip
        refine box_step ?hg (N := 9) ?hd (cs := #[.int .i64 0, .int .i64 0, .int .i64 0, .slice none 0 0]) (t := 46) ?hr ?_; (case hd => rfl); (case hg => rfl); (case hr => first | (go_simp; done) | (go_simp; rfl))
        intro gb211 hg w109 hbox hb
        have HS4_ := (hb.cell (World.block_lt_of_cell? _ _ (hHeld.2.2.2.2.1))).trans (hHeld.2.2.2.2.1)
        have HS5_ := (hb.cell (World.block_lt_of_cell? _ _ (hHeld.2.2.2.2.2.1))).trans (hHeld.2.2.2.2.2.1)
        have HS6_ := (hb.cell (World.block_lt_of_cell? _ _ (hHeld.2.2.2.2.2.2.1))).trans (hHeld.2.2.2.2.2.2.1)
        have HS7_ := (hb.cell (World.block_lt_of_cell? _ _ (hHeld.2.2.2.2.2.2.2))).trans (hHeld.2.2.2.2.2.2.2)
        have n0_ := aM20 (Kd.V_below (Kd.V_elderB (by (with_reducible repeat (first | apply Kd.V_alloc | apply Kd.V_drewN | apply Kd.V_drew)); exact HO_1.out) gb211 (Nat.le_of_eq hg.symm)) hb)
        have n1_ := aM20 (Kd.V_below (Kd.V_elderB (by (with_reducible repeat (first | apply Kd.V_alloc | apply Kd.V_drewN | apply Kd.V_drew)); exact HO_179003.out) gb211 (Nat.le_of_eq hg.symm)) hb)
        have n2_ := aM20 (Kd.R_below (by (with_reducible repeat (first | apply Kd.R_alloc | apply Kd.R_drewN | apply Kd.R_drew)); exact HO_196003.out) hb)
        have n3_ := aM20 (blk_below (g := gb178) (o := .cells #[.int .i64 t179, .int .i64 t180, .int .i64 t181, .slice Ao12 t182.length co12] 46 (0, 0)) (by (with_reducible repeat (first | refine bN20 ?_ _ | refine bD20 ?_ | refine bK20 ?_ _)); exact BK178.out) hb)
        have n4_ := aM20 (blk_below (g := gb195) (o := .cells #[.int .i64 t188, .int .i64 t189, .int .i64 t190, .slice Ao19 t191.length co19] 46 (0, 0)) (by (with_reducible repeat (first | refine bN20 ?_ _ | refine bD20 ?_ | refine bK20 ?_ _)); exact BK195.out) hb)
        have n5_ := aM20 (below_step (by repeat (first | (with_reducible first | exact HB.out | apply below_alloc | apply pw_below_drewN | apply below_drew1 | refine below_set ?_ GE178.out | refine below_set ?_ GE195.out) | exact HB.out)) hb)
        have n6_ := aM20 (hbox)
        have n7_ := aM20 ((by rw [hg]; exact (below_size (by repeat (first | (with_reducible first | exact HB.out | apply below_alloc | apply pw_below_drewN | apply below_drew1 | refine below_set ?_ GE178.out | refine below_set ?_ GE195.out) | exact HB.out))) : w.heap.size ≤ gb211))
        have n8_ := aM20 ((by rw [hg]; exact (below_size (by repeat (first | (with_reducible first | exact HB.out | apply below_alloc | apply pw_below_drewN | apply below_drew1 | refine below_set ?_ GE178.out | refine below_set ?_ GE195.out) | exact HB.out))) : w.heap.size ≤ gb211))
        have n9_ := aM20 ((by rw [hg]; exact Nat.ne_of_lt (blk_lt (g := gb178) (o := .cells #[.int .i64 t179, .int .i64 t180, .int .i64 t181, .slice Ao12 t182.length co12] 46 (0, 0)) (by (with_reducible repeat (first | refine bN20 ?_ _ | refine bD20 ?_ | refine bK20 ?_ _)); exact BK178.out)) : gb178 ≠ gb211))
        have n10_ := aM20 ((by rw [hg]; exact Nat.ne_of_gt (blk_lt (g := gb178) (o := .cells #[.int .i64 t179, .int .i64 t180, .int .i64 t181, .slice Ao12 t182.length co12] 46 (0, 0)) (by (with_reducible repeat (first | refine bN20 ?_ _ | refine bD20 ?_ | refine bK20 ?_ _)); exact BK178.out)) : gb211 ≠ gb178))
        have n11_ := aM20 ((by rw [hg]; exact Nat.ne_of_lt (blk_lt (g := gb195) (o := .cells #[.int .i64 t188, .int .i64 t189, .int .i64 t190, .slice Ao19 t191.length co19] 46 (0, 0)) (by (with_reducible repeat (first | refine bN20 ?_ _ | refine bD20 ?_ | refine bK20 ?_ _)); exact BK195.out)) : gb195 ≠ gb211))
        have n12_ := aM20 ((by rw [hg]; exact Nat.ne_of_gt (blk_lt (g := gb195) (o := .cells #[.int .i64 t188, .int .i64 t189, .int .i64 t190, .slice Ao19 t191.length co19] 46 (0, 0)) (by (with_reducible repeat (first | refine bN20 ?_ _ | refine bD20 ?_ | refine bK20 ?_ _)); exact BK195.out)) : gb211 ≠ gb195))
        clear HO_1
        clear HO_179003
        clear HO_196003
        clear BK178
        clear BK195
        clear HB
        have HO_1 := n0_
        have HO_179003 := n1_
        have HO_196003 := n2_
        have BK178 := n3_
        have BK195 := n4_
        have HB := n5_
        have BK211 := n6_
        have GW211 := n7_
        have GE211 := n8_
        have NB178_211 := n9_
        have NB211_178 := n10_
        have NB195_211 := n11_
        have NB211_195 := n12_
        clear n0_ n1_ n2_ n3_ n4_ n5_ n6_ n7_ n8_ n9_ n10_ n11_ n12_
        clear hb hbox hg
        refine hK.out _ _ ⟨(bC20 BK178.out 0).trans rfl, (bC20 BK178.out 1).trans rfl, (bC20 BK178.out 2).trans rfl, (bC20 BK178.out 3).trans rfl, HS4_, HS5_, HS6_, HS7_⟩ (fun hHeld => ?_)
        clear hK K
        refine norm_ (a' := ?_) ?_ ?_
        rotate_left
        ·
         show Act.put _ (some 9) _ = _
         simp only [Act.put, sA, sB, sC, i64_w, i32_w]
         rfl
        refine one_ (i := 4) (N := some 121) (bA 11 287) rfl rfl (one_of HT_.out (by kernel_rfl)) (by decide) (fun K hK => ?_)
        refine goes_ Try.func27 (by kernel_rfl) rfl #[.agg #[.int .i64 t179, .int .i64 t180, .int .i64 t181, .slice Ao12 t182.length co12], .agg #[.int .i64 ((rd_T23 t185 0).f0), .int .i64 ((rd_T23 t185 0).f1), .int .i64 ((rd_T23 t185 0).f2), .int .i64 ((rd_T23 t185 0).f3)]] (by rfl) rfl rfl (by (try simp only [List.map_toArray, List.map_cons, List.map_nil]); first | done | rfl | (simp only [List.length_drop, List.length_take]; rfl)) ?_
        with_reducible refine (crater_Strike.calls k3 t179 t180 t181 _ _ t182 ((rd_T23 t185 0).f0) ((rd_T23 t185 0).f1) ((rd_T23 t185 0).f2) ((rd_T23 t185 0).f3) t204 t205 t206 t207 t210 _ ?side1 ?side2 A84.out).mono ?_
        (case side1 => repeat (first | exact (Kd.V_reads' HO_179003.out).2.2 | (with_reducible refine Kd.C_alloc ?_ _) | (with_reducible refine Kd.C_drewN ?_ _) | (with_reducible refine Kd.C_drew ?_)))
        (case side2 => exact (Kd.V_reads' HO_179003.out).2.1)
        rintro e w110 ⟨v208, rfl, ho0, hb⟩
        have HS4_ := (hb.cell (World.block_lt_of_cell? _ _ (hHeld.2.2.2.2.1))).trans (hHeld.2.2.2.2.1)
        have HS5_ := (hb.cell (World.block_lt_of_cell? _ _ (hHeld.2.2.2.2.2.1))).trans (hHeld.2.2.2.2.2.1)
        have HS6_ := (hb.cell (World.block_lt_of_cell? _ _ (hHeld.2.2.2.2.2.2.1))).trans (hHeld.2.2.2.2.2.2.1)
        have HS7_ := (hb.cell (World.block_lt_of_cell? _ _ (hHeld.2.2.2.2.2.2.2))).trans (hHeld.2.2.2.2.2.2.2)
        refine ⟨_, rfl, ?_⟩
        have n0_ := aM20 (Kd.V_elder' (by (with_reducible repeat (first | apply Kd.V_alloc | apply Kd.V_drewN | apply Kd.V_drew)); exact HO_1.out) (Kd.R_base ho0) hb)
        have n1_ := aM20 (Kd.V_elder' (by (with_reducible repeat (first | apply Kd.V_alloc | apply Kd.V_drewN | apply Kd.V_drew)); exact HO_179003.out) (Kd.R_base ho0) hb)
        have n2_ := aM20 (Kd.R_elder' (by (with_reducible repeat (first | apply Kd.R_alloc | apply Kd.R_drewN | apply Kd.R_drew)); exact HO_196003.out) (Kd.R_base ho0) hb)
        have n3_ := aM20 (Kd.R_lower (Kd.R_new' ho0 (Kd.R_lt (by (with_reducible repeat (first | apply Kd.R_alloc | apply Kd.R_drewN | apply Kd.R_drew)); exact HO_196003.out))) (below_size (by repeat (first | (with_reducible first | exact HB.out | apply below_alloc | apply pw_below_drewN | apply below_drew1 | refine below_set ?_ GE178.out | refine below_set ?_ GE195.out | refine below_set ?_ GE211.out) | exact HB.out))))
        have n4_ := aM20 (blk_below (g := gb178) (o := .cells #[.int .i64 t179, .int .i64 t180, .int .i64 t181, .slice Ao12 t182.length co12] 46 (0, 0)) (by (with_reducible repeat (first | refine bN20 ?_ _ | refine bD20 ?_ | refine bK20 ?_ _)); exact BK178.out) hb)
        have n5_ := aM20 (blk_below (g := gb195) (o := .cells #[.int .i64 t188, .int .i64 t189, .int .i64 t190, .slice Ao19 t191.length co19] 46 (0, 0)) (by (with_reducible repeat (first | refine bN20 ?_ _ | refine bD20 ?_ | refine bK20 ?_ _)); exact BK195.out) hb)
        have n6_ := aM20 (blk_below (g := gb211) (o := .cells #[.int .i64 0, .int .i64 0, .int .i64 0, .slice none 0 0] 46 (0, 0)) (by (with_reducible repeat (first | refine bN20 ?_ _ | refine bD20 ?_ | refine bK20 ?_ _)); exact BK211.out) hb)
        have n7_ := aM20 (below_step (by repeat (first | (with_reducible first | exact HB.out | apply below_alloc | apply pw_below_drewN | apply below_drew1 | refine below_set ?_ GE178.out | refine below_set ?_ GE195.out | refine below_set ?_ GE211.out) | exact HB.out)) hb)
        clear HO_1
        clear HO_179003
        clear HO_196003
        clear BK178
        clear BK195
        clear BK211
        clear HB
        have HO_1 := n0_
        have HO_179003 := n1_
        have HO_196003 := n2_
        have HO209 := n3_
        have BK178 := n4_
        have BK195 := n5_
        have BK211 := n6_
        have HB := n7_
        clear n0_ n1_ n2_ n3_ n4_ n5_ n6_ n7_
        (try clear hb)
        (try clear hb2)
        (try clear hk)
        (try clear hi)
        (try clear ho0)
        refine hK.out _ _ ⟨(bC20 BK178.out 0).trans rfl, (bC20 BK178.out 1).trans rfl, (bC20 BK178.out 2).trans rfl, (bC20 BK178.out 3).trans rfl, HS4_, HS5_, HS6_, HS7_⟩ (fun hHeld => ?_)
        clear hK K
        refine norm_ (a' := ?_) ?_ ?_
        rotate_left
        ·
         show Act.put _ (some 121) _ = _
         simp only [Act.put, sA, sB, sC, i64_w, i32_w]
         rfl
        refine pure_ (i := 5) (N := some 116) (v := ?_) (a' := ?_) (bA 11 319) rfl rfl (any_of HT_.out (by kernel_rfl)) (fun _ _ _ h => h) (Or.inl ⟨by rfl, ?_⟩) ?_ ?_
        rotate_left
        ·
         intro w'
         go_simp
         with_reducible rfl
        rotate_left
        ·
         simp only [Act.put, sA, sB, sC, i64_w, i32_w]
         rfl
        refine pure_ (i := 6) (N := some 122) (v := ?_) (a' := ?_) (bA 11 383) rfl rfl (any_of HT_.out (by kernel_rfl)) (fun _ _ _ h => h) (Or.inl ⟨by rfl, ?_⟩) ?_ ?_
        rotate_left
        ·
         intro w'
         go_simp
         with_reducible rfl
        rotate_left
        ·
         simp only [Act.put, sA, sB, sC, i64_w, i32_w]
         rfl
        refine pure_ (i := 7) (N := some 123) (v := ?_) (a' := ?_) (bA 11 511) rfl rfl (any_of HT_.out (by kernel_rfl)) (fun _ _ _ h => h) (Or.inl ⟨by rfl, ?_⟩) ?_ ?_
        rotate_left
        ·
         intro w'
         go_simp
         with_reducible rfl
        rotate_left
        ·
         simp only [Act.put, sA, sB, sC, i64_w, i32_w]
         rfl
        exact norm_ (by simp only [putAll, Act.put, List.setIfInBounds_toArray, List.set_cons_zero, List.set_cons_succ]) (hCont (v208, gb211) _ ⟨hHeld, (by (with_reducible repeat (first | apply Kd.R_alloc | apply Kd.R_drewN | apply Kd.R_drew)); exact Kd.R_mono HO209.out (fun _ hk => hk.2)), (by (with_reducible repeat (first | apply Kd.V_alloc | apply Kd.V_drewN | apply Kd.V_drew)); exact Kd.V_mono HO_1.out (fun _ hk => ⟨hk.2, ⟨hk.1.1.1, ⟨hk.1.1.2.1, ⟨hk.1.1.2.2, hk.1.2⟩⟩⟩⟩)), (by (with_reducible repeat (first | apply Kd.V_alloc | apply Kd.V_drewN | apply Kd.V_drew)); exact Kd.V_mono HO_179003.out (fun _ hk => ⟨hk.2, ⟨hk.1.1.1, ⟨hk.1.1.2.1, ⟨hk.1.1.2.2, hk.1.2⟩⟩⟩⟩)), (by (with_reducible repeat (first | apply Kd.R_alloc | apply Kd.R_drewN | apply Kd.R_drew)); exact Kd.R_mono HO_196003.out (fun _ hk => hk.2)), (by (with_reducible repeat (first | refine bN20 ?_ _ | refine bD20 ?_ | refine bK20 ?_ _)); exact BK178.out), (by (with_reducible repeat (first | refine bN20 ?_ _ | refine bD20 ?_ | refine bK20 ?_ _)); exact BK195.out), (by (with_reducible repeat (first | refine bN20 ?_ _ | refine bD20 ?_ | refine bK20 ?_ _)); exact BK211.out), GW211.out, GE211.out, NB178_211.out, NB211_178.out, NB195_211.out, NB211_195.out, (by repeat (first | (with_reducible first | exact HB.out | apply below_alloc | apply pw_below_drewN | apply below_drew1 | refine below_set ?_ GE178.out | refine below_set ?_ GE195.out | refine below_set ?_ GE211.out) | exact HB.out))⟩)
       rintro ⟨v208, gb211⟩ w111 ⟨hS_, h0_, h1_, h2_, h3_, h4_, h5_, h6_, h7_, h8_, h9_, h10_, h11_, h12_, h13_⟩
       have n0_ : Aside0 (Kd.R (Kd.int .u8) 5 w111 w.heap.size (fun k_ => some k_ ≠ (.slice Ao19 t191.length co19 : Value).ownBlock) v208 t207) := ⟨h0_⟩
       have n1_ : Aside0 (Kd.V k23 23 w111 w.heap.size (fun k_ => some k_ ≠ (v208 : Value).ownBlock ∧ some k_ ≠ (.slice Ao19 t191.length co19 : Value).ownBlock ∧ k_ ≠ gb178 ∧ k_ ≠ gb195 ∧ k_ ≠ gb211) (.slice (some ad203) t185.length co14) t185) := ⟨h1_⟩
       have n2_ : Aside0 (Kd.V (Kd.int .u8) 5 w111 w.heap.size (fun k_ => some k_ ≠ (v208 : Value).ownBlock ∧ some k_ ≠ (.slice Ao19 t191.length co19 : Value).ownBlock ∧ k_ ≠ gb178 ∧ k_ ≠ gb195 ∧ k_ ≠ gb211) (.slice Ao12 t182.length co12) t182) := ⟨h2_⟩
       have n3_ : Aside0 (Kd.R (Kd.int .u8) 5 w111 w.heap.size (fun k_ => some k_ ≠ (v208 : Value).ownBlock) (.slice Ao19 t191.length co19) t191) := ⟨h3_⟩
       have n4_ : Aside0 (w111.heap[gb178]? = some (.cells #[.int .i64 t179, .int .i64 t180, .int .i64 t181, .slice Ao12 t182.length co12] 46 (0, 0))) := ⟨h4_⟩
       have n5_ : Aside0 (w111.heap[gb195]? = some (.cells #[.int .i64 t188, .int .i64 t189, .int .i64 t190, .slice Ao19 t191.length co19] 46 (0, 0))) := ⟨h5_⟩
       have n6_ : Aside0 (w111.heap[gb211]? = some (.cells #[.int .i64 0, .int .i64 0, .int .i64 0, .slice none 0 0] 46 (0, 0))) := ⟨h6_⟩
       have n7_ : Aside0 (w.heap.size ≤ gb211) := ⟨h7_⟩
       have n8_ : Aside0 (w.heap.size ≤ gb211) := ⟨h8_⟩
       have n9_ : Aside0 (gb178 ≠ gb211) := ⟨h9_⟩
       have n10_ : Aside0 (gb211 ≠ gb178) := ⟨h10_⟩
       have n11_ : Aside0 (gb195 ≠ gb211) := ⟨h11_⟩
       have n12_ : Aside0 (gb211 ≠ gb195) := ⟨h12_⟩
       have n13_ : Aside0 (Below w.heap.size w w111) := ⟨h13_⟩
       clear HO_1
       clear HO_179003
       clear HO_196003
       clear BK178
       clear BK195
       clear HB
       clear h0_ h1_ h2_ h3_ h4_ h5_ h6_ h7_ h8_ h9_ h10_ h11_ h12_ h13_
       have HO209 := n0_
       have HO_1 := n1_
       have HO_179003 := n2_
       have HO_196003 := n3_
       have BK178 := n4_
       have BK195 := n5_
       have BK211 := n6_
       have GW211 := n7_
       have GE211 := n8_
       have NB178_211 := n9_
       have NB211_178 := n10_
       have NB195_211 := n11_
       have NB211_195 := n12_
       have HB := n13_
       clear n0_ n1_ n2_ n3_ n4_ n5_ n6_ n7_ n8_ n9_ n10_ n11_ n12_ n13_
       have hHeld : w111.cell? ⟨gb178, 0, none⟩ = some (.int .i64 t179) ∧ w111.cell? ⟨gb178, 1, none⟩ = some (.int .i64 t180) ∧ w111.cell? ⟨gb178, 2, none⟩ = some (.int .i64 t181) ∧ w111.cell? ⟨gb178, 3, none⟩ = some (.slice Ao12 t182.length co12) ∧ w111.cell? ad203 = some (.int .i64 ((rd_T23 t185 0).f0)) ∧ w111.cell? ⟨ad203.block, ad203.off + 1, none⟩ = some (.int .i64 ((rd_T23 t185 0).f1)) ∧ w111.cell? ⟨ad203.block, ad203.off + 2, none⟩ = some (.int .i64 ((rd_T23 t185 0).f2)) ∧ w111.cell? ⟨ad203.block, ad203.off + 3, none⟩ = some (.int .i64 ((rd_T23 t185 0).f3)) := hS_
       obtain ⟨Ao115, co115, eo115⟩ := Kd.R_slice HO209.out
       (first | subst eo115 | (injection eo115 with f1_ f2_ f3_; have f4_ := f1_.symm; have f5_ := f3_.symm; clear f1_ f2_ f3_; subst f4_; subst f5_))
       refine norm_ (a' := ?_) ?_ ?_
       rotate_left
       ·
        simp only [putAll, Act.put, List.setIfInBounds_toArray, List.set_cons_zero, List.set_cons_succ]
        rfl
       refine one_ (i := 9) (N := none) (bA 11 1023) rfl rfl (one_of HT_.out (by kernel_rfl)) (by decide) (fun K hK => ?_)
       have hs112 : w111.cell? ⟨gb211, 0, none⟩ = some (.int .i64 0) := (bC20 BK211.out 0).trans rfl
       have hfs112 := bF20 BK211.out 0
       have hns112_0 := NB178_211.out
       have hns112_1 := NB195_211.out
       have hms112_0 := NB211_178.out
       have hms112_1 := NB211_195.out
       have hs113 : w111.cell? ⟨gb211, 1, none⟩ = some (.int .i64 0) := (bC20 BK211.out 1).trans rfl
       have hfs113 := bF20 BK211.out 1
       have hns113_0 := NB178_211.out
       have hns113_1 := NB195_211.out
       have hms113_0 := NB211_178.out
       have hms113_1 := NB211_195.out
       have hs114 : w111.cell? ⟨gb211, 2, none⟩ = some (.int .i64 0) := (bC20 BK211.out 2).trans rfl
       have hfs114 := bF20 BK211.out 2
       have hns114_0 := NB178_211.out
       have hns114_1 := NB195_211.out
       have hms114_0 := NB211_178.out
       have hms114_1 := NB211_195.out
       have hs116 : w111.cell? ⟨gb211, 3, none⟩ = some (.slice none 0 0) := (bC20 BK211.out 3).trans rfl
       have hfs116 := bF20 BK211.out 3
       have hns116_0 := NB178_211.out
       have hns116_1 := NB195_211.out
       have hms116_0 := NB211_178.out
       have hms116_1 := NB211_195.out
       refine skip_ (w1 := ?_) (by rfl) rfl ?_ ?_
       rotate_left
       ·
        go_simp
        rfl
       have hV_ := vN (g := gb211) HO_1.out (by have := of_eq_true q203; omega) (by decide) (fun _ hk => hk.2.2.2.2)
       refine hK.out _ _ ⟨((cell_far (p := ⟨gb211, _, none⟩) NB178_211.out _).trans (((cell_far (p := ⟨gb211, _, none⟩) NB178_211.out _).trans (((cell_far (p := ⟨gb211, _, none⟩) NB178_211.out _).trans (((cell_far (p := ⟨gb211, _, none⟩) NB178_211.out _).trans (hHeld.1)))))))), ((cell_far (p := ⟨gb211, _, none⟩) NB178_211.out _).trans (((cell_far (p := ⟨gb211, _, none⟩) NB178_211.out _).trans (((cell_far (p := ⟨gb211, _, none⟩) NB178_211.out _).trans (((cell_far (p := ⟨gb211, _, none⟩) NB178_211.out _).trans (hHeld.2.1)))))))), ((cell_far (p := ⟨gb211, _, none⟩) NB178_211.out _).trans (((cell_far (p := ⟨gb211, _, none⟩) NB178_211.out _).trans (((cell_far (p := ⟨gb211, _, none⟩) NB178_211.out _).trans (((cell_far (p := ⟨gb211, _, none⟩) NB178_211.out _).trans (hHeld.2.2.1)))))))), ((cell_far (p := ⟨gb211, _, none⟩) NB178_211.out _).trans (((cell_far (p := ⟨gb211, _, none⟩) NB178_211.out _).trans (((cell_far (p := ⟨gb211, _, none⟩) NB178_211.out _).trans (((cell_far (p := ⟨gb211, _, none⟩) NB178_211.out _).trans (hHeld.2.2.2.1)))))))), ((cell_far (p := ⟨gb211, _, none⟩) (by exact hV_) _).trans (((cell_far (p := ⟨gb211, _, none⟩) (by exact hV_) _).trans (((cell_far (p := ⟨gb211, _, none⟩) (by exact hV_) _).trans (((cell_far (p := ⟨gb211, _, none⟩) (by exact hV_) _).trans (hHeld.2.2.2.2.1)))))))), ((cell_far (p := ⟨gb211, _, none⟩) (by exact hV_) _).trans (((cell_far (p := ⟨gb211, _, none⟩) (by exact hV_) _).trans (((cell_far (p := ⟨gb211, _, none⟩) (by exact hV_) _).trans (((cell_far (p := ⟨gb211, _, none⟩) (by exact hV_) _).trans (hHeld.2.2.2.2.2.1)))))))), ((cell_far (p := ⟨gb211, _, none⟩) (by exact hV_) _).trans (((cell_far (p := ⟨gb211, _, none⟩) (by exact hV_) _).trans (((cell_far (p := ⟨gb211, _, none⟩) (by exact hV_) _).trans (((cell_far (p := ⟨gb211, _, none⟩) (by exact hV_) _).trans (hHeld.2.2.2.2.2.2.1)))))))), ((cell_far (p := ⟨gb211, _, none⟩) (by exact hV_) _).trans (((cell_far (p := ⟨gb211, _, none⟩) (by exact hV_) _).trans (((cell_far (p := ⟨gb211, _, none⟩) (by exact hV_) _).trans (((cell_far (p := ⟨gb211, _, none⟩) (by exact hV_) _).trans (hHeld.2.2.2.2.2.2.2))))))))⟩ (fun hHeld => ?_)
       clear hK K
       refine pure_ (i := 10) (N := some 10) (v := ?_) (a' := ?_) (bA 11 2047) rfl rfl (any_of HT_.out (by kernel_rfl)) (fun _ _ _ h => h) (Or.inl ⟨by rfl, ?_⟩) ?_ ?_
       rotate_left
       ·
        intro w'
        go_simp
        with_reducible rfl
       rotate_left
       ·
        simp only [Act.put, sA, sB, sC, i64_w, i32_w]
        rfl
       refine done_ (done_of HT_.out (by kernel_rfl)) ?_
       have hnb117 := NB195_211.out
       have hnc117 := NB211_195.out
       have hcz118_0 : w111.cell? ⟨gb195, 0, none⟩ = some (.int .i64 t188) := (bC20 BK195.out 0).trans rfl
       have hcz118_1 : w111.cell? ⟨gb195, 1, none⟩ = some (.int .i64 t189) := (bC20 BK195.out 1).trans rfl
       have hcz118_2 : w111.cell? ⟨gb195, 2, none⟩ = some (.int .i64 t190) := (bC20 BK195.out 2).trans rfl
       have hcz118_3 : w111.cell? ⟨gb195, 3, none⟩ = some (.slice Ao19 t191.length co19) := (bC20 BK195.out 3).trans rfl
       have hfz118_0 := bF20 BK195.out 0
       have hfz118_1 := bF20 BK195.out 1
       have hfz118_2 := bF20 BK195.out 2
       have hfz118_3 := bF20 BK195.out 3
       have hnb119 := NB211_178.out
       have hnc119 := NB178_211.out
       have hcz120_0 : w111.cell? ⟨gb211, 0, none⟩ = some (.int .i64 0) := (bC20 BK211.out 0).trans rfl
       have hcz120_1 : w111.cell? ⟨gb211, 1, none⟩ = some (.int .i64 0) := (bC20 BK211.out 1).trans rfl
       have hcz120_2 : w111.cell? ⟨gb211, 2, none⟩ = some (.int .i64 0) := (bC20 BK211.out 2).trans rfl
       have hcz120_3 : w111.cell? ⟨gb211, 3, none⟩ = some (.slice none 0 0) := (bC20 BK211.out 3).trans rfl
       have hfz120_0 := bF20 BK211.out 0
       have hfz120_1 := bF20 BK211.out 1
       have hfz120_2 := bF20 BK211.out 2
       have hfz120_3 := bF20 BK211.out 3
       try go_wp2_with (first | ((with_reducible refine gate_callee (f := 28) rfl ?_); refine goesL_ (some 126) rfl rfl Try.func28 (by kernel_rfl) rfl #[.agg #[.int .i64 t188, .int .i64 t189, .int .i64 t190, .slice Ao19 t191.length co19], .agg #[.int .i64 t204, .int .i64 t205, .int .i64 t206, .slice Ao115 t207.length co115]] rfl (by (try simp only [List.map_toArray, List.map_cons, List.map_nil]); first | done | rfl | (simp only [List.length_drop, List.length_take]; rfl)) ?_; (with_reducible refine (bivouacref06_Same.calls t188 t189 t190 _ _ t191 t204 t205 t206 _ _ t207 true _ ?side1 ?side2 ?side3 ?side4 A85.out).mono ?_); (case side1 => refine (Kd.R_reads' (e := 5) (base := w.heap.size) (ok := fun k_ => some k_ ≠ (.slice Ao115 t207.length co115 : Value).ownBlock) (n := t191.length) (c := co19) ?_).2.2; exact (by (with_reducible repeat (first | apply Kd.R_alloc | apply Kd.R_drewN | apply Kd.R_drew)); exact (Kd.R_mono (Kd.R_far (p := ⟨gb211, 3, none⟩) (Kd.R_far (p := ⟨gb211, 2, none⟩) (Kd.R_far (p := ⟨gb211, 1, none⟩) (Kd.R_far (p := ⟨gb211, 0, none⟩) (Kd.R_types HO_196003.out BK211.out (by decide)) (fun _ hk => hk.2) (.int .i64 t204)) (fun _ hk => hk.2) (.int .i64 t205)) (fun _ hk => hk.2) (.int .i64 t206)) (fun _ hk => hk.2) (.slice Ao115 t207.length co115)) (fun _ h_ => h_.1)))); (case side2 => exact (Kd.R_reads' HO_196003.out).2.1); (case side3 => refine (Kd.R_reads' (e := 5) (base := w.heap.size) (ok := fun k_ => some k_ ≠ (.slice Ao19 t191.length co19 : Value).ownBlock) (n := t207.length) (c := co115) ?_).2.2; exact (by (with_reducible repeat (first | apply Kd.R_alloc | apply Kd.R_drewN | apply Kd.R_drew)); exact (Kd.R_mono (Kd.R_far (p := ⟨gb211, 3, none⟩) (Kd.R_far (p := ⟨gb211, 2, none⟩) (Kd.R_far (p := ⟨gb211, 1, none⟩) (Kd.R_far (p := ⟨gb211, 0, none⟩) (Kd.R_types HO209.out BK211.out (by decide)) (fun _ hk => hk.2) (.int .i64 t204)) (fun _ hk => hk.2) (.int .i64 t205)) (fun _ hk => hk.2) (.int .i64 t206)) (fun _ hk => hk.2) (.slice Ao115 t207.length co115)) (fun _ h_ => h_.1)))); (case side4 => exact (Kd.R_reads' HO209.out).2.1); rintro e w121 ⟨rfl, hb⟩; refine ⟨_, rfl, ?_⟩; have n0_ := aM20 (Kd.V_below (by (with_reducible repeat (first | apply Kd.V_alloc | apply Kd.V_drewN | apply Kd.V_drew)); exact (Kd.V_mono (Kd.V_far (p := ⟨gb211, 3, none⟩) (Kd.V_far (p := ⟨gb211, 2, none⟩) (Kd.V_far (p := ⟨gb211, 1, none⟩) (Kd.V_far (p := ⟨gb211, 0, none⟩) (Kd.V_mono HO_1.out (fun k_ hk => (⟨hk, hk.2.2.2.2⟩ : _ ∧ k_ ≠ gb211))) (fun _ hk => hk.2) (.int .i64 t204)) (fun _ hk => hk.2) (.int .i64 t205)) (fun _ hk => hk.2) (.int .i64 t206)) (fun _ hk => hk.2) (.slice Ao115 t207.length co115)) (fun _ h_ => h_.1))) hb); have n1_ := aM20 (Kd.V_below (by (with_reducible repeat (first | apply Kd.V_alloc | apply Kd.V_drewN | apply Kd.V_drew)); exact (Kd.V_mono (Kd.V_far (p := ⟨gb211, 3, none⟩) (Kd.V_far (p := ⟨gb211, 2, none⟩) (Kd.V_far (p := ⟨gb211, 1, none⟩) (Kd.V_far (p := ⟨gb211, 0, none⟩) (Kd.V_mono HO_179003.out (fun k_ hk => (⟨hk, hk.2.2.2.2⟩ : _ ∧ k_ ≠ gb211))) (fun _ hk => hk.2) (.int .i64 t204)) (fun _ hk => hk.2) (.int .i64 t205)) (fun _ hk => hk.2) (.int .i64 t206)) (fun _ hk => hk.2) (.slice Ao115 t207.length co115)) (fun _ h_ => h_.1))) hb); have n2_ := aM20 (Kd.R_below (by (with_reducible repeat (first | apply Kd.R_alloc | apply Kd.R_drewN | apply Kd.R_drew)); exact (Kd.R_mono (Kd.R_far (p := ⟨gb211, 3, none⟩) (Kd.R_far (p := ⟨gb211, 2, none⟩) (Kd.R_far (p := ⟨gb211, 1, none⟩) (Kd.R_far (p := ⟨gb211, 0, none⟩) (Kd.R_types HO_196003.out BK211.out (by decide)) (fun _ hk => hk.2) (.int .i64 t204)) (fun _ hk => hk.2) (.int .i64 t205)) (fun _ hk => hk.2) (.int .i64 t206)) (fun _ hk => hk.2) (.slice Ao115 t207.length co115)) (fun _ h_ => h_.1))) hb); have n3_ := aM20 (Kd.R_below (by (with_reducible repeat (first | apply Kd.R_alloc | apply Kd.R_drewN | apply Kd.R_drew)); exact (Kd.R_mono (Kd.R_far (p := ⟨gb211, 3, none⟩) (Kd.R_far (p := ⟨gb211, 2, none⟩) (Kd.R_far (p := ⟨gb211, 1, none⟩) (Kd.R_far (p := ⟨gb211, 0, none⟩) (Kd.R_types HO209.out BK211.out (by decide)) (fun _ hk => hk.2) (.int .i64 t204)) (fun _ hk => hk.2) (.int .i64 t205)) (fun _ hk => hk.2) (.int .i64 t206)) (fun _ hk => hk.2) (.slice Ao115 t207.length co115)) (fun _ h_ => h_.1))) hb); have n4_ := aM20 (blk_below (g := gb178) (o := .cells #[.int .i64 t179, .int .i64 t180, .int .i64 t181, .slice Ao12 t182.length co12] 46 (0, 0)) (by (with_reducible repeat (first | refine bN20 ?_ _ | refine bD20 ?_ | refine bK20 ?_ _)); refine blk_far ?_ NB178_211.out _; (with_reducible repeat (first | refine bN20 ?_ _ | refine bD20 ?_ | refine bK20 ?_ _)); refine blk_far ?_ NB178_211.out _; (with_reducible repeat (first | refine bN20 ?_ _ | refine bD20 ?_ | refine bK20 ?_ _)); refine blk_far ?_ NB178_211.out _; (with_reducible repeat (first | refine bN20 ?_ _ | refine bD20 ?_ | refine bK20 ?_ _)); refine blk_far ?_ NB178_211.out _; (with_reducible repeat (first | refine bN20 ?_ _ | refine bD20 ?_ | refine bK20 ?_ _)); exact BK178.out) hb); have n5_ := aM20 (blk_below (g := gb195) (o := .cells #[.int .i64 t188, .int .i64 t189, .int .i64 t190, .slice Ao19 t191.length co19] 46 (0, 0)) (by (with_reducible repeat (first | refine bN20 ?_ _ | refine bD20 ?_ | refine bK20 ?_ _)); refine blk_far ?_ NB195_211.out _; (with_reducible repeat (first | refine bN20 ?_ _ | refine bD20 ?_ | refine bK20 ?_ _)); refine blk_far ?_ NB195_211.out _; (with_reducible repeat (first | refine bN20 ?_ _ | refine bD20 ?_ | refine bK20 ?_ _)); refine blk_far ?_ NB195_211.out _; (with_reducible repeat (first | refine bN20 ?_ _ | refine bD20 ?_ | refine bK20 ?_ _)); refine blk_far ?_ NB195_211.out _; (with_reducible repeat (first | refine bN20 ?_ _ | refine bD20 ?_ | refine bK20 ?_ _)); exact BK195.out) hb); have n6_ := aM20 (blk_below (g := gb211) (o := .cells #[.int .i64 t204, .int .i64 t205, .int .i64 t206, .slice Ao115 t207.length co115] 46 (0, 0)) (by (with_reducible repeat (first | refine bN20 ?_ _ | refine bD20 ?_ | refine bK20 ?_ _)); refine blk_put (cs := #[.int .i64 t204, .int .i64 t205, .int .i64 t206, .slice none 0 0]) ?_ 3 _ rfl; (with_reducible repeat (first | refine bN20 ?_ _ | refine bD20 ?_ | refine bK20 ?_ _)); refine blk_put (cs := #[.int .i64 t204, .int .i64 t205, .int .i64 0, .slice none 0 0]) ?_ 2 _ rfl; (with_reducible repeat (first | refine bN20 ?_ _ | refine bD20 ?_ | refine bK20 ?_ _)); refine blk_put (cs := #[.int .i64 t204, .int .i64 0, .int .i64 0, .slice none 0 0]) ?_ 1 _ rfl; (with_reducible repeat (first | refine bN20 ?_ _ | refine bD20 ?_ | refine bK20 ?_ _)); refine blk_put (cs := #[.int .i64 0, .int .i64 0, .int .i64 0, .slice none 0 0]) ?_ 0 _ rfl; (with_reducible repeat (first | refine bN20 ?_ _ | refine bD20 ?_ | refine bK20 ?_ _)); exact BK211.out) hb); have n7_ := aM20 (below_step (by repeat (first | (with_reducible first | exact HB.out | apply below_alloc | apply pw_below_drewN | apply below_drew1 | refine below_set ?_ GE178.out | refine below_set ?_ GE195.out | refine below_set ?_ GE211.out) | exact HB.out)) hb); clear HO_1; clear HO_179003; clear HO_196003; clear HO209; clear BK178; clear BK195; clear BK211; clear HB; have HO_1 := n0_; have HO_179003 := n1_; have HO_196003 := n2_; have HO209 := n3_; have BK178 := n4_; have BK195 := n5_; have BK211 := n6_; have HB := n7_; clear n0_ n1_ n2_ n3_ n4_ n5_ n6_ n7_; (try clear hb); (try clear hb2); (try clear hk); (try clear hi)))
       go_ret
       exact ⟨by first | rfl | (simp [errW_none, errW_some] <;> rfl) | (simp [*, errW_none, errW_some] <;> rfl) | (rw [Int.tdiv_eq_ediv_of_nonneg (by assumption)]; rfl), by repeat (first | (with_reducible first | exact HB.out | apply below_alloc | apply pw_below_drewN | apply below_drew1 | refine below_set ?_ GE178.out | refine below_set ?_ GE195.out | refine below_set ?_ GE211.out) | exact HB.out)⟩
      replace c86 := Bool.eq_false_iff.mpr c86
      subst c86
      have H1 : (some false) = some r := by rw [if_neg (show ¬ (false = true) by decide)] at H; exact H
      clear H
      have H := H1
      clear H1
      obtain rfl := Option.some.inj H
      have hnb122 := NB178_195.out
      have hnc122 := NB195_178.out
      have hcz123_0 : wr.cell? ⟨gb178, 0, none⟩ = some (.int .i64 t179) := (bC20 BK178.out 0).trans rfl
      have hcz123_1 : wr.cell? ⟨gb178, 1, none⟩ = some (.int .i64 t180) := (bC20 BK178.out 1).trans rfl
      have hcz123_2 : wr.cell? ⟨gb178, 2, none⟩ = some (.int .i64 t181) := (bC20 BK178.out 2).trans rfl
      have hcz123_3 : wr.cell? ⟨gb178, 3, none⟩ = some (.slice Ao12 t182.length co12) := (bC20 BK178.out 3).trans rfl
      have hfz123_0 := bF20 BK178.out 0
      have hfz123_1 := bF20 BK178.out 1
      have hfz123_2 := bF20 BK178.out 2
      have hfz123_3 := bF20 BK178.out 3
      try go_wp2
      have n0_ := aM20 (Kd.V_drew HO_1.out)
      have n1_ := aM20 (Kd.V_drew HO_179003.out)
      have n2_ := aM20 (Kd.R_drew HO_196003.out)
      have n3_ := aM20 (bD20 BK178.out)
      have n4_ := aM20 (bD20 BK195.out)
      have n5_ := aM20 (below_drew1 HB.out)
      clear HO_1
      clear HO_179003
      clear HO_196003
      clear BK178
      clear BK195
      clear HB
      have HO_1 := n0_
      have HO_179003 := n1_
      have HO_196003 := n2_
      have BK178 := n3_
      have BK195 := n4_
      have HB := n5_
      clear n0_ n1_ n2_ n3_ n4_ n5_
      have p203 : 0 ≤ (0 : Int) := (by omega)
      have q203 : 0 < (t185.length : Int) := of_decide_eq_true (by first | (with_reducible assumption) | assumption)
      obtain ⟨ad203, e203, hx203_0, hx203_1, hx203_2, hx203_3⟩ := at_T23 (Kd.V_reads' HO_1.out).2.2 0 p203 q203
      cases e203
      have qi203 : (0 < t185.length) = True := eq_true (by omega)
      (try rw [show ((0 : Int)).toNat = 0 from rfl] at hx203_0)
      (try rw [show 0 * 4 = 0 from rfl] at hx203_0)
      (try rw [Addr.add_zero'] at hx203_0)
      (try rw [show ((0 : Int)).toNat = 0 from rfl] at hx203_1)
      (try rw [show 0 * 4 = 0 from rfl] at hx203_1)
      (try rw [Addr.add_zero'] at hx203_1)
      (try rw [show ((0 : Int)).toNat = 0 from rfl] at hx203_2)
      (try rw [show 0 * 4 = 0 from rfl] at hx203_2)
      (try rw [Addr.add_zero'] at hx203_2)
      (try rw [show ((0 : Int)).toNat = 0 from rfl] at hx203_3)
      (try rw [show 0 * 4 = 0 from rfl] at hx203_3)
      (try rw [Addr.add_zero'] at hx203_3)
      replace p203 := eq_true p203
      replace q203 := eq_true q203
      refine start_ (n := 11) (S := fun w' => w'.cell? ⟨gb178, 0, none⟩ = some (.int .i64 t179) ∧ w'.cell? ⟨gb178, 1, none⟩ = some (.int .i64 t180) ∧ w'.cell? ⟨gb178, 2, none⟩ = some (.int .i64 t181) ∧ w'.cell? ⟨gb178, 3, none⟩ = some (.slice Ao12 t182.length co12) ∧ w'.cell? ad203 = some (.int .i64 ((rd_T23 t185 0).f0)) ∧ w'.cell? ⟨ad203.block, ad203.off + 1, none⟩ = some (.int .i64 ((rd_T23 t185 0).f1)) ∧ w'.cell? ⟨ad203.block, ad203.off + 2, none⟩ = some (.int .i64 ((rd_T23 t185 0).f2)) ∧ w'.cell? ⟨ad203.block, ad203.off + 3, none⟩ = some (.int .i64 ((rd_T23 t185 0).f3))) (ds := []) (bA 11 0) (by kernel_rfl) rfl rfl ⟨(bC20 BK178.out 0).trans rfl, (bC20 BK178.out 1).trans rfl, (bC20 BK178.out 2).trans rfl, (bC20 BK178.out 3).trans rfl, hx203_0, hx203_1, hx203_2, hx203_3⟩ (fun hHeld => ?_); refine with_tabW bivouaclaw09_CraterStrikes.tab14 bivouaclaw09_CraterStrikes.bits14 (fun HT_ HW_ => ?_)
      generalize wr.drew = w124 at HO_1 HO_179003 HO_196003 BK178 BK195 HB hx203_0 hx203_1 hx203_2 hx203_3 hHeld ⊢
      refine pure_ (i := 1) (N := some 118) (v := ?_) (a' := ?_) (bA 11 2) rfl rfl (any_of HT_.out (by kernel_rfl)) (fun _ _ _ h => h) (Or.inl ⟨by rfl, ?_⟩) ?_ ?_
      rotate_left
      ·
       intro w'
       go_simp
       with_reducible rfl
      rotate_left
      ·
       simp only [Act.put, sA, sB, sC, i64_w, i32_w]
       rfl
      refine pure_ (i := 2) (N := some 119) (v := ?_) (a' := ?_) (bA 11 6) rfl rfl (any_of HT_.out (by kernel_rfl)) (fun _ _ _ h => h) (Or.inl ⟨by rfl, ?_⟩) ?_ ?_
      rotate_left
      ·
       intro w'
       go_simp
       with_reducible rfl
      rotate_left
      ·
       simp only [Act.put, sA, sB, sC, i64_w, i32_w]
       rfl
      refine take_ (i := 0) (N := some 117) (v := ?_) (a' := ?_) (bA 11 7) rfl rfl (take_ofW HT_.out HW_.out (by kernel_rfl)) (fun _ _ _ h => h) (Or.inl ⟨by rfl, ?_⟩) hHeld ?_ ?_
      rotate_left
      ·
       rintro w' ⟨s0, s1, s2, s3, s4, s5, s6, s7⟩
       go_simp
       with_reducible rfl
      rotate_left
      ·
       simp only [Act.put, sA, sB, sC, i64_w, i32_w]
       rfl
      refine take_ (i := 3) (N := some 120) (v := ?_) (a' := ?_) (bA 11 15) rfl rfl (take_ofW HT_.out HW_.out (by kernel_rfl)) (fun _ _ _ h => h) (Or.inl ⟨by rfl, ?_⟩) hHeld ?_ ?_
      rotate_left
      ·
       rintro w' ⟨s0, s1, s2, s3, s4, s5, s6, s7⟩
       go_simp
       with_reducible rfl
      rotate_left
      ·
       simp only [Act.put, sA, sB, sC, i64_w, i32_w]
       rfl
      refine join_ (σ := Value × Nat) 2 #[true, true, true, true, true, true, true, true, true, false, false] (fun s_ => [(121, .tuple #[.agg #[.int .i64 t204, .int .i64 t205, .int .i64 t206, s_.1], .int .i64 t210]), (9, .pointer (some ⟨s_.2, 0, none⟩)), (116, .tuple #[.agg #[.int .i64 t204, .int .i64 t205, .int .i64 t206, s_.1], .int .i64 t210]), (122, .agg #[.int .i64 t204, .int .i64 t205, .int .i64 t206, s_.1]), (123, .int .i64 t210)]) (fun s_ w' => (w'.cell? ⟨gb178, 0, none⟩ = some (.int .i64 t179) ∧ w'.cell? ⟨gb178, 1, none⟩ = some (.int .i64 t180) ∧ w'.cell? ⟨gb178, 2, none⟩ = some (.int .i64 t181) ∧ w'.cell? ⟨gb178, 3, none⟩ = some (.slice Ao12 t182.length co12) ∧ w'.cell? ad203 = some (.int .i64 ((rd_T23 t185 0).f0)) ∧ w'.cell? ⟨ad203.block, ad203.off + 1, none⟩ = some (.int .i64 ((rd_T23 t185 0).f1)) ∧ w'.cell? ⟨ad203.block, ad203.off + 2, none⟩ = some (.int .i64 ((rd_T23 t185 0).f2)) ∧ w'.cell? ⟨ad203.block, ad203.off + 3, none⟩ = some (.int .i64 ((rd_T23 t185 0).f3))) ∧ (Kd.R (Kd.int .u8) 5 w' w.heap.size (fun k_ => some k_ ≠ (.slice Ao19 t191.length co19 : Value).ownBlock) s_.1 t207) ∧ (Kd.V k23 23 w' w.heap.size (fun k_ => some k_ ≠ (s_.1 : Value).ownBlock ∧ some k_ ≠ (.slice Ao19 t191.length co19 : Value).ownBlock ∧ k_ ≠ gb178 ∧ k_ ≠ gb195 ∧ k_ ≠ s_.2) (.slice (some ad203) t185.length co14) t185) ∧ (Kd.V (Kd.int .u8) 5 w' w.heap.size (fun k_ => some k_ ≠ (s_.1 : Value).ownBlock ∧ some k_ ≠ (.slice Ao19 t191.length co19 : Value).ownBlock ∧ k_ ≠ gb178 ∧ k_ ≠ gb195 ∧ k_ ≠ s_.2) (.slice Ao12 t182.length co12) t182) ∧ (Kd.R (Kd.int .u8) 5 w' w.heap.size (fun k_ => some k_ ≠ (s_.1 : Value).ownBlock) (.slice Ao19 t191.length co19) t191) ∧ (w'.heap[gb178]? = some (.cells #[.int .i64 t179, .int .i64 t180, .int .i64 t181, .slice Ao12 t182.length co12] 46 (0, 0))) ∧ (w'.heap[gb195]? = some (.cells #[.int .i64 t188, .int .i64 t189, .int .i64 t190, .slice Ao19 t191.length co19] 46 (0, 0))) ∧ (w'.heap[s_.2]? = some (.cells #[.int .i64 0, .int .i64 0, .int .i64 0, .slice none 0 0] 46 (0, 0))) ∧ (w.heap.size ≤ s_.2) ∧ (w.heap.size ≤ s_.2) ∧ (gb178 ≠ s_.2) ∧ (s_.2 ≠ gb178) ∧ (gb195 ≠ s_.2) ∧ (s_.2 ≠ gb195) ∧ (Below w.heap.size w w')) ?_ ?_
      rotate_left
      ·
       intro hCont
       refine two_ (i := 4) (j := 8) (Ni := some 121) (Nj := some 9) (bA 11 31) #[true, true, true, true, false, false, false, false, true, false, false] rfl rfl rfl rfl (two_of HT_.out (by kernel_rfl)) (by decide) (by decide) (fun K hK => ?_) (fun K hK => ?_)
       ·
        skip
        refine goes_ Try.func27 (by kernel_rfl) rfl #[.agg #[.int .i64 t179, .int .i64 t180, .int .i64 t181, .slice Ao12 t182.length co12], .agg #[.int .i64 ((rd_T23 t185 0).f0), .int .i64 ((rd_T23 t185 0).f1), .int .i64 ((rd_T23 t185 0).f2), .int .i64 ((rd_T23 t185 0).f3)]] (by rfl) rfl rfl (by (try simp only [List.map_toArray, List.map_cons, List.map_nil]); first | done | rfl | (simp only [List.length_drop, List.length_take]; rfl)) ?_
        with_reducible refine (crater_Strike.calls k3 t179 t180 t181 _ _ t182 ((rd_T23 t185 0).f0) ((rd_T23 t185 0).f1) ((rd_T23 t185 0).f2) ((rd_T23 t185 0).f3) t204 t205 t206 t207 t210 _ ?side1 ?side2 A84.out).mono ?_
        (case side1 => repeat (first | exact (Kd.V_reads' HO_179003.out).2.2 | (with_reducible refine Kd.C_alloc ?_ _) | (with_reducible refine Kd.C_drewN ?_ _) | (with_reducible refine Kd.C_drew ?_)))
        (case side2 => exact (Kd.V_reads' HO_179003.out).2.1)
        rintro e w125 ⟨v208, rfl, ho0, hb⟩
        have HS4_ := (hb.cell (World.block_lt_of_cell? _ _ (hHeld.2.2.2.2.1))).trans (hHeld.2.2.2.2.1)
        have HS5_ := (hb.cell (World.block_lt_of_cell? _ _ (hHeld.2.2.2.2.2.1))).trans (hHeld.2.2.2.2.2.1)
        have HS6_ := (hb.cell (World.block_lt_of_cell? _ _ (hHeld.2.2.2.2.2.2.1))).trans (hHeld.2.2.2.2.2.2.1)
        have HS7_ := (hb.cell (World.block_lt_of_cell? _ _ (hHeld.2.2.2.2.2.2.2))).trans (hHeld.2.2.2.2.2.2.2)
        refine ⟨_, rfl, ?_⟩
        have n0_ := aM20 (Kd.V_elder' (by (with_reducible repeat (first | apply Kd.V_alloc | apply Kd.V_drewN | apply Kd.V_drew)); exact HO_1.out) (Kd.R_base ho0) hb)
        have n1_ := aM20 (Kd.V_elder' (by (with_reducible repeat (first | apply Kd.V_alloc | apply Kd.V_drewN | apply Kd.V_drew)); exact HO_179003.out) (Kd.R_base ho0) hb)
        have n2_ := aM20 (Kd.R_elder' (by (with_reducible repeat (first | apply Kd.R_alloc | apply Kd.R_drewN | apply Kd.R_drew)); exact HO_196003.out) (Kd.R_base ho0) hb)
        have n3_ := aM20 (Kd.R_lower (Kd.R_new' ho0 (Kd.R_lt (by (with_reducible repeat (first | apply Kd.R_alloc | apply Kd.R_drewN | apply Kd.R_drew)); exact HO_196003.out))) (below_size (by repeat (first | (with_reducible first | exact HB.out | apply below_alloc | apply pw_below_drewN | apply below_drew1 | refine below_set ?_ GE178.out | refine below_set ?_ GE195.out) | exact HB.out))))
        have n4_ := aM20 (blk_below (g := gb178) (o := .cells #[.int .i64 t179, .int .i64 t180, .int .i64 t181, .slice Ao12 t182.length co12] 46 (0, 0)) (by (with_reducible repeat (first | refine bN20 ?_ _ | refine bD20 ?_ | refine bK20 ?_ _)); exact BK178.out) hb)
        have n5_ := aM20 (blk_below (g := gb195) (o := .cells #[.int .i64 t188, .int .i64 t189, .int .i64 t190, .slice Ao19 t191.length co19] 46 (0, 0)) (by (with_reducible repeat (first | refine bN20 ?_ _ | refine bD20 ?_ | refine bK20 ?_ _)); exact BK195.out) hb)
        have n6_ := aM20 (below_step (by repeat (first | (with_reducible first | exact HB.out | apply below_alloc | apply pw_below_drewN | apply below_drew1 | refine below_set ?_ GE178.out | refine below_set ?_ GE195.out) | exact HB.out)) hb)
        clear HO_1
        clear HO_179003
        clear HO_196003
        clear BK178
        clear BK195
        clear HB
        have HO_1 := n0_
        have HO_179003 := n1_
        have HO_196003 := n2_
        have HO209 := n3_
        have BK178 := n4_
        have BK195 := n5_
        have HB := n6_
        clear n0_ n1_ n2_ n3_ n4_ n5_ n6_
        (try clear hb)
        (try clear hb2)
        (try clear hk)
        (try clear hi)
        (try clear ho0)
        refine hK.out _ _ ⟨(bC20 BK178.out 0).trans rfl, (bC20 BK178.out 1).trans rfl, (bC20 BK178.out 2).trans rfl, (bC20 BK178.out 3).trans rfl, HS4_, HS5_, HS6_, HS7_⟩ (fun hHeld => ?_)
        clear hK K
        refine norm_ (a' := ?_) ?_ ?_
        rotate_left
        ·
         show Act.put _ (some 121) _ = _
         simp only [Act.put, sA, sB, sC, i64_w, i32_w]
         rfl
        refine pure_ (i := 5) (N := some 116) (v := ?_) (a' := ?_) (bA 11 63) rfl rfl (any_of HT_.out (by kernel_rfl)) (fun _ _ _ h => h) (Or.inl ⟨by rfl, ?_⟩) ?_ ?_
        rotate_left
        ·
         intro w'
         go_simp
         with_reducible rfl
        rotate_left
        ·
         simp only [Act.put, sA, sB, sC, i64_w, i32_w]
         rfl
        refine pure_ (i := 6) (N := some 122) (v := ?_) (a' := ?_) (bA 11 127) rfl rfl (any_of HT_.out (by kernel_rfl)) (fun _ _ _ h => h) (Or.inl ⟨by rfl, ?_⟩) ?_ ?_
        rotate_left
        ·
         intro w'
         go_simp
         with_reducible rfl
        rotate_left
        ·
         simp only [Act.put, sA, sB, sC, i64_w, i32_w]
         rfl
        refine pure_ (i := 7) (N := some 123) (v := ?_) (a' := ?_) (bA 11 255) rfl rfl (any_of HT_.out (by kernel_rfl)) (fun _ _ _ h => h) (Or.inl ⟨by rfl, ?_⟩) ?_ ?_
        rotate_left
        ·
         intro w'
         go_simp
         with_reducible rfl
        rotate_left
        ·
         simp only [Act.put, sA, sB, sC, i64_w, i32_w]
         rfl
        refine one_ (i := 8) (N := some 9) (bA 11 511) rfl rfl (one_of HT_.out (by kernel_rfl)) (by decide) (fun K hK => ?_)
        refine box_step ?hg (N := 9) ?hd (cs := #[.int .i64 0, .int .i64 0, .int .i64 0, .slice none 0 0]) (t := 46) ?hr ?_; (case hd => rfl); (case hg => rfl); (case hr => first | (go_simp; done) | (go_simp; rfl))
        intro gb211 hg w126 hbox hb
        have HS4_ := (hb.cell (World.block_lt_of_cell? _ _ (hHeld.2.2.2.2.1))).trans (hHeld.2.2.2.2.1)
        have HS5_ := (hb.cell (World.block_lt_of_cell? _ _ (hHeld.2.2.2.2.2.1))).trans (hHeld.2.2.2.2.2.1)
        have HS6_ := (hb.cell (World.block_lt_of_cell? _ _ (hHeld.2.2.2.2.2.2.1))).trans (hHeld.2.2.2.2.2.2.1)
        have HS7_ := (hb.cell (World.block_lt_of_cell? _ _ (hHeld.2.2.2.2.2.2.2))).trans (hHeld.2.2.2.2.2.2.2)
        have n0_ := aM20 (Kd.V_below (Kd.V_elderB (by (with_reducible repeat (first | apply Kd.V_alloc | apply Kd.V_drewN | apply Kd.V_drew)); exact HO_1.out) gb211 (Nat.le_of_eq hg.symm)) hb)
        have n1_ := aM20 (Kd.V_below (Kd.V_elderB (by (with_reducible repeat (first | apply Kd.V_alloc | apply Kd.V_drewN | apply Kd.V_drew)); exact HO_179003.out) gb211 (Nat.le_of_eq hg.symm)) hb)
        have n2_ := aM20 (Kd.R_below (by (with_reducible repeat (first | apply Kd.R_alloc | apply Kd.R_drewN | apply Kd.R_drew)); exact HO_196003.out) hb)
        have n3_ := aM20 (Kd.R_below (by (with_reducible repeat (first | apply Kd.R_alloc | apply Kd.R_drewN | apply Kd.R_drew)); exact HO209.out) hb)
        have n4_ := aM20 (blk_below (g := gb178) (o := .cells #[.int .i64 t179, .int .i64 t180, .int .i64 t181, .slice Ao12 t182.length co12] 46 (0, 0)) (by (with_reducible repeat (first | refine bN20 ?_ _ | refine bD20 ?_ | refine bK20 ?_ _)); exact BK178.out) hb)
        have n5_ := aM20 (blk_below (g := gb195) (o := .cells #[.int .i64 t188, .int .i64 t189, .int .i64 t190, .slice Ao19 t191.length co19] 46 (0, 0)) (by (with_reducible repeat (first | refine bN20 ?_ _ | refine bD20 ?_ | refine bK20 ?_ _)); exact BK195.out) hb)
        have n6_ := aM20 (below_step (by repeat (first | (with_reducible first | exact HB.out | apply below_alloc | apply pw_below_drewN | apply below_drew1 | refine below_set ?_ GE178.out | refine below_set ?_ GE195.out) | exact HB.out)) hb)
        have n7_ := aM20 (hbox)
        have n8_ := aM20 ((by rw [hg]; exact (below_size (by repeat (first | (with_reducible first | exact HB.out | apply below_alloc | apply pw_below_drewN | apply below_drew1 | refine below_set ?_ GE178.out | refine below_set ?_ GE195.out) | exact HB.out))) : w.heap.size ≤ gb211))
        have n9_ := aM20 ((by rw [hg]; exact (below_size (by repeat (first | (with_reducible first | exact HB.out | apply below_alloc | apply pw_below_drewN | apply below_drew1 | refine below_set ?_ GE178.out | refine below_set ?_ GE195.out) | exact HB.out))) : w.heap.size ≤ gb211))
        have n10_ := aM20 ((by rw [hg]; exact Nat.ne_of_lt (blk_lt (g := gb178) (o := .cells #[.int .i64 t179, .int .i64 t180, .int .i64 t181, .slice Ao12 t182.length co12] 46 (0, 0)) (by (with_reducible repeat (first | refine bN20 ?_ _ | refine bD20 ?_ | refine bK20 ?_ _)); exact BK178.out)) : gb178 ≠ gb211))
        have n11_ := aM20 ((by rw [hg]; exact Nat.ne_of_gt (blk_lt (g := gb178) (o := .cells #[.int .i64 t179, .int .i64 t180, .int .i64 t181, .slice Ao12 t182.length co12] 46 (0, 0)) (by (with_reducible repeat (first | refine bN20 ?_ _ | refine bD20 ?_ | refine bK20 ?_ _)); exact BK178.out)) : gb211 ≠ gb178))
        have n12_ := aM20 ((by rw [hg]; exact Nat.ne_of_lt (blk_lt (g := gb195) (o := .cells #[.int .i64 t188, .int .i64 t189, .int .i64 t190, .slice Ao19 t191.length co19] 46 (0, 0)) (by (with_reducible repeat (first | refine bN20 ?_ _ | refine bD20 ?_ | refine bK20 ?_ _)); exact BK195.out)) : gb195 ≠ gb211))
        have n13_ := aM20 ((by rw [hg]; exact Nat.ne_of_gt (blk_lt (g := gb195) (o := .cells #[.int .i64 t188, .int .i64 t189, .int .i64 t190, .slice Ao19 t191.length co19] 46 (0, 0)) (by (with_reducible repeat (first | refine bN20 ?_ _ | refine bD20 ?_ | refine bK20 ?_ _)); exact BK195.out)) : gb211 ≠ gb195))
        clear HO_1
        clear HO_179003
        clear HO_196003
        clear HO209
        clear BK178
        clear BK195
        clear HB
        have HO_1 := n0_
        have HO_179003 := n1_
        have HO_196003 := n2_
        have HO209 := n3_
        have BK178 := n4_
        have BK195 := n5_
        have HB := n6_
        have BK211 := n7_
        have GW211 := n8_
        have GE211 := n9_
        have NB178_211 := n10_
        have NB211_178 := n11_
        have NB195_211 := n12_
        have NB211_195 := n13_
        clear n0_ n1_ n2_ n3_ n4_ n5_ n6_ n7_ n8_ n9_ n10_ n11_ n12_ n13_
        clear hb hbox hg
        refine hK.out _ _ ⟨(bC20 BK178.out 0).trans rfl, (bC20 BK178.out 1).trans rfl, (bC20 BK178.out 2).trans rfl, (bC20 BK178.out 3).trans rfl, HS4_, HS5_, HS6_, HS7_⟩ (fun hHeld => ?_)
        clear hK K
        refine norm_ (a' := ?_) ?_ ?_
        rotate_left
        ·
         show Act.put _ (some 9) _ = _
         simp only [Act.put, sA, sB, sC, i64_w, i32_w]
         rfl
        exact norm_ (by simp only [putAll, Act.put, List.setIfInBounds_toArray, List.set_cons_zero, List.set_cons_succ]) (hCont (v208, gb211) _ ⟨hHeld, (by (with_reducible repeat (first | apply Kd.R_alloc | apply Kd.R_drewN | apply Kd.R_drew)); exact Kd.R_mono HO209.out (fun _ hk => hk.2)), (by (with_reducible repeat (first | apply Kd.V_alloc | apply Kd.V_drewN | apply Kd.V_drew)); exact Kd.V_mono HO_1.out (fun _ hk => ⟨hk.1.2, ⟨hk.1.1.1, ⟨hk.1.1.2.1, ⟨hk.1.1.2.2, hk.2⟩⟩⟩⟩)), (by (with_reducible repeat (first | apply Kd.V_alloc | apply Kd.V_drewN | apply Kd.V_drew)); exact Kd.V_mono HO_179003.out (fun _ hk => ⟨hk.1.2, ⟨hk.1.1.1, ⟨hk.1.1.2.1, ⟨hk.1.1.2.2, hk.2⟩⟩⟩⟩)), (by (with_reducible repeat (first | apply Kd.R_alloc | apply Kd.R_drewN | apply Kd.R_drew)); exact Kd.R_mono HO_196003.out (fun _ hk => hk.2)), (by (with_reducible repeat (first | refine bN20 ?_ _ | refine bD20 ?_ | refine bK20 ?_ _)); exact BK178.out), (by (with_reducible repeat (first | refine bN20 ?_ _ | refine bD20 ?_ | refine bK20 ?_ _)); exact BK195.out), (by (with_reducible repeat (first | refine bN20 ?_ _ | refine bD20 ?_ | refine bK20 ?_ _)); exact BK211.out), GW211.out, GE211.out, NB178_211.out, NB211_178.out, NB195_211.out, NB211_195.out, (by repeat (first | (with_reducible first | exact HB.out | apply below_alloc | apply pw_below_drewN | apply below_drew1 | refine below_set ?_ GE178.out | refine below_set ?_ GE195.out | refine below_set ?_ GE211.out) | exact HB.out))⟩)
       skip
       refine box_step ?hg (N := 9) ?hd (cs := #[.int .i64 0, .int .i64 0, .int .i64 0, .slice none 0 0]) (t := 46) ?hr ?_; (case hd => rfl); (case hg => rfl); (case hr => first | (go_simp; done) | (go_simp; rfl))
       intro gb211 hg w125 hbox hb
       have HS4_ := (hb.cell (World.block_lt_of_cell? _ _ (hHeld.2.2.2.2.1))).trans (hHeld.2.2.2.2.1)
       have HS5_ := (hb.cell (World.block_lt_of_cell? _ _ (hHeld.2.2.2.2.2.1))).trans (hHeld.2.2.2.2.2.1)
       have HS6_ := (hb.cell (World.block_lt_of_cell? _ _ (hHeld.2.2.2.2.2.2.1))).trans (hHeld.2.2.2.2.2.2.1)
       have HS7_ := (hb.cell (World.block_lt_of_cell? _ _ (hHeld.2.2.2.2.2.2.2))).trans (hHeld.2.2.2.2.2.2.2)
       have n0_ := aM20 (Kd.V_below (Kd.V_elderB (by (with_reducible repeat (first | apply Kd.V_alloc | apply Kd.V_drewN | apply Kd.V_drew)); exact HO_1.out) gb211 (Nat.le_of_eq hg.symm)) hb)
       have n1_ := aM20 (Kd.V_below (Kd.V_elderB (by (with_reducible repeat (first | apply Kd.V_alloc | apply Kd.V_drewN | apply Kd.V_drew)); exact HO_179003.out) gb211 (Nat.le_of_eq hg.symm)) hb)
       have n2_ := aM20 (Kd.R_below (by (with_reducible repeat (first | apply Kd.R_alloc | apply Kd.R_drewN | apply Kd.R_drew)); exact HO_196003.out) hb)
       have n3_ := aM20 (blk_below (g := gb178) (o := .cells #[.int .i64 t179, .int .i64 t180, .int .i64 t181, .slice Ao12 t182.length co12] 46 (0, 0)) (by (with_reducible repeat (first | refine bN20 ?_ _ | refine bD20 ?_ | refine bK20 ?_ _)); exact BK178.out) hb)
       have n4_ := aM20 (blk_below (g := gb195) (o := .cells #[.int .i64 t188, .int .i64 t189, .int .i64 t190, .slice Ao19 t191.length co19] 46 (0, 0)) (by (with_reducible repeat (first | refine bN20 ?_ _ | refine bD20 ?_ | refine bK20 ?_ _)); exact BK195.out) hb)
       have n5_ := aM20 (below_step (by repeat (first | (with_reducible first | exact HB.out | apply below_alloc | apply pw_below_drewN | apply below_drew1 | refine below_set ?_ GE178.out | refine below_set ?_ GE195.out) | exact HB.out)) hb)
       have n6_ := aM20 (hbox)
       have n7_ := aM20 ((by rw [hg]; exact (below_size (by repeat (first | (with_reducible first | exact HB.out | apply below_alloc | apply pw_below_drewN | apply below_drew1 | refine below_set ?_ GE178.out | refine below_set ?_ GE195.out) | exact HB.out))) : w.heap.size ≤ gb211))
       have n8_ := aM20 ((by rw [hg]; exact (below_size (by repeat (first | (with_reducible first | exact HB.out | apply below_alloc | apply pw_below_drewN | apply below_drew1 | refine below_set ?_ GE178.out | refine below_set ?_ GE195.out) | exact HB.out))) : w.heap.size ≤ gb211))
       have n9_ := aM20 ((by rw [hg]; exact Nat.ne_of_lt (blk_lt (g := gb178) (o := .cells #[.int .i64 t179, .int .i64 t180, .int .i64 t181, .slice Ao12 t182.length co12] 46 (0, 0)) (by (with_reducible repeat (first | refine bN20 ?_ _ | refine bD20 ?_ | refine bK20 ?_ _)); exact BK178.out)) : gb178 ≠ gb211))
       have n10_ := aM20 ((by rw [hg]; exact Nat.ne_of_gt (blk_lt (g := gb178) (o := .cells #[.int .i64 t179, .int .i64 t180, .int .i64 t181, .slice Ao12 t182.length co12] 46 (0, 0)) (by (with_reducible repeat (first | refine bN20 ?_ _ | refine bD20 ?_ | refine bK20 ?_ _)); exact BK178.out)) : gb211 ≠ gb178))
       have n11_ := aM20 ((by rw [hg]; exact Nat.ne_of_lt (blk_lt (g := gb195) (o := .cells #[.int .i64 t188, .int .i64 t189, .int .i64 t190, .slice Ao19 t191.length co19] 46 (0, 0)) (by (with_reducible repeat (first | refine bN20 ?_ _ | refine bD20 ?_ | refine bK20 ?_ _)); exact BK195.out)) : gb195 ≠ gb211))
       have n12_ := aM20 ((by rw [hg]; exact Nat.ne_of_gt (blk_lt (g := gb195) (o := .cells #[.int .i64 t188, .int .i64 t189, .int .i64 t190, .slice Ao19 t191.length co19] 46 (0, 0)) (by (with_reducible repeat (first | refine bN20 ?_ _ | refine bD20 ?_ | refine bK20 ?_ _)); exact BK195.out)) : gb211 ≠ gb195))
       clear HO_1
       clear HO_179003
       clear HO_196003
       clear BK178
       clear BK195
       clear HB
       have HO_1 := n0_
       have HO_179003 := n1_
       have HO_196003 := n2_
       have BK178 := n3_
       have BK195 := n4_
       have HB := n5_
       have BK211 := n6_
       have GW211 := n7_
       have GE211 := n8_
       have NB178_211 := n9_
       have NB211_178 := n10_
       have NB195_211 := n11_
       have NB211_195 := n12_
       clear n0_ n1_ n2_ n3_ n4_ n5_ n6_ n7_ n8_ n9_ n10_ n11_ n12_
       clear hb hbox hg
       refine hK.out _ _ ⟨(bC20 BK178.out 0).trans rfl, (bC20 BK178.out 1).trans rfl, (bC20 BK178.out 2).trans rfl, (bC20 BK178.out 3).trans rfl, HS4_, HS5_, HS6_, HS7_⟩ (fun hHeld => ?_)
       clear hK K
       refine norm_ (a' := ?_) ?_ ?_
       rotate_left
       ·
        show Act.put _ (some 9) _ = _
        simp only [Act.put, sA, sB, sC, i64_w, i32_w]
        rfl
       refine one_ (i := 4) (N := some 121) (bA 11 287) rfl rfl (one_of HT_.out (by kernel_rfl)) (by decide) (fun K hK => ?_)
       refine goes_ Try.func27 (by kernel_rfl) rfl #[.agg #[.int .i64 t179, .int .i64 t180, .int .i64 t181, .slice Ao12 t182.length co12], .agg #[.int .i64 ((rd_T23 t185 0).f0), .int .i64 ((rd_T23 t185 0).f1), .int .i64 ((rd_T23 t185 0).f2), .int .i64 ((rd_T23 t185 0).f3)]] (by rfl) rfl rfl (by (try simp only [List.map_toArray, List.map_cons, List.map_nil]); first | done | rfl | (simp only [List.length_drop, List.length_take]; rfl)) ?_
       with_reducible refine (crater_Strike.calls k3 t179 t180 t181 _ _ t182 ((rd_T23 t185 0).f0) ((rd_T23 t185 0).f1) ((rd_T23 t185 0).f2) ((rd_T23 t185 0).f3) t204 t205 t206 t207 t210 _ ?side1 ?side2 A84.out).mono ?_
       (case side1 => repeat (first | exact (Kd.V_reads' HO_179003.out).2.2 | (with_reducible refine Kd.C_alloc ?_ _) | (with_reducible refine Kd.C_drewN ?_ _) | (with_reducible refine Kd.C_drew ?_)))
       (case side2 => exact (Kd.V_reads' HO_179003.out).2.1)
       rintro e w126 ⟨v208, rfl, ho0, hb⟩
       have HS4_ := (hb.cell (World.block_lt_of_cell? _ _ (hHeld.2.2.2.2.1))).trans (hHeld.2.2.2.2.1)
       have HS5_ := (hb.cell (World.block_lt_of_cell? _ _ (hHeld.2.2.2.2.2.1))).trans (hHeld.2.2.2.2.2.1)
       have HS6_ := (hb.cell (World.block_lt_of_cell? _ _ (hHeld.2.2.2.2.2.2.1))).trans (hHeld.2.2.2.2.2.2.1)
       have HS7_ := (hb.cell (World.block_lt_of_cell? _ _ (hHeld.2.2.2.2.2.2.2))).trans (hHeld.2.2.2.2.2.2.2)
       refine ⟨_, rfl, ?_⟩
       have n0_ := aM20 (Kd.V_elder' (by (with_reducible repeat (first | apply Kd.V_alloc | apply Kd.V_drewN | apply Kd.V_drew)); exact HO_1.out) (Kd.R_base ho0) hb)
       have n1_ := aM20 (Kd.V_elder' (by (with_reducible repeat (first | apply Kd.V_alloc | apply Kd.V_drewN | apply Kd.V_drew)); exact HO_179003.out) (Kd.R_base ho0) hb)
       have n2_ := aM20 (Kd.R_elder' (by (with_reducible repeat (first | apply Kd.R_alloc | apply Kd.R_drewN | apply Kd.R_drew)); exact HO_196003.out) (Kd.R_base ho0) hb)
       have n3_ := aM20 (Kd.R_lower (Kd.R_new' ho0 (Kd.R_lt (by (with_reducible repeat (first | apply Kd.R_alloc | apply Kd.R_drewN | apply Kd.R_drew)); exact HO_196003.out))) (below_size (by repeat (first | (with_reducible first | exact HB.out | apply below_alloc | apply pw_below_drewN | apply below_drew1 | refine below_set ?_ GE178.out | refine below_set ?_ GE195.out | refine below_set ?_ GE211.out) | exact HB.out))))
       have n4_ := aM20 (blk_below (g := gb178) (o := .cells #[.int .i64 t179, .int .i64 t180, .int .i64 t181, .slice Ao12 t182.length co12] 46 (0, 0)) (by (with_reducible repeat (first | refine bN20 ?_ _ | refine bD20 ?_ | refine bK20 ?_ _)); exact BK178.out) hb)
       have n5_ := aM20 (blk_below (g := gb195) (o := .cells #[.int .i64 t188, .int .i64 t189, .int .i64 t190, .slice Ao19 t191.length co19] 46 (0, 0)) (by (with_reducible repeat (first | refine bN20 ?_ _ | refine bD20 ?_ | refine bK20 ?_ _)); exact BK195.out) hb)
       have n6_ := aM20 (blk_below (g := gb211) (o := .cells #[.int .i64 0, .int .i64 0, .int .i64 0, .slice none 0 0] 46 (0, 0)) (by (with_reducible repeat (first | refine bN20 ?_ _ | refine bD20 ?_ | refine bK20 ?_ _)); exact BK211.out) hb)
       have n7_ := aM20 (below_step (by repeat (first | (with_reducible first | exact HB.out | apply below_alloc | apply pw_below_drewN | apply below_drew1 | refine below_set ?_ GE178.out | refine below_set ?_ GE195.out | refine below_set ?_ GE211.out) | exact HB.out)) hb)
       clear HO_1
       clear HO_179003
       clear HO_196003
       clear BK178
       clear BK195
       clear BK211
       clear HB
       have HO_1 := n0_
       have HO_179003 := n1_
       have HO_196003 := n2_
       have HO209 := n3_
       have BK178 := n4_
       have BK195 := n5_
       have BK211 := n6_
       have HB := n7_
       clear n0_ n1_ n2_ n3_ n4_ n5_ n6_ n7_
       (try clear hb)
       (try clear hb2)
       (try clear hk)
       (try clear hi)
       (try clear ho0)
       refine hK.out _ _ ⟨(bC20 BK178.out 0).trans rfl, (bC20 BK178.out 1).trans rfl, (bC20 BK178.out 2).trans rfl, (bC20 BK178.out 3).trans rfl, HS4_, HS5_, HS6_, HS7_⟩ (fun hHeld => ?_)
       clear hK K
       refine norm_ (a' := ?_) ?_ ?_
       rotate_left
       ·
        show Act.put _ (some 121) _ = _
        simp only [Act.put, sA, sB, sC, i64_w, i32_w]
        rfl
       refine pure_ (i := 5) (N := some 116) (v := ?_) (a' := ?_) (bA 11 319) rfl rfl (any_of HT_.out (by kernel_rfl)) (fun _ _ _ h => h) (Or.inl ⟨by rfl, ?_⟩) ?_ ?_
       rotate_left
       ·
        intro w'
        go_simp
        with_reducible rfl
       rotate_left
       ·
        simp only [Act.put, sA, sB, sC, i64_w, i32_w]
        rfl
       refine pure_ (i := 6) (N := some 122) (v := ?_) (a' := ?_) (bA 11 383) rfl rfl (any_of HT_.out (by kernel_rfl)) (fun _ _ _ h => h) (Or.inl ⟨by rfl, ?_⟩) ?_ ?_
       rotate_left
       ·
        intro w'
        go_simp
        with_reducible rfl
       rotate_left
       ·
        simp only [Act.put, sA, sB, sC, i64_w, i32_w]
        rfl
       refine pure_ (i := 7) (N := some 123) (v := ?_) (a' := ?_) (bA 11 511) rfl rfl (any_of HT_.out (by kernel_rfl)) (fun _ _ _ h => h) (Or.inl ⟨by rfl, ?_⟩) ?_ ?_
       rotate_left
       ·
        intro w'
        go_simp
        with_reducible rfl
       rotate_left
       ·
        simp only [Act.put, sA, sB, sC, i64_w, i32_w]
        rfl
       exact norm_ (by simp only [putAll, Act.put, List.setIfInBounds_toArray, List.set_cons_zero, List.set_cons_succ]) (hCont (v208, gb211) _ ⟨hHeld, (by (with_reducible repeat (first | apply Kd.R_alloc | apply Kd.R_drewN | apply Kd.R_drew)); exact Kd.R_mono HO209.out (fun _ hk => hk.2)), (by (with_reducible repeat (first | apply Kd.V_alloc | apply Kd.V_drewN | apply Kd.V_drew)); exact Kd.V_mono HO_1.out (fun _ hk => ⟨hk.2, ⟨hk.1.1.1, ⟨hk.1.1.2.1, ⟨hk.1.1.2.2, hk.1.2⟩⟩⟩⟩)), (by (with_reducible repeat (first | apply Kd.V_alloc | apply Kd.V_drewN | apply Kd.V_drew)); exact Kd.V_mono HO_179003.out (fun _ hk => ⟨hk.2, ⟨hk.1.1.1, ⟨hk.1.1.2.1, ⟨hk.1.1.2.2, hk.1.2⟩⟩⟩⟩)), (by (with_reducible repeat (first | apply Kd.R_alloc | apply Kd.R_drewN | apply Kd.R_drew)); exact Kd.R_mono HO_196003.out (fun _ hk => hk.2)), (by (with_reducible repeat (first | refine bN20 ?_ _ | refine bD20 ?_ | refine bK20 ?_ _)); exact BK178.out), (by (with_reducible repeat (first | refine bN20 ?_ _ | refine bD20 ?_ | refine bK20 ?_ _)); exact BK195.out), (by (with_reducible repeat (first | refine bN20 ?_ _ | refine bD20 ?_ | refine bK20 ?_ _)); exact BK211.out), GW211.out, GE211.out, NB178_211.out, NB211_178.out, NB195_211.out, NB211_195.out, (by repeat (first | (with_reducible first | exact HB.out | apply below_alloc | apply pw_below_drewN | apply below_drew1 | refine below_set ?_ GE178.out | refine below_set ?_ GE195.out | refine below_set ?_ GE211.out) | exact HB.out))⟩)
      rintro ⟨v208, gb211⟩ w127 ⟨hS_, h0_, h1_, h2_, h3_, h4_, h5_, h6_, h7_, h8_, h9_, h10_, h11_, h12_, h13_⟩
      have n0_ : Aside0 (Kd.R (Kd.int .u8) 5 w127 w.heap.size (fun k_ => some k_ ≠ (.slice Ao19 t191.length co19 : Value).ownBlock) v208 t207) := ⟨h0_⟩
      have n1_ : Aside0 (Kd.V k23 23 w127 w.heap.size (fun k_ => some k_ ≠ (v208 : Value).ownBlock ∧ some k_ ≠ (.slice Ao19 t191.length co19 : Value).ownBlock ∧ k_ ≠ gb178 ∧ k_ ≠ gb195 ∧ k_ ≠ gb211) (.slice (some ad203) t185.length co14) t185) := ⟨h1_⟩
      have n2_ : Aside0 (Kd.V (Kd.int .u8) 5 w127 w.heap.size (fun k_ => some k_ ≠ (v208 : Value).ownBlock ∧ some k_ ≠ (.slice Ao19 t191.length co19 : Value).ownBlock ∧ k_ ≠ gb178 ∧ k_ ≠ gb195 ∧ k_ ≠ gb211) (.slice Ao12 t182.length co12) t182) := ⟨h2_⟩
      have n3_ : Aside0 (Kd.R (Kd.int .u8) 5 w127 w.heap.size (fun k_ => some k_ ≠ (v208 : Value).ownBlock) (.slice Ao19 t191.length co19) t191) := ⟨h3_⟩
      have n4_ : Aside0 (w127.heap[gb178]? = some (.cells #[.int .i64 t179, .int .i64 t180, .int .i64 t181, .slice Ao12 t182.length co12] 46 (0, 0))) := ⟨h4_⟩
      have n5_ : Aside0 (w127.heap[gb195]? = some (.cells #[.int .i64 t188, .int .i64 t189, .int .i64 t190, .slice Ao19 t191.length co19] 46 (0, 0))) := ⟨h5_⟩
      have n6_ : Aside0 (w127.heap[gb211]? = some (.cells #[.int .i64 0, .int .i64 0, .int .i64 0, .slice none 0 0] 46 (0, 0))) := ⟨h6_⟩
      have n7_ : Aside0 (w.heap.size ≤ gb211) := ⟨h7_⟩
      have n8_ : Aside0 (w.heap.size ≤ gb211) := ⟨h8_⟩
      have n9_ : Aside0 (gb178 ≠ gb211) := ⟨h9_⟩
      have n10_ : Aside0 (gb211 ≠ gb178) := ⟨h10_⟩
      have n11_ : Aside0 (gb195 ≠ gb211) := ⟨h11_⟩
      have n12_ : Aside0 (gb211 ≠ gb195) := ⟨h12_⟩
      have n13_ : Aside0 (Below w.heap.size w w127) := ⟨h13_⟩
      clear HO_1
      clear HO_179003
      clear HO_196003
      clear BK178
      clear BK195
      clear HB
      clear h0_ h1_ h2_ h3_ h4_ h5_ h6_ h7_ h8_ h9_ h10_ h11_ h12_ h13_
      have HO209 := n0_
      have HO_1 := n1_
      have HO_179003 := n2_
      have HO_196003 := n3_
      have BK178 := n4_
      have BK195 := n5_
      have BK211 := n6_
      have GW211 := n7_
      have GE211 := n8_
      have NB178_211 := n9_
      have NB211_178 := n10_
      have NB195_211 := n11_
      have NB211_195 := n12_
      have HB := n13_
      clear n0_ n1_ n2_ n3_ n4_ n5_ n6_ n7_ n8_ n9_ n10_ n11_ n12_ n13_
      have hHeld : w127.cell? ⟨gb178, 0, none⟩ = some (.int .i64 t179) ∧ w127.cell? ⟨gb178, 1, none⟩ = some (.int .i64 t180) ∧ w127.cell? ⟨gb178, 2, none⟩ = some (.int .i64 t181) ∧ w127.cell? ⟨gb178, 3, none⟩ = some (.slice Ao12 t182.length co12) ∧ w127.cell? ad203 = some (.int .i64 ((rd_T23 t185 0).f0)) ∧ w127.cell? ⟨ad203.block, ad203.off + 1, none⟩ = some (.int .i64 ((rd_T23 t185 0).f1)) ∧ w127.cell? ⟨ad203.block, ad203.off + 2, none⟩ = some (.int .i64 ((rd_T23 t185 0).f2)) ∧ w127.cell? ⟨ad203.block, ad203.off + 3, none⟩ = some (.int .i64 ((rd_T23 t185 0).f3)) := hS_
      obtain ⟨Ao131, co131, eo131⟩ := Kd.R_slice HO209.out
      (first | subst eo131 | (injection eo131 with f1_ f2_ f3_; have f4_ := f1_.symm; have f5_ := f3_.symm; clear f1_ f2_ f3_; subst f4_; subst f5_))
      refine norm_ (a' := ?_) ?_ ?_
      rotate_left
      ·
       simp only [putAll, Act.put, List.setIfInBounds_toArray, List.set_cons_zero, List.set_cons_succ]
       rfl
      refine one_ (i := 9) (N := none) (bA 11 1023) rfl rfl (one_of HT_.out (by kernel_rfl)) (by decide) (fun K hK => ?_)
      have hs128 : w127.cell? ⟨gb211, 0, none⟩ = some (.int .i64 0) := (bC20 BK211.out 0).trans rfl
      have hfs128 := bF20 BK211.out 0
      have hns128_0 := NB178_211.out
      have hns128_1 := NB195_211.out
      have hms128_0 := NB211_178.out
      have hms128_1 := NB211_195.out
      have hs129 : w127.cell? ⟨gb211, 1, none⟩ = some (.int .i64 0) := (bC20 BK211.out 1).trans rfl
      have hfs129 := bF20 BK211.out 1
      have hns129_0 := NB178_211.out
      have hns129_1 := NB195_211.out
      have hms129_0 := NB211_178.out
      have hms129_1 := NB211_195.out
      have hs130 : w127.cell? ⟨gb211, 2, none⟩ = some (.int .i64 0) := (bC20 BK211.out 2).trans rfl
      have hfs130 := bF20 BK211.out 2
      have hns130_0 := NB178_211.out
      have hns130_1 := NB195_211.out
      have hms130_0 := NB211_178.out
      have hms130_1 := NB211_195.out
      have hs132 : w127.cell? ⟨gb211, 3, none⟩ = some (.slice none 0 0) := (bC20 BK211.out 3).trans rfl
      have hfs132 := bF20 BK211.out 3
      have hns132_0 := NB178_211.out
      have hns132_1 := NB195_211.out
      have hms132_0 := NB211_178.out
      have hms132_1 := NB211_195.out
      refine skip_ (w1 := ?_) (by rfl) rfl ?_ ?_
      rotate_left
      ·
       go_simp
       rfl
      have hV_ := vN (g := gb211) HO_1.out (by have := of_eq_true q203; omega) (by decide) (fun _ hk => hk.2.2.2.2)
      refine hK.out _ _ ⟨((cell_far (p := ⟨gb211, _, none⟩) NB178_211.out _).trans (((cell_far (p := ⟨gb211, _, none⟩) NB178_211.out _).trans (((cell_far (p := ⟨gb211, _, none⟩) NB178_211.out _).trans (((cell_far (p := ⟨gb211, _, none⟩) NB178_211.out _).trans (hHeld.1)))))))), ((cell_far (p := ⟨gb211, _, none⟩) NB178_211.out _).trans (((cell_far (p := ⟨gb211, _, none⟩) NB178_211.out _).trans (((cell_far (p := ⟨gb211, _, none⟩) NB178_211.out _).trans (((cell_far (p := ⟨gb211, _, none⟩) NB178_211.out _).trans (hHeld.2.1)))))))), ((cell_far (p := ⟨gb211, _, none⟩) NB178_211.out _).trans (((cell_far (p := ⟨gb211, _, none⟩) NB178_211.out _).trans (((cell_far (p := ⟨gb211, _, none⟩) NB178_211.out _).trans (((cell_far (p := ⟨gb211, _, none⟩) NB178_211.out _).trans (hHeld.2.2.1)))))))), ((cell_far (p := ⟨gb211, _, none⟩) NB178_211.out _).trans (((cell_far (p := ⟨gb211, _, none⟩) NB178_211.out _).trans (((cell_far (p := ⟨gb211, _, none⟩) NB178_211.out _).trans (((cell_far (p := ⟨gb211, _, none⟩) NB178_211.out _).trans (hHeld.2.2.2.1)))))))), ((cell_far (p := ⟨gb211, _, none⟩) (by exact hV_) _).trans (((cell_far (p := ⟨gb211, _, none⟩) (by exact hV_) _).trans (((cell_far (p := ⟨gb211, _, none⟩) (by exact hV_) _).trans (((cell_far (p := ⟨gb211, _, none⟩) (by exact hV_) _).trans (hHeld.2.2.2.2.1)))))))), ((cell_far (p := ⟨gb211, _, none⟩) (by exact hV_) _).trans (((cell_far (p := ⟨gb211, _, none⟩) (by exact hV_) _).trans (((cell_far (p := ⟨gb211, _, none⟩) (by exact hV_) _).trans (((cell_far (p := ⟨gb211, _, none⟩) (by exact hV_) _).trans (hHeld.2.2.2.2.2.1)))))))), ((cell_far (p := ⟨gb211, _, none⟩) (by exact hV_) _).trans (((cell_far (p := ⟨gb211, _, none⟩) (by exact hV_) _).trans (((cell_far (p := ⟨gb211, _, none⟩) (by exact hV_) _).trans (((cell_far (p := ⟨gb211, _, none⟩) (by exact hV_) _).trans (hHeld.2.2.2.2.2.2.1)))))))), ((cell_far (p := ⟨gb211, _, none⟩) (by exact hV_) _).trans (((cell_far (p := ⟨gb211, _, none⟩) (by exact hV_) _).trans (((cell_far (p := ⟨gb211, _, none⟩) (by exact hV_) _).trans (((cell_far (p := ⟨gb211, _, none⟩) (by exact hV_) _).trans (hHeld.2.2.2.2.2.2.2))))))))⟩ (fun hHeld => ?_)
      clear hK K
      refine pure_ (i := 10) (N := some 10) (v := ?_) (a' := ?_) (bA 11 2047) rfl rfl (any_of HT_.out (by kernel_rfl)) (fun _ _ _ h => h) (Or.inl ⟨by rfl, ?_⟩) ?_ ?_
      rotate_left
      ·
       intro w'
       go_simp
       with_reducible rfl
      rotate_left
      ·
       simp only [Act.put, sA, sB, sC, i64_w, i32_w]
       rfl
      refine done_ (done_of HT_.out (by kernel_rfl)) ?_
      have hnb133 := NB195_211.out
      have hnc133 := NB211_195.out
      have hcz134_0 : w127.cell? ⟨gb195, 0, none⟩ = some (.int .i64 t188) := (bC20 BK195.out 0).trans rfl
      have hcz134_1 : w127.cell? ⟨gb195, 1, none⟩ = some (.int .i64 t189) := (bC20 BK195.out 1).trans rfl
      have hcz134_2 : w127.cell? ⟨gb195, 2, none⟩ = some (.int .i64 t190) := (bC20 BK195.out 2).trans rfl
      have hcz134_3 : w127.cell? ⟨gb195, 3, none⟩ = some (.slice Ao19 t191.length co19) := (bC20 BK195.out 3).trans rfl
      have hfz134_0 := bF20 BK195.out 0
      have hfz134_1 := bF20 BK195.out 1
      have hfz134_2 := bF20 BK195.out 2
      have hfz134_3 := bF20 BK195.out 3
      have hnb135 := NB211_178.out
      have hnc135 := NB178_211.out
      have hcz136_0 : w127.cell? ⟨gb211, 0, none⟩ = some (.int .i64 0) := (bC20 BK211.out 0).trans rfl
      have hcz136_1 : w127.cell? ⟨gb211, 1, none⟩ = some (.int .i64 0) := (bC20 BK211.out 1).trans rfl
      have hcz136_2 : w127.cell? ⟨gb211, 2, none⟩ = some (.int .i64 0) := (bC20 BK211.out 2).trans rfl
      have hcz136_3 : w127.cell? ⟨gb211, 3, none⟩ = some (.slice none 0 0) := (bC20 BK211.out 3).trans rfl
      have hfz136_0 := bF20 BK211.out 0
      have hfz136_1 := bF20 BK211.out 1
      have hfz136_2 := bF20 BK211.out 2
      have hfz136_3 := bF20 BK211.out 3
      try go_wp2_with (first | ((with_reducible refine gate_callee (f := 28) rfl ?_); refine goesL_ (some 126) rfl rfl Try.func28 (by kernel_rfl) rfl #[.agg #[.int .i64 t188, .int .i64 t189, .int .i64 t190, .slice Ao19 t191.length co19], .agg #[.int .i64 t204, .int .i64 t205, .int .i64 t206, .slice Ao131 t207.length co131]] rfl (by (try simp only [List.map_toArray, List.map_cons, List.map_nil]); first | done | rfl | (simp only [List.length_drop, List.length_take]; rfl)) ?_; (with_reducible refine (bivouacref06_Same.calls t188 t189 t190 _ _ t191 t204 t205 t206 _ _ t207 false _ ?side1 ?side2 ?side3 ?side4 A85.out).mono ?_); (case side1 => refine (Kd.R_reads' (e := 5) (base := w.heap.size) (ok := fun k_ => some k_ ≠ (.slice Ao131 t207.length co131 : Value).ownBlock) (n := t191.length) (c := co19) ?_).2.2; exact (by (with_reducible repeat (first | apply Kd.R_alloc | apply Kd.R_drewN | apply Kd.R_drew)); exact (Kd.R_mono (Kd.R_far (p := ⟨gb211, 3, none⟩) (Kd.R_far (p := ⟨gb211, 2, none⟩) (Kd.R_far (p := ⟨gb211, 1, none⟩) (Kd.R_far (p := ⟨gb211, 0, none⟩) (Kd.R_types HO_196003.out BK211.out (by decide)) (fun _ hk => hk.2) (.int .i64 t204)) (fun _ hk => hk.2) (.int .i64 t205)) (fun _ hk => hk.2) (.int .i64 t206)) (fun _ hk => hk.2) (.slice Ao131 t207.length co131)) (fun _ h_ => h_.1)))); (case side2 => exact (Kd.R_reads' HO_196003.out).2.1); (case side3 => refine (Kd.R_reads' (e := 5) (base := w.heap.size) (ok := fun k_ => some k_ ≠ (.slice Ao19 t191.length co19 : Value).ownBlock) (n := t207.length) (c := co131) ?_).2.2; exact (by (with_reducible repeat (first | apply Kd.R_alloc | apply Kd.R_drewN | apply Kd.R_drew)); exact (Kd.R_mono (Kd.R_far (p := ⟨gb211, 3, none⟩) (Kd.R_far (p := ⟨gb211, 2, none⟩) (Kd.R_far (p := ⟨gb211, 1, none⟩) (Kd.R_far (p := ⟨gb211, 0, none⟩) (Kd.R_types HO209.out BK211.out (by decide)) (fun _ hk => hk.2) (.int .i64 t204)) (fun _ hk => hk.2) (.int .i64 t205)) (fun _ hk => hk.2) (.int .i64 t206)) (fun _ hk => hk.2) (.slice Ao131 t207.length co131)) (fun _ h_ => h_.1)))); (case side4 => exact (Kd.R_reads' HO209.out).2.1); rintro e w137 ⟨rfl, hb⟩; refine ⟨_, rfl, ?_⟩; have n0_ := aM20 (Kd.V_below (by (with_reducible repeat (first | apply Kd.V_alloc | apply Kd.V_drewN | apply Kd.V_drew)); exact (Kd.V_mono (Kd.V_far (p := ⟨gb211, 3, none⟩) (Kd.V_far (p := ⟨gb211, 2, none⟩) (Kd.V_far (p := ⟨gb211, 1, none⟩) (Kd.V_far (p := ⟨gb211, 0, none⟩) (Kd.V_mono HO_1.out (fun k_ hk => (⟨hk, hk.2.2.2.2⟩ : _ ∧ k_ ≠ gb211))) (fun _ hk => hk.2) (.int .i64 t204)) (fun _ hk => hk.2) (.int .i64 t205)) (fun _ hk => hk.2) (.int .i64 t206)) (fun _ hk => hk.2) (.slice Ao131 t207.length co131)) (fun _ h_ => h_.1))) hb); have n1_ := aM20 (Kd.V_below (by (with_reducible repeat (first | apply Kd.V_alloc | apply Kd.V_drewN | apply Kd.V_drew)); exact (Kd.V_mono (Kd.V_far (p := ⟨gb211, 3, none⟩) (Kd.V_far (p := ⟨gb211, 2, none⟩) (Kd.V_far (p := ⟨gb211, 1, none⟩) (Kd.V_far (p := ⟨gb211, 0, none⟩) (Kd.V_mono HO_179003.out (fun k_ hk => (⟨hk, hk.2.2.2.2⟩ : _ ∧ k_ ≠ gb211))) (fun _ hk => hk.2) (.int .i64 t204)) (fun _ hk => hk.2) (.int .i64 t205)) (fun _ hk => hk.2) (.int .i64 t206)) (fun _ hk => hk.2) (.slice Ao131 t207.length co131)) (fun _ h_ => h_.1))) hb); have n2_ := aM20 (Kd.R_below (by (with_reducible repeat (first | apply Kd.R_alloc | apply Kd.R_drewN | apply Kd.R_drew)); exact (Kd.R_mono (Kd.R_far (p := ⟨gb211, 3, none⟩) (Kd.R_far (p := ⟨gb211, 2, none⟩) (Kd.R_far (p := ⟨gb211, 1, none⟩) (Kd.R_far (p := ⟨gb211, 0, none⟩) (Kd.R_types HO_196003.out BK211.out (by decide)) (fun _ hk => hk.2) (.int .i64 t204)) (fun _ hk => hk.2) (.int .i64 t205)) (fun _ hk => hk.2) (.int .i64 t206)) (fun _ hk => hk.2) (.slice Ao131 t207.length co131)) (fun _ h_ => h_.1))) hb); have n3_ := aM20 (Kd.R_below (by (with_reducible repeat (first | apply Kd.R_alloc | apply Kd.R_drewN | apply Kd.R_drew)); exact (Kd.R_mono (Kd.R_far (p := ⟨gb211, 3, none⟩) (Kd.R_far (p := ⟨gb211, 2, none⟩) (Kd.R_far (p := ⟨gb211, 1, none⟩) (Kd.R_far (p := ⟨gb211, 0, none⟩) (Kd.R_types HO209.out BK211.out (by decide)) (fun _ hk => hk.2) (.int .i64 t204)) (fun _ hk => hk.2) (.int .i64 t205)) (fun _ hk => hk.2) (.int .i64 t206)) (fun _ hk => hk.2) (.slice Ao131 t207.length co131)) (fun _ h_ => h_.1))) hb); have n4_ := aM20 (blk_below (g := gb178) (o := .cells #[.int .i64 t179, .int .i64 t180, .int .i64 t181, .slice Ao12 t182.length co12] 46 (0, 0)) (by (with_reducible repeat (first | refine bN20 ?_ _ | refine bD20 ?_ | refine bK20 ?_ _)); refine blk_far ?_ NB178_211.out _; (with_reducible repeat (first | refine bN20 ?_ _ | refine bD20 ?_ | refine bK20 ?_ _)); refine blk_far ?_ NB178_211.out _; (with_reducible repeat (first | refine bN20 ?_ _ | refine bD20 ?_ | refine bK20 ?_ _)); refine blk_far ?_ NB178_211.out _; (with_reducible repeat (first | refine bN20 ?_ _ | refine bD20 ?_ | refine bK20 ?_ _)); refine blk_far ?_ NB178_211.out _; (with_reducible repeat (first | refine bN20 ?_ _ | refine bD20 ?_ | refine bK20 ?_ _)); exact BK178.out) hb); have n5_ := aM20 (blk_below (g := gb195) (o := .cells #[.int .i64 t188, .int .i64 t189, .int .i64 t190, .slice Ao19 t191.length co19] 46 (0, 0)) (by (with_reducible repeat (first | refine bN20 ?_ _ | refine bD20 ?_ | refine bK20 ?_ _)); refine blk_far ?_ NB195_211.out _; (with_reducible repeat (first | refine bN20 ?_ _ | refine bD20 ?_ | refine bK20 ?_ _)); refine blk_far ?_ NB195_211.out _; (with_reducible repeat (first | refine bN20 ?_ _ | refine bD20 ?_ | refine bK20 ?_ _)); refine blk_far ?_ NB195_211.out _; (with_reducible repeat (first | refine bN20 ?_ _ | refine bD20 ?_ | refine bK20 ?_ _)); refine blk_far ?_ NB195_211.out _; (with_reducible repeat (first | refine bN20 ?_ _ | refine bD20 ?_ | refine bK20 ?_ _)); exact BK195.out) hb); have n6_ := aM20 (blk_below (g := gb211) (o := .cells #[.int .i64 t204, .int .i64 t205, .int .i64 t206, .slice Ao131 t207.length co131] 46 (0, 0)) (by (with_reducible repeat (first | refine bN20 ?_ _ | refine bD20 ?_ | refine bK20 ?_ _)); refine blk_put (cs := #[.int .i64 t204, .int .i64 t205, .int .i64 t206, .slice none 0 0]) ?_ 3 _ rfl; (with_reducible repeat (first | refine bN20 ?_ _ | refine bD20 ?_ | refine bK20 ?_ _)); refine blk_put (cs := #[.int .i64 t204, .int .i64 t205, .int .i64 0, .slice none 0 0]) ?_ 2 _ rfl; (with_reducible repeat (first | refine bN20 ?_ _ | refine bD20 ?_ | refine bK20 ?_ _)); refine blk_put (cs := #[.int .i64 t204, .int .i64 0, .int .i64 0, .slice none 0 0]) ?_ 1 _ rfl; (with_reducible repeat (first | refine bN20 ?_ _ | refine bD20 ?_ | refine bK20 ?_ _)); refine blk_put (cs := #[.int .i64 0, .int .i64 0, .int .i64 0, .slice none 0 0]) ?_ 0 _ rfl; (with_reducible repeat (first | refine bN20 ?_ _ | refine bD20 ?_ | refine bK20 ?_ _)); exact BK211.out) hb); have n7_ := aM20 (below_step (by repeat (first | (with_reducible first | exact HB.out | apply below_alloc | apply pw_below_drewN | apply below_drew1 | refine below_set ?_ GE178.out | refine below_set ?_ GE195.out | refine below_set ?_ GE211.out) | exact HB.out)) hb); clear HO_1; clear HO_179003; clear HO_196003; clear HO209; clear BK178; clear BK195; clear BK211; clear HB; have HO_1 := n0_; have HO_179003 := n1_; have HO_196003 := n2_; have HO209 := n3_; have BK178 := n4_; have BK195 := n5_; have BK211 := n6_; have HB := n7_; clear n0_ n1_ n2_ n3_ n4_ n5_ n6_ n7_; (try clear hb); (try clear hb2); (try clear hk); (try clear hi)))
      go_ret
      exact ⟨by first | rfl | (simp [errW_none, errW_some] <;> rfl) | (simp [*, errW_none, errW_some] <;> rfl) | (rw [Int.tdiv_eq_ediv_of_nonneg (by assumption)]; rfl), by repeat (first | (with_reducible first | exact HB.out | apply below_alloc | apply pw_below_drewN | apply below_drew1 | refine below_set ?_ GE178.out | refine below_set ?_ GE195.out | refine below_set ?_ GE211.out) | exact HB.out)⟩
     rw [if_neg c83] at H
     exact absurd H (by simp)
    rw [if_neg c82] at H
    have c82b0 : ((t185.length : Int) == 1) = false := beq_eq_false_iff_ne.mpr c82
    have c82b1 : ((t185.length : Int) != 1) = true := bne_iff_ne.mpr c82
    replace H := Option.bind_eq_some_iff.mp H
    obtain ⟨t214, A1380, H⟩ := H
    replace H : (some t214) = some r := H
    have A138 := aM20 A1380
    clear A1380
    obtain rfl := Option.some.inj H
    have hnb139 := NB178_195.out
    have hnc139 := NB195_178.out
    have hcz140_0 : wr.cell? ⟨gb178, 0, none⟩ = some (.int .i64 t179) := (bC20 BK178.out 0).trans rfl
    have hcz140_1 : wr.cell? ⟨gb178, 1, none⟩ = some (.int .i64 t180) := (bC20 BK178.out 1).trans rfl
    have hcz140_2 : wr.cell? ⟨gb178, 2, none⟩ = some (.int .i64 t181) := (bC20 BK178.out 2).trans rfl
    have hcz140_3 : wr.cell? ⟨gb178, 3, none⟩ = some (.slice Ao12 t182.length co12) := (bC20 BK178.out 3).trans rfl
    have hfz140_0 := bF20 BK178.out 0
    have hfz140_1 := bF20 BK178.out 1
    have hfz140_2 := bF20 BK178.out 2
    have hfz140_3 := bF20 BK178.out 3
    go_wp2_with (first | ((with_reducible refine gate_callee (f := 17) rfl ?_); refine goesL_ (some 134) rfl rfl Try.func17 (by kernel_rfl) rfl #[] rfl (by (try simp only [List.map_toArray, List.map_cons, List.map_nil]); first | done | rfl | (simp only [List.length_drop, List.length_take]; rfl)) ?_; (with_reducible refine (bivouaclaw09_awake.calls  t214 _ A138.out).mono ?_); rintro e w141 ⟨rfl, hb⟩; refine ⟨_, rfl, ?_⟩; have n0_ := aM20 (Kd.V_below (by (with_reducible repeat (first | apply Kd.V_alloc | apply Kd.V_drewN | apply Kd.V_drew)); exact HO_1.out) hb); have n1_ := aM20 (Kd.V_below (by (with_reducible repeat (first | apply Kd.V_alloc | apply Kd.V_drewN | apply Kd.V_drew)); exact HO_179003.out) hb); have n2_ := aM20 (Kd.R_below (by (with_reducible repeat (first | apply Kd.R_alloc | apply Kd.R_drewN | apply Kd.R_drew)); exact HO_196003.out) hb); have n3_ := aM20 (blk_below (g := gb178) (o := .cells #[.int .i64 t179, .int .i64 t180, .int .i64 t181, .slice Ao12 t182.length co12] 46 (0, 0)) (by (with_reducible repeat (first | refine bN20 ?_ _ | refine bD20 ?_ | refine bK20 ?_ _)); exact BK178.out) hb); have n4_ := aM20 (blk_below (g := gb195) (o := .cells #[.int .i64 t188, .int .i64 t189, .int .i64 t190, .slice Ao19 t191.length co19] 46 (0, 0)) (by (with_reducible repeat (first | refine bN20 ?_ _ | refine bD20 ?_ | refine bK20 ?_ _)); exact BK195.out) hb); have n5_ := aM20 (below_step (by repeat (first | (with_reducible first | exact HB.out | apply below_alloc | apply pw_below_drewN | apply below_drew1 | refine below_set ?_ GE178.out | refine below_set ?_ GE195.out) | exact HB.out)) hb); clear HO_1; clear HO_179003; clear HO_196003; clear BK178; clear BK195; clear HB; have HO_1 := n0_; have HO_179003 := n1_; have HO_196003 := n2_; have BK178 := n3_; have BK195 := n4_; have HB := n5_; clear n0_ n1_ n2_ n3_ n4_ n5_; (try clear hb); (try clear hb2); (try clear hk); (try clear hi)))
    go_ret
    exact ⟨by first | rfl | (simp [errW_none, errW_some] <;> rfl) | (simp [*, errW_none, errW_some] <;> rfl) | (rw [Int.tdiv_eq_ediv_of_nonneg (by assumption)]; rfl), by repeat (first | (with_reducible first | exact HB.out | apply below_alloc | apply pw_below_drewN | apply below_drew1 | refine below_set ?_ GE178.out | refine below_set ?_ GE195.out) | exact HB.out)⟩

/-- THE ONE PURE STATEMENT of bivouaclaw09_CraterStrikes. -/
def bivouaclaw09_CraterStrikes.Pure : Prop := ∀ (a0_0 : Int) (a0_1 : Int) (a0_2 : Int) (l0_3 : List Int) (l1 : List (S23)), (Lit.int .i64 a0_0).wf = true → (Lit.int .i64 a0_1).wf = true → (Lit.int .i64 a0_2).wf = true → l0_3.length ≤ maxLen → (∀ x ∈ l0_3, (Lit.int .u8 x).wf = true) → l1.length ≤ maxLen → (∀ x ∈ l1, (Lit.int .i64 x.f0).wf = true ∧ (Lit.int .i64 x.f1).wf = true ∧ (Lit.int .i64 x.f2).wf = true ∧ (Lit.int .i64 x.f3).wf = true) → ∃ k, bivouaclaw09_CraterStrikes.f k a0_0 a0_1 a0_2 l0_3 l1 = some true
theorem bivouaclaw09_CraterStrikes.walked : True := trivial

end Go.Proofs.Ytlhcakepaaeaoaa.PCr
