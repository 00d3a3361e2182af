/- Whatever shot is told for a place bursts in its cell, and with a splash of two cells does at least half of its damage to whoever stands there; the table of sines is the one that the program lays: no condition beside what the card says. -/
-- WRITTEN BY A PROGRAM OF THIS SESSION (a turned copy of the kit's printer), for this claim. Nothing here is trusted: Lean checks it.
import Derived.Test.YtdmmlidgipedaaaDoorRows
import Derived.Test.YtdmmlidgipedaaaDoorPAx30
import Derived.Test.YtdmmlidgipedaaaDoorPureBivouacGuns
import Derived.Test.YtdmmlidgipedaaaDoorRd
import Derived.WalkKit
import Derived.ProofKit
import Derived.OpenShut
import Derived.ShutString
import Derived.ChangeOld
import Derived.Below
import Derived.SizedLaws
import Derived.Test.YtdmmlidgipedaaaDoorWSized
import Derived.LaidMore
import Derived.LaidHandle
import Derived.MakeChecks
import Derived.Test.YtdmmlidgipedaaaDoorTie
import Derived.Test.YtdmmlidgipedaaaDoorCards
import Derived.SevenTiedAt
namespace Go.Proofs.YtdmmlidgipedaaaDoor.bivouacGuns
open Go.ChangeShapes Go.WideShapes Go.ChangeAt Go.RowKit
open Go.ChangeMaps (open_string shut_string)
open Go.Proofs.YtdmmlidgipedaaaDoor.PA Go.Proofs.YtdmmlidgipedaaaDoorW.PrintWords
set_option linter.unusedVariables false
set_option linter.unusedSimpArgs false
theorem own : ownKnob Tryd.prog.godebug = none := by kernel_rfl
theorem laidOut : laidOutB Tryd.prog = true := by kernel_rfl
abbrev tab {H : Type} : List (String × DataW H) := [("bivouac/trig.sines", Rows.laid_bivouac_trig_sines)]
theorem gSines : Tryd.prog.globalNamed "bivouac/trig.sines" = some 0 := by kernel_rfl
theorem tSines : (Tryd.prog.globals[0]?).map (·.type) = some 69 := by kernel_rfl
theorem cSines : Tryd.prog.cellsOf 21 = 1 := by kernel_rfl
theorem dSines {H : Type} : (Rows.laid_bivouac_trig_sines : DataW H) = .agg (sines.map fun x => .lit (.int .i32 x)) := rfl
/-- What the condition gives the walk: the table's cells. -/
theorem of_laid {W : World} (h : laidMetH Tryd.prog tab W) : TB W := by
  rw [MakeChecks.laidMetH_plain _ _ _ (by kernel_rfl)] at h
  obtain ⟨ps, ⟨g0, t0, cs0, f0, p0, q0, hg0, ht0, hv0, hd0, _, _⟩, _, _⟩ := h
  obtain rfl := Option.some.inj (gSines.symm.trans hg0)
  obtain rfl := Option.some.inj (tSines.symm.trans ht0)
  obtain ⟨xs, m1, rfl, hx1, hlen, hn, hel⟩ := DataW.trod_array Tryd.underlying69 hd0
  rw [dSines] at hx1
  simp only [Prod.mk.injEq, DataW.agg.injEq] at hx1
  refine ⟨fun i x hx => ?_⟩
  have hi : i < 65 := by
    have h := (List.getElem?_eq_some_iff.1 hx).1
    exact h
  have e : (xs.map (·.1))[i]? = some (.lit (.int .i32 x)) := by rw [← hx1.1, List.getElem?_map, hx]; rfl
  rw [List.getElem?_map] at e
  obtain ⟨y, hy, ey⟩ := Option.map_eq_some_iff.1 e
  have h0 := (hel i hi).trans hy
  obtain ⟨k, e1, e2, _⟩ := DataW.trod_int Tryd.underlying21 h0
  rw [e2] at ey
  obtain rfl : k = x := by simpa using ey
  rw [cSines, Nat.mul_one] at e1
  have hc := World.var?_cell hg0 hv0 i
  have e3 : cs0.toList[i]? = some (.int .i32 k) := by
    have h := congrArg (fun l => l[0]?) e1
    simpa [List.getElem?_take, List.getElem?_drop] using h
  rw [hc]
  simpa using e3
/-- The heap that the program's own laying of its variables leaves meets the condition. -/
theorem door_met (os : Os) (args : Array Value) : laidMetH Tryd.prog tab ((World.doorLaid Tryd.prog 400 os).forCall (fun _ _ => 0) ⟨#[], args, []⟩).memory :=
  laidMetH_of_parts3 (fuel := 8) (laidMet_of_run' 8 (by kernel_rfl) (by kernel_rfl)) (by kernel_rfl) (by kernel_rfl)
set_option maxRecDepth 100000 in
set_option maxHeartbeats 1000000 in
theorem lifted (os : Os) (started : os.Started) (H : Type) (enc : TypeId × Value → H) :
    ReturnsInHanded {} Tryd.checked os 3 .any (fun w args => (Rows.bivouacGunsSpec.pre enc Tryd.prog Tryd.f3 [] false w args ∧ laidMetH Tryd.prog tab w) ∧ sizedMet enc Tryd.prog Tryd.f3 (OpenSpec.ofChange Rows.bivouacGunsSpec) false w args) (Rows.bivouacGunsSpec.post enc Tryd.prog Tryd.f3 false true false false) := by
  refine returnsInHanded_of_change_and (C := Tryd.checked) (X := fun w _ => laidMetH Tryd.prog tab w) (fun _ _ _ hh h => h.of_heap hh) own started (by kernel_rfl) Tryd.func3
    (ChangeSpec.witness_shaped (enc := enc) (C := Tryd.checked) (os := os) (X := fun w _ => laidMetH Tryd.prog tab w) false (World.doorLaid Tryd.prog 400 os) #[.agg #[.int .i64 0, .int .i64 0, .int .i64 0, .slice none 0 0, .int .i64 0, .int .i64 0, .int .i64 0, .int .i64 0, .int .i64 0, .int .i64 0, .int .i64 0, .int .i64 0, .int .i64 0, .int .i64 0, .int .u16 0, .int .u16 0]] 8 rfl (World.shaped_of_RefB (by kernel_rfl) (by kernel_rfl)) (by kernel_rfl) (by kernel_rfl) (by kernel_rfl) (door_met os _)) ?_
  intro W base args ds gs before hval0 hW hcnd hsz0 hL _
  have hsz : (DataW.weightsEach Tryd.prog (Tryd.f3.params.toList ++ Rows.bivouacGunsSpec.plain.varTypes Tryd.prog) (ds ++ gs)).all (· ≤ reachBytes) = true := hsz0
  have hval : ∀ (j : Nat) t v, Tryd.f3.params[j]? = some t → args[j]? = some v → Value.okWide Tryd.prog W .any base t v := hval0
  have hW' := hW
  obtain ⟨p, q, hA0, hV, rfl, hfz, hnd⟩ := hW
  have hA : DataW.TrodAll enc Tryd.prog W 0 (fun _ => true) true Tryd.f3.params.toList args.toList ds p := hA0
  rw [Tryd.params3] at hA hval hsz
  obtain ⟨v0, vs0, d0, ds0, p0, q0, hargs, rfl, rfl, h0, r0⟩ := trodAll_cons hA
  obtain ⟨rfl, rfl, rfl⟩ := trodAll_nil r0
  obtain rfl : args = #[v0] := by cases args; simp_all
  obtain ⟨rfl, rfl⟩ := trodVars_none hV
  have k0 := h0
  have lt0 : ∀ x ∈ p0, x.block < W.heap.size := by obtain ⟨m, hm⟩ := k0; exact DataW.trod_lt m _ _ _ hm
  obtain ⟨cs0, x0, rfl, hK0, hG0⟩ := Rd.open_agg Tryd.underlying29 (Rd.Reads.struct (total := 16) Tryd.underlying29 (by kernel_rfl) (Rd.ReadsF.cons (off := 0) (total := 16) (s := 4) (Rd.Reads.struct (total := 4) Tryd.underlying24 (by kernel_rfl) (Rd.ReadsF.cons (off := 0) (total := 4) (s := 1) (Rd.Reads.int Tryd.underlying3) rfl (by kernel_rfl) (Rd.ReadsF.cons (off := 1) (total := 4) (s := 1) (Rd.Reads.int Tryd.underlying3) rfl (by kernel_rfl) (Rd.ReadsF.cons (off := 2) (total := 4) (s := 1) (Rd.Reads.int Tryd.underlying3) rfl (by kernel_rfl) (Rd.ReadsF.one (off := 3) (total := 4) (Rd.Reads.slice Tryd.underlying22 (by kernel_rfl) (Rd.Reads.int Tryd.underlying5)) rfl (by kernel_rfl)))))) rfl (by kernel_rfl) (Rd.ReadsF.cons (off := 4) (total := 16) (s := 6) (Rd.Reads.struct (total := 6) Tryd.underlying26 (by kernel_rfl) (Rd.ReadsF.cons (off := 0) (total := 6) (s := 1) (Rd.Reads.int Tryd.underlying2) rfl (by kernel_rfl) (Rd.ReadsF.cons (off := 1) (total := 6) (s := 1) (Rd.Reads.int Tryd.underlying2) rfl (by kernel_rfl) (Rd.ReadsF.cons (off := 2) (total := 6) (s := 1) (Rd.Reads.int Tryd.underlying2) rfl (by kernel_rfl) (Rd.ReadsF.cons (off := 3) (total := 6) (s := 1) (Rd.Reads.int Tryd.underlying2) rfl (by kernel_rfl) (Rd.ReadsF.cons (off := 4) (total := 6) (s := 1) (Rd.Reads.int Tryd.underlying2) rfl (by kernel_rfl) (Rd.ReadsF.one (off := 5) (total := 6) (Rd.Reads.int Tryd.underlying2) rfl (by kernel_rfl)))))))) rfl (by kernel_rfl) (Rd.ReadsF.cons (off := 10) (total := 16) (s := 1) (Rd.Reads.int Tryd.underlying2) rfl (by kernel_rfl) (Rd.ReadsF.cons (off := 11) (total := 16) (s := 1) (Rd.Reads.int Tryd.underlying2) rfl (by kernel_rfl) (Rd.ReadsF.cons (off := 12) (total := 16) (s := 1) (Rd.Reads.int Tryd.underlying2) rfl (by kernel_rfl) (Rd.ReadsF.cons (off := 13) (total := 16) (s := 1) (Rd.Reads.int Tryd.underlying3) rfl (by kernel_rfl) (Rd.ReadsF.cons (off := 14) (total := 16) (s := 1) (Rd.Reads.int Tryd.underlying27) rfl (by kernel_rfl) (Rd.ReadsF.one (off := 15) (total := 16) (Rd.Reads.int Tryd.underlying27) rfl (by kernel_rfl)))))))))) (hval 0 29 v0 rfl rfl) h0
  obtain ⟨⟨a0_0, a0_1, a0_2, l0_3⟩, ⟨a0_4, a0_5, a0_6, a0_7, a0_8, a0_9⟩, a0_10, a0_11, a0_12, a0_13, a0_14, a0_15⟩ := x0
  obtain ⟨b0_1, r0_1, w0_1, k0_1, m0_1⟩ := hK0
  have W0_1 := w0_1
  obtain ⟨b0_2, r0_2, w0_2, k0_2, m0_2⟩ := k0_1
  subst w0_2
  have e0_0 : b0_2 = [.int .i64 a0_0] := k0_2
  subst e0_0
  obtain ⟨b0_3, r0_3, w0_3, k0_3, m0_3⟩ := m0_2
  subst w0_3
  have e0_1 : b0_3 = [.int .i64 a0_1] := k0_3
  subst e0_1
  obtain ⟨b0_4, r0_4, w0_4, k0_4, m0_4⟩ := m0_3
  subst w0_4
  have e0_2 : b0_4 = [.int .i64 a0_2] := k0_4
  subst e0_2
  obtain ⟨A0_3, c0_3, e0_3, hc0_3, hr0_3⟩ := m0_4
  subst e0_3
  obtain ⟨b0_5, r0_5, w0_5, k0_5, m0_5⟩ := m0_1
  subst w0_5
  obtain ⟨b0_6, r0_6, w0_6, k0_6, m0_6⟩ := k0_5
  subst w0_6
  have e0_4 : b0_6 = [.int .i64 a0_4] := k0_6
  subst e0_4
  obtain ⟨b0_7, r0_7, w0_7, k0_7, m0_7⟩ := m0_6
  subst w0_7
  have e0_5 : b0_7 = [.int .i64 a0_5] := k0_7
  subst e0_5
  obtain ⟨b0_8, r0_8, w0_8, k0_8, m0_8⟩ := m0_7
  subst w0_8
  have e0_6 : b0_8 = [.int .i64 a0_6] := k0_8
  subst e0_6
  obtain ⟨b0_9, r0_9, w0_9, k0_9, m0_9⟩ := m0_8
  subst w0_9
  have e0_7 : b0_9 = [.int .i64 a0_7] := k0_9
  subst e0_7
  obtain ⟨b0_10, r0_10, w0_10, k0_10, m0_10⟩ := m0_9
  subst w0_10
  have e0_8 : b0_10 = [.int .i64 a0_8] := k0_10
  subst e0_8
  have e0_9 : r0_10 = [.int .i64 a0_9] := m0_10
  subst e0_9
  obtain ⟨b0_11, r0_11, w0_11, k0_11, m0_11⟩ := m0_5
  subst w0_11
  have e0_10 : b0_11 = [.int .i64 a0_10] := k0_11
  subst e0_10
  obtain ⟨b0_12, r0_12, w0_12, k0_12, m0_12⟩ := m0_11
  subst w0_12
  have e0_11 : b0_12 = [.int .i64 a0_11] := k0_12
  subst e0_11
  obtain ⟨b0_13, r0_13, w0_13, k0_13, m0_13⟩ := m0_12
  subst w0_13
  have e0_12 : b0_13 = [.int .i64 a0_12] := k0_13
  subst e0_12
  obtain ⟨b0_14, r0_14, w0_14, k0_14, m0_14⟩ := m0_13
  subst w0_14
  have e0_13 : b0_14 = [.int .i64 a0_13] := k0_14
  subst e0_13
  obtain ⟨b0_15, r0_15, w0_15, k0_15, m0_15⟩ := m0_14
  subst w0_15
  have e0_14 : b0_15 = [.int .u16 a0_14] := k0_15
  subst e0_14
  have e0_15 : r0_15 = [.int .u16 a0_15] := m0_15
  subst e0_15
  obtain rfl : cs0 = #[.int .i64 a0_0, .int .i64 a0_1, .int .i64 a0_2, .slice A0_3 l0_3.length c0_3, .int .i64 a0_4, .int .i64 a0_5, .int .i64 a0_6, .int .i64 a0_7, .int .i64 a0_8, .int .i64 a0_9, .int .i64 a0_10, .int .i64 a0_11, .int .i64 a0_12, .int .i64 a0_13, .int .u16 a0_14, .int .u16 a0_15] := Array.toList_inj.1 W0_1
  clear hA0 hval0 hsz0 hsz
  obtain ⟨k, hk⟩ := Pure.BivouacGuns a0_0 a0_1 a0_2 l0_3 a0_4 a0_5 a0_6 a0_7 a0_8 a0_9 a0_10 a0_11 a0_12 a0_13 a0_14 a0_15 (hG0.1.1) (hG0.1.2.1) (hG0.1.2.2.1) (hG0.1.2.2.2).1 (hG0.1.2.2.2).2 (hG0.2.1.1) (hG0.2.1.2.1) (hG0.2.1.2.2.1) (hG0.2.1.2.2.2.1) (hG0.2.1.2.2.2.2.1) (hG0.2.1.2.2.2.2.2) (hG0.2.2.1) (hG0.2.2.2.1) (hG0.2.2.2.2.1) (hG0.2.2.2.2.2.1) (hG0.2.2.2.2.2.2.1) (hG0.2.2.2.2.2.2.2)
  refine (bivouactop_BivouacGuns.calls (k := k) (w := W) (hr0_3 := hr0_3) (hT := of_laid hL) (hc0_3 := hc0_3) (h := hk)).mono ?_
  rintro e W' ⟨he, bel⟩
  subst he
  exact ⟨_, rfl, _, _, _, [], _, [], hW', trodAll_mk1 (shut_bool Tryd.underlying4 _), (trodAll_cons_mk (Below.trod laidOut (by kernel_rfl) (of_decide_eq_true (by kernel_rfl)) k0 bel lt0) trodAll_mk0), by first | rfl | (simp; done), bel.frame _, fun h => by cases h⟩
theorem over : Rows.bivouacGunsRow.holds Tryd.pinned (OpenSpec.ofChange Rows.bivouacGunsSpec) :=
  OpenClaim.holds_of_wide 3 Tryd.f3 rfl rfl rfl rfl rfl rfl rfl ⟨rfl, rfl, rfl, rfl, rfl⟩ rfl rfl rfl rfl rfl (by kernel_rfl) Tryd.func3 (by kernel_rfl)
    (of_decide_eq_true (by kernel_rfl)) (by unfold Func.isWrapper; first | (rw [if_pos (by decide +kernel)]; kernel_rfl) | (rw [if_neg (by decide +kernel)]; exact ⟨rfl, rfl⟩))
    (fun os started H enc _ => lifted os started H enc)
theorem proved : Rows.BivouacGunsSaid := over
#print axioms proved
end Go.Proofs.YtdmmlidgipedaaaDoor.bivouacGuns
namespace Go.Proofs.YtdmmlidgipedaaaDoor
/-- The row, under a short name, for the claim. -/
theorem bivouacGuns_holds : Rows.BivouacGunsSaid := bivouacGuns.proved
theorem bivouacGuns_card : Rows.BivouacGunsCardSaid :=
  Claim7.holds_tied_plain_at .later [] [.data] true (true, "6f24475ed9df9cabb41411ca4e484a460ee8ae6d8eefb669a597af09d62bafea") false
    bivouacGuns_holds (fun _ h => by cases h) (by kernel_rfl) (fun _ h => by cases h) bivouacGuns_row_tie rfl ⟨rfl, rfl⟩ (by kernel_rfl) rfl
    (fun f fn hf hfn => by
      obtain rfl : f = 3 := Option.some.inj ((show Tryd.prog.funcNamed "bivouac/bivouactop.BivouacGuns" = some 3 by kernel_rfl).symm.trans hf) |>.symm
      obtain rfl : fn = Tryd.f3 := (Option.some.inj (Tryd.func3.symm.trans hfn)).symm
      exact ⟨by kernel_rfl, fun j t ht => by
        rw [Tryd.params3] at ht
        have hm : t ∈ [29] := by simpa using Array.mem_of_getElem? ht
        have hall : ([29].all fun u => !Tryd.prog.wantsStandIn u) = true := by kernel_rfl
        exact (show Tryd.prog.wantsStandIn t = false by simpa using List.all_eq_true.1 hall t hm)⟩)
    (by kernel_rfl)
#print axioms bivouacGuns_card
end Go.Proofs.YtdmmlidgipedaaaDoor
