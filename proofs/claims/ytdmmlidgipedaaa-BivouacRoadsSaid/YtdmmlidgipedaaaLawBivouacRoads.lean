-- WRITTEN BY A PROGRAM OF THIS SESSION (a turned copy of the kit's printer), for this claim. Nothing here is trusted: Lean checks it.
import Derived.Test.YtdmmlidgipedaaaRows
import Derived.Test.YtdmmlidgipedaaaPAx22
import Derived.Test.YtdmmlidgipedaaaPureBivouacRoads
import Derived.Test.YtdmmlidgipedaaaRd
import Derived.WalkKit
import Derived.ProofKit
import Derived.OpenShut
import Derived.ShutString
import Derived.ChangeOld
import Derived.Below
import Derived.SizedLaws
import Derived.Test.YtdmmlidgipedaaaWSized
namespace Go.Proofs.Ytdmmlidgipedaaa.bivouacRoads
open Go.ChangeShapes Go.WideShapes Go.ChangeAt Go.RowKit
open Go.ChangeMaps (open_string shut_string)
open Go.Proofs.Ytdmmlidgipedaaa.PA Go.Proofs.YtdmmlidgipedaaaW.PrintWords
set_option linter.unusedVariables false
set_option linter.unusedSimpArgs false
theorem own : ownKnob Try.prog.godebug = none := by kernel_rfl
theorem laidOut : laidOutB Try.prog = true := by kernel_rfl
set_option maxRecDepth 100000 in
set_option maxHeartbeats 1000000 in
theorem lifted (os : Os) (started : os.Started) (H : Type) (enc : TypeId × Value → H) :
    ReturnsInHanded {} Try.checked os 3 .any (Rows.bivouacRoadsSpec.pre6 enc Try.prog Try.f3 Rows.bivouacRoadsRow.domain false) (Rows.bivouacRoadsSpec.post enc Try.prog Try.f3 false true false false) := by
  refine returnsInHanded_of_change_sized (C := Try.checked) own started (by kernel_rfl) Try.func3
    (ChangeSpec.witness6 (enc := enc) (C := Try.checked) false ⟨#[], #[.agg #[.int .i64 0, .int .i64 0, .int .i64 0, .slice none 0 0, .int .i64 0, .int .i64 0, .int .i64 0]], []⟩ 8 (by kernel_rfl) (by kernel_rfl) (by kernel_rfl) (by kernel_rfl)) ?_
  intro W base args ds gs before hval0 hW hcnd hsz0 _
  have hsz : (DataW.weightsEach Try.prog (Try.f3.params.toList ++ Rows.bivouacRoadsSpec.plain.varTypes Try.prog) (ds ++ gs)).all (· ≤ reachBytes) = true := hsz0
  have hval : ∀ (j : Nat) t v, Try.f3.params[j]? = some t → args[j]? = some v → Value.okWide Try.prog W .any base t v := hval0
  have hW' := hW
  obtain ⟨p, q, hA0, hV, rfl, hfz, hnd⟩ := hW
  have hA : DataW.TrodAll enc Try.prog W 0 (fun _ => true) true Try.f3.params.toList args.toList ds p := hA0
  rw [Try.params3] at hA hval hsz
  obtain ⟨v0, vs0, d0, ds0, p0, q0, hargs, rfl, rfl, h0, r0⟩ := trodAll_cons hA
  obtain ⟨rfl, rfl, rfl⟩ := trodAll_nil r0
  obtain rfl : args = #[v0] := by cases args; simp_all
  obtain ⟨rfl, rfl⟩ := trodVars_none hV
  have k0 := h0
  have lt0 : ∀ x ∈ p0, x.block < W.heap.size := by obtain ⟨m, hm⟩ := k0; exact DataW.trod_lt m _ _ _ hm
  obtain ⟨cs0, x0, rfl, hK0, hG0⟩ := Rd.open_agg Try.underlying26 (Rd.Reads.struct (total := 7) Try.underlying26 (by kernel_rfl) (Rd.ReadsF.cons (off := 0) (total := 7) (s := 4) (Rd.Reads.struct (total := 4) Try.underlying24 (by kernel_rfl) (Rd.ReadsF.cons (off := 0) (total := 4) (s := 1) (Rd.Reads.int Try.underlying3) rfl (by kernel_rfl) (Rd.ReadsF.cons (off := 1) (total := 4) (s := 1) (Rd.Reads.int Try.underlying3) rfl (by kernel_rfl) (Rd.ReadsF.cons (off := 2) (total := 4) (s := 1) (Rd.Reads.int Try.underlying3) rfl (by kernel_rfl) (Rd.ReadsF.one (off := 3) (total := 4) (Rd.Reads.slice Try.underlying22 (by kernel_rfl) (Rd.Reads.int Try.underlying5)) rfl (by kernel_rfl)))))) rfl (by kernel_rfl) (Rd.ReadsF.cons (off := 4) (total := 7) (s := 1) (Rd.Reads.int Try.underlying3) rfl (by kernel_rfl) (Rd.ReadsF.cons (off := 5) (total := 7) (s := 1) (Rd.Reads.int Try.underlying3) rfl (by kernel_rfl) (Rd.ReadsF.one (off := 6) (total := 7) (Rd.Reads.int Try.underlying3) rfl (by kernel_rfl)))))) (hval 0 26 v0 rfl rfl) h0
  obtain ⟨⟨a0_0, a0_1, a0_2, l0_3⟩, a0_4, a0_5, a0_6⟩ := x0
  obtain ⟨b0_1, r0_1, w0_1, k0_1, m0_1⟩ := hK0
  have W0_1 := w0_1
  obtain ⟨b0_2, r0_2, w0_2, k0_2, m0_2⟩ := k0_1
  subst w0_2
  have e0_0 : b0_2 = [.int .i64 a0_0] := k0_2
  subst e0_0
  obtain ⟨b0_3, r0_3, w0_3, k0_3, m0_3⟩ := m0_2
  subst w0_3
  have e0_1 : b0_3 = [.int .i64 a0_1] := k0_3
  subst e0_1
  obtain ⟨b0_4, r0_4, w0_4, k0_4, m0_4⟩ := m0_3
  subst w0_4
  have e0_2 : b0_4 = [.int .i64 a0_2] := k0_4
  subst e0_2
  obtain ⟨A0_3, c0_3, e0_3, hc0_3, hr0_3⟩ := m0_4
  subst e0_3
  obtain ⟨b0_5, r0_5, w0_5, k0_5, m0_5⟩ := m0_1
  subst w0_5
  have e0_4 : b0_5 = [.int .i64 a0_4] := k0_5
  subst e0_4
  obtain ⟨b0_6, r0_6, w0_6, k0_6, m0_6⟩ := m0_5
  subst w0_6
  have e0_5 : b0_6 = [.int .i64 a0_5] := k0_6
  subst e0_5
  have e0_6 : r0_6 = [.int .i64 a0_6] := m0_6
  subst e0_6
  obtain rfl : cs0 = #[.int .i64 a0_0, .int .i64 a0_1, .int .i64 a0_2, .slice A0_3 l0_3.length c0_3, .int .i64 a0_4, .int .i64 a0_5, .int .i64 a0_6] := Array.toList_inj.1 W0_1
  clear hA0 hval0 hsz0 hsz
  obtain ⟨k, hk⟩ := Pure.BivouacRoads a0_0 a0_1 a0_2 l0_3 a0_4 a0_5 a0_6 (hG0.1.1) (hG0.1.2.1) (hG0.1.2.2.1) (hG0.1.2.2.2).1 (hG0.1.2.2.2).2 (hG0.2.1) (hG0.2.2.1) (hG0.2.2.2)
  refine (bivouactop_BivouacRoads.calls (k := k) (w := W) (hr0_3 := hr0_3) (hc0_3 := hc0_3) (h := hk)).mono ?_
  rintro e W' ⟨he, bel⟩
  subst he
  exact ⟨_, rfl, _, _, _, [], _, [], hW', trodAll_mk1 (shut_bool Try.underlying4 _), (trodAll_cons_mk (Below.trod laidOut (by kernel_rfl) (of_decide_eq_true (by kernel_rfl)) k0 bel lt0) trodAll_mk0), by first | rfl | (simp; done), bel.frame _, fun h => by cases h⟩
theorem over : Rows.bivouacRoadsRow.holds Try.pinned (OpenSpec.ofChange Rows.bivouacRoadsSpec) :=
  OpenClaim.holds_of_wide 3 Try.f3 rfl rfl rfl rfl rfl rfl rfl ⟨rfl, rfl, rfl, rfl, rfl⟩ rfl rfl rfl rfl rfl (by kernel_rfl) Try.func3 (by kernel_rfl)
    (of_decide_eq_true (by kernel_rfl)) (by unfold Func.isWrapper; first | (rw [if_pos (by decide +kernel)]; kernel_rfl) | (rw [if_neg (by decide +kernel)]; exact ⟨rfl, rfl⟩))
    (fun os started H enc _ => lifted os started H enc)
theorem proved : Rows.BivouacRoadsSaid := over
#print axioms proved
end Go.Proofs.Ytdmmlidgipedaaa.bivouacRoads
namespace Go.Proofs.Ytdmmlidgipedaaa
/-- The row, under a short name, for the claim. -/
theorem bivouacRoads_holds : Rows.BivouacRoadsSaid := bivouacRoads.proved
end Go.Proofs.Ytdmmlidgipedaaa
