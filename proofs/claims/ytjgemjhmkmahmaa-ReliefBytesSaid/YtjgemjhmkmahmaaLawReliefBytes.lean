-- WRITTEN BY A PROGRAM OF THIS SESSION (a turned copy of the kit's printer), for this claim. Nothing here is trusted: Lean checks it.
import Derived.Test.YtjgemjhmkmahmaaRows
import Derived.Test.YtjgemjhmkmahmaaPAx18
import Derived.Test.YtjgemjhmkmahmaaPureReliefBytes
import Derived.Test.YtjgemjhmkmahmaaRd
import Derived.WalkKit
import Derived.ProofKit
import Derived.OpenShut
import Derived.ShutString
import Derived.ChangeOld
import Derived.Below
import Derived.SizedLaws
import Derived.Test.YtjgemjhmkmahmaaWSized
namespace Go.Proofs.Ytjgemjhmkmahmaa.reliefBytes
open Go.ChangeShapes Go.WideShapes Go.ChangeAt Go.RowKit
open Go.ChangeMaps (open_string shut_string)
open Go.Proofs.Ytjgemjhmkmahmaa.PA Go.Proofs.YtjgemjhmkmahmaaW.PrintWords
set_option linter.unusedVariables false
set_option linter.unusedSimpArgs false
theorem own : ownKnob Try.prog.godebug = none := by kernel_rfl
theorem laidOut : laidOutB Try.prog = true := by kernel_rfl
set_option maxRecDepth 100000 in
set_option maxHeartbeats 1000000 in
theorem lifted (os : Os) (started : os.Started) (H : Type) (enc : TypeId × Value → H) :
    ReturnsInHanded {} Try.checked os 7 .any (Rows.reliefBytesSpec.pre6 enc Try.prog Try.f7 Rows.reliefBytesRow.domain false) (Rows.reliefBytesSpec.post enc Try.prog Try.f7 false true false false) := by
  refine returnsInHanded_of_change_sized (C := Try.checked) own started (by kernel_rfl) Try.func7
    (ChangeSpec.witness6 (enc := enc) (C := Try.checked) false ⟨#[], #[.agg #[.int .i64 0, .int .i64 0, .int .i64 0, .slice none 0 0], .slice none 0 0], []⟩ 8 (by kernel_rfl) (by kernel_rfl) (by kernel_rfl) (by kernel_rfl)) ?_
  intro W base args ds gs before hval0 hW hcnd hsz0 _
  have hsz : (DataW.weightsEach Try.prog (Try.f7.params.toList ++ Rows.reliefBytesSpec.plain.varTypes Try.prog) (ds ++ gs)).all (· ≤ reachBytes) = true := hsz0
  have hval : ∀ (j : Nat) t v, Try.f7.params[j]? = some t → args[j]? = some v → Value.okWide Try.prog W .any base t v := hval0
  have hW' := hW
  obtain ⟨p, q, hA0, hV, rfl, hfz, hnd⟩ := hW
  have hA : DataW.TrodAll enc Try.prog W 0 (fun _ => true) true Try.f7.params.toList args.toList ds p := hA0
  rw [Try.params7] at hA hval hsz
  obtain ⟨v0, vs0, d0, ds0, p0, q0, hargs, rfl, rfl, h0, r0⟩ := trodAll_cons hA
  obtain ⟨v1, vs1, d1, ds1, p1, q1, rfl, rfl, rfl, h1, r1⟩ := trodAll_cons r0
  obtain ⟨rfl, rfl, rfl⟩ := trodAll_nil r1
  obtain rfl : args = #[v0, v1] := by cases args; simp_all
  obtain ⟨rfl, rfl⟩ := trodVars_none hV
  have k0 := h0
  have lt0 : ∀ x ∈ p0, x.block < W.heap.size := by obtain ⟨m, hm⟩ := k0; exact DataW.trod_lt m _ _ _ hm
  obtain ⟨cs0, x0, rfl, hK0, hG0⟩ := Rd.open_agg Try.underlying24 (Rd.Reads.struct (total := 4) Try.underlying24 (by kernel_rfl) (Rd.ReadsF.cons (off := 0) (total := 4) (s := 1) (Rd.Reads.int Try.underlying3) rfl (by kernel_rfl) (Rd.ReadsF.cons (off := 1) (total := 4) (s := 1) (Rd.Reads.int Try.underlying3) rfl (by kernel_rfl) (Rd.ReadsF.cons (off := 2) (total := 4) (s := 1) (Rd.Reads.int Try.underlying3) rfl (by kernel_rfl) (Rd.ReadsF.one (off := 3) (total := 4) (Rd.Reads.slice Try.underlying22 (by kernel_rfl) (Rd.Reads.int Try.underlying5)) rfl (by kernel_rfl)))))) (hval 0 24 v0 rfl rfl) h0
  obtain ⟨a0_0, a0_1, a0_2, l0_3⟩ := x0
  obtain ⟨b0_1, r0_1, w0_1, k0_1, m0_1⟩ := hK0
  have W0_1 := w0_1
  have e0_0 : b0_1 = [.int .i64 a0_0] := k0_1
  subst e0_0
  obtain ⟨b0_2, r0_2, w0_2, k0_2, m0_2⟩ := m0_1
  subst w0_2
  have e0_1 : b0_2 = [.int .i64 a0_1] := k0_2
  subst e0_1
  obtain ⟨b0_3, r0_3, w0_3, k0_3, m0_3⟩ := m0_2
  subst w0_3
  have e0_2 : b0_3 = [.int .i64 a0_2] := k0_3
  subst e0_2
  obtain ⟨A0_3, c0_3, e0_3, hc0_3, hr0_3⟩ := m0_3
  subst e0_3
  obtain rfl : cs0 = #[.int .i64 a0_0, .int .i64 a0_1, .int .i64 a0_2, .slice A0_3 l0_3.length c0_3] := Array.toList_inj.1 W0_1
  have k1 := h1
  have lt1 : ∀ x ∈ p1, x.block < W.heap.size := by obtain ⟨m, hm⟩ := k1; exact DataW.trod_lt m _ _ _ hm
  obtain ⟨A1, c1, l1, rfl, hc1, hr1, hG1⟩ := Rd.open_sl Try.underlying22 (Rd.Reads.slice Try.underlying22 (by kernel_rfl) (Rd.Reads.int Try.underlying5)) (hval 1 22 v1 rfl rfl) h1
  have y1 : l1.length * 1 ≤ 140737488351232 := sized_ints hsz (j := 1) (t := 22) rfl rfl Try.underlying22 Try.underlying5 (by kernel_rfl) (by kernel_rfl) k1
  clear hA0 hval0 hsz0 hsz
  obtain ⟨k, hk⟩ := Pure.ReliefBytes a0_0 a0_1 a0_2 l0_3 l1 (hG0.1) (hG0.2.1) (hG0.2.2.1) (hG0.2.2.2).1 (hG0.2.2.2).2 hG1.1 y1 hG1.2
  refine (bivouaclaw06_ReliefBytes.calls (k := k) (w := W) (hr0_3 := hr0_3) (hc0_3 := hc0_3) (hr1 := hr1) (hc1 := hc1) (h := hk)).mono ?_
  rintro e W' ⟨he, bel⟩
  subst he
  exact ⟨_, rfl, _, _, _, [], _, [], hW', trodAll_mk1 (shut_bool Try.underlying4 _), (trodAll_cons_mk (Below.trod laidOut (by kernel_rfl) (of_decide_eq_true (by kernel_rfl)) k0 bel lt0) (trodAll_cons_mk (Below.trod laidOut (by kernel_rfl) (of_decide_eq_true (by kernel_rfl)) k1 bel lt1) trodAll_mk0)), by first | rfl | (simp; done), bel.frame _, fun h => by cases h⟩
theorem over : Rows.reliefBytesRow.holds Try.pinned (OpenSpec.ofChange Rows.reliefBytesSpec) :=
  OpenClaim.holds_of_wide 7 Try.f7 rfl rfl rfl rfl rfl rfl rfl ⟨rfl, rfl, rfl, rfl, rfl⟩ rfl rfl rfl rfl rfl (by kernel_rfl) Try.func7 (by kernel_rfl)
    (of_decide_eq_true (by kernel_rfl)) (by unfold Func.isWrapper; first | (rw [if_pos (by decide +kernel)]; kernel_rfl) | (rw [if_neg (by decide +kernel)]; exact ⟨rfl, rfl⟩))
    (fun os started H enc _ => lifted os started H enc)
theorem proved : Rows.ReliefBytesSaid := over
#print axioms proved
end Go.Proofs.Ytjgemjhmkmahmaa.reliefBytes
namespace Go.Proofs.Ytjgemjhmkmahmaa
/-- The row, under a short name, for the claim. -/
theorem reliefBytes_holds : Rows.ReliefBytesSaid := reliefBytes.proved
end Go.Proofs.Ytjgemjhmkmahmaa
