/- Which cells an eye sees is as the reference says, or it is refused. -/
import Derived.Test.YtincnaejgimlbaaPAx15
import Derived.Test.YtincnaejgimlbaaPAx30
import Derived.Test.YtincnaejgimlbaaRN
import Derived.Test.YtincnaejgimlbaaRA
import Derived.OpenShut
namespace Go.Proofs.Ytincnaejgimlbaa.Pure
open Go.RowKit Go.Proofs.Ytincnaejgimlbaa.PA Go.Proofs.YtincnaejgimlbaaW.PrintWords Go.Proofs.YtincnaejgimlbaaW.PrintLast Go.Proofs.YtincnaejgimlbaaW.PrintMore
open Go.Proofs.Ytincnaejgimlbaa.L
set_option linter.unusedVariables false
set_option linter.unusedSimpArgs false

theorem seen_l0 {KA : Nat} (hA : ∀ k, KA ≤ k → bivouaclaw08_awake.f k = some true) {W H Wt : Int} {m m0 : List Int} (ok : Ok W H Wt m) {a b c i j k l up rad : Int} (i0 : 0 ≤ i) (i1 : i < W) (j0 : 0 ≤ j) (j1 : j < H) (hu : 0 ≤ up ∧ up ≤ 255) (r0 : 0 ≤ rad) (r1 : rad ≤ 64) :
    ∀ (r q K : Nat), q + r = (W * H).toNat → KA + 101 + r ≤ K →
      bivouaclaw08_RaySeen.l0 K ((List.range (W * H).toNat).map (fun (t : Nat) => seenB W m i j up rad ((t : Int) % W) ((t : Int) / W))) (q : Int) a b c m0 i j k l up rad W H Wt m = some true
  | 0, q, K, hq, hK => by
    obtain ⟨K, rfl⟩ : ∃ d, K = d + 1 := ⟨K - 1, by omega⟩
    simp only [bivouaclaw08_RaySeen.l0]
    rw [if_neg (by simp; omega), hA _ (by omega)]
    rfl
  | r + 1, q, K, hq, hK => by
    obtain ⟨K, rfl⟩ : ∃ d, K = d + 1 := ⟨K - 1, by omega⟩
    have w0 := ok.w0
    have w1 := ok.w1
    have h0 := ok.h0
    have h1 := ok.h1
    have big := mulb (a := W) (b := H) (A := 64) (B := 64) (by omega) w1 (by omega) h1
    have cc := cell_of ok (q := (q : Int)) (by omega) (by omega)
    have d : (q : Int) / W ≤ q := Int.ediv_le_self _ (by omega)
    simp only [bivouaclaw08_RaySeen.l0]
    rw [if_pos (by simp; omega), if_pos (by omega), if_neg (by omega), Int.tmod_eq_emod_of_nonneg (by omega), Int.tdiv_eq_ediv_of_nonneg (by omega), w64 (i := (q : Int) / W) (by omega) (by omega), w64 (i := (q : Int) + 1) (by omega) (by omega), refSeen_eq (by omega) ok ⟨i0, i1, j0, j1, cc.1, cc.2.1, cc.2.2.1, cc.2.2.2⟩ hu r0 r1]
    simp only [Option.bind_some]
    have e : rdOf false ((List.range (W * H).toNat).map (fun (t : Nat) => seenB W m i j up rad ((t : Int) % W) ((t : Int) / W))) (q : Int) = seenB W m i j up rad ((q : Int) % W) ((q : Int) / W) := by
      unfold rdOf
      rw [List.getD_eq_getElem?_getD, List.getElem?_map, List.getElem?_range (by omega)]
      simp
    rw [e, if_neg (by simp)]
    exact seen_l0 hA ok i0 i1 j0 j1 hu r0 r1 r (q + 1) K (by omega) (by omega)

theorem RaySeen : bivouaclaw08_RaySeen.Pure := by
  intro W H Wt m i j k l up rad _ _ _ _ hl _ _ _ _ _ _
  obtain ⟨KA, hA⟩ := awake_ev
  have hb := take_b hl
  refine ⟨KA + 6000, ?_⟩
  unfold bivouaclaw08_RaySeen.f
  rw [few_eq]
  simp only [Option.bind_some]
  rw [rseen_eq (by omega) hb, refCheck_eq (by omega)]
  simp only [Option.bind_some]
  have no : ∀ (r : List Bool × Int), r = ([], 1) → bivouaclaw08_RaySeen.j0 (KA + 6000) r.1 r.2 true W H Wt m i j k l up rad W H Wt (m.take 4300) = some true := by
    rintro r rfl
    simp only [bivouaclaw08_RaySeen.j0]
    rw [if_pos trivial, if_pos (by simp), if_pos trivial, hA _ (by omega)]
    rfl
  by_cases h : chk W H Wt (m.take 4300) = 0
  · rw [if_pos h]
    by_cases u0 : up < 0
    · rw [if_pos u0]; exact no _ (if_neg (by omega))
    rw [if_neg u0]
    by_cases u1 : up > 255
    · rw [if_pos u1]; exact no _ (if_neg (by omega))
    rw [if_neg u1]
    by_cases v0 : rad < 0
    · rw [if_pos v0]; exact no _ (if_neg (by omega))
    rw [if_neg v0]
    by_cases v1 : rad > 64
    · rw [decide_eq_true v1]; exact no _ (if_neg (by omega))
    have hh : chk W H Wt (m.take 4300) = 0 ∧ (0 ≤ up ∧ up ≤ 255) ∧ (0 ≤ rad ∧ rad ≤ 64) := ⟨h, by omega, by omega⟩
    rw [decide_eq_false v1, if_pos hh]
    simp only [bivouaclaw08_RaySeen.j0]
    rw [if_neg (by decide), is_eq]
    simp only [Option.bind_some, decide_eq_true_eq]
    by_cases c : 0 ≤ i ∧ i < W ∧ 0 ≤ j ∧ j < H
    · have ok := (chk_zero hb).1 h
      have w0 := ok.w0
      have w1 := ok.w1
      have h0 := ok.h0
      have h1 := ok.h1
      have big := mulb (a := W) (b := H) (A := 64) (B := 64) (by omega) w1 (by omega) h1
      rw [if_pos c, if_pos c, if_pos (by rw [w64 (by omega) (by omega)]; simp; omega)]
      simp only [bivouaclaw08_RaySeen.j1]
      rw [if_neg (by decide)]
      exact seen_l0 hA ok c.1 c.2.1 c.2.2.1 c.2.2.2 ⟨by omega, by omega⟩ (by omega) (by omega) (W * H).toNat 0 _ (by omega) (by omega)
    · rw [if_neg c, if_neg c, if_pos (by simp), if_pos rfl, hA _ (by omega)]
      rfl
  · rw [if_neg h]
    exact no _ (if_neg (fun c => h c.1))

end Go.Proofs.Ytincnaejgimlbaa.Pure
