/- Every map behind any hits is the reference's, or refused; the map that is handed in stays: for all maps and hits. -/
import Derived.Test.YtlhcakepaaeaoaaGCrcraterAll
import Derived.Test.YtlhcakepaaeaoaaGCrcraterStrike
import Derived.Test.YtlhcakepaaeaoaaPCrx18
import Derived.Test.YtlhcakepaaeaoaaPCrx19
import Derived.Test.YtlhcakepaaeaoaaPCrx20
import Derived.Test.YtlhcakepaaeaoaaCS
namespace Go.Proofs.Ytlhcakepaaeaoaa.Pure
open Go.RowKit Go.Proofs.Ytlhcakepaaeaoaa.PCr Go.Proofs.YtlhcakepaaeaoaaW.PrintWords Go.Proofs.YtlhcakepaaeaoaaW.PrintLast Go.Proofs.YtlhcakepaaeaoaaW.PrintMore
open Go.Proofs.Ytlhcakepaaeaoaa.CL
open Go.Proofs.Ytlhcakepaaeaoaa.CS
set_option linter.unusedVariables false
set_option linter.unusedSimpArgs false

theorem corner_eq {hs : List S23} (hk : ∀ h ∈ hs, ok h) (hl : hs.length ≤ 20) (i j : Int) : ∀ (m q : Nat), q + m = hs.length → ∀ (v : Int) (k : Nat), 0 ≤ v → v ≤ 255 → m + 2 ≤ k → bivouacref09_Corner.l0 k v hs i j (q : Int) = some (fall i j v (hs.drop q))
  | 0, q, e, v, k, v0, v1, hkk => by
    obtain ⟨k, rfl⟩ : ∃ j, k = j + 1 := ⟨k - 1, by omega⟩
    simp only [bivouacref09_Corner.l0]
    rw [if_neg (by omega), List.drop_eq_nil_of_le (by omega)]
    rfl
  | m + 1, q, e, v, k, v0, v1, hkk => by
    obtain ⟨k, rfl⟩ : ∃ j, k = j + 1 := ⟨k - 1, by omega⟩
    have hq : ok hs[q] := hk _ (List.getElem_mem _)
    have hb := L_b hq i j
    have hd := hq.2.2.2.1
    have gT : rd_T23 hs (q : Int) = hs[q] := by
      unfold rd_T23
      rw [Int.toNat_natCast]
      simp [show q < hs.length by omega]
    simp only [bivouacref09_Corner.l0]
    rw [if_pos (by omega), if_pos (by omega), gT, refLowers_eq (by omega)]
    simp only [Option.bind_some]
    have hb' : 0 ≤ lowers hs[q].f0 hs[q].f1 hs[q].f2 hs[q].f3 i j ∧ lowers hs[q].f0 hs[q].f1 hs[q].f2 hs[q].f3 i j ≤ hs[q].f3 := hb
    rw [w64 (i := v - _) (by omega) (by omega), w64 (i := (q : Int) + 1) (by omega) (by omega)]
    have ih := fun v' h0 h1 => corner_eq hk hl i j m (q + 1) (by omega) v' k h0 h1 (by omega)
    rw [List.drop_eq_getElem_cons (by omega)]
    have ev : mx 0 (v - L hs[q] i j) = if v - lowers hs[q].f0 hs[q].f1 hs[q].f2 hs[q].f3 i j < 0 then 0 else v - lowers hs[q].f0 hs[q].f1 hs[q].f2 hs[q].f3 i j := by
      show mx 0 (v - lowers hs[q].f0 hs[q].f1 hs[q].f2 hs[q].f3 i j) = _
      unfold mx
      repeat' split
      all_goals omega
    show _ = some (fall i j (mx 0 (v - L hs[q] i j)) (hs.drop (q + 1)))
    rw [ev]
    by_cases hc : v - lowers hs[q].f0 hs[q].f1 hs[q].f2 hs[q].f3 i j < 0
    · rw [if_pos hc, if_pos hc]
      exact ih 0 (by omega) (by omega)
    · rw [if_neg hc, if_neg hc]
      exact ih _ (by omega) (by omega)
theorem mays_eq (hs : List S23) (hl : hs.length ≤ 20) : ∀ (m q : Nat), q + m = hs.length → ∀ k, m + 2 ≤ k → bivouaclaw09_may.l0 k hs (q : Int) = some (decide (∀ h ∈ hs.drop q, ok h))
  | 0, q, e, k, hk => by
    obtain ⟨k, rfl⟩ : ∃ j, k = j + 1 := ⟨k - 1, by omega⟩
    simp only [bivouaclaw09_may.l0]
    rw [if_neg (by omega), List.drop_eq_nil_of_le (by omega)]
    simp
  | m + 1, q, e, k, hk => by
    obtain ⟨k, rfl⟩ : ∃ j, k = j + 1 := ⟨k - 1, by omega⟩
    have gT : rd_T23 hs (q : Int) = hs[q] := by
      unfold rd_T23
      rw [Int.toNat_natCast]
      simp [show q < hs.length by omega]
    have ih := mays_eq hs hl m (q + 1) (by omega) k (by omega)
    simp only [bivouaclaw09_may.l0]
    rw [if_pos (by omega), if_pos (by omega), gT, refMay_eq, w64 (by omega) (by omega)]
    simp only [Option.bind_some]
    rw [List.drop_eq_getElem_cons (by omega)]
    by_cases hq : ok hs[q]
    · rw [if_pos (decide_eq_true (show may hs[q].f0 hs[q].f1 hs[q].f2 hs[q].f3 from hq))]
      refine ih.trans ?_
      congr 1
      rw [decide_eq_decide]
      constructor
      · intro h x hx
        rcases List.mem_cons.1 hx with hx | hx
        · rw [hx]; exact hq
        · exact h x hx
      · exact fun h x hx => h x (List.mem_cons_of_mem _ hx)
    · rw [if_neg (by rw [decide_eq_true_eq]; exact hq)]
      congr 1
      rw [eq_comm, decide_eq_false_iff_not]
      exact fun h => hq (h _ List.mem_cons_self)
theorem sloop {W H Wt : Int} {l : List Int} (hO : L.Ok W H Wt l) {hs : List S23} (hk : ∀ h ∈ hs, ok h) (hl : hs.length ≤ 20) : ∀ (m : Nat) (q : Int), 0 ≤ q → q + m = l.length → ∀ k, m + 30 ≤ k →
    bivouaclaw09_CraterStrikes.l0 k hs q W H Wt l W H Wt (hs.foldl (crater_strikes.one W H) l) = some true
  | 0, q, q0, e, k, hk2 => by
    obtain ⟨k, rfl⟩ : ∃ j, k = j + 1 := ⟨k - 1, by omega⟩
    simp only [bivouaclaw09_CraterStrikes.l0]
    rw [if_neg (by omega)]
    by_cases h1 : (hs.length : Int) = 1
    · obtain ⟨h, rfl⟩ := List.length_eq_one_iff.1 (show hs.length = 1 by omega)
      have e0 : rd_T23 [h] 0 = h := rfl
      have es : crater_Strike.f k W H Wt l h.f0 h.f1 h.f2 h.f3 = some (res W H Wt l [h]) := strikes_eq (by omega) hO.b [h]
      rw [if_pos h1, if_pos (by omega), e0, es, res_pos hO hk]
      simp only [Option.bind_some]
      rw [same_eq, awake_eq]
      simp
    · rw [if_neg h1, awake_eq]
      rfl
  | m + 1, q, q0, e, k, hk2 => by
    obtain ⟨k, rfl⟩ : ∃ j, k = j + 1 := ⟨k - 1, by omega⟩
    have hw := hO.w0
    have hw1 := hO.w1
    have hh1 := hO.h1
    have hle : (l.length : Int) ≤ 4225 := by have := L.area hO.w0 hO.w1 hO.h0 hO.h1; have := hO.n; omega
    obtain ⟨b1, r1⟩ := fold_ok hs l hk (bm hO)
    have hlen : (hs.foldl (crater_strikes.one W H) l).length = l.length := by have := b1.n; have := hO.n; omega
    obtain ⟨p1, p2, p3, p4, p5⟩ := place (H := H) hO.w0 q0 (by rw [← hO.n]; omega)
    have eq := r1 _ _ p1 p2 p3 p4
    rw [p5] at eq
    have eW : wrap64 (W + 1) = W + 1 := w64 (by omega) (by omega)
    have et : Int.tmod q (W + 1) = q % (W + 1) := Int.tmod_eq_emod_of_nonneg q0
    have ed : Int.tdiv q (W + 1) = q / (W + 1) := Int.tdiv_eq_ediv_of_nonneg q0
    have hb := L.rd_b hO.b q
    have hb2 := L.rd_b b1.b q
    have ih := sloop hO hk hl m (q + 1) (by omega) (by omega) k (by omega)
    simp only [bivouaclaw09_CraterStrikes.l0]
    rw [if_pos (by omega), if_pos q0, if_pos (by omega), eW, if_neg (by omega), et, ed, w64 (i := rd l q) (by omega) (by omega), w64 (i := q / (W + 1)) (by omega) (by omega)]
    have ec := corner_eq hk hl (q % (W + 1)) (q / (W + 1)) hs.length 0 (by omega) (rd l q) k hb.1 hb.2 (by omega)
    unfold bivouacref09_Corner.f
    rw [show bivouacref09_Corner.l0 k (rd l q) hs (q % (W + 1)) (q / (W + 1)) 0 = some (fall (q % (W + 1)) (q / (W + 1)) (rd l q) hs) from ec]
    simp only [Option.bind_some]
    rw [w64 (i := rd _ q) (by omega) (by omega), if_pos eq, w64 (i := q + 1) (by omega) (by omega)]
    exact ih
theorem CraterStrikes : bivouaclaw09_CraterStrikes.Pure := by
  intro W H Wt l0 hs0 _ _ _ _ hb0 _ _
  have hb := L.take_b hb0
  generalize hl : l0.take 4300 = l at *
  generalize hh : hs0.take 20 = hs
  have hlen : hs.length ≤ 20 := by rw [← hh, List.length_take]; omega
  obtain ⟨K, hK⟩ : ∃ K, K = l.length + 60 := ⟨_, rfl⟩
  refine ⟨K, ?_⟩
  have hall : ∀ k, 1 ≤ k → crater_All.f k W H Wt l hs = some (res W H Wt l hs) := fun k hk => strikes_eq hk hb hs
  have hm : bivouaclaw09_may.f K hs = some (decide (∀ h ∈ hs, ok h)) := by
    unfold bivouaclaw09_may.f
    have := mays_eq hs hlen hs.length 0 (by omega) K (by omega)
    rw [List.drop_zero] at this
    exact this
  unfold bivouaclaw09_CraterStrikes.f
  rw [L.few_eq, hl, some_eq, hh]
  simp only [Option.bind_some]
  rw [hall _ (by omega), L.refCheck_eq (by omega)]
  simp only [Option.bind_some]
  have no : ¬(L.Ok W H Wt l ∧ ∀ h ∈ hs, ok h) → bivouaclaw09_CraterStrikes.j0 K hs (strOfNums l) (res W H Wt l hs).2.2.2.2 true W H Wt l (res W H Wt l hs).1 (res W H Wt l hs).2.1 (res W H Wt l hs).2.2.1 (res W H Wt l hs).2.2.2.1 = some true := by
    intro hc
    rw [res_neg hc]
    obtain ⟨K, rfl⟩ : ∃ j, K = j + 1 := ⟨K - 1, by omega⟩
    simp only [bivouaclaw09_CraterStrikes.j0]
    rw [if_pos trivial, same_eq, awake_eq]
    simp
  by_cases hc : L.chk W H Wt l = 0
  · have hO := (L.chk_zero hb).1 hc
    rw [if_pos hc, hm]
    simp only [Option.bind_some]
    by_cases ha : ∀ h ∈ hs, ok h
    · rw [decide_eq_true ha, res_pos hO ha]
      obtain ⟨b1, _⟩ := fold_ok hs l ha (bm hO)
      have hn : ((hs.foldl (crater_strikes.one W H) l).length : Int) = (l.length : Int) := by have := b1.n; have := hO.n; omega
      have fin := sloop hO ha hlen l.length 0 (by omega) (by omega) (K - 2) (by omega)
      obtain ⟨K, rfl⟩ : ∃ j, K = j + 1 := ⟨K - 1, by omega⟩
      simp only [bivouaclaw09_CraterStrikes.j0, Bool.not_true]
      rw [if_neg (by simp), if_pos trivial, if_pos trivial, if_pos trivial, if_pos trivial, if_pos hn, bne_self_eq_false]
      obtain ⟨K, rfl⟩ : ∃ j, K = j + 1 := ⟨K - 1, by omega⟩
      simp only [bivouaclaw09_CraterStrikes.j1]
      rw [if_neg (by simp)]
      exact fin
    · rw [decide_eq_false ha]
      exact no (fun h => ha h.2)
  · rw [if_neg hc]
    exact no (fun h => hc ((L.chk_zero hb).2 h.1))

end Go.Proofs.Ytlhcakepaaeaoaa.Pure
