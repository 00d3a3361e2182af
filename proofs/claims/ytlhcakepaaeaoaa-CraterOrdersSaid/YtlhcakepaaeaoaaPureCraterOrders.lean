/- In whatever order hits come, the map is the same, and one by one as all at once: for all maps and hits. -/
import Derived.Test.YtlhcakepaaeaoaaGCrcraterAll
import Derived.Test.YtlhcakepaaeaoaaGCrcraterStrike
import Derived.Test.YtlhcakepaaeaoaaPCrx21
import Derived.Test.YtlhcakepaaeaoaaCS
namespace Go.Proofs.Ytlhcakepaaeaoaa.Pure
open Go.RowKit Go.Proofs.Ytlhcakepaaeaoaa.PCr Go.Proofs.YtlhcakepaaeaoaaW.PrintWords Go.Proofs.YtlhcakepaaeaoaaW.PrintLast Go.Proofs.YtlhcakepaaeaoaaW.PrintMore
open Go.Proofs.Ytlhcakepaaeaoaa.CL
open Go.Proofs.Ytlhcakepaaeaoaa.CS
set_option linter.unusedVariables false
set_option linter.unusedSimpArgs false

def sum (i j : Int) : List S23 → Int
  | [] => 0
  | h :: hs => L h i j + sum i j hs
theorem sum_nn {i j : Int} : ∀ {hs : List S23}, (∀ h ∈ hs, ok h) → 0 ≤ sum i j hs
  | [], _ => Int.le_refl _
  | h :: hs, hk => by
    have a := (L_b (hk h (by simp)) i j).1
    have b := sum_nn (i := i) (j := j) (hs := hs) (fun x hx => hk x (by simp [hx]))
    simp only [sum]
    omega
theorem fall_sum {i j : Int} : ∀ (hs : List S23) (v : Int), (∀ h ∈ hs, ok h) → 0 ≤ v → fall i j v hs = mx 0 (v - sum i j hs)
  | [], v, _, hv => by simp only [fall, List.foldl_nil, sum]; unfold mx; split <;> omega
  | h :: hs, v, hk, hv => by
    have a := (L_b (hk h (by simp)) i j).1
    have b := sum_nn (i := i) (j := j) (hs := hs) (fun x hx => hk x (by simp [hx]))
    have c := fall_sum (i := i) (j := j) hs (mx 0 (v - L h i j)) (fun x hx => hk x (by simp [hx])) (by unfold mx; split <;> omega)
    simp only [fall, List.foldl_cons] at c ⊢
    rw [c]
    simp only [sum]
    unfold mx
    repeat' split
    all_goals omega
theorem sum_append (i j : Int) : ∀ a b : List S23, sum i j (a ++ b) = sum i j a + sum i j b
  | [], b => by simp [sum]
  | h :: a, b => by simp only [List.cons_append, sum, sum_append i j a b]; omega
theorem sum_reverse (i j : Int) : ∀ a : List S23, sum i j a.reverse = sum i j a
  | [] => rfl
  | h :: a => by simp only [List.reverse_cons, sum_append, sum, sum_reverse i j a]; omega
theorem fold_reverse {W H Wt : Int} {l : List Int} (hO : L.Ok W H Wt l) {hs : List S23} (hk : ∀ h ∈ hs, ok h) : hs.reverse.foldl (crater_strikes.one W H) l = hs.foldl (crater_strikes.one W H) l := by
  have hk' : ∀ h ∈ hs.reverse, ok h := fun h hh => hk h (List.mem_reverse.1 hh)
  obtain ⟨b1, r1⟩ := fold_ok hs l hk (bm hO)
  obtain ⟨b2, r2⟩ := fold_ok hs.reverse l hk' (bm hO)
  refine ext_rd (by have := b1.n; have := b2.n; omega) (fun q q0 q1 => ?_)
  obtain ⟨p1, p2, p3, p4, p5⟩ := place (H := H) hO.w0 q0 (by rw [← b2.n]; exact q1)
  have e1 := r1 _ _ p1 p2 p3 p4
  have e2 := r2 _ _ p1 p2 p3 p4
  rw [p5] at e1 e2
  have hv := (L.rd_b hO.b q).1
  rw [e1, e2, fall_sum _ _ hk' hv, fall_sum _ _ hk hv, sum_reverse]
theorem get_T (hs : List S23) {m : Nat} (h : m < hs.length) : rd_T23 hs (m : Int) = hs[m] := by
  unfold rd_T23
  rw [Int.toNat_natCast]
  simp [h]
theorem back {W H Wt : Int} {l : List Int} (hs : List S23) (hl : hs.length ≤ 20) : ∀ (m k : Nat) (acc : List S23), m ≤ hs.length → acc.length + m ≤ 20 →
    bivouaclaw09_CraterOrders.l0 (k + m) hs acc ((m : Int) - 1) W H Wt l = bivouaclaw09_CraterOrders.l0 k hs (acc ++ (hs.take m).reverse) (-1) W H Wt l
  | 0, k, acc, _, _ => by simp
  | m + 1, k, acc, hm, ha => by
    have ih := back (W := W) (H := H) (Wt := Wt) (l := l) hs hl m k (acc ++ [rd_T23 hs (m : Int)]) (by omega) (by rw [List.length_append]; simp only [List.length_cons, List.length_nil]; omega)
    rw [show k + (m + 1) = (k + m) + 1 from rfl]
    rw [show (((m + 1 : Nat) : Int) - 1) = (m : Int) by omega]
    have step : bivouaclaw09_CraterOrders.l0 ((k + m) + 1) hs acc (m : Int) W H Wt l = bivouaclaw09_CraterOrders.l0 (k + m) hs (acc ++ [rd_T23 hs (m : Int)]) (wrap64 ((m : Int) - 1)) W H Wt l := by
      simp only [bivouaclaw09_CraterOrders.l0]
      rw [if_pos (by omega), if_pos (by omega), if_pos (by omega), if_pos (by omega)]
    rw [step, w64 (by omega) (by omega), ih]
    congr 1
    rw [List.append_assoc, List.take_add_one, List.reverse_append]
    congr 1
    rw [get_T hs (by omega)]
    simp [show m < hs.length by omega]
theorem strike1 {k : Nat} (hk : 1 ≤ k) {W H Wt : Int} {l : List Int} (hb : ∀ x ∈ l, 0 ≤ x ∧ x ≤ 255) (h : S23) : crater_Strike.f k W H Wt l h.f0 h.f1 h.f2 h.f3 = some (res W H Wt l [h]) := strikes_eq hk hb [h]
theorem okp {W H Wt : Int} {l : List Int} (hO : L.Ok W H Wt l) {hs : List S23} (hk : ∀ h ∈ hs, ok h) : L.Ok W H Wt (hs.foldl (crater_strikes.one W H) l) := by
  obtain ⟨b, _⟩ := fold_ok hs l hk (bm hO)
  exact ⟨hO.w0, hO.w1, hO.h0, hO.h1, hO.t0, hO.t1, b.n, b.b⟩
theorem good {W H Wt : Int} {l : List Int} (hO : L.Ok W H Wt l) (hs : List S23) (hl : hs.length ≤ 20) (hk : ∀ h ∈ hs, ok h) : ∀ (m : Nat) (q : Nat), q + m = hs.length → ∀ k, m + 2 ≤ k →
    bivouaclaw09_CraterOrders.l1 k hs 0 0 (q : Int) W H Wt (hs.foldl (crater_strikes.one W H) l) W H Wt ((hs.take q).foldl (crater_strikes.one W H) l) = some true
  | 0, q, e, k, hkk => by
    obtain ⟨k, rfl⟩ : ∃ j, k = j + 1 := ⟨k - 1, by omega⟩
    simp only [bivouaclaw09_CraterOrders.l1]
    rw [if_neg (by omega)]
    obtain ⟨k, rfl⟩ : ∃ j, k = j + 1 := ⟨k - 1, by omega⟩
    simp only [bivouaclaw09_CraterOrders.j3]
    rw [List.take_of_length_le (by omega), same_eq, awake_eq]
    simp
  | m + 1, q, e, k, hkk => by
    obtain ⟨k, rfl⟩ : ∃ j, k = j + 1 := ⟨k - 1, by omega⟩
    have hp : ∀ h ∈ hs.take q, ok h := fun h hh => hk h (List.mem_of_mem_take hh)
    have hO2 := okp hO hp
    have hq : ok (rd_T23 hs (q : Int)) := by rw [get_T hs (by omega)]; exact hk _ (List.getElem_mem _)
    have ih := good hO hs hl hk m (q + 1) (by omega) k (by omega)
    simp only [bivouaclaw09_CraterOrders.l1]
    rw [if_pos (by omega), if_pos trivial, if_pos (by omega), strike1 (by omega) hO2.b, res_pos hO2 (by intro h hh; rw [List.mem_singleton.1 hh]; exact hq)]
    simp only [Option.bind_some, List.foldl_cons, List.foldl_nil]
    rw [w64 (by omega) (by omega)]
    rw [List.take_add_one, List.foldl_append] at ih
    rw [get_T hs (by omega)]
    simpa [show q < hs.length by omega] using ih
theorem stop (hs : List S23) (k : Nat) (hk : 2 ≤ k) (q a b c : Int) (d : List Int) {g : Int} (hg : g ≠ 0) : bivouaclaw09_CraterOrders.l1 k hs 1 g q 0 0 0 [] a b c d = some true := by
  obtain ⟨k, rfl⟩ : ∃ j, k = j + 1 := ⟨k - 1, by omega⟩
  have h3 : bivouaclaw09_CraterOrders.j3 k hs 1 g 0 0 0 [] a b c d = some true := by
    obtain ⟨k, rfl⟩ : ∃ j, k = j + 1 := ⟨k - 1, by omega⟩
    simp only [bivouaclaw09_CraterOrders.j3]
    rw [if_neg (by decide), if_neg hg, awake_eq]
    rfl
  simp only [bivouaclaw09_CraterOrders.l1]
  rw [if_neg hg, h3]
  split <;> rfl
theorem bad {W H Wt : Int} {l : List Int} (hO : L.Ok W H Wt l) (hs : List S23) (hl : hs.length ≤ 20) : ∀ (m : Nat) (q : Nat), q + m = hs.length → (∀ h ∈ hs.take q, ok h) → (∃ h ∈ hs.drop q, ¬ok h) → ∀ k, m + 3 ≤ k →
    bivouaclaw09_CraterOrders.l1 k hs 1 0 (q : Int) 0 0 0 [] W H Wt ((hs.take q).foldl (crater_strikes.one W H) l) = some true
  | 0, q, e, _, ⟨h, hh, _⟩, k, hkk => by rw [List.drop_eq_nil_of_le (by omega)] at hh; simp at hh
  | m + 1, q, e, hp, hx, k, hkk => by
    obtain ⟨k, rfl⟩ : ∃ j, k = j + 1 := ⟨k - 1, by omega⟩
    have hO2 := okp hO hp
    simp only [bivouaclaw09_CraterOrders.l1]
    rw [if_pos (by omega), if_pos trivial, if_pos (by omega), strike1 (by omega) hO2.b]
    simp only [Option.bind_some]
    rw [get_T hs (by omega), w64 (by omega) (by omega)]
    by_cases hq : ok hs[q]
    · rw [res_pos hO2 (by intro h hh; rw [List.mem_singleton.1 hh]; exact hq)]
      simp only [List.foldl_cons, List.foldl_nil]
      have ih := bad hO hs hl m (q + 1) (by omega) (by
        intro h hh
        rw [List.take_add_one] at hh
        rcases List.mem_append.1 hh with hh | hh
        · exact hp h hh
        · have : h = hs[q] := by simpa [show q < hs.length by omega] using hh
          rw [this]; exact hq) (by
        obtain ⟨h, hh, hn⟩ := hx
        rw [List.drop_eq_getElem_cons (by omega)] at hh
        rcases List.mem_cons.1 hh with hh | hh
        · rw [hh] at hn; exact absurd hq hn
        · exact ⟨h, hh, hn⟩) k (by omega)
      rw [List.take_add_one, List.foldl_append] at ih
      simpa [show q < hs.length by omega] using ih
    · rw [res_neg (fun h => hq (h.2 _ (by simp)))]
      exact stop hs k (by omega) _ _ _ _ _ (by decide)
theorem nomap {W H Wt : Int} {l : List Int} (hb : ∀ x ∈ l, 0 ≤ x ∧ x ≤ 255) (hO : ¬L.Ok W H Wt l) (hs : List S23) (hl : hs.length ≤ 20) (k : Nat) (hk : 3 ≤ k) : bivouaclaw09_CraterOrders.l1 k hs 1 0 0 0 0 0 [] W H Wt l = some true := by
  obtain ⟨k, rfl⟩ : ∃ j, k = j + 1 := ⟨k - 1, by omega⟩
  by_cases h0 : hs.length = 0
  · simp only [bivouaclaw09_CraterOrders.l1]
    rw [if_neg (by omega)]
    obtain ⟨k, rfl⟩ : ∃ j, k = j + 1 := ⟨k - 1, by omega⟩
    simp only [bivouaclaw09_CraterOrders.j3]
    rw [awake_eq]
    simp [h0]
  · simp only [bivouaclaw09_CraterOrders.l1]
    rw [if_pos (by omega), if_pos trivial, if_pos (by omega), strike1 (by omega) hb, res_neg (fun h => hO h.1)]
    simp only [Option.bind_some]
    exact stop hs k (by omega) _ _ _ _ _ (by decide)
theorem CraterOrders : bivouaclaw09_CraterOrders.Pure := by
  intro W H Wt l0 hs0 _ _ _ _ hb0 _ _
  have hb := L.take_b hb0
  generalize hl : l0.take 4300 = l at *
  generalize hh : hs0.take 20 = hs
  have hlen : hs.length ≤ 20 := by rw [← hh, List.length_take]; omega
  refine ⟨50 + hs.length, ?_⟩
  unfold bivouaclaw09_CraterOrders.f
  rw [L.few_eq, hl, some_eq, hh]
  simp only [Option.bind_some]
  rw [w64 (by omega) (by omega), back hs hlen hs.length 50 [] (Nat.le_refl _) (by simpa using hlen), List.take_length, List.nil_append]
  have hall : ∀ k, 1 ≤ k → ∀ x, crater_All.f k W H Wt l x = some (res W H Wt l x) := fun k hk x => strikes_eq hk hb x
  rw [show 50 = 49 + 1 from rfl]
  simp only [bivouaclaw09_CraterOrders.l0]
  rw [if_neg (by omega), hall _ (by omega), hall _ (by omega)]
  simp only [Option.bind_some]
  by_cases hc : L.Ok W H Wt l ∧ ∀ h ∈ hs, ok h
  · obtain ⟨hO, hk⟩ := hc
    rw [res_pos hO hk, res_pos hO (fun h hh => hk h (List.mem_reverse.1 hh)), fold_reverse hO hk]
    simp only
    rw [if_pos trivial, same_eq]
    simp only [Option.bind_some, Bool.not_true]
    rw [show 49 = 48 + 1 from rfl]
    simp only [bivouaclaw09_CraterOrders.j1]
    rw [if_neg (by simp)]
    exact good hO hs hlen hk hs.length 0 (by omega) 48 (by omega)
  · have hc2 : ¬(L.Ok W H Wt l ∧ ∀ h ∈ hs.reverse, ok h) := fun h => hc ⟨h.1, fun x hx => h.2 x (List.mem_reverse.2 hx)⟩
    rw [res_neg hc, res_neg hc2]
    simp only
    rw [if_pos trivial, same_eq]
    simp only [Option.bind_some, Bool.not_true]
    rw [show 49 = 48 + 1 from rfl]
    simp only [bivouaclaw09_CraterOrders.j1]
    rw [if_neg (by simp)]
    by_cases hO : L.Ok W H Wt l
    · refine bad hO hs hlen hs.length 0 (by omega) (by simp) ?_ 48 (by omega)
      by_cases hx : ∃ h ∈ hs.drop 0, ¬ok h
      · exact hx
      · exact absurd ⟨hO, fun h hm => Classical.byContradiction fun hn => hx ⟨h, hm, hn⟩⟩ hc
    · exact nomap hb hO hs hlen 48 (by omega)

end Go.Proofs.Ytlhcakepaaeaoaa.Pure
