/- What hits make of a map, corner by corner: by the contract of crater.strikes. -/
import Derived.Test.YtlhcakepaaeaoaaGCrcraterStrike
import Derived.Test.YtlhcakepaaeaoaaPCrx13
import Derived.Test.YtlhcakepaaeaoaaPCrx16
import Derived.Test.YtlhcakepaaeaoaaCL
import Derived.Test.YtlhcakepaaeaoaaL
namespace Go.Proofs.Ytlhcakepaaeaoaa.CS
open Go.RowKit Go.Proofs.Ytlhcakepaaeaoaa.PCr Go.Proofs.YtlhcakepaaeaoaaW.PrintWords Go.Proofs.YtlhcakepaaeaoaaW.PrintLast Go.Proofs.YtlhcakepaaeaoaaW.PrintMore
open Go.Proofs.Ytlhcakepaaeaoaa.CL
set_option linter.unusedVariables false
set_option linter.unusedSimpArgs false

def L (h : S23) (i j : Int) : Int := lowers h.f0 h.f1 h.f2 h.f3 i j
def ok (h : S23) : Prop := may h.f0 h.f1 h.f2 h.f3
instance (h : S23) : Decidable (ok h) := by unfold ok; infer_instance
theorem low_L (h : S23) (i j : Int) : crater_strikes.low h i j = L h i j := by
  unfold crater_strikes.low
  rw [lowers_eq]
  rfl
theorem may_d (h : S23) : crater_strikes.may h = decide (ok h) := by
  unfold crater_strikes.may
  rw [may_eq]
  rfl
theorem all_d (hs : List S23) : hs.all crater_strikes.may = true ↔ ∀ h ∈ hs, ok h := by
  rw [List.all_eq_true]
  constructor
  · intro h x hx
    have := h x hx
    rw [may_d] at this
    exact of_decide_eq_true this
  · intro h x hx
    rw [may_d]
    exact decide_eq_true (h x hx)
theorem L_b {h : S23} (hk : ok h) (i j : Int) : 0 ≤ L h i j ∧ L h i j ≤ h.f3 := by
  have hk2 := hk
  obtain ⟨h1, h2, h3, h4, h5, h6⟩ := hk2
  unfold L lowers
  split
  · rename_i hc
    obtain ⟨_, _, _, _, _, r1, r2, x1, x2, y1, y2⟩ := low_core hc.1 hc.2.1 hc.2.2
    split
    · omega
    · rename_i hs
      generalize (i - h.f0) * (i - h.f0) = x at *
      generalize (j - h.f1) * (j - h.f1) = y at *
      generalize h.f2 * h.f2 = r at *
      have a := Int.mul_nonneg h3 (show 0 ≤ r - (x + y) by omega)
      have b := Int.mul_le_mul_of_nonneg_left (show r - (x + y) ≤ r by omega) h3
      exact ⟨Int.ediv_nonneg a (by omega), Int.ediv_le_of_le_mul (by omega) b⟩
  · omega
theorem sq_gt {a r : Int} (hr : 0 ≤ r) (h : a < -r ∨ r < a) : r * r ≤ a * a := by
  rcases h with h | h
  · have := Int.mul_le_mul (show r ≤ -a by omega) (show r ≤ -a by omega) hr (by omega)
    have e : -a * -a = a * a := by grind
    omega
  · exact Int.mul_le_mul (show r ≤ a by omega) (show r ≤ a by omega) hr (by omega)
theorem L_out {h : S23} (hk : ok h) {i j : Int} (ho : (i - h.f0 < -h.f2 ∨ h.f2 < i - h.f0) ∨ (j - h.f1 < -h.f2 ∨ h.f2 < j - h.f1)) : L h i j = 0 := by
  have hk2 := hk
  obtain ⟨h1, h2, h3, h4, h5, h6⟩ := hk2
  unfold L lowers
  split
  · rename_i hc
    obtain ⟨_, _, _, _, _, r1, r2, x1, x2, y1, y2⟩ := low_core hc.1 hc.2.1 hc.2.2
    rw [if_pos]
    rcases ho with ho | ho
    · have := sq_gt (a := i - h.f0) (r := h.f2) (by omega) ho
      omega
    · have := sq_gt (a := j - h.f1) (r := h.f2) (by omega) ho
      omega
  · rfl
theorem inj {W i j i' j' : Int} (i0 : 0 ≤ i) (i1 : i ≤ W) (i0' : 0 ≤ i') (i1' : i' ≤ W) (e : (W + 1) * j + i = (W + 1) * j' + i') : i = i' ∧ j = j' := by
  have hj : j = j' := by
    rcases (by omega : j < j' ∨ j = j' ∨ j' < j) with h | h | h
    · have := Int.mul_le_mul_of_nonneg_left (show j + 1 ≤ j' by omega) (show 0 ≤ W + 1 by omega)
      have e2 : (W + 1) * (j + 1) = (W + 1) * j + (W + 1) := by grind
      omega
    · exact h
    · have := Int.mul_le_mul_of_nonneg_left (show j' + 1 ≤ j by omega) (show 0 ≤ W + 1 by omega)
      have e2 : (W + 1) * (j' + 1) = (W + 1) * j' + (W + 1) := by grind
      omega
  subst hj
  exact ⟨by omega, rfl⟩
theorem rd_set {cs : List Int} {q p : Int} (q0 : 0 ≤ q) (q1 : q < cs.length) (p0 : 0 ≤ p) (v : Int) : rd (cs.set q.toNat v) p = if p = q then v else rd cs p := by
  unfold rd
  simp only [List.getD_eq_getElem?_getD, List.getElem?_set]
  by_cases h : p = q
  · subst h
    rw [if_pos rfl, if_pos (by omega), if_pos rfl]
    rfl
  · rw [if_neg (by omega), if_neg h]

/-- So many corners, each a byte. -/
structure Bm (W H : Int) (cs : List Int) : Prop where
  w0 : 1 ≤ W
  w1 : W ≤ 64
  h0 : 1 ≤ H
  h1 : H ≤ 64
  n : (cs.length : Int) = (W + 1) * (H + 1)
  b : ∀ x ∈ cs, 0 ≤ x ∧ x ≤ 255
theorem Bm.idx {W H : Int} {cs : List Int} (h : Bm W H cs) {i j : Int} (i0 : 0 ≤ i) (i1 : i ≤ W) (j0 : 0 ≤ j) (j1 : j ≤ H) : 0 ≤ (W + 1) * j + i ∧ (W + 1) * j + i < (cs.length : Int) := by
  have := h.w0
  have := h.n
  have a := Int.mul_nonneg (show 0 ≤ W + 1 by omega) j0
  have b := Int.mul_le_mul_of_nonneg_left j1 (show 0 ≤ W + 1 by omega)
  have e : (W + 1) * (H + 1) = (W + 1) * H + (W + 1) := by grind
  omega
theorem put_ok {W H : Int} {cs : List Int} (hB : Bm W H cs) {h : S23} (hk : ok h) {i j : Int} (i0 : 0 ≤ i) (i1 : i ≤ W) (j0 : 0 ≤ j) (j1 : j ≤ H) :
    Bm W H (crater_strikes.put W h j i cs) ∧ ∀ i' j' : Int, 0 ≤ i' → i' ≤ W → 0 ≤ j' → j' ≤ H →
      rd (crater_strikes.put W h j i cs) ((W + 1) * j' + i') = if i' = i ∧ j' = j then mx 0 (rd cs ((W + 1) * j' + i') - L h i' j') else rd cs ((W + 1) * j' + i') := by
  obtain ⟨q0, q1⟩ := hB.idx i0 i1 j0 j1
  have hv := L.rd_b hB.b ((W + 1) * j + i)
  have hl := L_b hk i j
  have hd := hk.2.2.2.1
  have ev : mx 0 (wrap64 (wrap64 (rd cs ((W + 1) * j + i)) - crater_strikes.low h i j)) % 256 = mx 0 (rd cs ((W + 1) * j + i) - L h i j) := by
    rw [low_L, w64 (i := rd cs _) (by omega) (by omega), w64 (by omega) (by omega)]
    unfold mx
    split <;> omega
  have hvb : 0 ≤ mx 0 (rd cs ((W + 1) * j + i) - L h i j) ∧ mx 0 (rd cs ((W + 1) * j + i) - L h i j) ≤ 255 := by unfold mx; split <;> omega
  unfold crater_strikes.put
  rw [ev]
  refine ⟨⟨hB.w0, hB.w1, hB.h0, hB.h1, by rw [List.length_set]; exact hB.n, fun x hx => ?_⟩, fun i' j' a0 a1 b0 b1 => ?_⟩
  · rcases List.mem_or_eq_of_mem_set hx with hx | hx
    · exact hB.b x hx
    · rw [hx]; exact hvb
  · obtain ⟨p0, p1⟩ := hB.idx a0 a1 b0 b1
    rw [rd_set q0 q1 p0]
    by_cases he : i' = i ∧ j' = j
    · obtain ⟨rfl, rfl⟩ := he
      rw [if_pos rfl, if_pos ⟨rfl, rfl⟩]
    · rw [if_neg (fun e => he (inj a0 a1 i0 i1 e)), if_neg he]
theorem row_ok {W H : Int} {h : S23} (hk : ok h) {i j : Int} (i0 : 0 ≤ i) (j0 : 0 ≤ j) (j1 : j ≤ H) : ∀ (n : Nat) (cs : List Int), Bm W H cs → (n = 0 ∨ i + n ≤ W + 1) →
    Bm W H (crater_strikes.row W h j i n cs) ∧ ∀ i' j' : Int, 0 ≤ i' → i' ≤ W → 0 ≤ j' → j' ≤ H →
      rd (crater_strikes.row W h j i n cs) ((W + 1) * j' + i') = if (i ≤ i' ∧ i' < i + n) ∧ j' = j then mx 0 (rd cs ((W + 1) * j' + i') - L h i' j') else rd cs ((W + 1) * j' + i')
  | 0, cs, hB, _ => ⟨hB, fun i' j' _ _ _ _ => by rw [if_neg (by omega)]; rfl⟩
  | n + 1, cs, hB, hn => by
    obtain ⟨b1, r1⟩ := row_ok hk i0 j0 j1 n cs hB (by omega)
    obtain ⟨b2, r2⟩ := put_ok b1 hk (i := i + n) (j := j) (by omega) (by omega) j0 j1
    refine ⟨b2, fun i' j' a0 a1 c0 c1 => ?_⟩
    show rd (crater_strikes.put W h j (i + n) (crater_strikes.row W h j i n cs)) _ = _
    rw [r2 i' j' a0 a1 c0 c1, r1 i' j' a0 a1 c0 c1]
    by_cases h1 : i' = i + n ∧ j' = j
    · rw [if_pos h1, if_neg (by omega), if_pos (by omega)]
    · rw [if_neg h1]
      by_cases h2 : (i ≤ i' ∧ i' < i + n) ∧ j' = j
      · rw [if_pos h2, if_pos (by omega)]
      · rw [if_neg h2, if_neg (by omega)]
theorem rows_ok {W H : Int} {h : S23} (hk : ok h) {i j : Int} (i0 : 0 ≤ i) (j0 : 0 ≤ j) {m : Nat} (hm : m = 0 ∨ i + m ≤ W + 1) : ∀ (n : Nat) (cs : List Int), Bm W H cs → (n = 0 ∨ j + n ≤ H + 1) →
    Bm W H (crater_strikes.rows W h j i m n cs) ∧ ∀ i' j' : Int, 0 ≤ i' → i' ≤ W → 0 ≤ j' → j' ≤ H →
      rd (crater_strikes.rows W h j i m n cs) ((W + 1) * j' + i') = if (i ≤ i' ∧ i' < i + m) ∧ (j ≤ j' ∧ j' < j + n) then mx 0 (rd cs ((W + 1) * j' + i') - L h i' j') else rd cs ((W + 1) * j' + i')
  | 0, cs, hB, _ => ⟨hB, fun i' j' _ _ _ _ => by rw [if_neg (by omega)]; rfl⟩
  | n + 1, cs, hB, hn => by
    obtain ⟨b1, r1⟩ := rows_ok hk i0 j0 hm n cs hB (by omega)
    obtain ⟨b2, r2⟩ := row_ok hk i0 (show 0 ≤ j + n by omega) (by omega) m _ b1 hm
    refine ⟨b2, fun i' j' a0 a1 c0 c1 => ?_⟩
    show rd (crater_strikes.row W h (j + n) i m (crater_strikes.rows W h j i m n cs)) _ = _
    rw [r2 i' j' a0 a1 c0 c1, r1 i' j' a0 a1 c0 c1]
    by_cases h1 : (i ≤ i' ∧ i' < i + m) ∧ j' = j + n
    · rw [if_pos h1, if_neg (by omega), if_pos (by omega)]
    · rw [if_neg h1]
      by_cases h2 : (i ≤ i' ∧ i' < i + m) ∧ (j ≤ j' ∧ j' < j + n)
      · rw [if_pos h2, if_pos (by omega)]
      · rw [if_neg h2, if_neg (by omega)]
theorem one_ok {W H : Int} {h : S23} (hk : ok h) {cs : List Int} (hB : Bm W H cs) :
    Bm W H (crater_strikes.one W H cs h) ∧ ∀ i j : Int, 0 ≤ i → i ≤ W → 0 ≤ j → j ≤ H → rd (crater_strikes.one W H cs h) ((W + 1) * j + i) = mx 0 (rd cs ((W + 1) * j + i) - L h i j) := by
  obtain ⟨h1, h2, h3, h4, h5, h6⟩ := id hk
  have w1 := hB.w1
  have w2 := hB.h1
  have w3 := hB.w0
  have w4 := hB.h0
  unfold crater_strikes.one
  have eI0 : crater_strikes.from h.f0 h.f2 = mx 0 (h.f0 - h.f2) := by unfold crater_strikes.from; rw [w64 (by omega) (by omega)]
  have eJ0 : crater_strikes.from h.f1 h.f2 = mx 0 (h.f1 - h.f2) := by unfold crater_strikes.from; rw [w64 (by omega) (by omega)]
  have eI1 : crater_strikes.to W h.f0 h.f2 = mn W (h.f0 + h.f2) := by unfold crater_strikes.to; rw [w64 (by omega) (by omega)]
  have eJ1 : crater_strikes.to H h.f1 h.f2 = mn H (h.f1 + h.f2) := by unfold crater_strikes.to; rw [w64 (by omega) (by omega)]
  have a0 : 0 ≤ mx 0 (h.f0 - h.f2) ∧ (mx 0 (h.f0 - h.f2) = 0 ∨ mx 0 (h.f0 - h.f2) = h.f0 - h.f2) ∧ h.f0 - h.f2 ≤ mx 0 (h.f0 - h.f2) := by unfold mx; split <;> omega
  have b0 : 0 ≤ mx 0 (h.f1 - h.f2) ∧ (mx 0 (h.f1 - h.f2) = 0 ∨ mx 0 (h.f1 - h.f2) = h.f1 - h.f2) ∧ h.f1 - h.f2 ≤ mx 0 (h.f1 - h.f2) := by unfold mx; split <;> omega
  have a1 : mn W (h.f0 + h.f2) ≤ W ∧ mn W (h.f0 + h.f2) ≤ h.f0 + h.f2 ∧ (mn W (h.f0 + h.f2) = W ∨ mn W (h.f0 + h.f2) = h.f0 + h.f2) := by unfold mn; split <;> omega
  have b1 : mn H (h.f1 + h.f2) ≤ H ∧ mn H (h.f1 + h.f2) ≤ h.f1 + h.f2 ∧ (mn H (h.f1 + h.f2) = H ∨ mn H (h.f1 + h.f2) = h.f1 + h.f2) := by unfold mn; split <;> omega
  rw [eI0, eJ0, eI1, eJ1]
  generalize mx 0 (h.f0 - h.f2) = I0 at *
  generalize mx 0 (h.f1 - h.f2) = J0 at *
  generalize mn W (h.f0 + h.f2) = I1 at *
  generalize mn H (h.f1 + h.f2) = J1 at *
  obtain ⟨r1, r2⟩ := rows_ok (W := W) (H := H) hk a0.1 b0.1 (m := (I1 + 1 - I0).toNat) (by omega) (J1 + 1 - J0).toNat cs hB (by omega)
  refine ⟨r1, fun i j i0 i1 j0 j1 => ?_⟩
  rw [r2 i j i0 i1 j0 j1]
  split
  · rfl
  · rename_i hn
    have e := L_out hk (i := i) (j := j) (by omega)
    rw [e]
    have := L.rd_b hB.b ((W + 1) * j + i)
    unfold mx
    split <;> omega

/-- What some hits leave of a height. -/
def fall (i j : Int) (v : Int) (hs : List S23) : Int := hs.foldl (fun v h => mx 0 (v - L h i j)) v
theorem fold_ok {W H : Int} : ∀ (hs : List S23) (cs : List Int), (∀ h ∈ hs, ok h) → Bm W H cs →
    Bm W H (hs.foldl (crater_strikes.one W H) cs) ∧ ∀ i j : Int, 0 ≤ i → i ≤ W → 0 ≤ j → j ≤ H → rd (hs.foldl (crater_strikes.one W H) cs) ((W + 1) * j + i) = fall i j (rd cs ((W + 1) * j + i)) hs
  | [], cs, _, hB => ⟨hB, fun _ _ _ _ _ _ => rfl⟩
  | h :: hs, cs, hk, hB => by
    obtain ⟨b1, r1⟩ := one_ok (hk h (by simp)) hB
    obtain ⟨b2, r2⟩ := fold_ok hs _ (fun x hx => hk x (by simp [hx])) b1
    refine ⟨b2, fun i j i0 i1 j0 j1 => ?_⟩
    simp only [List.foldl_cons]
    rw [r2 i j i0 i1 j0 j1, r1 i j i0 i1 j0 j1]
    rfl
theorem bm {W H Wt : Int} {l : List Int} (h : L.Ok W H Wt l) : Bm W H l := ⟨h.w0, h.w1, h.h0, h.h1, h.n, h.b⟩

open Classical in
/-- What hits make of a map. -/
noncomputable def res (W H Wt : Int) (l : List Int) (hs : List S23) : Int × Int × Int × List Int × Int :=
  if L.Ok W H Wt l ∧ (∀ h ∈ hs, ok h) then (W, H, Wt, hs.foldl (crater_strikes.one W H) l, 0) else (0, 0, 0, [], 1)
theorem strikes_eq {k : Nat} (hk : 1 ≤ k) {W H Wt : Int} {l : List Int} (hb : ∀ x ∈ l, 0 ≤ x ∧ x ≤ 255) (hs : List S23) : crater_strikes.f k W H Wt l hs = some (res W H Wt l hs) := by
  unfold crater_strikes.f res
  rw [L.check_eq hk]
  simp only [Option.bind_some]
  by_cases hc : L.chk W H Wt l = 0
  · have ho := (L.chk_zero hb).1 hc
    rw [if_pos hc, if_pos ⟨ho.w0, ho.w1, ho.h0, ho.h1, ho.n⟩]
    by_cases ha : ∀ h ∈ hs, ok h
    · rw [if_pos ((all_d hs).2 ha), if_pos ⟨ho, ha⟩]
    · rw [if_neg (fun h => ha ((all_d hs).1 h)), if_neg (fun h => ha h.2)]
  · rw [if_neg hc, if_neg (fun h => hc ((L.chk_zero hb).2 h.1))]
theorem res_pos {W H Wt : Int} {l : List Int} {hs : List S23} (h : L.Ok W H Wt l) (ha : ∀ h ∈ hs, ok h) : res W H Wt l hs = (W, H, Wt, hs.foldl (crater_strikes.one W H) l, 0) := by
  unfold res
  rw [if_pos ⟨h, ha⟩]
theorem res_neg {W H Wt : Int} {l : List Int} {hs : List S23} (h : ¬(L.Ok W H Wt l ∧ ∀ h ∈ hs, ok h)) : res W H Wt l hs = (0, 0, 0, [], 1) := by
  unfold res
  rw [if_neg h]
theorem ext_rd {a b : List Int} (hl : a.length = b.length) (h : ∀ q : Int, 0 ≤ q → q < a.length → rd a q = rd b q) : a = b := by
  apply List.ext_getElem hl
  intro i h1 h2
  have := h i (by omega) (by omega)
  unfold rd at this
  simpa [h1, h2] using this
/-- A corner's place of its number. -/
theorem place {W H q : Int} (w : 1 ≤ W) (q0 : 0 ≤ q) (q1 : q < (W + 1) * (H + 1)) : 0 ≤ q % (W + 1) ∧ q % (W + 1) ≤ W ∧ 0 ≤ q / (W + 1) ∧ q / (W + 1) ≤ H ∧ (W + 1) * (q / (W + 1)) + q % (W + 1) = q := by
  have a := Int.emod_nonneg q (show W + 1 ≠ 0 by omega)
  have b := Int.emod_lt_of_pos q (show 0 < W + 1 by omega)
  have c := Int.ediv_nonneg q0 (show 0 ≤ W + 1 by omega)
  have d := Int.mul_ediv_add_emod q (W + 1)
  have e : q / (W + 1) < H + 1 := Int.ediv_lt_of_lt_mul (by omega) (by rw [Int.mul_comm]; exact q1)
  exact ⟨a, by omega, c, by omega, d⟩
theorem same_eq (W H Wt : Int) (l : List Int) : bivouacref06_Same.f W H Wt l W H Wt l = some true := by
  unfold bivouacref06_Same.f
  rw [if_pos rfl, if_pos rfl, if_pos rfl]
  simp
theorem some_eq (hs : List S23) : bivouaclaw09_some.f hs = some (hs.take 20) := by
  unfold bivouaclaw09_some.f
  by_cases h : (hs.length : Int) > 20
  · rw [if_pos h, if_pos (by omega)]
  · rw [if_neg h, List.take_of_length_le (by omega)]

end Go.Proofs.Ytlhcakepaaeaoaa.CS
