/- Of any cells those of which a view knows are told, in order, or it is refused. For all views and cells. -/
import Derived.Test.YteihieihoeijdaaPAx30
import Derived.Test.YteihieihoeijdaaPAx41
import Derived.Test.YteihieihoeijdaaPAx42
import Derived.OpenShut
namespace Go.Proofs.Yteihieihoeijdaa.Pure
open Go.RowKit Go.Proofs.Yteihieihoeijdaa.PA Go.Proofs.YteihieihoeijdaaW.PrintWords Go.Proofs.YteihieihoeijdaaW.PrintLast Go.Proofs.YteihieihoeijdaaW.PrintMore
set_option linter.unusedVariables false
set_option linter.unusedSimpArgs false

theorem w64 {i : Int} (h0 : -9223372036854775808 ≤ i) (h1 : i ≤ 9223372036854775807) : wrap64 i = i := by unfold wrap64; omega
theorem awake_ev : ∃ K, ∀ k, K ≤ k → bivouaclaw21_awake.f k = some true :=
  Ev.of (fun k => bivouaclaw21_awake.mono k) (k := 80) (by decide +kernel)
/-- Is a cell one of the view's? -/
def good (v l : List Int) (i : Int) : Prop := 0 ≤ rd l i ∧ rd l i < (v.length : Int)
instance (v l : List Int) (i : Int) : Decidable (good v l i) := by unfold good; infer_instance
def sel (v l : List Int) : Nat → List Int
  | 0 => []
  | n + 1 => sel v l n ++ (if 0 < rd v (rd l (n : Int)) then [(n : Int)] else [])
theorem sel_len (v l : List Int) : ∀ n, (sel v l n).length ≤ n
  | 0 => Nat.le_refl _
  | n + 1 => by
    have := sel_len v l n
    simp only [sel, List.length_append]
    split <;> simp <;> omega
theorem sel_pre (v l : List Int) : ∀ d i, ∃ t, sel v l (i + d) = sel v l i ++ t
  | 0, i => ⟨[], by simp⟩
  | d + 1, i => by
    obtain ⟨t, h⟩ := sel_pre v l d i
    exact ⟨t ++ (if 0 < rd v (rd l ((i + d : Nat) : Int)) then [((i + d : Nat) : Int)] else []), by rw [← Nat.add_assoc]; simp only [sel]; rw [h, List.append_assoc]⟩
theorem fil_good {v l : List Int} (hl : l.length ≤ 17592186043904) : ∀ (d i k : Nat), l.length - i = d → i ≤ l.length → 2 * d + 1 ≤ k → (∀ j : Nat, j < l.length → good v l j) → sight_Filter.l0 k v (sel v l i) l (l.length : Int) (i : Int) = some (sel v l l.length, 0) := by
  intro d
  induction d with
  | zero =>
    intro i k hd hi hk hg
    obtain ⟨k, rfl⟩ : ∃ m, k = m + 1 := ⟨k - 1, by omega⟩
    simp only [sight_Filter.l0]
    rw [if_neg (by omega), show i = l.length by omega]
  | succ d ih =>
    intro i k hd hi hk hg
    obtain ⟨k, rfl⟩ : ∃ m, k = m + 1 + 1 := ⟨k - 2, by omega⟩
    have hgi := hg i (by omega)
    have h := ih (i + 1) k (by omega) (by omega) (by omega) hg
    have hs := sel_len v l i
    simp only [sight_Filter.l0]
    rw [if_pos (by omega), if_pos (by omega), if_pos (by omega), if_neg (by have := hgi.1; omega), decide_eq_false (by have := hgi.2; omega)]
    simp only [sight_Filter.j1]
    rw [if_neg (by decide), if_pos hgi.1, if_pos hgi.2, w64 (i := (i : Int) + 1) (by omega) (by omega)]
    simp only [sel] at h
    by_cases hp : rd v (rd l (i : Int)) > 0
    · rw [if_pos hp, if_pos (by omega)]
      rw [if_pos (show 0 < rd v (rd l (i : Int)) from hp)] at h
      simpa using h
    · rw [if_neg hp]
      rw [if_neg (show ¬ 0 < rd v (rd l (i : Int)) from hp)] at h
      simpa using h
theorem fil_bad {v l : List Int} (hl : l.length ≤ 17592186043904) {m : Nat} (hm : m < l.length) (hb : ¬ good v l m) (hg : ∀ j : Nat, j < m → good v l j) : ∀ (d i k : Nat) , m - i = d → i ≤ m → 2 * d + 2 ≤ k → sight_Filter.l0 k v (sel v l i) l (l.length : Int) (i : Int) = some ([], 4) := by
  intro d
  induction d with
  | zero =>
    intro i k hd hi hk
    obtain ⟨k, rfl⟩ : ∃ m, k = m + 1 + 1 := ⟨k - 2, by omega⟩
    obtain rfl : i = m := by omega
    simp only [sight_Filter.l0]
    rw [if_pos (by omega), if_pos (by omega), if_pos (by omega)]
    by_cases h0 : rd l (i : Int) < 0
    · rw [if_pos h0]
      simp only [sight_Filter.j1]
      rw [if_pos trivial]
    · rw [if_neg h0, decide_eq_true (by unfold good at hb; omega)]
      simp only [sight_Filter.j1]
      rw [if_pos trivial]
  | succ d ih =>
    intro i k hd hi hk
    obtain ⟨k, rfl⟩ : ∃ m, k = m + 1 + 1 := ⟨k - 2, by omega⟩
    have hgi := hg i (by omega)
    have h := ih (i + 1) k (by omega) (by omega) (by omega)
    have hs := sel_len v l i
    simp only [sight_Filter.l0]
    rw [if_pos (by omega), if_pos (by omega), if_pos (by omega), if_neg (by have := hgi.1; omega), decide_eq_false (by have := hgi.2; omega)]
    simp only [sight_Filter.j1]
    rw [if_neg (by decide), if_pos hgi.1, if_pos hgi.2, w64 (i := (i : Int) + 1) (by omega) (by omega)]
    simp only [sel] at h
    by_cases hp : rd v (rd l (i : Int)) > 0
    · rw [if_pos hp, if_pos (by omega)]
      rw [if_pos (show 0 < rd v (rd l (i : Int)) from hp)] at h
      simpa using h
    · rw [if_neg hp]
      rw [if_neg (show ¬ 0 < rd v (rd l (i : Int)) from hp)] at h
      simpa using h
theorem law_l1 {v l : List Int} (hl : l.length ≤ 17592186043904) {A : Nat} (hA : ∀ k, A ≤ k → bivouaclaw21_awake.f k = some true) (hg : ∀ j : Nat, j < l.length → good v l j) : ∀ (d i k : Nat), l.length - i = d → i ≤ l.length → d + 1 + A ≤ k →
    bivouaclaw21_SightFilters.l1 k v l (sel v l l.length) 0 ((sel v l i).length : Int) (i : Int) = some true := by
  intro d
  induction d with
  | zero =>
    intro i k hd hi hk
    obtain ⟨k, rfl⟩ : ∃ m, k = m + 1 := ⟨k - 1, by omega⟩
    simp only [bivouaclaw21_SightFilters.l1]
    rw [if_neg (by omega), show i = l.length by omega, if_pos rfl, if_pos trivial, hA k (by omega)]
    rfl
  | succ d ih =>
    intro i k hd hi hk
    obtain ⟨k, rfl⟩ : ∃ m, k = m + 1 := ⟨k - 1, by omega⟩
    have hgi := hg i (by omega)
    have h := ih (i + 1) k (by omega) (by omega) (by omega)
    have hs := sel_len v l i
    simp only [bivouaclaw21_SightFilters.l1]
    rw [if_pos (by omega), if_pos (by omega), if_pos hgi.1, if_pos hgi.2, w64 (i := (i : Int) + 1) (by omega) (by omega)]
    by_cases hp : rd v (rd l (i : Int)) > 0
    · obtain ⟨t, ht⟩ := sel_pre v l d (i + 1)
      rw [show i + 1 + d = l.length by omega] at ht
      have h1 : sel v l (i + 1) = sel v l i ++ [(i : Int)] := by
        simp only [sel]
        rw [if_pos (show 0 < rd v (rd l (i : Int)) from hp)]
      rw [h1] at ht h
      have hlen : (sel v l i).length < (sel v l l.length).length := by
        rw [ht]
        simp
      have hget : rd (sel v l l.length) ((sel v l i).length : Int) = (i : Int) := by
        unfold rd
        rw [ht]
        simp [List.getD_eq_getElem?_getD, List.getElem?_append]
      rw [if_pos hp, if_neg (by omega), if_pos (by omega), if_pos (by omega), if_pos hget, w64 (i := ((sel v l i).length : Int) + 1) (by omega) (by omega)]
      simpa using h
    · have h1 : sel v l (i + 1) = sel v l i := by
        simp only [sel]
        rw [if_neg (show ¬ 0 < rd v (rd l (i : Int)) from hp), List.append_nil]
      rw [h1] at h
      rw [if_neg hp]
      simpa using h
theorem law_l0 {v l : List Int} (hl : l.length ≤ 17592186043904) {A : Nat} (hA : ∀ k, A ≤ k → bivouaclaw21_awake.f k = some true) (hg : ∀ j : Nat, j < l.length → good v l j) : ∀ (d i k : Nat), l.length - i = d → i ≤ l.length → d + l.length + 2 + A ≤ k →
    bivouaclaw21_SightFilters.l0 k v l (sel v l l.length) 0 0 (i : Int) = some true := by
  intro d
  induction d with
  | zero =>
    intro i k hd hi hk
    obtain ⟨k, rfl⟩ : ∃ m, k = m + 1 := ⟨k - 1, by omega⟩
    simp only [bivouaclaw21_SightFilters.l0]
    rw [if_neg (by omega)]
    exact law_l1 hl hA hg l.length 0 k (by omega) (by omega) (by omega)
  | succ d ih =>
    intro i k hd hi hk
    obtain ⟨k, rfl⟩ : ∃ m, k = m + 1 := ⟨k - 1, by omega⟩
    have hgi := hg i (by omega)
    have h := ih (i + 1) k (by omega) (by omega) (by omega)
    simp only [bivouaclaw21_SightFilters.l0]
    rw [if_pos (by omega), if_pos (by omega), if_neg (by have := hgi.1; omega), if_neg (by have := hgi.2; omega), w64 (i := (i : Int) + 1) (by omega) (by omega)]
    simpa using h
theorem law_bad {v l : List Int} (hl : l.length ≤ 17592186043904) {A : Nat} (hA : ∀ k, A ≤ k → bivouaclaw21_awake.f k = some true) {m : Nat} (hm : m < l.length) (hb : ¬ good v l m) (hg : ∀ j : Nat, j < m → good v l j) : ∀ (d i k : Nat), m - i = d → i ≤ m → d + 1 + A ≤ k →
    bivouaclaw21_SightFilters.l0 k v l [] 4 0 (i : Int) = some true := by
  intro d
  induction d with
  | zero =>
    intro i k hd hi hk
    obtain ⟨k, rfl⟩ : ∃ m, k = m + 1 := ⟨k - 1, by omega⟩
    obtain rfl : i = m := by omega
    simp only [bivouaclaw21_SightFilters.l0]
    rw [if_pos (by omega), if_pos (by omega), hA k (by omega)]
    by_cases h0 : rd l (i : Int) < 0
    · rw [if_pos h0]; simp
    · rw [if_neg h0, if_pos (by unfold good at hb; omega)]; simp
  | succ d ih =>
    intro i k hd hi hk
    obtain ⟨k, rfl⟩ : ∃ m, k = m + 1 := ⟨k - 1, by omega⟩
    have hgi := hg i (by omega)
    have h := ih (i + 1) k (by omega) (by omega) (by omega)
    simp only [bivouaclaw21_SightFilters.l0]
    rw [if_pos (by omega), if_pos (by omega), if_neg (by have := hgi.1; omega), if_neg (by have := hgi.2; omega), w64 (i := (i : Int) + 1) (by omega) (by omega)]
    simpa using h
theorem first_bad {p : Nat → Prop} (hd : ∀ j, p j ∨ ¬ p j) : ∀ n, (∀ j, j < n → p j) ∨ ∃ m, m < n ∧ ¬ p m ∧ ∀ j, j < m → p j
  | 0 => .inl fun j h => absurd h (Nat.not_lt_zero _)
  | n + 1 => by
    rcases first_bad hd n with h | ⟨m, h1, h2, h3⟩
    · rcases hd n with h2 | h2
      · exact .inl fun j hj => by
          rcases (by omega : j < n ∨ j = n) with h4 | rfl
          · exact h j h4
          · exact h2
      · exact .inr ⟨n, by omega, h2, h⟩
    · exact .inr ⟨m, by omega, h2, h3⟩
theorem SightFilters : bivouaclaw21_SightFilters.Pure := by
  intro v l _ _ _ _ hl8 _
  have hl : l.length ≤ 17592186043904 := by omega
  obtain ⟨A, hA⟩ := awake_ev
  refine ⟨2 * l.length + 10 + A, ?_⟩
  unfold bivouaclaw21_SightFilters.f sight_Filter.f
  rcases first_bad (p := fun j => good v l (j : Int)) (fun j => Classical.em _) l.length with hg | ⟨m, hm, hb, hg⟩
  · have h := fil_good (v := v) hl l.length 0 (2 * l.length + 10 + A) (by omega) (by omega) (by omega) hg
    simp only [sel] at h
    rw [show (((0 : Nat) : Int)) = 0 from rfl] at h
    rw [h]
    simp only [Option.bind_some]
    exact law_l0 hl hA hg l.length 0 _ (by omega) (by omega) (by omega)
  · have h := fil_bad (v := v) hl hm hb hg m 0 (2 * l.length + 10 + A) (by omega) (by omega) (by omega)
    simp only [sel] at h
    rw [show (((0 : Nat) : Int)) = 0 from rfl] at h
    rw [h]
    simp only [Option.bind_some]
    exact law_bad hl hA hm hb hg m 0 _ (by omega) (by omega) (by omega)

end Go.Proofs.Yteihieihoeijdaa.Pure
