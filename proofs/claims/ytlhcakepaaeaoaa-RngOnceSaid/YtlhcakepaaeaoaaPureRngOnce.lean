/- An order has each number from 0 on just once, for all arguments. -/
import Derived.Test.YtlhcakepaaeaoaaRngL
namespace Go.Proofs.Ytlhcakepaaeaoaa.Pure
open Go.RowKit Go.Proofs.Ytlhcakepaaeaoaa.PRng Go.Proofs.YtlhcakepaaeaoaaW.PrintWords Go.Proofs.YtlhcakepaaeaoaaW.PrintLast
set_option linter.unusedVariables false
set_option linter.unusedSimpArgs false
open Go.Proofs.Ytlhcakepaaeaoaa.RngL Go.Proofs.Ytlhcakepaaeaoaa
theorem rd_get (l : List Int) (j : Nat) (h : j < l.length) : rd l (j : Int) = l[j] := by
  unfold rd
  rw [Int.toNat_natCast, List.getD_eq_getElem?_getD, List.getElem?_eq_getElem h]
  rfl

theorem swaps_perm (s n : Int) : ∀ (i : Nat) (l : List Int), (i = 0 ∨ i < l.length) → l.length ≤ 256 → (swaps s n i l).Perm l := by
  intro i
  induction i with
  | zero => intro l _ _; exact List.Perm.refl _
  | succ i ih =>
    intro l hl hl2
    have hl : i + 1 < l.length := by omega
    unfold swaps
    split
    · rename_i t ht
      obtain ⟨t', ht', g0, g1⟩ := below_some s (IntKind.u64.wrap (n + IntKind.u64.wrap ((i : Int) + 1))) ((i : Int) + 2) (by omega) (by omega)
      have : t = t' := Option.some.inj (ht.symm.trans ht')
      subst this
      obtain ⟨j, rfl⟩ := Int.eq_ofNat_of_zero_le g0
      have hj : j < l.length := by omega
      refine (ih _ (by simp; omega) (by simp; omega)).trans ?_
      rw [rd_get l j hj, show ((i : Int) + 1) = ((i + 1 : Nat) : Int) by omega, rd_get l (i + 1) hl, Int.toNat_natCast]
      exact List.set_set_perm hl hj
    · exact List.Perm.refl _

theorem iota_nodup (m : Nat) : (iota m).Nodup := by
  unfold iota
  rw [List.Nodup, List.pairwise_map]
  exact (List.nodup_range (n := m)).imp (fun h e => h (by omega))

theorem iota_mem {m : Nat} {x : Int} (h : x ∈ iota m) : 0 ≤ x ∧ x < m := by
  unfold iota at h
  obtain ⟨j, hj, rfl⟩ := List.mem_map.1 h
  have := List.mem_range.1 hj
  omega

/-- how often each number has been seen behind i elements -/
def Seen (l seen : List Int) (i : Nat) : Prop := seen.length = l.length ∧ ∀ x : Nat, x < l.length → rd seen x = if (x : Int) ∈ l.take i then 1 else 0

theorem once_l0 (l : List Int) (hnd : l.Nodup) (hr : ∀ x ∈ l, 0 ≤ x ∧ x < (l.length : Int)) (hl : l.length ≤ 1000) (K : Nat) (hK : ∀ k, K ≤ k → bivouaclaw05_awake.f k = some true) (d : Nat) :
    ∀ (k i : Nat) (seen : List Int), i ≤ l.length → l.length - i = d → Seen l seen i → d + K < k → bivouaclaw05_RngOnce.l0 k l.length l seen i = some true := by
  induction d with
  | zero =>
    intro k i seen hi hd _ hk
    obtain ⟨k, rfl⟩ : ∃ q, k = q + 1 := ⟨k - 1, by omega⟩
    simp only [bivouaclaw05_RngOnce.l0]
    rw [if_neg (by omega), hK k (by omega)]
    rfl
  | succ d ih =>
    intro k i seen hi hd hs hk
    obtain ⟨k, rfl⟩ : ∃ q, k = q + 1 := ⟨k - 1, by omega⟩
    have hil : i < l.length := by omega
    have hmem : l[i] ∈ l := List.getElem_mem hil
    have hrx := hr _ hmem
    have hnot : l[i] ∉ l.take i := by
      intro hm
      obtain ⟨j, hj, e⟩ := List.mem_iff_getElem.1 hm
      have hj' : j < i := by rw [List.length_take] at hj; omega
      have e2 : l[j]'(by omega) = l[i] := by rw [← e, List.getElem_take]
      have := (List.getElem_inj (h₀ := by omega) (h₁ := hil) hnd).1 e2
      omega
    obtain ⟨x, hx⟩ := Int.eq_ofNat_of_zero_le hrx.1
    have hxl : x < l.length := by omega
    have h0 : rd seen (x : Int) = 0 := by
      rw [hs.2 x hxl, if_neg (by have h := hnot; rw [hx] at h; exact h)]
    simp only [bivouaclaw05_RngOnce.l0]
    rw [if_pos (by omega), if_pos (by omega), if_pos (by omega), rd_get l i hil, hx]
    rw [if_neg (by omega), if_neg (by omega), if_pos (by omega), if_pos (by rw [hs.1]; omega), h0, if_neg (by omega)]
    rw [wrap_ok (by omega) (by omega), wrap_ok (by omega) (by omega), Int.toNat_natCast]
    refine ih k (i + 1) _ (by omega) (by omega) ⟨by rw [List.length_set]; exact hs.1, fun y hy => ?_⟩ (by omega)
    have ht : l.take (i + 1) = l.take i ++ [l[i]] := by rw [List.take_succ_eq_append_getElem hil]
    have hxs : x < seen.length := by rw [hs.1]; exact hxl
    unfold rd
    rw [Int.toNat_natCast, List.getD_eq_getElem?_getD, List.getElem?_set]
    by_cases hxy : x = y
    · subst hxy
      rw [if_pos rfl, if_pos hxs, if_pos (by rw [ht, hx]; simp)]
      rfl
    · rw [if_neg hxy]
      have h2 := hs.2 y hy
      unfold rd at h2
      rw [Int.toNat_natCast, List.getD_eq_getElem?_getD] at h2
      rw [h2, ht, hx]
      have : ((y : Int) ∈ l.take i ++ [(x : Int)]) ↔ ((y : Int) ∈ l.take i) := by
        simp only [List.mem_append, List.mem_singleton]
        constructor
        · rintro (h | h)
          · exact h
          · omega
        · exact fun h => .inl h
      by_cases hy2 : (y : Int) ∈ l.take i
      · rw [if_pos hy2, if_pos (this.2 hy2)]
      · rw [if_neg hy2, if_neg (fun h => hy2 (this.1 h))]

theorem RngOnce : bivouaclaw05_RngOnce.Pure := by
  intro s n c _ _ hc
  have hc := Go.bounds_i64 hc
  refine Ev.rounds (r := true) ?_
  obtain ⟨K, hK⟩ := awake_ev
  by_cases h : c < 0 ∨ c > 256
  · obtain ⟨K1, hK1⟩ := order_no s n c h
    refine ⟨max K K1 + 2, fun k hk => ?_⟩
    dsimp only
    unfold bivouaclaw05_RngOnce.f
    rw [hK1 k (by omega)]
    simp only [Option.bind_some]
    rw [if_neg (by decide), if_pos (by rfl), hK k (by omega)]
    simp only [Option.bind_some]
    by_cases h0 : c < 0
    · rw [if_pos h0]
    · rw [if_neg h0, if_pos (by omega)]
  · obtain ⟨m, rfl⟩ := Int.eq_ofNat_of_zero_le (show 0 ≤ c by omega)
    obtain ⟨K1, hK1⟩ := order_some s n m (by omega)
    refine ⟨max K K1 + 1100, fun k hk => ?_⟩
    have hp := swaps_perm s n (m - 1) (iota m) (by rw [iota_length]; omega) (by rw [iota_length]; omega)
    have hl : (swaps s n (m - 1) (iota m)).length = m := by rw [hp.length_eq, iota_length]
    dsimp only
    unfold bivouaclaw05_RngOnce.f
    rw [hK1 k (by omega)]
    simp only [Option.bind_some]
    generalize swaps s n (m - 1) (iota m) = l at *
    rw [if_pos trivial, if_pos (by omega), if_pos (by omega), if_pos (by omega)]
    have h3 := once_l0 l (hp.symm.nodup (iota_nodup m)) (fun x hx => by have := iota_mem (hp.subset hx); omega) (by omega) K hK l.length k 0 (List.replicate m 0) (by omega) rfl
      ⟨by rw [List.length_replicate]; omega, fun x hx => by
        unfold rd
        rw [Int.toNat_natCast, List.getD_eq_getElem?_getD, List.getElem?_replicate, if_pos (by omega), List.take_zero, if_neg (by simp)]
        rfl⟩ (by omega)
    rw [hl] at h3
    exact h3

end Go.Proofs.Ytlhcakepaaeaoaa.Pure
