/- All cells, by the reference. -/
import Derived.Test.YtnpippechogagaaPAx23
import Derived.Test.YtnpippechogagaaLG
namespace Go.Proofs.Ytnpippechogagaa.L
open Go.RowKit Go.Proofs.Ytnpippechogagaa.PA Go.Proofs.YtnpippechogagaaW.PrintWords Go.Proofs.YtnpippechogagaaW.PrintLast Go.Proofs.YtnpippechogagaaW.PrintMore
set_option linter.unusedVariables false
set_option linter.unusedSimpArgs false

theorem row_mod {W i j : Int} (i0 : 0 ≤ i) (i1 : i < W) : (j * W + i) % W = i ∧ (j * W + i) / W = j := by
  constructor
  · rw [Int.add_comm, Int.add_mul_emod_self_right, Int.emod_eq_of_lt i0 i1]
  · rw [Int.add_comm, Int.add_mul_ediv_right _ _ (by omega), Int.ediv_eq_zero_of_lt i0 i1]; omega
/-- The first cells. -/
def firsts (W Wt : Int) (l : List Int) (c : Int) (n : Nat) : List Bool := (List.range n).map fun m : Nat => isO W Wt l c ((m : Int) % W) ((m : Int) / W)
theorem firsts_succ (W Wt : Int) (l : List Int) (c : Int) (n : Nat) : firsts W Wt l c (n + 1) = firsts W Wt l c n ++ [isO W Wt l c ((n : Int) % W) ((n : Int) / W)] := by
  unfold firsts
  rw [List.range_succ, List.map_append]
  rfl
theorem ref_l1 {W H Wt : Int} {l : List Int} (ok : Ok W H Wt l) (c : Int) {j : Nat} (hj : (j : Int) < H) (hn : ∃ K, ∀ k, K ≤ k → bivouacref07_Grid.l0 k c (firsts W Wt l c ((j + 1) * W.toNat)) ((j : Int) + 1) W H Wt l = some (cells W H Wt l c)) :
    ∀ (d i : Nat), W.toNat - i = d → i ≤ W.toNat → ∃ K, ∀ k, K ≤ k → bivouacref07_Grid.l1 k c (firsts W Wt l c (j * W.toNat + i)) (j : Int) (i : Int) W H Wt l = some (cells W H Wt l c) := by
  have w0 := ok.w0
  have w1 := ok.w1
  have h1 := ok.h1
  intro d
  induction d with
  | zero =>
    intro i hd hi
    obtain ⟨K, hK⟩ := hn
    refine ⟨K + 1, fun k hk => ?_⟩
    obtain ⟨k, rfl⟩ : ∃ m, k = m + 1 := ⟨k - 1, by omega⟩
    simp only [bivouacref07_Grid.l1]
    rw [if_neg (by omega), w64 (by omega) (by omega), show j * W.toNat + i = (j + 1) * W.toNat by rw [Nat.add_mul]; omega]
    exact hK k (by omega)
  | succ d ih =>
    intro i hd hi
    obtain ⟨K, hK⟩ := ih (i + 1) (by omega) (by omega)
    refine ⟨K + 6, fun k hk => ?_⟩
    obtain ⟨k, rfl⟩ : ∃ m, k = m + 1 := ⟨k - 1, by omega⟩
    simp only [bivouacref07_Grid.l1]
    have e : ((j * W.toNat + i : Nat) : Int) = (j : Int) * W + i := by
      rw [Int.natCast_add, Int.natCast_mul, Int.toNat_of_nonneg (by omega)]
    have hm := row_mod (W := W) (i := (i : Int)) (j := (j : Int)) (by omega) (by omega)
    have hjb : j * W.toNat ≤ 64 * 64 := Nat.mul_le_mul (by omega) (by omega)
    rw [if_pos (by omega), refOpen_eq (by omega) ok (by omega) (by omega) (by omega) hj]
    simp only [Option.bind_some]
    rw [if_pos (by simp only [firsts, List.length_map, List.length_range]; omega), w64 (by omega) (by omega)]
    have := hK k (by omega)
    rw [show j * W.toNat + (i + 1) = j * W.toNat + i + 1 by omega, firsts_succ, e, hm.1, hm.2] at this
    simpa using this
theorem ref_l0 {W H Wt : Int} {l : List Int} (ok : Ok W H Wt l) (c : Int) : ∀ (d j : Nat), H.toNat - j = d → j ≤ H.toNat →
    ∃ K, ∀ k, K ≤ k → bivouacref07_Grid.l0 k c (firsts W Wt l c (j * W.toNat)) (j : Int) W H Wt l = some (cells W H Wt l c) := by
  have w0 := ok.w0
  have h0 := ok.h0
  intro d
  induction d with
  | zero =>
    intro j hd hj
    refine ⟨1, fun k hk => ?_⟩
    obtain ⟨k, rfl⟩ : ∃ m, k = m + 1 := ⟨k - 1, by omega⟩
    simp only [bivouacref07_Grid.l0]
    rw [if_neg (by omega)]
    unfold cells firsts
    have e : j * W.toNat = (W * H).toNat := by
      rw [show j = H.toNat by omega, Int.mul_comm W H, Int.toNat_mul (by omega) (by omega)]
    rw [e]
  | succ d ih =>
    intro j hd hj
    obtain ⟨K, hK⟩ := ref_l1 ok c (j := j) (by omega) (by have := ih (j + 1) (by omega) (by omega); simpa using this) _ 0 rfl (by omega)
    refine ⟨K + 1, fun k hk => ?_⟩
    obtain ⟨k, rfl⟩ : ∃ m, k = m + 1 := ⟨k - 1, by omega⟩
    simp only [bivouacref07_Grid.l0]
    rw [if_pos (by omega)]
    have := hK k (by omega)
    simpa using this
theorem refGrid_eq {W H Wt : Int} {l : List Int} (ok : Ok W H Wt l) (c : Int) : ∃ K, ∀ k, K ≤ k → bivouacref07_Grid.f k W H Wt l c = some (cells W H Wt l c) := by
  obtain ⟨K, hK⟩ := ref_l0 ok c _ 0 rfl (by omega)
  refine ⟨K, fun k hk => ?_⟩
  have := hK k hk
  simpa [bivouacref07_Grid.f, firsts] using this

end Go.Proofs.Ytnpippechogagaa.L
