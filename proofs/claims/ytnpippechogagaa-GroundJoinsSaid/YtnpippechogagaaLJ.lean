/- What the regions come to. -/
import Derived.Test.YtnpippechogagaaGAgroundRegions
import Derived.Test.YtnpippechogagaaLG
import Derived.Test.YtnpippechogagaaLF
namespace Go.Proofs.Ytnpippechogagaa.L
open Go.RowKit Go.Proofs.Ytnpippechogagaa.PA Go.Proofs.YtnpippechogagaaW.PrintWords Go.Proofs.YtnpippechogagaaW.PrintLast Go.Proofs.YtnpippechogagaaW.PrintMore
set_option linter.unusedVariables false
set_option linter.unusedSimpArgs false

theorem rep_getD (n : Nat) {a : Int} (h0 : 0 ≤ a) (h1 : a < (n : Int)) : (List.replicate n (-1 : Int)).getD a.toNat 0 = -1 := by
  rw [List.getD_eq_getElem?_getD, List.getElem?_replicate, if_pos (by omega)]
  rfl
theorem Out.init (g : List Bool) (w : Int) : Out g w 0 (List.replicate g.length (-1)) :=
  ⟨by simp, fun a h0 h1 _ => rep_getD _ h0 h1, fun a h0 h1 h => by rw [rep_getD _ h0 h1] at h; omega, fun a h0 h1 _ => rep_getD _ h0 h1, fun a h0 h1 h2 => by omega, fun a b hab h => by rw [rep_getD _ hab.1 hab.2.1] at h; omega⟩
/-- What the regions of a map come to. -/
theorem regs {W H Wt : Int} {l : List Int} (ok : Ok W H Wt l) {c : Int} (c0 : 0 ≤ c) (c5 : c ≤ 5) :
    ∃ L, Good (cells W H Wt l c) W L ∧ ∀ k, 20000 ≤ k → ground_Regions.f k W H Wt l c = some (L, 0) := by
  have hwh := wh ok.w0 ok.w1 ok.h0 ok.h1
  have hl := cells_len W H Wt l c
  obtain ⟨L, h1, h2⟩ := floods (g := cells W H Wt l c) (w := W) (h := H) (by have := ok.w0; omega) (by rw [hl]; omega) (by omega) (cells W H Wt l c).length 0 _ (Int.le_refl _) (by omega) (Out.init _ _)
  refine ⟨L, h2, fun k hk => ?_⟩
  unfold ground_Regions.f
  rw [grid_eq (by omega) ok.b, if_pos ⟨c0, c5, (chk_zero ok.b).2 ok⟩]
  simp only [Option.bind_some]
  rw [if_pos trivial, if_pos ⟨ok.w0, ok.w1, by omega, by omega, by omega⟩, h1 k (by omega)]
  rfl
theorem regs_no {k : Nat} (hk : 4099 ≤ k) {W H Wt : Int} {l : List Int} (hb : ∀ x ∈ l, 0 ≤ x ∧ x ≤ 255) (c : Int) (h : ¬ (0 ≤ c ∧ c ≤ 5 ∧ chk W H Wt l = 0)) : ground_Regions.f k W H Wt l c = some ([], 1) := by
  unfold ground_Regions.f
  rw [grid_eq hk hb, if_neg h]
  simp only [Option.bind_some]
  rw [if_neg (by decide)]

end Go.Proofs.Ytnpippechogagaa.L
