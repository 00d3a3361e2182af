/- With one eye more of its own a team knows no cell less; with one more of another team's none more, and sees as before. For all maps, eyes, teams. -/
import Derived.Test.YteihieihoeijdaaGAbivouaclaw21few
import Derived.Test.YteihieihoeijdaaPAx30
import Derived.Test.YteihieihoeijdaaPAx39
import Derived.Test.YteihieihoeijdaaVL
import Derived.OpenShut
namespace Go.Proofs.Yteihieihoeijdaa.Pure
open Go.RowKit Go.Proofs.Yteihieihoeijdaa.PA Go.Proofs.YteihieihoeijdaaW.PrintWords Go.Proofs.YteihieihoeijdaaW.PrintLast Go.Proofs.YteihieihoeijdaaW.PrintMore
open Go.Proofs.Yteihieihoeijdaa.L
set_option linter.unusedVariables false
set_option linter.unusedSimpArgs false

theorem awake_ev : ∃ K, ∀ k, K ≤ k → bivouaclaw21_awake.f k = some true :=
  Ev.of (fun k => bivouaclaw21_awake.mono k) (k := 80) (by decide +kernel)
theorem more_l0 {KA : Nat} (hA : ∀ k, KA ≤ k → bivouaclaw21_awake.f k = some true) {n : Nat} (hn : n ≤ 4096) {f g : Nat → Int} {t m0 : Int} (h1 : m0 = t → ∀ c, c < n → f c ≤ g c) (h2 : m0 ≠ t → ∀ c, c < n → g c ≤ f c ∧ (f c = 2 ↔ g c = 2)) (W H Wt : Int) (m : List Int) (l : List S27) (ce m1 m2 m3 m4 m5 m6 m7 : Int) :
    ∀ (r q K : Nat), q + r = n → KA + 2 * r + 2 ≤ K → bivouaclaw21_SightMore.l0 K ((List.range n).map f) ((List.range n).map g) (q : Int) W H Wt m l t ce m0 m1 m2 m3 m4 m5 m6 m7 = some true
  | 0, q, K, hq, hK => by
    obtain ⟨K, rfl⟩ : ∃ d, K = d + 1 := ⟨K - 1, by omega⟩
    simp only [bivouaclaw21_SightMore.l0, List.length_map, List.length_range]
    rw [if_neg (by omega), hA _ (by omega)]
    rfl
  | r + 1, q, K, hq, hK => by
    obtain ⟨K, rfl⟩ : ∃ d, K = d + 1 + 1 := ⟨K - 2, by omega⟩
    simp only [bivouaclaw21_SightMore.l0, List.length_map, List.length_range]
    have ih := more_l0 hA hn h1 h2 W H Wt m l ce m1 m2 m3 m4 m5 m6 m7 r (q + 1) K (by omega) (by omega)
    rw [show (((q + 1 : Nat)) : Int) = (q : Int) + 1 by omega] at ih
    have J : ∀ b, b = false → bivouaclaw21_SightMore.j2 (K + 1) ((List.range n).map f) ((List.range n).map g) (q : Int) b W H Wt m l t ce m0 m1 m2 m3 m4 m5 m6 m7 = some true := by
      rintro b rfl
      simp only [bivouaclaw21_SightMore.j2]
      rw [if_neg (by decide), w64 (i := (q : Int) + 1) (by omega) (by omega)]
      exact ih
    rw [if_pos (by omega), rd_rng f (by omega), rd_rng g (by omega)]
    by_cases e : m0 = t
    · have := h1 e q (by omega)
      rw [if_pos e, if_pos (by omega), if_pos (by omega), if_neg (by omega)]
      exact J _ rfl
    · obtain ⟨a, b⟩ := h2 e q (by omega)
      rw [if_neg e, if_pos (by omega), if_pos (by omega), if_neg (by omega)]
      refine J _ ?_
      by_cases c : f q = 2
      · simp [c, b.1 c]
      · have d : ¬ g q = 2 := fun z => c (b.2 z)
        rw [beq_eq_false_iff_ne.2 c, beq_eq_false_iff_ne.2 d]; rfl

theorem v_cons (W Wt : Int) (m : List Int) (l : List S27) (x : S27) (t c : Int) : vS W m t c (l ++ [x]) = (vS W m t c l || (decide (x.f0 = t) && sB W m x c)) ∧ vJ W t c (l ++ [x]) = (vJ W t c l || (decide (x.f0 ≠ t) && jB W x c)) ∧ vE W Wt m t c (l ++ [x]) = (vE W Wt m t c l || (decide (x.f0 = t) && eB W Wt m x c)) := by
  unfold vS vJ vE
  simp only [List.any_append, List.any_cons, List.any_nil, Bool.or_false, and_self]

theorem SightMore : bivouaclaw21_SightMore.Pure := by
  intro W H Wt ml l0 t ce m0 m1 m2 m3 m4 m5 m6 m7 _ _ _ _ hm _ _ _ _ _ _ _ _ _ _ _ _
  have hb := take_b hm
  obtain ⟨KA, hA⟩ := awake_ev
  refine ⟨KA + 30000, ?_⟩
  unfold bivouaclaw21_SightMore.f bivouaclaw21_few.f
  simp only [Option.bind_some]
  generalize hl : l0.take 66 = l
  have ll : l.length ≤ 66 := by rw [← hl]; simp; omega
  generalize ml.take 4300 = m at hb ⊢
  rw [view_eq (by omega) hb l (by omega)]
  simp only [Option.bind_some]
  rw [if_pos (by simp; omega), if_pos (by simp; omega), List.nil_append, view_eq (by omega) hb _ (by simp; omega)]
  simp only [Option.bind_some]
  have J : ∀ (a : List Int) (e : Int) (b : List Int) (g : Int), (e ≠ 0 → a = []) → (g ≠ 0 → b = []) → bivouaclaw21_SightMore.j0 (KA + 30000) a e b g true W H Wt m l t ce m0 m1 m2 m3 m4 m5 m6 m7 = some true := by
    intro a e b g h1 h2
    rw [show KA + 30000 = (KA + 29999) + 1 from rfl]
    simp only [bivouaclaw21_SightMore.j0]
    rw [if_pos trivial, hA _ (by omega)]
    by_cases c1 : e = 0
    · rw [if_pos c1]
      by_cases c2 : g = 0
      · rw [if_pos c2]; rfl
      · rw [if_neg c2, if_pos (by rw [h2 c2]; rfl)]; rfl
    · rw [if_neg c1, if_pos (by rw [h1 c1]; rfl)]
      by_cases c2 : g = 0
      · rw [if_pos c2]; rfl
      · rw [if_neg c2, if_pos (by rw [h2 c2]; rfl)]; rfl
  by_cases h1 : MayP W H Wt m l ∧ (0 ≤ t ∧ t ≤ 7)
  · rw [if_pos h1]
    by_cases h2 : MayP W H Wt m (l ++ [(⟨m0, m1, m2, m3, m4, m5, m6, m7⟩ : S27)]) ∧ (0 ≤ t ∧ t ≤ 7)
    · rw [if_pos h2]
      dsimp only
      rw [if_pos rfl, show KA + 30000 = (KA + 29999) + 1 from rfl]
      simp only [bivouaclaw21_SightMore.j0]
      rw [if_neg (by decide), if_pos (by simp)]
      have ok := (chk_zero hb).1 h1.1.1
      have w0 := ok.w0
      have w1 := ok.w1
      have h0 := ok.h0
      have h1' := ok.h1
      have big := mulb (a := W) (b := H) (A := 64) (B := 64) (by omega) w1 (by omega) h1'
      have g := more_l0 hA (n := (W * H).toNat) (by omega) (f := fun (c : Nat) => viewB W Wt m l t c) (g := fun (c : Nat) => viewB W Wt m (l ++ [(⟨m0, m1, m2, m3, m4, m5, m6, m7⟩ : S27)]) t c) (t := t) (m0 := m0) (by
          intro e c hc
          obtain ⟨e1, e2, e3⟩ := v_cons W Wt m l ⟨m0, m1, m2, m3, m4, m5, m6, m7⟩ t c
          unfold viewB
          rw [e1, e2, e3]
          simp only [e, decide_true, Bool.true_and, ne_eq, not_true, decide_false, Bool.false_and, Bool.or_false]
          cases vS W m t c l <;> cases vJ W t c l <;> cases vE W Wt m t c l <;> cases sB W m ⟨t, m1, m2, m3, m4, m5, m6, m7⟩ c <;> cases eB W Wt m ⟨t, m1, m2, m3, m4, m5, m6, m7⟩ c <;> simp) (by
          intro e c hc
          obtain ⟨e1, e2, e3⟩ := v_cons W Wt m l ⟨m0, m1, m2, m3, m4, m5, m6, m7⟩ t c
          unfold viewB
          rw [e1, e2, e3]
          simp only [e, decide_false, Bool.false_and, Bool.or_false, ne_eq, not_false_eq_true, decide_true, Bool.true_and]
          cases vS W m t c l <;> cases vJ W t c l <;> cases vE W Wt m t c l <;> cases jB W ⟨m0, m1, m2, m3, m4, m5, m6, m7⟩ c <;> simp) W H Wt m l ce m1 m2 m3 m4 m5 m6 m7 (W * H).toNat 0 (KA + 29999) (by omega) (by omega)
      exact g
    · rw [if_neg h2]
      dsimp only
      rw [if_pos rfl]
      exact J _ _ _ _ (fun c => absurd rfl c) (fun _ => rfl)
  · rw [if_neg h1]
    dsimp only
    rw [if_neg (by decide)]
    by_cases h2 : MayP W H Wt m (l ++ [(⟨m0, m1, m2, m3, m4, m5, m6, m7⟩ : S27)]) ∧ (0 ≤ t ∧ t ≤ 7)
    · rw [if_pos h2]
      exact J _ _ _ _ (fun _ => rfl) (fun c => absurd rfl c)
    · rw [if_neg h2]
      exact J _ _ _ _ (fun _ => rfl) (fun _ => rfl)

end Go.Proofs.Yteihieihoeijdaa.Pure
