/- What a team knows hangs on its own eyes and on others' jamming alone, in whatever order eyes come. For all maps, eyes, teams. -/
import Derived.Test.YteihieihoeijdaaGAbivouaclaw21few
import Derived.Test.YteihieihoeijdaaPAx29
import Derived.Test.YteihieihoeijdaaPAx30
import Derived.Test.YteihieihoeijdaaPAx40
import Derived.Test.YteihieihoeijdaaVL
import Derived.OpenShut
namespace Go.Proofs.Yteihieihoeijdaa.Pure
open Go.RowKit Go.Proofs.Yteihieihoeijdaa.PA Go.Proofs.YteihieihoeijdaaW.PrintWords Go.Proofs.YteihieihoeijdaaW.PrintLast Go.Proofs.YteihieihoeijdaaW.PrintMore
open Go.Proofs.Yteihieihoeijdaa.L
set_option linter.unusedVariables false
set_option linter.unusedSimpArgs false

theorem awake_ev : ∃ K, ∀ k, K ≤ k → bivouaclaw21_awake.f k = some true :=
  Ev.of (fun k => bivouaclaw21_awake.mono k) (k := 80) (by decide +kernel)
theorem same_l0 {n : Nat} (hn : n ≤ 4096) (f : Nat → Int) : ∀ (r q K : Nat), q + r = n → r + 1 ≤ K → bivouaclaw21_same.l0 K ((List.range n).map f) ((List.range n).map f) (q : Int) = some true
  | 0, q, K, hq, hK => by
    obtain ⟨K, rfl⟩ : ∃ d, K = d + 1 := ⟨K - 1, by omega⟩
    simp only [bivouaclaw21_same.l0, List.length_map, List.length_range]
    rw [if_neg (by omega)]
  | r + 1, q, K, hq, hK => by
    obtain ⟨K, rfl⟩ : ∃ d, K = d + 1 := ⟨K - 1, by omega⟩
    simp only [bivouaclaw21_same.l0, List.length_map, List.length_range]
    have ih := same_l0 hn f r (q + 1) K (by omega) (by omega)
    rw [show (((q + 1 : Nat)) : Int) = (q : Int) + 1 by omega] at ih
    rw [if_pos (by omega), if_pos (by omega), if_pos (by omega), if_pos trivial, w64 (i := (q : Int) + 1) (by omega) (by omega)]
    exact ih

def turnOwn (t s r o h : Int) (y : S27) : S27 := if y.f0 = t then y else ⟨y.f0, y.f1, y.f2, h, s, r, o, y.f7⟩

theorem own_S (W : Int) (m : List Int) (t c : Int) (s r o h : Int) (l : List S27) : vS W m t c (l.reverse.map (turnOwn t s r o h)) = vS W m t c l := by
  unfold vS
  rw [List.any_map, List.any_reverse]
  congr 1
  funext y
  simp only [Function.comp]
  by_cases e : y.f0 = t
  · rw [show turnOwn t s r o h y = y from if_pos e]
  · rw [show turnOwn t s r o h y = ⟨y.f0, y.f1, y.f2, h, s, r, o, y.f7⟩ from if_neg e]; simp [e]
theorem own_J (W : Int) (t c : Int) (s r o h : Int) (l : List S27) : vJ W t c (l.reverse.map (turnOwn t s r o h)) = vJ W t c l := by
  unfold vJ
  rw [List.any_map, List.any_reverse]
  congr 1
  funext y
  simp only [Function.comp]
  by_cases e : y.f0 = t
  · rw [show turnOwn t s r o h y = y from if_pos e]
  · rw [show turnOwn t s r o h y = ⟨y.f0, y.f1, y.f2, h, s, r, o, y.f7⟩ from if_neg e]; rfl
theorem own_E (W Wt : Int) (m : List Int) (t c : Int) (s r o h : Int) (l : List S27) : vE W Wt m t c (l.reverse.map (turnOwn t s r o h)) = vE W Wt m t c l := by
  unfold vE
  rw [List.any_map, List.any_reverse]
  congr 1
  funext y
  simp only [Function.comp]
  by_cases e : y.f0 = t
  · rw [show turnOwn t s r o h y = y from if_pos e]
  · rw [show turnOwn t s r o h y = ⟨y.f0, y.f1, y.f2, h, s, r, o, y.f7⟩ from if_neg e]; simp [e]

/-- The loop from the last eye down: what is not yet turned is `l.take q`. -/
theorem own_l0 {l : List S27} (hl : l.length ≤ 66) (a : List Int) (e : Int) (W H Wt : Int) (m : List Int) (t ce m0 m1 m2 m3 m4 m5 m6 m7 : Int) :
    ∀ (q K : Nat) (o : List S27), q ≤ l.length → o.length + q ≤ 66 →
      bivouaclaw21_SightOwn.l0 (K + q + 1) a e o ((q : Int) - 1) W H Wt m l t ce m0 m1 m2 m3 m4 m5 m6 m7 = bivouaclaw21_SightOwn.l0 (K + 1) a e (o ++ (l.take q).reverse.map (turnOwn t m4 m5 m6 m3)) (-1) W H Wt m l t ce m0 m1 m2 m3 m4 m5 m6 m7
  | 0, K, o, _, _ => by simp
  | q + 1, K, o, hq, ho => by
    have ih := fun o' h => own_l0 hl a e W H Wt m t ce m0 m1 m2 m3 m4 m5 m6 m7 q K o' (by omega) h
    rw [show K + (q + 1) + 1 = (K + q + 1) + 1 by omega, bivouaclaw21_SightOwn.l0.eq_def]
    dsimp only
    rw [show (((q + 1 : Nat)) : Int) - 1 = (q : Int) by omega, if_pos (by omega), if_pos (by omega), if_pos (by omega), w64 (i := (q : Int) - 1) (by omega) (by omega)]
    have er : rd_T27 l (q : Int) = l[q]'(by omega) := by unfold rd_T27; simp [List.getD_eq_getElem?_getD, List.getElem?_eq_getElem (show q < l.length by omega)]
    have et : (l.take (q + 1)).reverse.map (turnOwn t m4 m5 m6 m3) = turnOwn t m4 m5 m6 m3 (rd_T27 l (q : Int)) :: (l.take q).reverse.map (turnOwn t m4 m5 m6 m3) := by
      rw [List.take_succ_eq_append_getElem (by omega), List.reverse_append, er]; rfl
    by_cases c : (rd_T27 l (q : Int)).f0 = t
    · rw [if_pos c, if_pos (by omega), ih _ (by simp; omega), et]
      unfold turnOwn
      rw [if_pos c, List.append_assoc]
      rfl
    · rw [if_neg c, if_pos (by omega), ih _ (by simp; omega), et]
      unfold turnOwn
      rw [if_neg c, List.append_assoc]
      rfl

theorem SightOwn : bivouaclaw21_SightOwn.Pure := by
  intro W H Wt ml l0 t ce m0 m1 m2 m3 m4 m5 m6 m7 _ _ _ _ hm _ _ _ _ _ _ _ _ _ _ _ _
  have hb := take_b hm
  obtain ⟨KA, hA⟩ := awake_ev
  obtain ⟨K, hK⟩ : ∃ K, K = KA + 30000 := ⟨_, rfl⟩
  refine ⟨K + (l0.take 66).length + 1, ?_⟩
  unfold bivouaclaw21_SightOwn.f bivouaclaw21_few.f
  simp only [Option.bind_some]
  generalize hl : l0.take 66 = l
  have ll : l.length ≤ 66 := by rw [← hl]; simp; omega
  generalize ml.take 4300 = m at hb ⊢
  rw [view_eq (by omega) hb l (by omega)]
  simp only [Option.bind_some]
  rw [w64 (i := (l.length : Int) - 1) (by omega) (by omega), own_l0 ll _ _ _ _ _ _ _ _ _ _ _ _ _ _ _ _ l.length K [] (by omega) (by simp; omega), List.take_length, List.nil_append]
  have l2 : (l.reverse.map (turnOwn t m4 m5 m6 m3)).length ≤ 66 := by simp; omega
  rw [bivouaclaw21_SightOwn.l0.eq_def]
  dsimp only
  rw [if_neg (by omega), view_eq (by omega) hb _ (by omega)]
  simp only [Option.bind_some]
  have J : ∀ (a : List Int) (e : Int) (b : List Int) (g : Int), (e ≠ 0 → a = []) → (g ≠ 0 → b = []) → bivouaclaw21_SightOwn.j1 K a e b g true = some true := by
    intro a e b g h1 h2
    rw [show K = (KA + 29999) + 1 by omega]
    simp only [bivouaclaw21_SightOwn.j1]
    rw [if_pos trivial, hA _ (by omega)]
    by_cases c1 : e = 0
    · rw [if_pos c1]
      by_cases c2 : g = 0
      · rw [if_pos c2]; rfl
      · rw [if_neg c2, if_pos (by rw [h2 c2]; rfl)]; rfl
    · rw [if_neg c1, if_pos (by rw [h1 c1]; rfl)]
      by_cases c2 : g = 0
      · rw [if_pos c2]; rfl
      · rw [if_neg c2, if_pos (by rw [h2 c2]; rfl)]; rfl
  by_cases h1 : MayP W H Wt m l ∧ (0 ≤ t ∧ t ≤ 7)
  · rw [if_pos h1]
    by_cases h2 : MayP W H Wt m (l.reverse.map (turnOwn t m4 m5 m6 m3)) ∧ (0 ≤ t ∧ t ≤ 7)
    · rw [if_pos h2]
      dsimp only
      rw [if_pos rfl, show K = (KA + 29999) + 1 by omega]
      simp only [bivouaclaw21_SightOwn.j1]
      rw [if_neg (by decide)]
      have ok := (chk_zero hb).1 h1.1.1
      have w0 := ok.w0
      have w1 := ok.w1
      have h0 := ok.h0
      have h1' := ok.h1
      have big := mulb (a := W) (b := H) (A := 64) (B := 64) (by omega) w1 (by omega) h1'
      have ev : (List.range (W * H).toNat).map (fun (c : Nat) => viewB W Wt m (l.reverse.map (turnOwn t m4 m5 m6 m3)) t c) = (List.range (W * H).toNat).map (fun (c : Nat) => viewB W Wt m l t c) := by
        apply map_rng
        intro c hc
        unfold viewB
        rw [own_S, own_J, own_E]
      rw [ev]
      unfold bivouaclaw21_same.f
      have s := same_l0 (n := (W * H).toNat) (by omega) (fun (c : Nat) => viewB W Wt m l t c) (W * H).toNat 0 (KA + 29999) (by omega) (by omega)
      rw [if_pos rfl, show (0 : Int) = ((0 : Nat) : Int) from rfl, s, hA _ (by omega)]
      rfl
    · rw [if_neg h2]
      dsimp only
      rw [if_pos rfl]
      exact J _ _ _ _ (fun c => absurd rfl c) (fun _ => rfl)
  · rw [if_neg h1]
    dsimp only
    rw [if_neg (by decide)]
    by_cases h2 : MayP W H Wt m (l.reverse.map (turnOwn t m4 m5 m6 m3)) ∧ (0 ≤ t ∧ t ≤ 7)
    · rw [if_pos h2]
      exact J _ _ _ _ (fun _ => rfl) (fun c => absurd rfl c)
    · rw [if_neg h2]
      exact J _ _ _ _ (fun _ => rfl) (fun _ => rfl)

end Go.Proofs.Yteihieihoeijdaa.Pure
