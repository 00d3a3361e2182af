/- Which cells an eye sees, by the printed functions of ray and of its reference. -/
import Derived.Test.YtincnaejgimlbaaPAx28
import Derived.Test.YtincnaejgimlbaaPAx29
import Derived.Test.YtincnaejgimlbaaRS
namespace Go.Proofs.Ytincnaejgimlbaa.L
open Go.RowKit Go.Proofs.Ytincnaejgimlbaa.PA Go.Proofs.YtincnaejgimlbaaW.PrintWords Go.Proofs.YtincnaejgimlbaaW.PrintLast Go.Proofs.YtincnaejgimlbaaW.PrintMore
set_option linter.unusedVariables false
set_option linter.unusedSimpArgs false

/-! ### Which cells an eye sees -/
def seenB (W : Int) (m : List Int) (i j up rad k l : Int) : Bool := decide ((k - i) * (k - i) + (l - j) * (l - j) ≤ rad * rad) && vis W m i j k l up 0

theorem cell_of {W H Wt : Int} {m : List Int} (ok : Ok W H Wt m) {q : Int} (q0 : 0 ≤ q) (q1 : q < W * H) : 0 ≤ q % W ∧ q % W < W ∧ 0 ≤ q / W ∧ q / W < H := by
  have w0 := ok.w0
  refine ⟨Int.emod_nonneg _ (by omega), Int.emod_lt_of_pos _ (by omega), Int.ediv_nonneg q0 (by omega), Int.ediv_lt_of_lt_mul (by omega) ?_⟩
  rw [Int.mul_comm]; exact q1

theorem dist_w {i j k l rad : Int} (hi : Inn i) (hj : Inn j) (hk : Inn k) (hl : Inn l) (r0 : 0 ≤ rad) (r1 : rad ≤ 64) :
    wrap64 (k - i) = k - i ∧ wrap64 (l - j) = l - j ∧ wrap64 ((k - i) * (k - i)) = (k - i) * (k - i) ∧ wrap64 ((l - j) * (l - j)) = (l - j) * (l - j) ∧
    wrap64 ((k - i) * (k - i) + (l - j) * (l - j)) = (k - i) * (k - i) + (l - j) * (l - j) ∧ wrap64 (rad * rad) = rad * rad := by
  unfold Inn at *
  have sq : ∀ x : Int, -63 ≤ x → x ≤ 63 → 0 ≤ x * x ∧ x * x ≤ 3969 := by
    intro x a b
    by_cases h : 0 ≤ x
    · exact mulb h b h b
    · have := mulb (a := -x) (b := -x) (A := 63) (B := 63) (by omega) (by omega) (by omega) (by omega)
      have e : -x * -x = x * x := by grind
      omega
  have a := sq (k - i) (by omega) (by omega)
  have b := sq (l - j) (by omega) (by omega)
  have c := mulb r0 r1 r0 r1
  refine ⟨w64 (by omega) (by omega), w64 (by omega) (by omega), w64 (by omega) (by omega), w64 (by omega) (by omega), w64 (by omega) (by omega), w64 (by omega) (by omega)⟩

theorem refSeen_eq {K : Nat} (hK : 100 ≤ K) {W H Wt : Int} {m : List Int} (ok : Ok W H Wt m) {i j k l up rad : Int} (o : OnB W H i j k l) (hu : 0 ≤ up ∧ up ≤ 255) (r0 : 0 ≤ rad) (r1 : rad ≤ 64) :
    bivouacref08_Seen.f K W H Wt m i j up rad k l = some (seenB W m i j up rad k l) := by
  obtain ⟨hi', hj, hk, hl⟩ := o.inn ok
  obtain ⟨e1, e2, e3, e4, e5, e6⟩ := dist_w hi' hj hk hl r0 r1
  unfold bivouacref08_Seen.f seenB
  rw [e1, e2, e3, e4, e5, e6]
  by_cases h : (k - i) * (k - i) + (l - j) * (l - j) ≤ rad * rad
  · rw [if_pos h, refSees_eq hK ok o hu (by omega), decide_eq_true h]; rfl
  · rw [if_neg h, decide_eq_false h]; rfl

theorem set_at {α : Type} (xs ys : List α) (y z : α) : (xs ++ y :: ys).set xs.length z = xs ++ z :: ys := by
  rw [List.set_append_right _ _ (Nat.le_refl _)]; simp

theorem rseen_l0 {W H Wt : Int} {m : List Int} (ok : Ok W H Wt m) {i j up rad : Int} (i0 : 0 ≤ i) (i1 : i < W) (j0 : 0 ≤ j) (j1 : j < H) (hu : 0 ≤ up ∧ up ≤ 255) (r0 : 0 ≤ rad) (r1 : rad ≤ 64) :
    ∀ (r q K : Nat), q + r = (W * H).toNat → 801 + r ≤ K →
      ray_Seen.l0 K up rad ((List.range q).map (fun (t : Nat) => seenB W m i j up rad ((t : Int) % W) ((t : Int) / W)) ++ List.replicate r false) (W * H) (q : Int) W H Wt m i j = some ((List.range (W * H).toNat).map (fun (t : Nat) => seenB W m i j up rad ((t : Int) % W) ((t : Int) / W)), 0)
  | 0, q, K, hq, hK => by
    obtain ⟨K, rfl⟩ : ∃ d, K = d + 1 := ⟨K - 1, by omega⟩
    simp only [ray_Seen.l0]
    rw [if_neg (by omega), show (W * H).toNat = q by omega]
    simp
  | r + 1, q, K, hq, hK => by
    obtain ⟨K, rfl⟩ : ∃ d, K = d + 1 := ⟨K - 1, by omega⟩
    have w0 := ok.w0
    have w1 := ok.w1
    have h0 := ok.h0
    have h1 := ok.h1
    have big := mulb (a := W) (b := H) (A := 64) (B := 64) (by omega) w1 (by omega) h1
    have c := cell_of ok (q := (q : Int)) (by omega) (by omega)
    have d : (q : Int) / W ≤ q := Int.ediv_le_self _ (by omega)
    have o : OnB W H i j ((q : Int) % W) ((q : Int) / W) := ⟨i0, i1, j0, j1, c.1, c.2.1, c.2.2.1, c.2.2.2⟩
    obtain ⟨hi', hj, hk, hl⟩ := o.inn ok
    obtain ⟨e1, e2, e3, e4, e5, e6⟩ := dist_w hi' hj hk hl r0 r1
    simp only [ray_Seen.l0]
    rw [if_pos (by omega), if_neg (by omega), Int.tmod_eq_emod_of_nonneg (by omega), Int.tdiv_eq_ediv_of_nonneg (by omega), w64 (i := (q : Int) / W) (by omega) (by omega), e1, e2, e3, e4, e5, e6, w64 (i := (q : Int) + 1) (by omega) (by omega)]
    have next : ∀ b : Bool, b = seenB W m i j up rad ((q : Int) % W) ((q : Int) / W) → (List.range q).map (fun (t : Nat) => seenB W m i j up rad ((t : Int) % W) ((t : Int) / W)) ++ b :: List.replicate r false = (List.range (q + 1)).map (fun (t : Nat) => seenB W m i j up rad ((t : Int) % W) ((t : Int) / W)) ++ List.replicate r false := by
      intro b hb
      rw [List.range_succ, List.map_append, List.append_assoc, hb]
      rfl
    have ih := rseen_l0 ok i0 i1 j0 j1 hu r0 r1 r (q + 1) K (by omega) (by omega)
    rw [show (((q + 1 : Nat)) : Int) = (q : Int) + 1 by omega] at ih
    by_cases h : ((q : Int) % W - i) * ((q : Int) % W - i) + ((q : Int) / W - j) * ((q : Int) / W - j) ≤ rad * rad
    · have hh : chk W H Wt m = 0 ∧ (0 ≤ up ∧ up ≤ 255) ∧ (0 ≤ (0 : Int) ∧ (0 : Int) ≤ 255) := ⟨(chk_zero ok.b).2 ok, hu, by omega⟩
      have cc : (0 ≤ i ∧ i < W ∧ 0 ≤ j ∧ j < H) ∧ (0 ≤ (q : Int) % W ∧ (q : Int) % W < W ∧ 0 ≤ (q : Int) / W ∧ (q : Int) / W < H) := ⟨⟨i0, i1, j0, j1⟩, c⟩
      rw [if_pos h, rsees_eq (by omega) ok.b, if_pos hh, if_pos cc]
      simp only [Option.bind_some]
      rw [if_pos (by omega), if_pos (by simp; omega)]
      have st := set_at ((List.range q).map (fun (t : Nat) => seenB W m i j up rad ((t : Int) % W) ((t : Int) / W))) (List.replicate r false) false (vis W m i j ((q : Int) % W) ((q : Int) / W) up 0)
      rw [List.length_map, List.length_range] at st
      rw [show ((q : Int)).toNat = q by omega, List.replicate_succ, st, next _ (by unfold seenB; rw [decide_eq_true h]; rfl)]
      exact ih
    · rw [if_neg h, List.replicate_succ, next _ (by unfold seenB; rw [decide_eq_false h]; rfl)]
      exact ih

theorem rseen_eq {K : Nat} (hK : 6000 ≤ K) {W H Wt : Int} {m : List Int} (hb : ∀ x ∈ m, 0 ≤ x ∧ x ≤ 255) (i j up rad : Int) :
    ray_Seen.f K W H Wt m i j up rad = some (if chk W H Wt m = 0 ∧ (0 ≤ up ∧ up ≤ 255) ∧ (0 ≤ rad ∧ rad ≤ 64) then if 0 ≤ i ∧ i < W ∧ 0 ≤ j ∧ j < H then ((List.range (W * H).toNat).map (fun (t : Nat) => seenB W m i j up rad ((t : Int) % W) ((t : Int) / W)), 0) else ([], 4) else ([], 1)) := by
  obtain ⟨K, rfl⟩ : ∃ d, K = d + 1 := ⟨K - 1, by omega⟩
  unfold ray_Seen.f
  rw [check_eq (by omega), high_eq]
  simp only [Option.bind_some, decide_eq_true_eq]
  have no : ∀ r : List Bool × Int, r = ([], 1) → ray_Seen.j0 (K + 1) up rad true W H Wt m i j = some r := by
    rintro r rfl
    simp only [ray_Seen.j0]
    rw [if_pos trivial]
  by_cases h : chk W H Wt m = 0
  · rw [if_pos h]
    by_cases hu : 0 ≤ up ∧ up ≤ 255
    · rw [if_pos hu]
      by_cases r0 : rad < 0
      · rw [if_pos r0]; exact no _ (if_neg (by omega))
      rw [if_neg r0]
      by_cases r1 : rad > 64
      · rw [decide_eq_true r1]; exact no _ (if_neg (by omega))
      have hh : chk W H Wt m = 0 ∧ (0 ≤ up ∧ up ≤ 255) ∧ (0 ≤ rad ∧ rad ≤ 64) := ⟨h, hu, by omega⟩
      rw [decide_eq_false r1, if_pos hh]
      simp only [ray_Seen.j0]
      rw [if_neg (by decide), rfloor_eq (by omega) hb, if_pos h]
      simp only [Option.bind_some]
      by_cases c : 0 ≤ i ∧ i < W ∧ 0 ≤ j ∧ j < H
      · have ok := (chk_zero hb).1 h
        have w0 := ok.w0
        have w1 := ok.w1
        have h0 := ok.h0
        have h1 := ok.h1
        have big := mulb (a := W) (b := H) (A := 64) (B := 64) (by omega) w1 (by omega) h1
        rw [if_pos c, if_pos c]
        dsimp only
        rw [if_pos rfl, w64 (i := W * H) (by omega) (by omega), if_pos (by omega), if_pos (by omega)]
        have g := rseen_l0 ok c.1 c.2.1 c.2.2.1 c.2.2.2 hu (show 0 ≤ rad by omega) (show rad ≤ 64 by omega) (W * H).toNat 0 K (by omega) (by omega)
        simp only [List.range_zero, List.map_nil, List.nil_append] at g
        rw [List.length_replicate, show (((W * H).toNat : Nat) : Int) = W * H by omega]
        exact g
      · rw [if_neg c, if_neg c]
        dsimp only
        rw [if_neg (by decide)]
    · rw [if_neg hu]; exact no _ (if_neg (fun c => hu c.2.1))
  · rw [if_neg h]; exact no _ (if_neg (fun c => h c.1))

end Go.Proofs.Ytincnaejgimlbaa.L
