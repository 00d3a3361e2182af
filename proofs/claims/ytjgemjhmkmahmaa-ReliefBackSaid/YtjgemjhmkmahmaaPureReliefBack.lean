/- What is encoded is decoded as it was, and what is decoded has just those bytes. For all maps and bytes. For all maps and places. -/
import Derived.Test.YtjgemjhmkmahmaaPAx14
import Derived.Test.YtjgemjhmkmahmaaPAx15
import Derived.Test.YtjgemjhmkmahmaaPAx23
import Derived.Test.YtjgemjhmkmahmaaPAx24
import Derived.Test.YtjgemjhmkmahmaaPAx27
import Derived.Test.YtjgemjhmkmahmaaL
import Derived.Test.YtjgemjhmkmahmaaLA
namespace Go.Proofs.Ytjgemjhmkmahmaa.Pure
open Go.RowKit Go.Proofs.Ytjgemjhmkmahmaa.PA Go.Proofs.YtjgemjhmkmahmaaW.PrintWords Go.Proofs.YtjgemjhmkmahmaaW.PrintLast Go.Proofs.YtjgemjhmkmahmaaW.PrintMore
open Go.Proofs.Ytjgemjhmkmahmaa.L
set_option linter.unusedVariables false
set_option linter.unusedSimpArgs false

theorem enc_eq {k : Nat} (hk : 1 ≤ k) {W H Wt : Int} {m : List Int} (ok : Ok W H Wt m) : relief_Encode.f k W H Wt m = some (W :: H :: Wt :: m) := by
  unfold relief_Encode.f
  have a := area ok.w0 ok.w1 ok.h0 ok.h1
  have n := ok.n
  have w0 := ok.w0
  have w1 := ok.w1
  have h0 := ok.h0
  have h1 := ok.h1
  have t0 := ok.t0
  have t1 := ok.t1
  rw [check_eq hk, (chk_zero ok.b).2 ok]
  simp only [Option.bind_some]
  rw [if_pos trivial, if_pos (by simp; omega), Int.emod_eq_of_lt (by omega) (by omega), Int.emod_eq_of_lt (by omega) (by omega), Int.emod_eq_of_lt (by omega) (by omega)]
  rfl

theorem dec_short {k : Nat} {b : List Int} (h : (b.length : Int) < 3) : relief_Decode.f k b = some (0, 0, 0, [], 2) := by
  unfold relief_Decode.f
  rw [if_pos h]

theorem dec_eq {k : Nat} (hk : 1 ≤ k) {W H Wt : Int} {m : List Int} (hm : m.length < 140737488355328) (hW : 0 ≤ W ∧ W ≤ 255) (hH : 0 ≤ H ∧ H ≤ 255) (hT : 0 ≤ Wt ∧ Wt ≤ 255) :
    relief_Decode.f k (W :: H :: Wt :: m) = some (if chk W H Wt m = 0 then (W, H, Wt, m, 0) else (0, 0, 0, [], chk W H Wt m)) := by
  unfold relief_Decode.f
  have e0 : wrap64 (rd (W :: H :: Wt :: m) 0) = W := by show wrap64 W = W; exact w64 (by omega) (by omega)
  have e1 : wrap64 (rd (W :: H :: Wt :: m) 1) = H := by show wrap64 H = H; exact w64 (by omega) (by omega)
  have e2 : wrap64 (rd (W :: H :: Wt :: m) 2) = Wt := by show wrap64 Wt = Wt; exact w64 (by omega) (by omega)
  have L : ((W :: H :: Wt :: m).length : Int) = (m.length : Int) + 3 := by simp; omega
  have D : (W :: H :: Wt :: m).drop 3 = m := rfl
  rw [e0, e1, e2, L, D, if_neg (by omega), if_pos (by omega), if_pos (by omega), if_pos (by omega), if_pos (by omega), if_pos (by simpa using hm)]
  simp only [List.nil_append, Option.bind_some]
  rw [check_eq hk]
  simp only [Option.bind_some]
  split <;> rfl

theorem same_refl (W H Wt : Int) (m : List Int) : bivouacref06_Same.f W H Wt m W H Wt m = some true := by
  unfold bivouacref06_Same.f
  rw [if_pos rfl, if_pos rfl, if_pos rfl]
  simp

theorem back_j1 {KA : Nat} (hA : ∀ k, KA ≤ k → bivouaclaw06_awake.f k = some true) {b : List Int} (hn : b.length * 1 ≤ 140737488351232) (hb : ∀ x ∈ b, 0 ≤ x ∧ x ≤ 255) {K : Nat} (hK : KA + 2 ≤ K) : bivouaclaw06_ReliefBack.j1 K b = some true := by
  obtain ⟨K, rfl⟩ : ∃ d, K = d + 1 := ⟨K - 1, by omega⟩
  simp only [bivouaclaw06_ReliefBack.j1]
  rcases b with _ | ⟨W, _ | ⟨H, _ | ⟨Wt, m⟩⟩⟩
  · rw [dec_short (by simp)]
    simp only [Option.bind_some]
    rw [if_neg (by decide), same_refl, hA _ (by omega)]
    rfl
  · rw [dec_short (by simp)]
    simp only [Option.bind_some]
    rw [if_neg (by decide), same_refl, hA _ (by omega)]
    rfl
  · rw [dec_short (by simp)]
    simp only [Option.bind_some]
    rw [if_neg (by decide), same_refl, hA _ (by omega)]
    rfl
  · have hW := hb W (by simp)
    have hH := hb H (by simp)
    have hT := hb Wt (by simp)
    have hm : ∀ x ∈ m, 0 ≤ x ∧ x ≤ 255 := fun x hx => hb x (by simp [hx])
    simp only [List.length_cons] at hn
    rw [dec_eq (by omega) (by omega) hW hH hT]
    simp only [Option.bind_some]
    by_cases c : chk W H Wt m = 0
    · rw [if_pos c]
      dsimp only
      rw [if_pos rfl, check_eq (by omega), c]
      simp only [Option.bind_some]
      rw [if_pos trivial, enc_eq (by omega) ((chk_zero hm).1 c)]
      simp only [Option.bind_some]
      rw [if_pos trivial, hA _ (by omega)]
      rfl
    · rw [if_neg c]
      dsimp only
      rw [if_neg c, same_refl, hA _ (by omega)]
      rfl

theorem back_l0 {KA : Nat} (hA : ∀ k, KA ≤ k → bivouaclaw06_awake.f k = some true) {b : List Int} (hn : b.length * 1 ≤ 140737488351232) (hb : ∀ x ∈ b, 0 ≤ x ∧ x ≤ 255) (W H Wt : Int) (m : List Int) :
    ∀ (n K : Nat) (x : List Int) (i : Nat), i + n = x.length → x.length < 10000 → KA + 3 + n ≤ K → bivouaclaw06_ReliefBack.l0 K b x 0 (i : Int) W H Wt m W H Wt m = some true
  | 0, K, x, i, hi, hx, hK => by
    obtain ⟨K, rfl⟩ : ∃ d, K = d + 1 := ⟨K - 1, by omega⟩
    simp only [bivouaclaw06_ReliefBack.l0]
    rw [if_neg (by omega), if_pos trivial, same_refl]
    simp only [Option.bind_some]
    rw [if_pos trivial]
    exact back_j1 hA hn hb (by omega)
  | n + 1, K, x, i, hi, hx, hK => by
    obtain ⟨K, rfl⟩ : ∃ d, K = d + 1 := ⟨K - 1, by omega⟩
    simp only [bivouaclaw06_ReliefBack.l0]
    rw [if_pos (by omega), if_pos (by omega), w64 (by omega) (by omega), show (i : Int) + 1 = ((i + 1 : Nat) : Int) by omega]
    exact back_l0 hA hn hb W H Wt m n K _ (i + 1) (by rw [List.length_set]; omega) (by rw [List.length_set]; omega) (by omega)

theorem ReliefBack : bivouaclaw06_ReliefBack.Pure := by
  intro W H Wt m b _ _ _ _ hl _ hn hbb
  obtain ⟨KA, hA⟩ := awake_ev
  have hm := take_b hl
  have hb : ∀ x ∈ b, 0 ≤ x ∧ x ≤ 255 := fun x hx => Go.bounds_u8 (hbb x hx)
  obtain ⟨K, hK⟩ : ∃ K, K = KA + 10000 := ⟨_, rfl⟩
  refine ⟨K, ?_⟩
  unfold bivouaclaw06_ReliefBack.f
  rw [few_eq]
  simp only [Option.bind_some]
  generalize m.take 4300 = m at hm ⊢
  rw [check_eq (by omega)]
  simp only [Option.bind_some]
  by_cases c : chk W H Wt m = 0
  · have ok := (chk_zero hm).1 c
    have a := area ok.w0 ok.w1 ok.h0 ok.h1
    have n := ok.n
    have w0 := ok.w0
    have w1 := ok.w1
    have h0 := ok.h0
    have h1 := ok.h1
    have t0 := ok.t0
    have t1 := ok.t1
    rw [if_pos c, enc_eq (by omega) ok]
    simp only [Option.bind_some]
    rw [dec_eq (by omega) (by omega) (by omega) (by omega) (by omega), if_pos c]
    simp only [Option.bind_some]
    exact back_l0 hA hn hb W H Wt m (m.length + 3) _ _ 0 (by simp) (by simp only [List.length_cons]; omega) (by omega)
  · rw [if_neg c]
    exact back_j1 hA hn hb (by omega)

end Go.Proofs.Ytjgemjhmkmahmaa.Pure
