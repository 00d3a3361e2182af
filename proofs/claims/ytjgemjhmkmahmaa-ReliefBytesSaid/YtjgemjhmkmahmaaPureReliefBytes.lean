/- Every map's bytes, and whatever bytes there are, read as one, are the reference's. For all maps and bytes. -/
import Derived.Test.YtjgemjhmkmahmaaPAx1
import Derived.Test.YtjgemjhmkmahmaaPAx13
import Derived.Test.YtjgemjhmkmahmaaPAx14
import Derived.Test.YtjgemjhmkmahmaaPAx15
import Derived.Test.YtjgemjhmkmahmaaPAx16
import Derived.Test.YtjgemjhmkmahmaaPAx17
import Derived.Test.YtjgemjhmkmahmaaPAx18
import Derived.Test.YtjgemjhmkmahmaaPAx2
import Derived.Test.YtjgemjhmkmahmaaPAx3
import Derived.OpenShut
namespace Go.Proofs.Ytjgemjhmkmahmaa.Pure
open Go.RowKit Go.Proofs.Ytjgemjhmkmahmaa.PA Go.Proofs.YtjgemjhmkmahmaaW.PrintWords Go.Proofs.YtjgemjhmkmahmaaW.PrintLast Go.Proofs.YtjgemjhmkmahmaaW.PrintMore
set_option linter.unusedVariables false
set_option linter.unusedSimpArgs false

theorem w64 {i : Int} (h0 : -9223372036854775808 ≤ i) (h1 : i ≤ 9223372036854775807) : wrap64 i = i := by unfold wrap64; omega
theorem mulb {a b A B : Int} (ha : 0 ≤ a) (hA : a ≤ A) (hb : 0 ≤ b) (hB : b ≤ B) : 0 ≤ a * b ∧ a * b ≤ A * B :=
  ⟨Int.mul_nonneg ha hb, Int.le_trans (Int.mul_le_mul_of_nonneg_right hA hb) (Int.mul_le_mul_of_nonneg_left hB (Int.le_trans ha hA))⟩

structure Ok (W H Wt : Int) (l : List Int) : Prop where
  w0 : 1 ≤ W
  w1 : W ≤ 64
  h0 : 1 ≤ H
  h1 : H ≤ 64
  t0 : 0 ≤ Wt
  t1 : Wt ≤ 255
  n : (l.length : Int) = (W + 1) * (H + 1)
  b : ∀ x ∈ l, 0 ≤ x ∧ x ≤ 255

def chk (W H Wt : Int) (l : List Int) : Int :=
  if 1 ≤ W ∧ W ≤ 64 ∧ 1 ≤ H ∧ H ≤ 64 ∧ 0 ≤ Wt ∧ Wt ≤ 255 then if (l.length : Int) < (W + 1) * (H + 1) then 2 else if (l.length : Int) > (W + 1) * (H + 1) then 7 else 0 else 1

theorem area {W H : Int} (w0 : 1 ≤ W) (w1 : W ≤ 64) (h0 : 1 ≤ H) (h1 : H ≤ 64) : wrap64 (wrap64 (W + 1) * wrap64 (H + 1)) = (W + 1) * (H + 1) ∧ 4 ≤ (W + 1) * (H + 1) ∧ (W + 1) * (H + 1) ≤ 4225 := by
  have h := mulb (a := W + 1) (b := H + 1) (A := 65) (B := 65) (by omega) (by omega) (by omega) (by omega)
  have g := mulb (a := W - 1) (b := H - 1) (A := 63) (B := 63) (by omega) (by omega) (by omega) (by omega)
  have e : (W + 1) * (H + 1) = (W - 1) * (H - 1) + 2 * W + 2 * H := by grind
  refine ⟨?_, by omega, by omega⟩
  rw [w64 (i := W + 1) (by omega) (by omega), w64 (i := H + 1) (by omega) (by omega), w64 (by omega) (by omega)]

theorem chk_zero {W H Wt : Int} {l : List Int} (hb : ∀ x ∈ l, 0 ≤ x ∧ x ≤ 255) : chk W H Wt l = 0 ↔ Ok W H Wt l := by
  unfold chk
  constructor
  · intro h
    split at h
    · rename_i hr
      obtain ⟨a, b, c, d, e, f⟩ := hr
      split at h
      · omega
      · split at h
        · omega
        · exact ⟨a, b, c, d, e, f, by omega, hb⟩
    · omega
  · intro h
    rw [if_pos ⟨h.w0, h.w1, h.h0, h.h1, h.t0, h.t1⟩, if_neg (by have := h.n; omega), if_neg (by have := h.n; omega)]

theorem check_eq {k : Nat} (hk : 1 ≤ k) (W H Wt : Int) (l : List Int) : relief_Check.f k W H Wt l = some (chk W H Wt l) := by
  obtain ⟨k, rfl⟩ : ∃ m, k = m + 1 := ⟨k - 1, by omega⟩
  unfold relief_Check.f chk
  simp only [relief_Check.j0]
  by_cases hr : 1 ≤ W ∧ W ≤ 64 ∧ 1 ≤ H ∧ H ≤ 64 ∧ 0 ≤ Wt ∧ Wt ≤ 255
  · have hr2 := hr
    obtain ⟨a, b, c, d, e, f⟩ := hr2
    rw [if_pos hr, if_neg (by omega), if_neg (by omega), if_neg (by omega), if_neg (by omega), if_neg (by omega), if_neg (by simpa using f), (area a b c d).1]
    repeat' split
    all_goals first | rfl | (exfalso; omega)
  · rw [if_neg hr]
    by_cases h1 : W < 1
    · rw [if_pos h1]; simp
    rw [if_neg h1]
    by_cases h2 : W > 64
    · rw [if_pos h2]; simp
    rw [if_neg h2]
    by_cases h3 : H < 1
    · rw [if_pos h3]; simp
    rw [if_neg h3]
    by_cases h4 : H > 64
    · rw [if_pos h4]; simp
    rw [if_neg h4]
    by_cases h5 : Wt < 0
    · rw [if_pos h5]; simp
    rw [if_neg h5, if_pos (by simp; omega)]

theorem refCheck_eq {k : Nat} (hk : 1 ≤ k) (W H Wt : Int) (l : List Int) : bivouacref06_Check.f k W H Wt l = some (chk W H Wt l) := by
  obtain ⟨k, rfl⟩ : ∃ m, k = m + 1 := ⟨k - 1, by omega⟩
  unfold bivouacref06_Check.f chk
  simp only [bivouacref06_Check.j0]
  by_cases hr : 1 ≤ W ∧ W ≤ 64 ∧ 1 ≤ H ∧ H ≤ 64 ∧ 0 ≤ Wt ∧ Wt ≤ 255
  · have hr2 := hr
    obtain ⟨a, b, c, d, e, f⟩ := hr2
    rw [if_pos hr, if_pos a, if_pos b, if_pos c, if_pos d, if_pos e, if_neg (by simpa using f), (area a b c d).1]
    repeat' split
    all_goals first | rfl | (exfalso; omega)
  · rw [if_neg hr]
    by_cases h1 : 1 ≤ W
    · rw [if_pos h1]
      by_cases h2 : W ≤ 64
      · rw [if_pos h2]
        by_cases h3 : 1 ≤ H
        · rw [if_pos h3]
          by_cases h4 : H ≤ 64
          · rw [if_pos h4]
            by_cases h5 : 0 ≤ Wt
            · rw [if_pos h5, if_pos (by simp; omega)]
            · rw [if_neg h5]; simp
          · rw [if_neg h4]; simp
        · rw [if_neg h3]; simp
      · rw [if_neg h2]; simp
    · rw [if_neg h1]; simp

theorem few_eq (W H Wt : Int) (l : List Int) : bivouaclaw06_few.f W H Wt l = some (W, H, Wt, l.take 4300) := by
  unfold bivouaclaw06_few.f
  by_cases h : (l.length : Int) > 4300
  · rw [if_pos h, if_pos (by omega)]
  · rw [if_neg h, List.take_of_length_le (by omega)]

theorem take_b {l : List Int} (h : ∀ x ∈ l, (Lit.int .u8 x).wf = true) : ∀ x ∈ l.take 4300, 0 ≤ x ∧ x ≤ 255 := fun x hx => Go.bounds_u8 (h x (List.mem_of_mem_take hx))

theorem awake_ev : ∃ K, ∀ k, K ≤ k → bivouaclaw06_awake.f k = some true :=
  Ev.of (fun k => bivouaclaw06_awake.mono k) (k := 40) (by decide +kernel)


theorem enc_eq {k : Nat} (hk : 1 ≤ k) {W H Wt : Int} {m : List Int} (ok : Ok W H Wt m) : relief_Encode.f k W H Wt m = some (W :: H :: Wt :: m) := by
  unfold relief_Encode.f
  have a := area ok.w0 ok.w1 ok.h0 ok.h1
  have n := ok.n
  have w0 := ok.w0
  have w1 := ok.w1
  have h0 := ok.h0
  have h1 := ok.h1
  have t0 := ok.t0
  have t1 := ok.t1
  rw [check_eq hk, (chk_zero ok.b).2 ok]
  simp only [Option.bind_some]
  rw [if_pos trivial, if_pos (by simp; omega), Int.emod_eq_of_lt (by omega) (by omega), Int.emod_eq_of_lt (by omega) (by omega), Int.emod_eq_of_lt (by omega) (by omega)]
  rfl

theorem dec_short {k : Nat} {b : List Int} (h : (b.length : Int) < 3) : relief_Decode.f k b = some (0, 0, 0, [], 2) := by
  unfold relief_Decode.f
  rw [if_pos h]

theorem dec_eq {k : Nat} (hk : 1 ≤ k) {W H Wt : Int} {m : List Int} (hm : m.length < 140737488355328) (hW : 0 ≤ W ∧ W ≤ 255) (hH : 0 ≤ H ∧ H ≤ 255) (hT : 0 ≤ Wt ∧ Wt ≤ 255) :
    relief_Decode.f k (W :: H :: Wt :: m) = some (if chk W H Wt m = 0 then (W, H, Wt, m, 0) else (0, 0, 0, [], chk W H Wt m)) := by
  unfold relief_Decode.f
  have e0 : wrap64 (rd (W :: H :: Wt :: m) 0) = W := by show wrap64 W = W; exact w64 (by omega) (by omega)
  have e1 : wrap64 (rd (W :: H :: Wt :: m) 1) = H := by show wrap64 H = H; exact w64 (by omega) (by omega)
  have e2 : wrap64 (rd (W :: H :: Wt :: m) 2) = Wt := by show wrap64 Wt = Wt; exact w64 (by omega) (by omega)
  have L : ((W :: H :: Wt :: m).length : Int) = (m.length : Int) + 3 := by simp; omega
  have D : (W :: H :: Wt :: m).drop 3 = m := rfl
  rw [e0, e1, e2, L, D, if_neg (by omega), if_pos (by omega), if_pos (by omega), if_pos (by omega), if_pos (by omega), if_pos (by simpa using hm)]
  simp only [List.nil_append, Option.bind_some]
  rw [check_eq hk]
  simp only [Option.bind_some]
  split <;> rfl

theorem same_refl (W H Wt : Int) (m : List Int) : bivouacref06_Same.f W H Wt m W H Wt m = some true := by
  unfold bivouacref06_Same.f
  rw [if_pos rfl, if_pos rfl, if_pos rfl]
  simp

theorem enc_no {k : Nat} (hk : 1 ≤ k) {W H Wt : Int} {m : List Int} (c : chk W H Wt m ≠ 0) : relief_Encode.f k W H Wt m = some [] := by
  unfold relief_Encode.f
  rw [check_eq hk]
  simp only [Option.bind_some]
  rw [if_neg c]

theorem of_eq {W H Wt : Int} {m : List Int} (hm : m.length < 140737488355328) (hW : 0 ≤ W ∧ W ≤ 255) (hH : 0 ≤ H ∧ H ≤ 255) (hT : 0 ≤ Wt ∧ Wt ≤ 255) :
    bivouacref06_Of.f (W :: H :: Wt :: m) = some (W, H, Wt, m) := by
  unfold bivouacref06_Of.f
  have e0 : wrap64 (rd (W :: H :: Wt :: m) 0) = W := by show wrap64 W = W; exact w64 (by omega) (by omega)
  have e1 : wrap64 (rd (W :: H :: Wt :: m) 1) = H := by show wrap64 H = H; exact w64 (by omega) (by omega)
  have e2 : wrap64 (rd (W :: H :: Wt :: m) 2) = Wt := by show wrap64 Wt = Wt; exact w64 (by omega) (by omega)
  have L : ((W :: H :: Wt :: m).length : Int) = (m.length : Int) + 3 := by simp; omega
  have D : (W :: H :: Wt :: m).drop 3 = m := rfl
  rw [e0, e1, e2, L, D, if_pos (by omega), if_pos (by omega), if_pos (by omega)]
  simp only [Option.bind_some, List.nil_append]
  rw [if_pos (by omega), if_pos (by simpa using hm)]

theorem son_app (a b : List Int) : strOfNums a ++ strOfNums b = strOfNums (a ++ b) := by
  apply ByteArray.ext
  simp [strOfNums]


theorem bytes_j0 {KA : Nat} (hA : ∀ k, KA ≤ k → bivouaclaw06_awake.f k = some true) {b : List Int} (hn : b.length * 1 ≤ 140737488351232) (hb : ∀ x ∈ b, 0 ≤ x ∧ x ≤ 255) {W' H' Wt' : Int} {m' e : List Int} {want : ByteArray}
    (he : ∀ k, 1 ≤ k → relief_Encode.f k W' H' Wt' m' = some e) (hw : (strOfNums e).toList = want.toList) {K : Nat} (hK : KA + 2 ≤ K) : bivouaclaw06_ReliefBytes.j0 K b want W' H' Wt' m' = some true := by
  obtain ⟨K, rfl⟩ : ∃ d, K = d + 1 := ⟨K - 1, by omega⟩
  simp only [bivouaclaw06_ReliefBytes.j0]
  rw [he K (by omega)]
  rcases b with _ | ⟨W, _ | ⟨H, _ | ⟨Wt, m⟩⟩⟩
  · rw [dec_short (by simp)]
    simp only [Option.bind_some]
    rw [if_pos hw, if_pos (by decide), same_refl, hA _ (by omega)]
    rfl
  · rw [dec_short (by simp)]
    simp only [Option.bind_some]
    rw [if_pos hw, if_pos (by simp), same_refl, hA _ (by omega)]
    rfl
  · rw [dec_short (by simp)]
    simp only [Option.bind_some]
    rw [if_pos hw, if_pos (by simp), same_refl, hA _ (by omega)]
    rfl
  · have hW := hb W (by simp)
    have hH := hb H (by simp)
    have hT := hb Wt (by simp)
    have hm : ∀ x ∈ m, 0 ≤ x ∧ x ≤ 255 := fun x hx => hb x (by simp [hx])
    have L : ((W :: H :: Wt :: m).length : Int) = (m.length : Int) + 3 := by simp; omega
    simp only [List.length_cons] at hn
    rw [dec_eq (by omega) (by omega) hW hH hT, of_eq (by omega) hW hH hT]
    simp only [Option.bind_some]
    rw [if_pos hw, if_neg (by omega), refCheck_eq (by omega)]
    simp only [Option.bind_some]
    by_cases c : chk W H Wt m = 0
    · rw [if_pos c, if_pos c]
      dsimp only
      rw [same_refl, hA _ (by omega)]
      rfl
    · rw [if_neg c, if_neg c]
      dsimp only
      rw [same_refl, hA _ (by omega)]
      simp

theorem bytes_j1 {KA : Nat} (hA : ∀ k, KA ≤ k → bivouaclaw06_awake.f k = some true) {b : List Int} (hn : b.length * 1 ≤ 140737488351232) (hb : ∀ x ∈ b, 0 ≤ x ∧ x ≤ 255) {W' H' Wt' : Int} {m' e : List Int} {want : ByteArray}
    (he : ∀ k, 1 ≤ k → relief_Encode.f k W' H' Wt' m' = some e) (hw : (strOfNums e).toList = want.toList) {K : Nat} (hK : KA + 2 ≤ K) : bivouaclaw06_ReliefBytes.j1 K b want W' H' Wt' m' = some true := by
  obtain ⟨K, rfl⟩ : ∃ d, K = d + 1 := ⟨K - 1, by omega⟩
  simp only [bivouaclaw06_ReliefBytes.j1]
  rw [he K (by omega)]
  rcases b with _ | ⟨W, _ | ⟨H, _ | ⟨Wt, m⟩⟩⟩
  · rw [dec_short (by simp)]
    simp only [Option.bind_some]
    rw [if_pos hw, if_pos (by decide), same_refl, hA _ (by omega)]
    rfl
  · rw [dec_short (by simp)]
    simp only [Option.bind_some]
    rw [if_pos hw, if_pos (by simp), same_refl, hA _ (by omega)]
    rfl
  · rw [dec_short (by simp)]
    simp only [Option.bind_some]
    rw [if_pos hw, if_pos (by simp), same_refl, hA _ (by omega)]
    rfl
  · have hW := hb W (by simp)
    have hH := hb H (by simp)
    have hT := hb Wt (by simp)
    have hm : ∀ x ∈ m, 0 ≤ x ∧ x ≤ 255 := fun x hx => hb x (by simp [hx])
    have L : ((W :: H :: Wt :: m).length : Int) = (m.length : Int) + 3 := by simp; omega
    simp only [List.length_cons] at hn
    rw [dec_eq (by omega) (by omega) hW hH hT, of_eq (by omega) hW hH hT]
    simp only [Option.bind_some]
    rw [if_pos hw, if_neg (by omega), refCheck_eq (by omega)]
    simp only [Option.bind_some]
    by_cases c : chk W H Wt m = 0
    · rw [if_pos c, if_pos c]
      dsimp only
      rw [same_refl, hA _ (by omega)]
      rfl
    · rw [if_neg c, if_neg c]
      dsimp only
      rw [same_refl, hA _ (by omega)]
      simp


theorem ReliefBytes : bivouaclaw06_ReliefBytes.Pure := by
  intro W H Wt m b _ _ _ _ hl _ hn hbb
  obtain ⟨KA, hA⟩ := awake_ev
  have hm := take_b hl
  have hb : ∀ x ∈ b, 0 ≤ x ∧ x ≤ 255 := fun x hx => Go.bounds_u8 (hbb x hx)
  obtain ⟨K, hK⟩ : ∃ K, K = KA + 10000 := ⟨_, rfl⟩
  refine ⟨K, ?_⟩
  unfold bivouaclaw06_ReliefBytes.f
  rw [few_eq]
  simp only [Option.bind_some]
  generalize m.take 4300 = m at hm ⊢
  have key : ∀ (b' : List Int) (J : Nat → List Int → ByteArray → Int → Int → Int → List Int → Option Bool),
      (∀ {e : List Int} {want : ByteArray}, (∀ k, 1 ≤ k → relief_Encode.f k W H Wt m = some e) → (strOfNums e).toList = want.toList → J K b' want W H Wt m = some true) →
      ((bivouacref06_Check.f K W H Wt m).bind fun t202 => if t202 = 0 then ((some (([W % 256, H % 256, Wt % 256] : List Int) : List Int)).bind fun y203 => if (strOfNums y203).size + (strOfNums m).size ≤ 9223372036854775807 then J K b' (strOfNums y203 ++ strOfNums m) W H Wt m else none) else J K b' (⟨#[]⟩ : ByteArray) W H Wt m) = some true := by
    intro b' J hJ
    rw [refCheck_eq (by omega)]
    simp only [Option.bind_some]
    by_cases c : chk W H Wt m = 0
    · have ok := (chk_zero hm).1 c
      have a := area ok.w0 ok.w1 ok.h0 ok.h1
      have n := ok.n
      have w0 := ok.w0
      have w1 := ok.w1
      have h0 := ok.h0
      have h1 := ok.h1
      have t0 := ok.t0
      have t1 := ok.t1
      rw [if_pos c, if_pos (by rw [strOfNums_size, strOfNums_size]; simp only [List.length_cons, List.length_nil]; omega)]
      refine hJ (fun k hk => enc_eq hk ok) ?_
      rw [son_app, Int.emod_eq_of_lt (by omega) (by omega), Int.emod_eq_of_lt (by omega) (by omega), Int.emod_eq_of_lt (by omega) (by omega)]
      rfl
    · rw [if_neg c]
      exact hJ (fun k hk => enc_no hk c) rfl
  by_cases g : (b.length : Int) > 4300
  · rw [if_pos g, if_pos (by omega)]
    exact key (b.take 4300) bivouaclaw06_ReliefBytes.j0 (fun he hw => bytes_j0 hA (by rw [List.length_take]; omega) (fun x hx => hb x (List.mem_of_mem_take hx)) he hw (by omega))
  · rw [if_neg g]
    exact key b bivouaclaw06_ReliefBytes.j1 (fun he hw => bytes_j1 hA hn hb he hw (by omega))

end Go.Proofs.Ytjgemjhmkmahmaa.Pure
