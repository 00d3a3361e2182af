/- How a flight ends, by the printed functions of shot and of its reference. -/
import Derived.Test.YtfcocbkfodmmbaaPAx12
import Derived.Test.YtfcocbkfodmmbaaPAx13
import Derived.Test.YtfcocbkfodmmbaaPAx19
import Derived.Test.YtfcocbkfodmmbaaPAx25
import Derived.Test.YtfcocbkfodmmbaaPAx26
import Derived.Test.YtfcocbkfodmmbaaPAx8
import Derived.Test.YtfcocbkfodmmbaaSA
import Derived.Test.YtfcocbkfodmmbaaLH
namespace Go.Proofs.Ytfcocbkfodmmbaa.L
open Go.RowKit Go.Proofs.Ytfcocbkfodmmbaa.PA Go.Proofs.YtfcocbkfodmmbaaW.PrintWords Go.Proofs.YtfcocbkfodmmbaaW.PrintLast Go.Proofs.YtfcocbkfodmmbaaW.PrintMore
set_option linter.unusedVariables false
set_option linter.unusedSimpArgs false

theorem spot_shot {X Y Z U V Q : Int} (x : 0 ≤ X ∧ X < 4194304) (y : 0 ≤ Y ∧ Y < 4194304) (z : 0 ≤ Z ∧ Z ≤ 1073741824) (u : -262144 ≤ U ∧ U ≤ 262144) (v : -262144 ≤ V ∧ V ≤ 262144) (q : -262144 ≤ Q ∧ Q ≤ 262144) : spot X Y Z U V Q = true := by
  simp only [spot, inB, Bool.and_eq_true, decide_eq_true_eq]
  omega

/-- May a shot be on a map? -/
def may (W H X Y Z U V Q : Int) : Prop := (0 ≤ X ∧ X < W * 65536 ∧ 0 ≤ Y ∧ Y < H * 65536) ∧ (0 ≤ Z ∧ Z ≤ 1073741824) ∧ (-262144 ≤ U ∧ U ≤ 262144) ∧ (-262144 ≤ V ∧ V ≤ 262144) ∧ (-262144 ≤ Q ∧ Q ≤ 262144)
instance (W H X Y Z U V Q : Int) : Decidable (may W H X Y Z U V Q) := by unfold may; infer_instance

theorem may_eq {k : Nat} (hk : 9 ≤ k) {W H Wt : Int} {l : List Int} (hb : ∀ x ∈ l, 0 ≤ x ∧ x ≤ 255) (X Y Z U V Q : Int) :
    shot_May.f k W H Wt l X Y Z U V Q = some (decide (chk W H Wt l = 0 ∧ may W H X Y Z U V Q)) := by
  unfold shot_May.f
  rw [on_eq (by omega) hb, within_eq hk _ _ _ (by simp), within_eq hk _ _ _ (by simp)]
  simp only [Option.bind_some, List.all_cons, List.all_nil, Bool.and_true]
  by_cases hc : chk W H Wt l = 0
  · rw [if_pos hc]
    by_cases ho : 0 ≤ X ∧ X < W * 65536 ∧ 0 ≤ Y ∧ Y < H * 65536
    · rw [if_pos (decide_eq_true ho)]
      by_cases hz : 0 ≤ Z ∧ Z ≤ 1073741824
      · rw [if_pos (by simp only [inB]; exact decide_eq_true hz)]
        congr 1
        simp only [inB, ← Bool.decide_and]
        rw [decide_eq_decide]
        unfold may
        constructor
        · intro h; exact ⟨hc, ho, hz, h.1, h.2.1, h.2.2⟩
        · intro h; exact ⟨h.2.2.2.1, h.2.2.2.2.1, h.2.2.2.2.2⟩
      · rw [if_neg (by simp only [inB, decide_eq_true_eq]; exact hz), decide_eq_false (fun h => hz h.2.2.1)]
    · rw [if_neg (by rw [decide_eq_true_eq]; exact ho), decide_eq_false (fun h => ho h.2.1)]
  · rw [if_neg hc, decide_eq_false (fun h => hc h.1)]
    rfl

theorem refMay_eq {k : Nat} (hk : 9 ≤ k) {W H Wt : Int} {l : List Int} (hb : ∀ x ∈ l, 0 ≤ x ∧ x ≤ 255) (X Y Z U V Q : Int) :
    bivouacref16_May.f k W H Wt l X Y Z U V Q = some (decide (chk W H Wt l = 0 ∧ may W H X Y Z U V Q)) := by
  obtain ⟨k, rfl⟩ : ∃ q, k = q + 1 := ⟨k - 1, by omega⟩
  unfold bivouacref16_May.f
  rw [refCheck_eq (by omega)]
  simp only [Option.bind_some]
  have no : bivouacref16_May.j0 (k + 1) true X Y Z U V Q = some false := by simp only [bivouacref16_May.j0]; rw [if_pos trivial]
  by_cases hc : chk W H Wt l = 0
  · have ok := (chk_zero hb).1 hc
    rw [if_pos hc, refOn_eq ok]
    simp only [Option.bind_some]
    by_cases ho : 0 ≤ X ∧ X < W * 65536 ∧ 0 ≤ Y ∧ Y < H * 65536
    · rw [decide_eq_true ho]
      simp only [Bool.not_true, bivouacref16_May.j0]
      rw [if_neg (by decide), size_eq (by decide) (by decide), size_eq (by decide) (by decide), size_eq (by decide) (by decide)]
      simp only [Option.bind_some]
      by_cases z0 : 0 ≤ Z
      · rw [if_pos z0]
        by_cases z1 : Z ≤ 1073741824
        · rw [if_pos z1]
          by_cases hu : inB (-262144) 262144 U = true
          · rw [if_pos hu]
            by_cases hv : inB (-262144) 262144 V = true
            · rw [if_pos hv]
              congr 1
              simp only [inB, decide_eq_true_eq] at hu hv ⊢
              rw [decide_eq_decide]
              unfold may
              exact ⟨fun h => ⟨hc, ho, ⟨z0, z1⟩, hu, hv, h⟩, fun h => h.2.2.2.2.2⟩
            · rw [if_neg hv, decide_eq_false]
              simp only [inB, decide_eq_true_eq] at hv
              exact fun h => hv h.2.2.2.2.1
          · rw [if_neg hu, decide_eq_false]
            simp only [inB, decide_eq_true_eq] at hu
            exact fun h => hu h.2.2.2.1
        · rw [if_neg z1, decide_eq_false (fun h => z1 h.2.2.1.2)]
      · rw [if_neg z0, decide_eq_false (fun h => z0 h.2.2.1.1)]
    · rw [decide_eq_false ho, decide_eq_false (fun h => ho h.2.1)]
      exact no
  · rw [if_neg hc, decide_eq_false (fun h => hc h.1)]
    exact no

/-- How a flight ends at a place of a map that may be. -/
def how (W H Wt : Int) (l : List Int) (X Y Z : Int) : Int :=
  if 0 ≤ X ∧ X < W * 65536 ∧ 0 ≤ Y ∧ Y < H * 65536 then
    if height W l X Y < Z ∧ Wt * 65536 < Z then 0 else if Wt * 65536 ≤ height W l X Y then 1 else 2
  else 3

theorem how_eq {k : Nat} (hk : 1 ≤ k) {W H Wt : Int} {l : List Int} (hb : ∀ x ∈ l, 0 ≤ x ∧ x ≤ 255) (X Y Z U V Q : Int) :
    shot_How.f k W H Wt l X Y Z U V Q = some (if chk W H Wt l = 0 then (how W H Wt l X Y Z, 0) else (0, 1)) := by
  unfold shot_How.f how
  rw [height_eq hk hb]
  simp only [Option.bind_some]
  by_cases hc : chk W H Wt l = 0
  · have ok := (chk_zero hb).1 hc
    have t0 := ok.t0
    have t1 := ok.t1
    rw [if_pos hc, if_pos hc]
    by_cases ho : 0 ≤ X ∧ X < W * 65536 ∧ 0 ≤ Y ∧ Y < H * 65536
    · rw [if_pos ho, if_pos ho, w64 (i := Wt * 65536) (by omega) (by omega)]
      generalize height W l X Y = h
      simp only [show ¬ (0 : Int) = 1 by decide, show ¬ (0 : Int) = 4 by decide, if_false]
      have m := mx_ge h (Wt * 65536)
      by_cases hz : h < Z ∧ Wt * 65536 < Z
      · rw [if_pos (by omega), if_pos hz]
      · rw [if_neg (by omega), if_neg hz]
        by_cases hg : h ≥ Wt * 65536
        · rw [if_pos hg, if_pos (by omega)]
        · rw [if_neg hg, if_neg (by omega)]
    · rw [if_neg ho, if_neg ho]
      rfl
  · rw [if_neg hc, if_neg hc]
    rfl

theorem refHow_eq {k : Nat} (hk : 1 ≤ k) {W H Wt : Int} {l : List Int} (ok : Ok W H Wt l) (X Y Z U V Q : Int) :
    bivouacref16_How.f k W H Wt l X Y Z U V Q = some (how W H Wt l X Y Z) := by
  obtain ⟨k, rfl⟩ : ∃ q, k = q + 1 := ⟨k - 1, by omega⟩
  have t0 := ok.t0
  have t1 := ok.t1
  unfold bivouacref16_How.f how
  rw [refOn_eq ok]
  simp only [Option.bind_some]
  by_cases ho : 0 ≤ X ∧ X < W * 65536 ∧ 0 ≤ Y ∧ Y < H * 65536
  · rw [if_pos (decide_eq_true ho), if_pos ho, refHeight_eq ok ho.1 ho.2.1 ho.2.2.1 ho.2.2.2, w64 (i := Wt * 65536) (by omega) (by omega)]
    simp only [Option.bind_some, bivouacref16_How.j0]
    generalize height W l X Y = h
    by_cases h1 : Z > h
    · rw [if_pos h1]
      by_cases h2 : Z > Wt * 65536
      · rw [decide_eq_true h2, if_pos rfl, if_pos (show h < Z ∧ Wt * 65536 < Z by omega)]
      · rw [decide_eq_false h2, if_neg (by decide), if_neg (show ¬ (h < Z ∧ Wt * 65536 < Z) by omega)]
        by_cases hg : h ≥ Wt * 65536
        · rw [if_pos hg, if_pos (by omega)]
        · rw [if_neg hg, if_neg (by omega)]
    · rw [if_neg h1, if_neg (by decide), if_neg (show ¬ (h < Z ∧ Wt * 65536 < Z) by omega)]
      by_cases hg : h ≥ Wt * 65536
      · rw [if_pos hg, if_pos (by omega)]
      · rw [if_neg hg, if_neg (by omega)]
  · rw [if_neg (by rw [decide_eq_true_eq]; exact ho), if_neg ho]

/-- A flight's end, d ticks ahead of the last one. -/
def fly (W H Wt : Int) (l : List Int) (X Y Z U V Q : Int) (n : Nat) : Nat → Int × Int × Int × Int × Int × Int × Int × Int
  | 0 => (n, 0, aX X U n, aX Y V n, aZ Z Q n, U, V, aQ Q n)
  | d + 1 => if how W H Wt l (aX X U ((n - d : Nat) : Int)) (aX Y V ((n - d : Nat) : Int)) (aZ Z Q ((n - d : Nat) : Int)) = 0 then fly W H Wt l X Y Z U V Q n d
    else (((n - d : Nat) : Int), how W H Wt l (aX X U ((n - d : Nat) : Int)) (aX Y V ((n - d : Nat) : Int)) (aZ Z Q ((n - d : Nat) : Int)), aX X U ((n - d : Nat) : Int), aX Y V ((n - d : Nat) : Int), aZ Z Q ((n - d : Nat) : Int), U, V, aQ Q ((n - d : Nat) : Int))

/-- an error's number behind it -/
def with0 (t : Int × Int × Int × Int × Int × Int × Int × Int) (e : Int) : Int × Int × Int × Int × Int × Int × Int × Int × Int := (t.1, t.2.1, t.2.2.1, t.2.2.2.1, t.2.2.2.2.1, t.2.2.2.2.2.1, t.2.2.2.2.2.2.1, t.2.2.2.2.2.2.2, e)

theorem fly_l0 {W H Wt : Int} {l : List Int} (ok : Ok W H Wt l) {X Y Z U V Q : Int} (h : spot X Y Z U V Q = true) (n : Nat) (hn : n ≤ 1024) (d : Nat) : ∀ (k i : Nat), i ≤ n → n - i = d → d + 2 < k →
    shot_Fly.l0 k n n i W H Wt l (aX X U i) (aX Y V i) (aZ Z Q i) U V (aQ Q i) = some (with0 (fly W H Wt l X Y Z U V Q n d) 0) := by
  induction d with
  | zero =>
    intro k i hi hd hk
    obtain ⟨k, rfl⟩ : ∃ q, k = q + 1 := ⟨k - 1, by omega⟩
    obtain rfl : i = n := by omega
    simp only [shot_Fly.l0]
    rw [if_neg (by omega)]
    rfl
  | succ d ih =>
    intro k i hi hd hk
    obtain ⟨k, rfl⟩ : ∃ q, k = q + 1 := ⟨k - 1, by omega⟩
    have g := ih k (i + 1) (by omega) (by omega) (by omega)
    have e : n - d = i + 1 := by omega
    simp only [shot_Fly.l0, fly]
    rw [if_pos (by omega), tick_eq h (by omega) (by omega), e]
    simp only [Option.bind_some]
    rw [how_eq (by omega) ok.b, if_pos ((chk_zero ok.b).2 ok), w64 (by omega) (by omega)]
    simp only [Option.bind_some]
    rw [show ((i + 1 : Nat) : Int) = (i : Int) + 1 by omega] at g ⊢
    by_cases hh : how W H Wt l (aX X U ((i : Int) + 1)) (aX Y V ((i : Int) + 1)) (aZ Z Q ((i : Int) + 1)) = 0
    · rw [if_pos hh, if_pos hh]
      exact g
    · rw [if_neg hh, if_neg hh]
      rfl

theorem refFly_l0 {W H Wt : Int} {l : List Int} (ok : Ok W H Wt l) {X Y Z U V Q : Int} (h : spot X Y Z U V Q = true) (n : Nat) (hn : n ≤ 1024) (d : Nat) : ∀ (k i : Nat), i ≤ n → n - i = d → d + 2 < k →
    bivouacref16_Fly.l0 k n ((i : Int) + 1) W H Wt l X Y Z U V Q = some (fly W H Wt l X Y Z U V Q n d) := by
  induction d with
  | zero =>
    intro k i hi hd hk
    obtain ⟨k, rfl⟩ : ∃ q, k = q + 1 := ⟨k - 1, by omega⟩
    obtain rfl : i = n := by omega
    simp only [bivouacref16_Fly.l0]
    rw [if_neg (by omega), refAt_eq h (by omega) (by omega)]
    rfl
  | succ d ih =>
    intro k i hi hd hk
    obtain ⟨k, rfl⟩ : ∃ q, k = q + 1 := ⟨k - 1, by omega⟩
    have g := ih k (i + 1) (by omega) (by omega) (by omega)
    have e : n - d = i + 1 := by omega
    simp only [bivouacref16_Fly.l0, fly]
    rw [if_pos (by omega), refAt_eq h (by omega) (by omega), e]
    simp only [Option.bind_some]
    rw [refHow_eq (by omega) ok, w64 (by omega) (by omega)]
    simp only [Option.bind_some]
    rw [show ((i + 1 : Nat) : Int) = (i : Int) + 1 by omega] at g ⊢
    by_cases hh : how W H Wt l (aX X U ((i : Int) + 1)) (aX Y V ((i : Int) + 1)) (aZ Z Q ((i : Int) + 1)) = 0
    · rw [if_pos hh, if_pos hh]
      exact g
    · rw [if_neg hh, if_neg hh]

theorem may_spot {W H Wt : Int} {l : List Int} (ok : Ok W H Wt l) {X Y Z U V Q : Int} (h : may W H X Y Z U V Q) : spot X Y Z U V Q = true := by
  have w1 := ok.w1
  have h1 := ok.h1
  obtain ⟨⟨a, b, c, d⟩, z, u, v, q⟩ := h
  exact spot_shot (by omega) (by omega) z u v q

theorem fly_eq {k : Nat} (hk : 1100 ≤ k) {W H Wt : Int} {l : List Int} (hb : ∀ x ∈ l, 0 ≤ x ∧ x ≤ 255) (X Y Z U V Q n : Int) :
    shot_Fly.f k W H Wt l X Y Z U V Q n = some (if (chk W H Wt l = 0 ∧ may W H X Y Z U V Q) ∧ 0 ≤ n ∧ n ≤ 1024 then with0 (fly W H Wt l X Y Z U V Q n.toNat n.toNat) 0 else (0, 0, 0, 0, 0, 0, 0, 0, 1)) := by
  obtain ⟨k, rfl⟩ : ∃ q, k = q + 1 := ⟨k - 1, by omega⟩
  have no : ∀ n, shot_Fly.j0 (k + 1) n true W H Wt l X Y Z U V Q = some (0, 0, 0, 0, 0, 0, 0, 0, 1) := by intro n; simp only [shot_Fly.j0]; rw [if_pos trivial]
  unfold shot_Fly.f
  rw [no, may_eq (by omega) hb]
  simp only [Option.bind_some]
  by_cases hm : chk W H Wt l = 0 ∧ may W H X Y Z U V Q
  · rw [if_pos (decide_eq_true hm)]
    by_cases h0 : n < 0
    · rw [if_pos h0, if_neg (by omega)]
    rw [if_neg h0]
    by_cases h1 : n > 1024
    · rw [decide_eq_true h1, no, if_neg (by omega)]
    rw [decide_eq_false h1, if_pos ⟨hm, by omega, by omega⟩]
    simp only [shot_Fly.j0]
    rw [if_neg (by decide)]
    have ok := (chk_zero hb).1 hm.1
    obtain ⟨m, rfl⟩ := Int.eq_ofNat_of_zero_le (show 0 ≤ n by omega)
    have g := fly_l0 ok (may_spot ok hm.2) m (by omega) m k 0 (by omega) (by omega) (by omega)
    obtain ⟨z1, z2, z3⟩ := a_zero X U Z Q
    obtain ⟨z4, _, _⟩ := a_zero Y V Z Q
    simp only [Int.natCast_zero, Int.ofNat_zero, z1, z2, z3, z4] at g
    rw [Int.toNat_natCast]
    exact g
  · rw [if_neg (by rw [decide_eq_true_eq]; exact hm), if_neg (fun h => hm h.1)]

theorem refFly_eq {k : Nat} (hk : 1100 ≤ k) {W H Wt : Int} {l : List Int} (ok : Ok W H Wt l) {X Y Z U V Q n : Int} (hm : may W H X Y Z U V Q) (n0 : 0 ≤ n) (n1 : n ≤ 1024) :
    bivouacref16_Fly.f k W H Wt l X Y Z U V Q n = some (fly W H Wt l X Y Z U V Q n.toNat n.toNat) := by
  obtain ⟨m, rfl⟩ := Int.eq_ofNat_of_zero_le n0
  unfold bivouacref16_Fly.f
  rw [Int.toNat_natCast]
  exact refFly_l0 ok (may_spot ok hm) m (by omega) m k 0 (by omega) (by omega) (by omega)

end Go.Proofs.Ytfcocbkfodmmbaa.L
