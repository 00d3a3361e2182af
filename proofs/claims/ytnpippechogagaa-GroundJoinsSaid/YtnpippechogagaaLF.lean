/- What the flood comes to, in plain Lean. -/
import Derived.Test.YtnpippechogagaaGAgroundRegions
namespace Go.Proofs.Ytnpippechogagaa.L
open Go.RowKit Go.Proofs.Ytnpippechogagaa.PA Go.Proofs.YtnpippechogagaaW.PrintWords Go.Proofs.YtnpippechogagaaW.PrintLast Go.Proofs.YtnpippechogagaaW.PrintMore
set_option linter.unusedVariables false
set_option linter.unusedSimpArgs false

theorem getD_set {α : Type} (l : List α) (i j : Nat) (v d : α) : (l.set i v).getD j d = if i = j ∧ j < l.length then v else l.getD j d := by
  simp only [List.getD_eq_getElem?_getD, List.getElem?_set]
  by_cases h : i = j
  · subst h
    by_cases h2 : i < l.length
    · simp [h2]
    · simp [h2]
  · simp [h]

/-- How many numbers below 0 there are. -/
def neg : List Int → Nat
  | [] => 0
  | x :: l => (if x < 0 then 1 else 0) + neg l
theorem neg_set : ∀ (l : List Int) (i : Nat) (v : Int), i < l.length → l.getD i 0 < 0 → 0 ≤ v → neg (l.set i v) + 1 = neg l
  | [], _, _, h, _, _ => by simp at h
  | x :: l, 0, v, _, h, hv => by
    simp at h
    simp only [List.set_cons_zero, neg]
    rw [if_pos h, if_neg (by omega)]
    omega
  | x :: l, i + 1, v, h, h2, hv => by
    have := neg_set l i v (by simpa using h) (by simpa using h2) hv
    simp only [List.set_cons_succ, neg]
    omega
theorem neg_le : ∀ l : List Int, neg l ≤ l.length
  | [] => by simp [neg]
  | x :: l => by
    have := neg_le l
    simp only [neg, List.length_cons]
    split <;> omega
theorem neg_rep (n : Nat) : neg (List.replicate n (-1)) = n := by
  induction n with
  | zero => rfl
  | succ n ih => simp [List.replicate_succ, neg, ih]; omega

/-- Open cells side by side. -/
def Adj (g : List Bool) (w : Int) (a b : Int) : Prop :=
  0 ≤ a ∧ a < (g.length : Int) ∧ 0 ≤ b ∧ b < (g.length : Int) ∧ g.getD a.toNat false = true ∧ g.getD b.toNat false = true ∧
  (b = a + w ∨ a = b + w ∨ (b = a + 1 ∧ a % w < w - 1) ∨ (a = b + 1 ∧ 0 < a % w))
inductive Conn (g : List Bool) (w : Int) : Int → Int → Prop
  | refl (a : Int) : Conn g w a a
  | step {a b c : Int} : Conn g w a b → Adj g w b c → Conn g w a c

theorem mod_succ {a w : Int} (hw : 0 < w) (h : a % w < w - 1) : (a + 1) % w = a % w + 1 := by
  have := Int.emod_add_mul_ediv a w
  have h0 := Int.emod_nonneg a (show w ≠ 0 by omega)
  have e : a + 1 = (a % w + 1) + w * (a / w) := by omega
  rw [e, Int.add_mul_emod_self_left, Int.emod_eq_of_lt (by omega) (by omega)]
theorem mod_pred {a w : Int} (hw : 0 < w) (h : 0 < a % w) : (a - 1) % w = a % w - 1 := by
  have := Int.emod_add_mul_ediv a w
  have h0 := Int.emod_lt_of_pos a hw
  have e : a - 1 = (a % w - 1) + w * (a / w) := by omega
  rw [e, Int.add_mul_emod_self_left, Int.emod_eq_of_lt (by omega) (by omega)]
theorem Adj.symm {g : List Bool} {w a b : Int} (hw : 0 < w) (h : Adj g w a b) : Adj g w b a := by
  obtain ⟨h1, h2, h3, h4, h5, h6, h7⟩ := h
  refine ⟨h3, h4, h1, h2, h6, h5, ?_⟩
  rcases h7 with h | h | ⟨rfl, h⟩ | ⟨rfl, h⟩
  · exact .inr (.inl h)
  · exact .inl h
  · refine .inr (.inr (.inr ⟨rfl, ?_⟩))
    rw [mod_succ hw h]
    have := Int.emod_nonneg a (show w ≠ 0 by omega)
    omega
  · refine .inr (.inr (.inl ⟨rfl, ?_⟩))
    have := mod_pred hw h
    rw [show b + 1 - 1 = b by omega] at this
    have := Int.emod_lt_of_pos (b + 1) hw
    omega
theorem Conn.symm {g : List Bool} {w a b : Int} (hw : 0 < w) (h : Conn g w a b) : Conn g w b a := by
  have tr : ∀ {x y z : Int}, Conn g w x y → Conn g w y z → Conn g w x z := fun h1 h2 => by
    induction h2 with
    | refl => exact h1
    | step _ h ih => exact ih.step h
  induction h with
  | refl => exact .refl _
  | step _ h ih => exact tr (Conn.step (.refl _) (h.symm hw)) ih
theorem Conn.trans {g : List Bool} {w x y z : Int} (h1 : Conn g w x y) (h2 : Conn g w y z) : Conn g w x z := by
  induction h2 with
  | refl => exact h1
  | step _ h ih => exact ih.step h

/-- Each open cell has a number: of a cell that it is connected with, no greater than its own; neighbours have the same; what is not open has a number below 0. -/
structure Good (g : List Bool) (w : Int) (l : List Int) : Prop where
  len : l.length = g.length
  shut : ∀ a : Int, 0 ≤ a → a < (g.length : Int) → g.getD a.toNat false = false → l.getD a.toNat 0 = -1
  num : ∀ a : Int, 0 ≤ a → a < (g.length : Int) → g.getD a.toNat false = true → 0 ≤ l.getD a.toNat 0 ∧ l.getD a.toNat 0 ≤ a ∧ g.getD (l.getD a.toNat 0).toNat false = true ∧ Conn g w a (l.getD a.toNat 0)
  adj : ∀ a b : Int, Adj g w a b → l.getD a.toNat 0 = l.getD b.toNat 0
theorem Good.conn {g : List Bool} {w : Int} {l : List Int} (h : Good g w l) {a b : Int} (c : Conn g w a b) : l.getD a.toNat 0 = l.getD b.toNat 0 := by
  induction c with
  | refl => rfl
  | step _ ha ih => exact ih.trans (h.adj _ _ ha)
theorem Good.own {g : List Bool} {w : Int} {l : List Int} (h : Good g w l) {a : Int} (h0 : 0 ≤ a) (h1 : a < (g.length : Int)) (ho : g.getD a.toNat false = true) : l.getD (l.getD a.toNat 0).toNat 0 = l.getD a.toNat 0 := by
  obtain ⟨_, _, _, c⟩ := h.num a h0 h1 ho
  exact (h.conn c).symm
theorem Good.unique {g : List Bool} {w : Int} {l m : List Int} (hl : Good g w l) (hm : Good g w m) : l = m := by
  have key : ∀ {x y : List Int}, Good g w x → Good g w y → ∀ a : Int, 0 ≤ a → a < (g.length : Int) → g.getD a.toNat false = true → x.getD a.toNat 0 ≤ y.getD a.toNat 0 := by
    intro x y hx hy a h0 h1 ho
    obtain ⟨n0, n1, n2, c⟩ := hy.num a h0 h1 ho
    rw [hx.conn c]
    exact (hx.num _ n0 (by omega) n2).2.1
  apply List.ext_getElem
  · rw [hl.len, hm.len]
  · intro i h1 h2
    have hi : i < g.length := by rw [← hl.len]; exact h1
    have e1 : l.getD (i : Int).toNat 0 = l[i] := by simp [h1]
    have e2 : m.getD (i : Int).toNat 0 = m[i] := by simp [h2]
    rw [← e1, ← e2]
    cases ho : g.getD (i : Int).toNat false
    · rw [hl.shut i (by omega) (by omega) ho, hm.shut i (by omega) (by omega) ho]
    · have a1 := key hl hm i (by omega) (by omega) ho
      have a2 := key hm hl i (by omega) (by omega) ho
      omega

theorem mem_nbs {w n k x : Int} : x ∈ ground_Regions.nbs w n k ↔ (w ≤ k ∧ x = k - w) ∨ (0 < k % w ∧ x = k - 1) ∨ (k % w < w - 1 ∧ x = k + 1) ∨ (k + w < n ∧ x = k + w) := by
  unfold ground_Regions.nbs
  simp only [List.mem_append]
  constructor
  · rintro (((h | h) | h) | h) <;> (split at h <;> simp at h)
    · exact .inl ⟨by assumption, h⟩
    · exact .inr (.inl ⟨by assumption, h⟩)
    · exact .inr (.inr (.inl ⟨by assumption, h⟩))
    · exact .inr (.inr (.inr ⟨by assumption, h⟩))
  · rintro (⟨h, rfl⟩ | ⟨h, rfl⟩ | ⟨h, rfl⟩ | ⟨h, rfl⟩)
    · exact .inl (.inl (.inl (by rw [if_pos h]; simp)))
    · exact .inl (.inl (.inr (by rw [if_pos h]; simp)))
    · exact .inl (.inr (by rw [if_pos h]; simp))
    · exact .inr (by rw [if_pos h]; simp)
theorem lt_of_mod {w h k : Int} (hw : 0 < w) (hk : k < w * h) (hm : k % w < w - 1) : k + 1 < w * h := by
  have e := Int.emod_add_mul_ediv k w
  have h1 : k / w < h := by
    rcases (by omega : k / w < h ∨ h ≤ k / w) with h1 | h1
    · exact h1
    · have := Int.mul_le_mul_of_nonneg_left h1 (Int.le_of_lt hw)
      have := Int.emod_nonneg k (show w ≠ 0 by omega)
      omega
  have h2 := Int.mul_le_mul_of_nonneg_left (show k / w + 1 ≤ h by omega) (Int.le_of_lt hw)
  have e2 : w * (k / w + 1) = w * (k / w) + w := by grind
  omega
theorem nbs_in {w h k x : Int} (hw : 0 < w) (h0 : 0 ≤ k) (h1 : k < w * h) (hx : x ∈ ground_Regions.nbs w (w * h) k) : 0 ≤ x ∧ x < w * h := by
  rcases mem_nbs.1 hx with ⟨h, rfl⟩ | ⟨h, rfl⟩ | ⟨h, rfl⟩ | ⟨h, rfl⟩
  · omega
  · have : k ≠ 0 := fun e => by subst e; simp at h
    omega
  · have := lt_of_mod hw h1 h
    omega
  · omega

/-- How the flood stands: i, from which it began; c, whose neighbours are just looked at, P: those of c that have been. -/
structure Mid (g : List Bool) (w i : Int) (c : Option (Int × List Int)) (out wait : List Int) : Prop where
  len : out.length = g.length
  shut : ∀ a : Int, 0 ≤ a → a < (g.length : Int) → g.getD a.toNat false = false → out.getD a.toNat 0 = -1
  num : ∀ a : Int, 0 ≤ a → a < (g.length : Int) → 0 ≤ out.getD a.toNat 0 → g.getD a.toNat false = true ∧ out.getD a.toNat 0 ≤ a ∧ out.getD a.toNat 0 ≤ i ∧ g.getD (out.getD a.toNat 0).toNat false = true ∧ Conn g w a (out.getD a.toNat 0)
  less : ∀ a : Int, 0 ≤ a → a < (g.length : Int) → out.getD a.toNat 0 < 0 → out.getD a.toNat 0 = -1
  past : ∀ a : Int, 0 ≤ a → a ≤ i → a < (g.length : Int) → g.getD a.toNat false = true → 0 ≤ out.getD a.toNat 0
  front : ∀ a ∈ wait, 0 ≤ a ∧ a < (g.length : Int) ∧ out.getD a.toNat 0 = i
  adj : ∀ a b : Int, Adj g w a b → 0 ≤ out.getD a.toNat 0 → a ∉ wait → (∀ P, c ≠ some (a, P)) → out.getD b.toNat 0 = out.getD a.toNat 0
  here : ∀ a P, c = some (a, P) → 0 ≤ a ∧ a < (g.length : Int) ∧ out.getD a.toNat 0 = i ∧ ∀ x ∈ P, Adj g w a x → out.getD x.toNat 0 = i
  start : 0 ≤ i ∧ i < (g.length : Int) ∧ g.getD i.toNat false = true

theorem Mid.step {g : List Bool} {w i c : Int} {P out wait : List Int} (hw : 0 < w) (m : Mid g w i (some (c, P)) out wait) {x : Int} (h0 : 0 ≤ x) (h1 : x < (g.length : Int)) (hx : g.getD x.toNat false = true → Adj g w c x) :
    Mid g w i (some (c, P ++ [x])) (ground_Regions.push g i (out, wait) x).1 (ground_Regions.push g i (out, wait) x).2 ∧ neg (ground_Regions.push g i (out, wait) x).1 + (ground_Regions.push g i (out, wait) x).2.length = neg out + wait.length ∧ neg (ground_Regions.push g i (out, wait) x).1 ≤ neg out := by
  obtain ⟨s0, s1, s2⟩ := m.start
  obtain ⟨c0, c1, c2, c3⟩ := m.here c P rfl
  unfold ground_Regions.push
  by_cases hp : g.getD x.toNat false = true ∧ out.getD x.toNat 0 < 0
  · rw [if_pos hp]
    obtain ⟨ho, hneg⟩ := hp
    have hA := hx ho
    have hxl : x.toNat < out.length := by rw [m.len]; omega
    have ix : i < x := by
      rcases (by omega : i < x ∨ x ≤ i) with h | h
      · exact h
      · have := m.past x h0 h h1 ho
        omega
    have get : ∀ a : Int, 0 ≤ a → (out.set x.toNat i).getD a.toNat 0 = if a = x then i else out.getD a.toNat 0 := by
      intro a ha
      rw [getD_set]
      by_cases e : a = x
      · subst e; simp [hxl]
      · rw [if_neg e, if_neg (by omega)]
    have hcx : c ≠ x := fun e => by subst e; omega
    have hcon : Conn g w x i := by
      have := (m.num c c0 c1 (by omega)).2.2.2.2
      rw [c2] at this
      exact (Conn.step (.refl _) (hA.symm hw)).trans this
    refine ⟨⟨by simpa using m.len, ?_, ?_, ?_, ?_, ?_, ?_, ?_, m.start⟩, ?_⟩
    · intro a a0 a1 hs
      rw [get a a0, if_neg (fun e => by subst e; rw [ho] at hs; cases hs)]
      exact m.shut a a0 a1 hs
    · intro a a0 a1
      rw [get a a0]
      by_cases e : a = x
      · subst e; rw [if_pos rfl]; exact fun _ => ⟨ho, by omega, by omega, s2, hcon⟩
      · rw [if_neg e]; exact m.num a a0 a1
    · intro a a0 a1
      rw [get a a0]
      by_cases e : a = x
      · rw [if_pos e]; omega
      · rw [if_neg e]; exact m.less a a0 a1
    · intro a a0 ai a1 hg
      rw [get a a0]
      by_cases e : a = x
      · rw [if_pos e]; omega
      · rw [if_neg e]; exact m.past a a0 ai a1 hg
    · intro a ha
      rcases List.mem_append.1 ha with ha | ha
      · obtain ⟨a0, a1, a2⟩ := m.front a ha
        refine ⟨a0, a1, ?_⟩
        rw [get a a0]
        split
        · rfl
        · exact a2
      · obtain rfl : a = x := by simpa using ha
        exact ⟨h0, h1, by rw [get a h0, if_pos rfl]⟩
    · intro a b hab hn hw' hc'
      have a0 := hab.1
      have b0 := hab.2.2.1
      have nax : a ≠ x := fun e => hw' (by subst e; simp)
      rw [get a a0, if_neg nax] at hn
      have nac : ∀ Q, some (c, P) ≠ some (a, Q) := fun Q e => by
        obtain rfl : c = a := by simpa using congrArg (fun z => (z.map Prod.fst)) e
        exact hc' (P ++ [x]) rfl
      have := m.adj a b hab hn (fun h => hw' (List.mem_append_left _ h)) nac
      have nbx : b ≠ x := fun e => by subst e; omega
      rw [get a a0, get b b0, if_neg nax, if_neg nbx]
      exact this
    · intro a Q e
      simp only [Option.some.injEq, Prod.mk.injEq] at e
      obtain ⟨rfl, rfl⟩ := e
      refine ⟨c0, c1, by rw [get c c0, if_neg hcx]; exact c2, fun y hy hA' => ?_⟩
      rw [get y hA'.2.2.1]
      by_cases e : y = x
      · rw [if_pos e]
      · rw [if_neg e]
        rcases List.mem_append.1 hy with h | h
        · exact c3 y h hA'
        · simp at h; exact absurd h e
    · have := neg_set out x.toNat i hxl hneg s0
      simp only [List.length_append, List.length_cons, List.length_nil]
      omega
  · rw [if_neg hp]
    refine ⟨⟨m.len, m.shut, m.num, m.less, m.past, m.front, ?_, ?_, m.start⟩, rfl, Nat.le_refl _⟩
    · intro a b hab hn hw' hc'
      refine m.adj a b hab hn hw' (fun Q e => ?_)
      obtain rfl : c = a := by simpa using congrArg (fun z => (z.map Prod.fst)) e
      exact hc' (P ++ [x]) rfl
    · intro a Q e
      simp only [Option.some.injEq, Prod.mk.injEq] at e
      obtain ⟨rfl, rfl⟩ := e
      refine ⟨c0, c1, c2, fun y hy hA' => ?_⟩
      rcases List.mem_append.1 hy with h | h
      · exact c3 y h hA'
      · obtain rfl : y = x := by simpa using h
        have g1 := hA'.2.2.2.2.2.1
        have hy0 : 0 ≤ out.getD y.toNat 0 := by
          rcases (by omega : (out.getD y.toNat 0) < 0 ∨ 0 ≤ (out.getD y.toNat 0)) with h | h
          · exact absurd ⟨g1, h⟩ hp
          · exact h
        -- y has a number; its neighbour c has i
        by_cases hyw : y ∈ wait
        · exact (m.front y hyw).2.2
        · by_cases hyc : y = c
          · subst hyc; exact c2
          · have := m.adj y c (hA'.symm hw) hy0 hyw (fun Q e => hyc (by simpa using (congrArg (fun z => (z.map Prod.fst)) e).symm))
            exact this.symm.trans c2

theorem Mid.fold {g : List Bool} {w i c : Int} (hw : 0 < w) : ∀ (xs P out wait : List Int), Mid g w i (some (c, P)) out wait → (∀ x ∈ xs, 0 ≤ x ∧ x < (g.length : Int) ∧ (g.getD x.toNat false = true → Adj g w c x)) →
    Mid g w i (some (c, P ++ xs)) (xs.foldl (ground_Regions.push g i) (out, wait)).1 (xs.foldl (ground_Regions.push g i) (out, wait)).2 ∧ neg (xs.foldl (ground_Regions.push g i) (out, wait)).1 + (xs.foldl (ground_Regions.push g i) (out, wait)).2.length = neg out + wait.length ∧ neg (xs.foldl (ground_Regions.push g i) (out, wait)).1 ≤ neg out
  | [], P, out, wait, m, _ => by simpa using m
  | x :: xs, P, out, wait, m, h => by
    obtain ⟨h0, h1, h2⟩ := h x (by simp)
    obtain ⟨m2, e2, l2⟩ := m.step hw h0 h1 h2
    obtain ⟨m3, e3, l3⟩ := Mid.fold hw xs (P ++ [x]) _ _ m2 (fun y hy => h y (by simp [hy]))
    simp only [List.foldl_cons]
    have eta : ((ground_Regions.push g i (out, wait) x).1, (ground_Regions.push g i (out, wait) x).2) = ground_Regions.push g i (out, wait) x := rfl
    rw [eta] at m3 e3 l3
    refine ⟨by simpa using m3, by omega, by omega⟩

theorem adj_nbs {g : List Bool} {w a b : Int} (h : Adj g w a b) : b ∈ ground_Regions.nbs w g.length a := by
  obtain ⟨h1, h2, h3, h4, _, _, h7⟩ := h
  rw [mem_nbs]
  rcases h7 with h | h | ⟨h, h'⟩ | ⟨h, h'⟩
  · exact .inr (.inr (.inr ⟨by omega, h⟩))
  · exact .inl ⟨by omega, by omega⟩
  · exact .inr (.inr (.inl ⟨h', h⟩))
  · exact .inr (.inl ⟨h', by omega⟩)
theorem nbs_adj {g : List Bool} {w h c x : Int} (hw : 0 < w) (hn : (g.length : Int) = w * h) (c0 : 0 ≤ c) (c1 : c < (g.length : Int)) (hc : g.getD c.toNat false = true) (hx : x ∈ ground_Regions.nbs w g.length c) :
    0 ≤ x ∧ x < (g.length : Int) ∧ (g.getD x.toNat false = true → Adj g w c x) := by
  have hx2 := hx
  rw [hn] at hx2
  obtain ⟨x0, x1⟩ := nbs_in hw c0 (by rw [← hn]; exact c1) hx2
  rw [← hn] at x1
  refine ⟨x0, x1, fun ho => ⟨c0, c1, x0, x1, hc, ho, ?_⟩⟩
  rcases mem_nbs.1 hx with ⟨h, rfl⟩ | ⟨h, rfl⟩ | ⟨h, rfl⟩ | ⟨h, rfl⟩
  · exact .inr (.inl (by omega))
  · exact .inr (.inr (.inr ⟨by omega, h⟩))
  · exact .inr (.inr (.inl ⟨rfl, h⟩))
  · exact .inl rfl
theorem last_split {l : List Int} (h : l ≠ []) : l.dropLast ++ [l.getLastD 0] = l := by
  have := List.dropLast_concat_getLast h
  rw [List.getLastD_eq_getLast?, List.getLast?_eq_some_getLast h]
  exact this

theorem Mid.drop {g : List Bool} {w i : Int} {out wait : List Int} (m : Mid g w i none out wait) (h : wait ≠ []) : Mid g w i (some (wait.getLastD 0, [])) out wait.dropLast := by
  have e := last_split h
  refine ⟨m.len, m.shut, m.num, m.less, m.past, fun a ha => m.front a (by rw [← e]; exact List.mem_append_left _ ha), ?_, ?_, m.start⟩
  · intro a b hab hn h1 h2
    refine m.adj a b hab hn (fun ha => ?_) (fun P e => by cases e)
    rw [← e] at ha
    rcases List.mem_append.1 ha with ha | ha
    · exact h1 ha
    · obtain rfl : a = wait.getLastD 0 := by simpa using ha
      exact h2 [] rfl
  · intro a P e2
    simp only [Option.some.injEq, Prod.mk.injEq] at e2
    obtain ⟨rfl, rfl⟩ := e2
    obtain ⟨a0, a1, a2⟩ := m.front (wait.getLastD 0) (by rw [← e]; simp)
    exact ⟨a0, a1, a2, fun x hx => by simp at hx⟩
theorem Mid.fin {g : List Bool} {w i c : Int} {out wait : List Int} (m : Mid g w i (some (c, ground_Regions.nbs w g.length c)) out wait) : Mid g w i none out wait := by
  obtain ⟨c0, c1, c2, c3⟩ := m.here _ _ rfl
  refine ⟨m.len, m.shut, m.num, m.less, m.past, m.front, ?_, fun a P e => (by cases e), m.start⟩
  intro a b hab hn h1 _
  by_cases hac : a = c
  · subst hac
    rw [c3 b (adj_nbs hab) hab, c2]
  · exact m.adj a b hab hn h1 (fun P e => hac (by simpa using (congrArg (fun z => (z.map Prod.fst)) e).symm))

theorem flood {g : List Bool} {w h i : Int} (hw : 0 < w) (hn : (g.length : Int) = w * h) : ∀ (M : Nat) (out wait : List Int), 2 * neg out + wait.length ≤ M → neg out + wait.length ≤ 4096 → Mid g w i none out wait →
    ∃ out', (∀ k, M + 1 ≤ k → ground_Regions.l0 k g w i out wait = some out') ∧ Mid g w i none out' [] ∧ neg out' ≤ neg out
  | M, out, wait, hM, hB, m => by
    by_cases he : wait = []
    · subst he
      refine ⟨out, fun k hk => ?_, m, Nat.le_refl _⟩
      obtain ⟨k, rfl⟩ : ∃ j, k = j + 1 := ⟨k - 1, by omega⟩
      simp [ground_Regions.l0]
    · have m1 := m.drop he
      obtain ⟨c0, c1, c2, _⟩ := m1.here _ _ rfl
      have hg := (m.num _ c0 c1 (by have := m.start.1; omega)).1
      obtain ⟨m2, e2, l2⟩ := Mid.fold hw (ground_Regions.nbs w g.length (wait.getLastD 0)) [] out wait.dropLast m1 (fun x hx => nbs_adj hw hn c0 c1 hg hx)
      have hl : wait.dropLast.length = wait.length - 1 := by simp
      have hl0 : 0 < wait.length := List.length_pos_iff.2 he
      cases M with
      | zero => omega
      | succ M =>
        obtain ⟨out', h1, h2, h3⟩ := flood hw hn M _ _ (by omega) (by omega) (m2.fin)
        refine ⟨out', fun k hk => ?_, h2, by omega⟩
        obtain ⟨k, rfl⟩ : ∃ j, k = j + 1 := ⟨k - 1, by omega⟩
        simp only [ground_Regions.l0]
        rw [if_neg he, if_pos ⟨c0, c1, by omega, m.len⟩]
        exact h1 k (by omega)

/-- How it stands between two floods. -/
structure Out (g : List Bool) (w i : Int) (out : List Int) : Prop where
  len : out.length = g.length
  shut : ∀ a : Int, 0 ≤ a → a < (g.length : Int) → g.getD a.toNat false = false → out.getD a.toNat 0 = -1
  num : ∀ a : Int, 0 ≤ a → a < (g.length : Int) → 0 ≤ out.getD a.toNat 0 → g.getD a.toNat false = true ∧ out.getD a.toNat 0 ≤ a ∧ out.getD a.toNat 0 < i ∧ g.getD (out.getD a.toNat 0).toNat false = true ∧ Conn g w a (out.getD a.toNat 0)
  less : ∀ a : Int, 0 ≤ a → a < (g.length : Int) → out.getD a.toNat 0 < 0 → out.getD a.toNat 0 = -1
  past : ∀ a : Int, 0 ≤ a → a < i → a < (g.length : Int) → g.getD a.toNat false = true → 0 ≤ out.getD a.toNat 0
  adj : ∀ a b : Int, Adj g w a b → 0 ≤ out.getD a.toNat 0 → out.getD b.toNat 0 = out.getD a.toNat 0
theorem Out.begin {g : List Bool} {w i : Int} {out : List Int} (o : Out g w i out) (h0 : 0 ≤ i) (h1 : i < (g.length : Int)) (hg : g.getD i.toNat false = true) (hi : out.getD i.toNat 0 < 0) :
    Mid g w i Option.none (out.set i.toNat i) [i] := by
  have get : ∀ a : Int, 0 ≤ a → (out.set i.toNat i).getD a.toNat 0 = if a = i then i else out.getD a.toNat 0 := by
    intro a ha
    rw [getD_set]
    by_cases e : a = i
    · subst e; simp [o.len]; omega
    · rw [if_neg e, if_neg (by omega)]
  refine ⟨by simpa using o.len, ?_, ?_, ?_, ?_, ?_, ?_, fun a P e => (by cases e), h0, h1, hg⟩
  · intro a a0 a1 hs
    rw [get a a0, if_neg (fun e => by subst e; rw [hg] at hs; cases hs)]
    exact o.shut a a0 a1 hs
  · intro a a0 a1
    rw [get a a0]
    by_cases e : a = i
    · subst e; rw [if_pos rfl]; exact fun _ => ⟨hg, by omega, by omega, hg, .refl _⟩
    · rw [if_neg e]
      intro hn
      obtain ⟨x1, x2, x3, x4⟩ := o.num a a0 a1 hn
      exact ⟨x1, x2, by omega, x4⟩
  · intro a a0 a1
    rw [get a a0]
    by_cases e : a = i
    · rw [if_pos e]; omega
    · rw [if_neg e]; exact o.less a a0 a1
  · intro a a0 ai a1 hg'
    rw [get a a0]
    by_cases e : a = i
    · rw [if_pos e]; omega
    · rw [if_neg e]; exact o.past a a0 (by omega) a1 hg'
  · intro a ha
    obtain rfl : a = i := by simpa using ha
    exact ⟨h0, h1, by rw [get a h0, if_pos rfl]⟩
  · intro a b hab hn hw' _
    have e : a ≠ i := fun e => hw' (by subst e; simp)
    rw [get a hab.1, if_neg e] at hn
    rw [get a hab.1, get b hab.2.2.1, if_neg e]
    have := o.adj a b hab hn
    rw [if_neg (fun e => by subst e; omega)]
    exact this
theorem Mid.out {g : List Bool} {w i : Int} {out : List Int} (m : Mid g w i Option.none out []) : Out g w (i + 1) out :=
  ⟨m.len, m.shut, fun a a0 a1 hn => by obtain ⟨x1, x2, x3, x4⟩ := m.num a a0 a1 hn; exact ⟨x1, x2, by omega, x4⟩, m.less, fun a a0 ai => m.past a a0 (by omega), fun a b hab hn => m.adj a b hab hn (by simp) (fun P e => (by cases e))⟩
theorem Out.skip {g : List Bool} {w i : Int} {out : List Int} (o : Out g w i out) (h : ¬(g.getD i.toNat false = true ∧ out.getD i.toNat 0 < 0)) : Out g w (i + 1) out := by
  refine ⟨o.len, o.shut, fun a a0 a1 hn => by obtain ⟨x1, x2, x3, x4⟩ := o.num a a0 a1 hn; exact ⟨x1, x2, by omega, x4⟩, o.less, ?_, o.adj⟩
  intro a a0 ai a1 hg
  by_cases e : a = i
  · subst e
    rcases (by omega : (out.getD a.toNat 0) < 0 ∨ 0 ≤ (out.getD a.toNat 0)) with h' | h'
    · exact absurd ⟨hg, h'⟩ h
    · exact h'
  · exact o.past a a0 (by omega) a1 hg
theorem Out.good {g : List Bool} {w : Int} {out : List Int} (o : Out g w g.length out) : Good g w out :=
  ⟨o.len, o.shut, fun a a0 a1 hg => by
    have hp := o.past a a0 a1 a1 hg
    obtain ⟨x1, x2, x3, x4, x5⟩ := o.num a a0 a1 hp
    exact ⟨hp, x2, x4, x5⟩, fun a b hab => (o.adj a b hab (o.past a hab.1 hab.2.1 hab.2.1 hab.2.2.2.2.1)).symm⟩
theorem Out.zero (g : List Bool) (w : Int) : Out g w 0 (List.replicate g.length (-1)) := by
  have get : ∀ a : Int, 0 ≤ a → a < (g.length : Int) → (List.replicate g.length (-1 : Int)).getD a.toNat 0 = -1 := by
    intro a a0 a1
    rw [List.getD_eq_getElem?_getD, List.getElem?_replicate, if_pos (by omega)]
    rfl
  refine ⟨by simp, fun a a0 a1 _ => get a a0 a1, fun a a0 a1 h => ?_, fun a a0 a1 _ => get a a0 a1, fun a a0 ai => by omega, fun a b hab h => ?_⟩
  · rw [get a a0 a1] at h; omega
  · rw [get a hab.1 hab.2.1] at h; omega
theorem floods {g : List Bool} {w h : Int} (hw : 0 < w) (hn : (g.length : Int) = w * h) (hl : g.length ≤ 4096) : ∀ (m : Nat) (i : Int) (out : List Int), 0 ≤ i → i + m = g.length → Out g w i out →
    ∃ out', (∀ k, m + 2 * g.length + 10 ≤ k → ground_Regions.l1 k g w i out = some out') ∧ Good g w out'
  | 0, i, out, h0, hm, o => by
    obtain rfl : i = g.length := by omega
    refine ⟨out, fun k hk => ?_, o.good⟩
    obtain ⟨k, rfl⟩ : ∃ j, k = j + 1 := ⟨k - 1, by omega⟩
    simp only [ground_Regions.l1]
    rw [if_neg (by omega)]
  | m + 1, i, out, h0, hm, o => by
    by_cases hc : g.getD i.toNat false = true ∧ out.getD i.toNat 0 < 0
    · have mid := o.begin h0 (by omega) hc.1 hc.2
      have hs := neg_set out i.toNat i (by rw [o.len]; omega) hc.2 h0
      have hle := neg_le out
      rw [o.len] at hle
      obtain ⟨o2, a1, a2, a3⟩ := flood hw hn (2 * g.length) (out.set i.toNat i) [i] (by simp; omega) (by simp; omega) mid
      obtain ⟨o3, b1, b2⟩ := floods hw hn hl m (i + 1) o2 (by omega) (by omega) a2.out
      refine ⟨o3, fun k hk => ?_, b2⟩
      obtain ⟨k, rfl⟩ : ∃ j, k = j + 1 := ⟨k - 1, by omega⟩
      simp only [ground_Regions.l1]
      rw [if_pos (by omega), if_pos hc, a1 k (by omega)]
      exact b1 k (by omega)
    · obtain ⟨o3, b1, b2⟩ := floods hw hn hl m (i + 1) out (by omega) (by omega) (o.skip hc)
      refine ⟨o3, fun k hk => ?_, b2⟩
      obtain ⟨k, rfl⟩ : ∃ j, k = j + 1 := ⟨k - 1, by omega⟩
      simp only [ground_Regions.l1]
      rw [if_pos (by omega), if_neg hc]
      exact b1 k (by omega)

end Go.Proofs.Ytnpippechogagaa.L
