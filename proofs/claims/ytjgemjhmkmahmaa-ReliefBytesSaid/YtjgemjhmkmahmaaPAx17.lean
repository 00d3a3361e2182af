-- WRITTEN BY A PROGRAM OF THIS SESSION (a turned copy of the kit's printer), for this claim. Nothing here is trusted: Lean checks it.
import Derived.Test.YtjgemjhmkmahmaaPAx0
namespace Go.Proofs.Ytjgemjhmkmahmaa.PA
open Go.RowKit Go.Proofs.YtjgemjhmkmahmaaW.PrintWords Go.Proofs.YtjgemjhmkmahmaaW.PrintLast Go.Proofs.YtjgemjhmkmahmaaW.PrintMore
attribute [local go_sem] max2_int min2_int max_two min_two max_three min_three max_four min_four   -- for this text's walks alone
set_option linter.unusedVariables false
set_option linter.unusedSimpArgs false

/-! ### bivouacref06_Of: function 25 -/
def bivouacref06_Of.f (l0 : List Int) : Option (Int × Int × Int × List Int) := if 0 < (l0.length : Int) then (if 1 < (l0.length : Int) then (if 2 < (l0.length : Int) then ((some (([] : List Int) : List Int)).bind fun y187 => (if 3 ≤ (l0.length : Int) then (if y187.length + (l0.drop 3).length < 140737488355328 then (some (wrap64 (rd l0 0), wrap64 (rd l0 1), wrap64 (rd l0 2), (y187 ++ (l0.drop 3)))) else (none)) else (none))) else (none)) else (none)) else (none)
def bivouacref06_Of.T1 : Bool × List (List Nat × List Nat) := (true, [([], []), ([0], [0]), ([1], [1]), ([2], [2]), ([], []), ([4], [4]), ([5], [5]), ([6], [6]), ([], []), ([8], [8]), ([9], [9]), ([10], [10]), ([], []), ([], []), ([13], [13]), ([12, 14], [12, 14]), ([3, 7, 11, 15], [3, 7, 11, 15]), ([16, 15, 0, 1, 2, 3, 4, 5, 6, 7, 8, 9, 10, 11, 12, 13, 14, 15, 16], [16])])
def bivouacref06_Of.B1 : List Nat := [0, 1, 3, 7, 0, 16, 48, 112, 0, 256, 768, 1792, 0, 0, 8192, 28672, 65535, 131071]
theorem bivouacref06_Of.tab1 : rtab .any (opsOf Try.f25 1) = bivouacref06_Of.T1 := by kernel_rfl
theorem bivouacref06_Of.bits1 : waitsOk bivouacref06_Of.T1.2 bivouacref06_Of.B1 = true := by kernel_rfl
set_option maxHeartbeats 8000000 in
set_option maxRecDepth 100000 in
theorem bivouacref06_Of.calls (A0 : Option Addr) (c0 : Nat) (l0 : List Int) (r1 : Int) (r2 : Int) (r3 : Int) (r4 : List Int) (w : World) (hr0 : Kd.C (Kd.int .u8) w A0 l0.length l0) (hc0 : l0.length ≤ c0) (h : bivouacref06_Of.f l0 = some (r1, r2, r3, r4)) :
  Calls Try.prog 25 #[.slice A0 l0.length c0] w fun e w' => ∃ v3_ : Value, e = .returned (.agg #[.int .i64 r1, .int .i64 r2, .int .i64 r3, v3_]) ∧ Kd.R (Kd.int .u8) 5 w' w.heap.size (fun _ => True) v3_ r4 ∧ Below w.heap.size w w' := by
 have hu24 := Try.underlying24
 have HR0 := Aside0.mk hr0
 have HC0 := Aside0.mk hc0
 clear hr0 hc0
 have HB := Aside0.mk (Below.refl w.heap.size w)
 have H : (if 0 < (l0.length : Int) then (if 1 < (l0.length : Int) then (if 2 < (l0.length : Int) then ((some (([] : List Int) : List Int)).bind fun y187 => (if 3 ≤ (l0.length : Int) then (if y187.length + (l0.drop 3).length < 140737488355328 then (some (wrap64 (rd l0 0), wrap64 (rd l0 1), wrap64 (rd l0 2), (y187 ++ (l0.drop 3)))) else (none)) else (none))) else (none)) else (none)) else (none)) = some (r1, r2, r3, r4) := h
 clear h
 by_cases c2 : 0 < (l0.length : Int)
 ·
  rw [if_pos c2] at H
  have c2b0 : decide (0 < (l0.length : Int)) = true := decide_eq_true c2
  have c2b1 : decide (0 < l0.length) = true := decide_eq_true (by omega)
  clear c2
  by_cases c3 : 1 < (l0.length : Int)
  ·
   rw [if_pos c3] at H
   have c3b0 : decide (1 < (l0.length : Int)) = true := decide_eq_true c3
   have c3b1 : decide (1 < l0.length) = true := decide_eq_true (by omega)
   clear c3
   by_cases c4 : 2 < (l0.length : Int)
   ·
    rw [if_pos c4] at H
    have c4b0 : decide (2 < (l0.length : Int)) = true := decide_eq_true c4
    have c4b1 : decide (2 < l0.length) = true := decide_eq_true (by omega)
    clear c4
    obtain ⟨y187, hy187⟩ : ∃ y_ : List Int, y_ = (([] : List Int)) := ⟨_, rfl⟩
    replace H : (if 3 ≤ (l0.length : Int) then (if y187.length + (l0.drop 3).length < 140737488355328 then (some (wrap64 (rd l0 0), wrap64 (rd l0 1), wrap64 (rd l0 2), (y187 ++ (l0.drop 3)))) else (none)) else (none)) = some (r1, r2, r3, r4) := by first | (rw [hy187]; with_reducible exact H) | (have H2_ := (Option.bind_some _ _).symm.trans H; rw [hy187]; with_reducible exact H2_) | (have H2_ := (Option.bind_some _ _).symm.trans H; with_reducible exact H2_) | with_reducible exact H | (rw [hy187]; exact H) | exact H
    have Ny187 := Aside0.mk hy187
    clear hy187
    by_cases c5 : 3 ≤ (l0.length : Int)
    ·
     rw [if_pos c5] at H
     have c5b0 := eq_true c5
     have c5b1 : decide (3 ≤ (l0.length : Int)) = true := decide_eq_true c5
     clear c5
     by_cases c6 : y187.length + (l0.drop 3).length < 140737488355328
     ·
      rw [if_pos c6] at H
      have LMc6 := Aside0.mk c6
      clear c6
      obtain ⟨y191, hy191⟩ : ∃ y_ : List Int, y_ = (y187 ++ (l0.drop 3)) := ⟨_, rfl⟩
      replace H : (some (wrap64 (rd l0 0), wrap64 (rd l0 1), wrap64 (rd l0 2), y191)) = some (r1, r2, r3, r4) := by first | (rw [hy191]; with_reducible exact H) | (have H2_ := (Option.bind_some _ _).symm.trans H; rw [hy191]; with_reducible exact H2_) | (have H2_ := (Option.bind_some _ _).symm.trans H; with_reducible exact H2_) | with_reducible exact H | (rw [hy191]; exact H) | exact H
      have Ny191 := Aside0.mk hy191
      clear hy191
      simp only [Option.some.injEq, Prod.mk.injEq] at H
      obtain ⟨rfl, rfl, rfl, rfl⟩ := H
      go_enter Try.func25, Try.ntmps25
      try go_wp2_with (first | ((with_reducible refine gate_dst (N := 2) rfl ?_); refine box_event ?hg (N := 2) ?hd (cs := #[.int .i64 0, .int .i64 0, .int .i64 0, .slice none 0 0]) (t := 24) ?hr ?_; (case hd => rfl); (case hg => rfl); (case hr => first | (go_simp; done) | (go_simp; rfl)); intro gb183 hg w7 hbox hb; have n0_ := Aside0.mk (below_step (by repeat (first | (with_reducible first | exact HB.out | apply below_alloc | apply pw_below_drewN | apply below_drew1) | exact HB.out)) hb); have n1_ := Aside0.mk (hbox); have n2_ := Aside0.mk ((by rw [hg]; exact (below_size (by repeat (first | (with_reducible first | exact HB.out | apply below_alloc | apply pw_below_drewN | apply below_drew1) | exact HB.out))) : w.heap.size ≤ gb183)); have n3_ := Aside0.mk ((by rw [hg]; exact (below_size (by repeat (first | (with_reducible first | exact HB.out | apply below_alloc | apply pw_below_drewN | apply below_drew1) | exact HB.out))) : w.heap.size ≤ gb183)); clear HB; have HB := n0_; have BK183 := n1_; have GW183 := n2_; have GE183 := n3_; clear n0_ n1_ n2_ n3_; clear hb hbox hg))
      have n0_ := Aside0.mk (blk_drew BK183.out)
      have n1_ := Aside0.mk (below_drew1 HB.out)
      clear BK183
      clear HB
      have BK183 := n0_
      have HB := n1_
      clear n0_ n1_
      have p184 : 0 ≤ (0 : Int) := (by omega)
      have q184 : 0 < (l0.length : Int) := of_decide_eq_true (by first | (with_reducible assumption) | assumption)
      obtain ⟨ad184, e184, hx184_0⟩ := Kd.at_int HR0.out 0 p184 q184
      have hw184_0 := hx184_0
      (try rw [show ((0 : Int)).toNat = 0 from rfl] at hw184_0)
      (try rw [show 0 * 1 = 0 from rfl] at hw184_0)
      (try rw [Addr.add_zero'] at hw184_0)
      cases e184
      have qi184 : (0 < l0.length) = True := eq_true (by omega)
      (try rw [show ((0 : Int)).toNat = 0 from rfl] at hx184_0)
      (try rw [Addr.add_zero'] at hx184_0)
      replace hx184_0 := (HB.out.cell (World.block_lt_of_cell? w _ hx184_0)).trans hx184_0
      replace p184 := eq_true p184
      replace q184 := eq_true q184
      have p185 : 0 ≤ (1 : Int) := (by omega)
      have q185 : 1 < (l0.length : Int) := of_decide_eq_true (by first | (with_reducible assumption) | assumption)
      obtain ⟨ad185, e185, hx185_0⟩ := Kd.at_int HR0.out 1 p185 q185
      have hw185_0 := hx185_0
      (try rw [show ((1 : Int)).toNat = 1 from rfl] at hw185_0)
      (try rw [show 1 * 1 = 1 from rfl] at hw185_0)
      (try simp only [Nat.reduceMul, Nat.reduceEqDiff, Go.Addr.add, ↓reduceIte] at hw185_0)
      obtain rfl : ad184 = ad185 := (by injection e185)
      (try simp only [show (1 : Int).toNat = 1 from rfl, Nat.reduceMul, Nat.reduceEqDiff, Go.Addr.add, ↓reduceIte] at hx185_0)
      have qi185 : (1 < l0.length) = True := eq_true (by omega)
      (try rw [show ((1 : Int)).toNat = 1 from rfl] at hx185_0)
      replace hx185_0 := (HB.out.cell (World.block_lt_of_cell? w _ hx185_0)).trans hx185_0
      replace p185 := eq_true p185
      replace q185 := eq_true q185
      have p186 : 0 ≤ (2 : Int) := (by omega)
      have q186 : 2 < (l0.length : Int) := of_decide_eq_true (by first | (with_reducible assumption) | assumption)
      obtain ⟨ad186, e186, hx186_0⟩ := Kd.at_int HR0.out 2 p186 q186
      have hw186_0 := hx186_0
      (try rw [show ((2 : Int)).toNat = 2 from rfl] at hw186_0)
      (try rw [show 2 * 1 = 2 from rfl] at hw186_0)
      (try simp only [Nat.reduceMul, Nat.reduceEqDiff, Go.Addr.add, ↓reduceIte] at hw186_0)
      obtain rfl : ad184 = ad186 := (by injection e186)
      (try simp only [show (2 : Int).toNat = 2 from rfl, Nat.reduceMul, Nat.reduceEqDiff, Go.Addr.add, ↓reduceIte] at hx186_0)
      have qi186 : (2 < l0.length) = True := eq_true (by omega)
      (try rw [show ((2 : Int)).toNat = 2 from rfl] at hx186_0)
      replace hx186_0 := (HB.out.cell (World.block_lt_of_cell? w _ hx186_0)).trans hx186_0
      replace p186 := eq_true p186
      replace q186 := eq_true q186
      obtain ⟨i09, hi09, _, hsz9, _⟩ := info_parts info5
      obtain ⟨A9, hcut9, hA9, hC9⟩ := print_drop_of (P := Try.prog) (Value.int .u8) 0 22 5 .i64 Try.underlying22 hi09 hsz9 (some ad184) c0 l0 3 (by omega) (of_decide_eq_true (by first | (with_reducible assumption) | assumption)) HC0.out
      have HR190 := Aside0.mk (Kd.C_of_reads (h1 := fun _ => rfl) (hA9 _ (Kd.reads_of_C HR0.out)))
      have HC190 := Aside0.mk hC9
      clear hA9 hC9 hi09 hsz9
      refine start_ (n := 18) (S := fun w' => w'.cell? ad184 = some (.int .u8 (rd l0 0)) ∧ w'.cell? ⟨ad184.block, ad184.off + 1, none⟩ = some (.int .u8 (rd l0 1)) ∧ w'.cell? ⟨ad184.block, ad184.off + 2, none⟩ = some (.int .u8 (rd l0 2))) (ds := []) (bA 18 0) (by kernel_rfl) rfl rfl ⟨((HB.out.cell (World.block_lt_of_cell? w _ hw184_0)).trans hw184_0), ((HB.out.cell (World.block_lt_of_cell? w _ hw185_0)).trans hw185_0), ((HB.out.cell (World.block_lt_of_cell? w _ hw186_0)).trans hw186_0)⟩ (fun hHeld => ?_); refine with_tabW bivouacref06_Of.tab1 bivouacref06_Of.bits1 (fun HT_ HW_ => ?_)
      generalize w7.drew = w8 at BK183 HB HR190 hx184_0 hx185_0 hx186_0 hHeld ⊢
      refine pure_ (i := 0) (N := some 3) (v := ?_) (a' := ?_) (bA 18 1) rfl rfl (any_of HT_.out (by kernel_rfl)) (fun _ _ _ h => h) (Or.inl ⟨by rfl, ?_⟩) ?_ ?_
      rotate_left
      ·
       intro w'
       go_simp
       with_reducible rfl
      rotate_left
      ·
       simp only [Act.put, sA, sB, sC, i64_w, i32_w]
       rfl
      refine pure_ (i := 1) (N := some 4) (v := ?_) (a' := ?_) (bA 18 3) rfl rfl (any_of HT_.out (by kernel_rfl)) (fun _ _ _ h => h) (Or.inl ⟨by rfl, ?_⟩) ?_ ?_
      rotate_left
      ·
       intro w'
       go_simp
       with_reducible rfl
      rotate_left
      ·
       simp only [Act.put, sA, sB, sC, i64_w, i32_w]
       rfl
      refine pure_ (i := 4) (N := some 7) (v := ?_) (a' := ?_) (bA 18 19) rfl rfl (any_of HT_.out (by kernel_rfl)) (fun _ _ _ h => h) (Or.inl ⟨by rfl, ?_⟩) ?_ ?_
      rotate_left
      ·
       intro w'
       go_simp
       with_reducible rfl
      rotate_left
      ·
       simp only [Act.put, sA, sB, sC, i64_w, i32_w]
       rfl
      refine pure_ (i := 5) (N := some 8) (v := ?_) (a' := ?_) (bA 18 51) rfl rfl (any_of HT_.out (by kernel_rfl)) (fun _ _ _ h => h) (Or.inl ⟨by rfl, ?_⟩) ?_ ?_
      rotate_left
      ·
       intro w'
       go_simp
       with_reducible rfl
      rotate_left
      ·
       simp only [Act.put, sA, sB, sC, i64_w, i32_w]
       rfl
      refine pure_ (i := 8) (N := some 11) (v := ?_) (a' := ?_) (bA 18 307) rfl rfl (any_of HT_.out (by kernel_rfl)) (fun _ _ _ h => h) (Or.inl ⟨by rfl, ?_⟩) ?_ ?_
      rotate_left
      ·
       intro w'
       go_simp
       with_reducible rfl
      rotate_left
      ·
       simp only [Act.put, sA, sB, sC, i64_w, i32_w]
       rfl
      refine pure_ (i := 9) (N := some 12) (v := ?_) (a' := ?_) (bA 18 819) rfl rfl (any_of HT_.out (by kernel_rfl)) (fun _ _ _ h => h) (Or.inl ⟨by rfl, ?_⟩) ?_ ?_
      rotate_left
      ·
       intro w'
       go_simp
       with_reducible rfl
      rotate_left
      ·
       simp only [Act.put, sA, sB, sC, i64_w, i32_w]
       rfl
      refine pure_ (i := 13) (N := some 16) (v := ?_) (a' := ?_) (bA 18 9011) rfl rfl (any_of HT_.out (by kernel_rfl)) (fun _ _ _ h => h) (Or.inl ⟨by rfl, ?_⟩) ?_ ?_
      rotate_left
      ·
       intro w'
       go_simp
       with_reducible rfl
      rotate_left
      ·
       simp only [Act.put, sA, sB, sC, i64_w, i32_w]
       rfl
      refine pure_ (i := 14) (N := some 17) (v := ?_) (a' := ?_) (bA 18 25395) rfl rfl (any_of HT_.out (by kernel_rfl)) (fun _ _ _ h => h) (Or.inl ⟨by rfl, ?_⟩) ?_ ?_
      rotate_left
      ·
       intro w'
       go_simp
       with_reducible rfl
      rotate_left
      ·
       simp only [Act.put, sA, sB, sC, i64_w, i32_w]
       rfl
      refine take_ (i := 2) (N := some 5) (v := ?_) (a' := ?_) (bA 18 25399) rfl rfl (take_ofW HT_.out HW_.out (by kernel_rfl)) (fun _ _ _ h => h) (Or.inl ⟨by rfl, ?_⟩) hHeld ?_ ?_
      rotate_left
      ·
       rintro w' ⟨s0, s1, s2⟩
       go_simp
       with_reducible rfl
      rotate_left
      ·
       simp only [Act.put, sA, sB, sC, i64_w, i32_w]
       rfl
      refine pure_ (i := 3) (N := some 6) (v := ?_) (a' := ?_) (bA 18 25407) rfl rfl (any_of HT_.out (by kernel_rfl)) (fun _ _ _ h => h) (Or.inl ⟨by rfl, ?_⟩) ?_ ?_
      rotate_left
      ·
       intro w'
       go_simp
       with_reducible rfl
      rotate_left
      ·
       simp only [Act.put, sA, sB, sC, i64_w, i32_w]
       rfl
      refine take_ (i := 6) (N := some 9) (v := ?_) (a' := ?_) (bA 18 25471) rfl rfl (take_ofW HT_.out HW_.out (by kernel_rfl)) (fun _ _ _ h => h) (Or.inl ⟨by rfl, ?_⟩) hHeld ?_ ?_
      rotate_left
      ·
       rintro w' ⟨s0, s1, s2⟩
       go_simp
       with_reducible rfl
      rotate_left
      ·
       simp only [Act.put, sA, sB, sC, i64_w, i32_w]
       rfl
      refine pure_ (i := 7) (N := some 10) (v := ?_) (a' := ?_) (bA 18 25599) rfl rfl (any_of HT_.out (by kernel_rfl)) (fun _ _ _ h => h) (Or.inl ⟨by rfl, ?_⟩) ?_ ?_
      rotate_left
      ·
       intro w'
       go_simp
       with_reducible rfl
      rotate_left
      ·
       simp only [Act.put, sA, sB, sC, i64_w, i32_w]
       rfl
      refine take_ (i := 10) (N := some 13) (v := ?_) (a' := ?_) (bA 18 26623) rfl rfl (take_ofW HT_.out HW_.out (by kernel_rfl)) (fun _ _ _ h => h) (Or.inl ⟨by rfl, ?_⟩) hHeld ?_ ?_
      rotate_left
      ·
       rintro w' ⟨s0, s1, s2⟩
       go_simp
       with_reducible rfl
      rotate_left
      ·
       simp only [Act.put, sA, sB, sC, i64_w, i32_w]
       rfl
      refine pure_ (i := 11) (N := some 14) (v := ?_) (a' := ?_) (bA 18 28671) rfl rfl (any_of HT_.out (by kernel_rfl)) (fun _ _ _ h => h) (Or.inl ⟨by rfl, ?_⟩) ?_ ?_
      rotate_left
      ·
       intro w'
       go_simp
       with_reducible rfl
      rotate_left
      ·
       simp only [Act.put, sA, sB, sC, i64_w, i32_w]
       rfl
      refine one_ (i := 12) (N := some 15) (bA 18 32767) rfl rfl (one_of HT_.out (by kernel_rfl)) (by decide) (fun K hK => ?_)
      refine Kd.R_lit_step (Kd.int .u8) _ 5 ?hg (N := 15) ?hd (xs := ([] : List Int)) (inner := []) (ok := fun _ => True) (okp := fun _ => True) ?hr ?hp (fun _ hk => hk) trivial (Below.refl _ _) (Nat.le_refl _) (by simp) ?_; (case hd => rfl); (case hg => rfl); (case hr => first | (go_simp; done) | (go_simp; rfl)); (case hp => exact (Reps.none _ _))
      intro v188 w10 ho11 hb hg_ hnew_
      clear hg_ hnew_
      (first | rw [← Ny187.out] at ho11 | (simp only [Int.reduceToNat] at ho11; rw [← Ny187.out] at ho11))
      have n0_ := Aside0.mk (Kd.R_lower ho11 (below_size (by repeat (first | (with_reducible first | exact HB.out | apply below_alloc | apply pw_below_drewN | apply below_drew1 | refine below_set ?_ GE183.out) | exact HB.out))))
      have n1_ := Aside0.mk (blk_below (g := gb183) (o := .cells #[.int .i64 0, .int .i64 0, .int .i64 0, .slice none 0 0] 24 (0, 0)) (by (with_reducible repeat (first | refine blk_drewN ?_ _ | refine blk_drew ?_ | refine blk_alloc ?_ _)); exact BK183.out) hb)
      have n2_ := Aside0.mk (below_step (by repeat (first | (with_reducible first | exact HB.out | apply below_alloc | apply pw_below_drewN | apply below_drew1 | refine below_set ?_ GE183.out) | exact HB.out)) hb)
      clear BK183
      clear HB
      have HO189 := n0_
      have BK183 := n1_
      have HB := n2_
      clear n0_ n1_ n2_
      clear hb ho11
      refine hK.out _ _ ⟨((HB.out.cell (World.block_lt_of_cell? w _ hw184_0)).trans hw184_0), ((HB.out.cell (World.block_lt_of_cell? w _ hw185_0)).trans hw185_0), ((HB.out.cell (World.block_lt_of_cell? w _ hw186_0)).trans hw186_0)⟩ (fun hHeld => ?_)
      clear hK K
      refine norm_ (a' := ?_) ?_ ?_
      rotate_left
      ·
       show Act.put _ (some 15) _ = _
       simp only [Act.put, sA, sB, sC, i64_w, i32_w]
       rfl
      refine one_ (i := 15) (N := some 18) (bA 18 65535) rfl rfl (one_of HT_.out (by kernel_rfl)) (by decide) (fun K hK => ?_)
      refine Kd.R_append_rows_step (Kd.int .u8) (w0 := w) w.heap.size (by rfl) (.tmp 15) (.tmp 17) 22 5 (.int .u8 0) 1 rfl Try.underlying22 info5 rfl (by decide) (by omega) v188 y187 (l0.drop 3) _ _ _ (fun _ => True) (fun _ => False) rfl rfl ?aO ?aR (fun _ _ h => h) (fun _ h => h.elim) ?aF ?aB ?aS ?aL ?_
      (case aR => first | (rw [← show (l0.drop 3).length = (l0.length - 3) from List.length_drop]; repeat (first | exact (Kd.C_below HR190.out HB.out) | (with_reducible refine Kd.C_alloc ?_ _) | (with_reducible refine Kd.C_drewN ?_ _) | (with_reducible refine Kd.C_drew ?_))) | (repeat (first | exact (Kd.C_below HR190.out HB.out) | (with_reducible refine Kd.C_alloc ?_ _) | (with_reducible refine Kd.C_drewN ?_ _) | (with_reducible refine Kd.C_drew ?_))))
      (case aB => exact (by repeat (first | (with_reducible first | exact HB.out | apply below_alloc | apply pw_below_drewN | apply below_drew1 | refine below_set ?_ GE183.out) | exact HB.out)))
      (case aF => exact (fun _ _ => trivial))
      (case aO => exact (by (with_reducible repeat (first | apply Kd.R_alloc | apply Kd.R_drewN | apply Kd.R_drew)); exact HO189.out))
      (case aS => exact (below_size (by repeat (first | (with_reducible first | exact HB.out | apply below_alloc | apply pw_below_drewN | apply below_drew1 | refine below_set ?_ GE183.out) | exact HB.out))))
      (case aL => have := LMc6.out; have hlx_ := (show (l0.drop 3).length = (l0.length - 3) from List.length_drop); omega)
      intro v192 w12 ho hb hg hat
      rw [← Ny191.out] at ho
      have n0_ := Aside0.mk (blk_grown (g := gb183) (o := .cells #[.int .i64 0, .int .i64 0, .int .i64 0, .slice none 0 0] 24 (0, 0)) (by (with_reducible repeat (first | refine blk_drewN ?_ _ | refine blk_drew ?_ | refine blk_alloc ?_ _)); exact BK183.out) hg (Kd.R_ne HO189.out BK183.out (by decide)))
      have n1_ := Aside0.mk (hb)
      have n2_ := Aside0.mk (ho)
      clear BK183
      clear HB
      clear HO189
      have BK183 := n0_
      have HB := n1_
      have HO193 := n2_
      clear n0_ n1_ n2_
      clear ho hb hg hat
      obtain ⟨Ao13, co13, eo13⟩ := Kd.R_slice HO193.out
      (first | subst eo13 | (injection eo13 with f1_ f2_ f3_; have f4_ := f1_.symm; have f5_ := f3_.symm; clear f1_ f2_ f3_; subst f4_; subst f5_))
      refine hK.out _ _ ⟨((HB.out.cell (World.block_lt_of_cell? w _ hw184_0)).trans hw184_0), ((HB.out.cell (World.block_lt_of_cell? w _ hw185_0)).trans hw185_0), ((HB.out.cell (World.block_lt_of_cell? w _ hw186_0)).trans hw186_0)⟩ (fun hHeld => ?_)
      clear hK K
      refine norm_ (a' := ?_) ?_ ?_
      rotate_left
      ·
       show Act.put _ (some 18) _ = _
       simp only [Act.put, sA, sB, sC, i64_w, i32_w]
       rfl
      refine pure_ (i := 16) (N := some 19) (v := ?_) (a' := ?_) (bA 18 131071) rfl rfl (any_of HT_.out (by kernel_rfl)) (fun _ _ _ h => h) (Or.inl ⟨by rfl, ?_⟩) ?_ ?_
      rotate_left
      ·
       intro w'
       go_simp
       with_reducible rfl
      rotate_left
      ·
       simp only [Act.put, sA, sB, sC, i64_w, i32_w]
       rfl
      refine one_ (i := 17) (N := none) (bA 18 262143) rfl rfl (one_of HT_.out (by kernel_rfl)) (by decide) (fun K hK => ?_)
      have hs14 : w12.cell? ⟨gb183, 0, none⟩ = some (.int .i64 0) := (blk_cell BK183.out 0).trans rfl
      have hfs14 := blk_frozen BK183.out 0
      have hs15 : w12.cell? ⟨gb183, 1, none⟩ = some (.int .i64 0) := (blk_cell BK183.out 1).trans rfl
      have hfs15 := blk_frozen BK183.out 1
      have hs16 : w12.cell? ⟨gb183, 2, none⟩ = some (.int .i64 0) := (blk_cell BK183.out 2).trans rfl
      have hfs16 := blk_frozen BK183.out 2
      have hs17 : w12.cell? ⟨gb183, 3, none⟩ = some (.slice none 0 0) := (blk_cell BK183.out 3).trans rfl
      have hfs17 := blk_frozen BK183.out 3
      refine skip_ (w1 := ?_) (by rfl) rfl ?_ ?_
      rotate_left
      ·
       go_simp
       rfl
      refine hK.out _ _ ⟨((cell_far (p := ⟨gb183, _, none⟩) (by first | exact Nat.ne_of_lt (Nat.lt_of_lt_of_le (by have := World.block_lt_of_cell? _ _ hw184_0; first | rwa [add_block] at this | exact this) GW183.out) | (rw [add_block]; exact Nat.ne_of_lt (Nat.lt_of_lt_of_le (by have := World.block_lt_of_cell? _ _ hw184_0; first | rwa [add_block] at this | exact this) GW183.out)) | (show (Addr.add _ _).block ≠ _; rw [add_block]; exact Nat.ne_of_lt (Nat.lt_of_lt_of_le (by have := World.block_lt_of_cell? _ _ hw184_0; first | rwa [add_block] at this | exact this) GW183.out)) | (dsimp only; exact Nat.ne_of_lt (Nat.lt_of_lt_of_le (by have := World.block_lt_of_cell? _ _ hw184_0; first | rwa [add_block] at this | exact this) GW183.out))) _).trans (((cell_far (p := ⟨gb183, _, none⟩) (by first | exact Nat.ne_of_lt (Nat.lt_of_lt_of_le (by have := World.block_lt_of_cell? _ _ hw184_0; first | rwa [add_block] at this | exact this) GW183.out) | (rw [add_block]; exact Nat.ne_of_lt (Nat.lt_of_lt_of_le (by have := World.block_lt_of_cell? _ _ hw184_0; first | rwa [add_block] at this | exact this) GW183.out)) | (show (Addr.add _ _).block ≠ _; rw [add_block]; exact Nat.ne_of_lt (Nat.lt_of_lt_of_le (by have := World.block_lt_of_cell? _ _ hw184_0; first | rwa [add_block] at this | exact this) GW183.out)) | (dsimp only; exact Nat.ne_of_lt (Nat.lt_of_lt_of_le (by have := World.block_lt_of_cell? _ _ hw184_0; first | rwa [add_block] at this | exact this) GW183.out))) _).trans (((cell_far (p := ⟨gb183, _, none⟩) (by first | exact Nat.ne_of_lt (Nat.lt_of_lt_of_le (by have := World.block_lt_of_cell? _ _ hw184_0; first | rwa [add_block] at this | exact this) GW183.out) | (rw [add_block]; exact Nat.ne_of_lt (Nat.lt_of_lt_of_le (by have := World.block_lt_of_cell? _ _ hw184_0; first | rwa [add_block] at this | exact this) GW183.out)) | (show (Addr.add _ _).block ≠ _; rw [add_block]; exact Nat.ne_of_lt (Nat.lt_of_lt_of_le (by have := World.block_lt_of_cell? _ _ hw184_0; first | rwa [add_block] at this | exact this) GW183.out)) | (dsimp only; exact Nat.ne_of_lt (Nat.lt_of_lt_of_le (by have := World.block_lt_of_cell? _ _ hw184_0; first | rwa [add_block] at this | exact this) GW183.out))) _).trans (((cell_far (p := ⟨gb183, _, none⟩) (by first | exact Nat.ne_of_lt (Nat.lt_of_lt_of_le (by have := World.block_lt_of_cell? _ _ hw184_0; first | rwa [add_block] at this | exact this) GW183.out) | (rw [add_block]; exact Nat.ne_of_lt (Nat.lt_of_lt_of_le (by have := World.block_lt_of_cell? _ _ hw184_0; first | rwa [add_block] at this | exact this) GW183.out)) | (show (Addr.add _ _).block ≠ _; rw [add_block]; exact Nat.ne_of_lt (Nat.lt_of_lt_of_le (by have := World.block_lt_of_cell? _ _ hw184_0; first | rwa [add_block] at this | exact this) GW183.out)) | (dsimp only; exact Nat.ne_of_lt (Nat.lt_of_lt_of_le (by have := World.block_lt_of_cell? _ _ hw184_0; first | rwa [add_block] at this | exact this) GW183.out))) _).trans (hHeld.1)))))))), ((cell_far (p := ⟨gb183, _, none⟩) (by first | exact Nat.ne_of_lt (Nat.lt_of_lt_of_le (by have := World.block_lt_of_cell? _ _ hw185_0; first | rwa [add_block] at this | exact this) GW183.out) | (rw [add_block]; exact Nat.ne_of_lt (Nat.lt_of_lt_of_le (by have := World.block_lt_of_cell? _ _ hw185_0; first | rwa [add_block] at this | exact this) GW183.out)) | (show (Addr.add _ _).block ≠ _; rw [add_block]; exact Nat.ne_of_lt (Nat.lt_of_lt_of_le (by have := World.block_lt_of_cell? _ _ hw185_0; first | rwa [add_block] at this | exact this) GW183.out)) | (dsimp only; exact Nat.ne_of_lt (Nat.lt_of_lt_of_le (by have := World.block_lt_of_cell? _ _ hw185_0; first | rwa [add_block] at this | exact this) GW183.out))) _).trans (((cell_far (p := ⟨gb183, _, none⟩) (by first | exact Nat.ne_of_lt (Nat.lt_of_lt_of_le (by have := World.block_lt_of_cell? _ _ hw185_0; first | rwa [add_block] at this | exact this) GW183.out) | (rw [add_block]; exact Nat.ne_of_lt (Nat.lt_of_lt_of_le (by have := World.block_lt_of_cell? _ _ hw185_0; first | rwa [add_block] at this | exact this) GW183.out)) | (show (Addr.add _ _).block ≠ _; rw [add_block]; exact Nat.ne_of_lt (Nat.lt_of_lt_of_le (by have := World.block_lt_of_cell? _ _ hw185_0; first | rwa [add_block] at this | exact this) GW183.out)) | (dsimp only; exact Nat.ne_of_lt (Nat.lt_of_lt_of_le (by have := World.block_lt_of_cell? _ _ hw185_0; first | rwa [add_block] at this | exact this) GW183.out))) _).trans (((cell_far (p := ⟨gb183, _, none⟩) (by first | exact Nat.ne_of_lt (Nat.lt_of_lt_of_le (by have := World.block_lt_of_cell? _ _ hw185_0; first | rwa [add_block] at this | exact this) GW183.out) | (rw [add_block]; exact Nat.ne_of_lt (Nat.lt_of_lt_of_le (by have := World.block_lt_of_cell? _ _ hw185_0; first | rwa [add_block] at this | exact this) GW183.out)) | (show (Addr.add _ _).block ≠ _; rw [add_block]; exact Nat.ne_of_lt (Nat.lt_of_lt_of_le (by have := World.block_lt_of_cell? _ _ hw185_0; first | rwa [add_block] at this | exact this) GW183.out)) | (dsimp only; exact Nat.ne_of_lt (Nat.lt_of_lt_of_le (by have := World.block_lt_of_cell? _ _ hw185_0; first | rwa [add_block] at this | exact this) GW183.out))) _).trans (((cell_far (p := ⟨gb183, _, none⟩) (by first | exact Nat.ne_of_lt (Nat.lt_of_lt_of_le (by have := World.block_lt_of_cell? _ _ hw185_0; first | rwa [add_block] at this | exact this) GW183.out) | (rw [add_block]; exact Nat.ne_of_lt (Nat.lt_of_lt_of_le (by have := World.block_lt_of_cell? _ _ hw185_0; first | rwa [add_block] at this | exact this) GW183.out)) | (show (Addr.add _ _).block ≠ _; rw [add_block]; exact Nat.ne_of_lt (Nat.lt_of_lt_of_le (by have := World.block_lt_of_cell? _ _ hw185_0; first | rwa [add_block] at this | exact this) GW183.out)) | (dsimp only; exact Nat.ne_of_lt (Nat.lt_of_lt_of_le (by have := World.block_lt_of_cell? _ _ hw185_0; first | rwa [add_block] at this | exact this) GW183.out))) _).trans (hHeld.2.1)))))))), ((cell_far (p := ⟨gb183, _, none⟩) (by first | exact Nat.ne_of_lt (Nat.lt_of_lt_of_le (by have := World.block_lt_of_cell? _ _ hw186_0; first | rwa [add_block] at this | exact this) GW183.out) | (rw [add_block]; exact Nat.ne_of_lt (Nat.lt_of_lt_of_le (by have := World.block_lt_of_cell? _ _ hw186_0; first | rwa [add_block] at this | exact this) GW183.out)) | (show (Addr.add _ _).block ≠ _; rw [add_block]; exact Nat.ne_of_lt (Nat.lt_of_lt_of_le (by have := World.block_lt_of_cell? _ _ hw186_0; first | rwa [add_block] at this | exact this) GW183.out)) | (dsimp only; exact Nat.ne_of_lt (Nat.lt_of_lt_of_le (by have := World.block_lt_of_cell? _ _ hw186_0; first | rwa [add_block] at this | exact this) GW183.out))) _).trans (((cell_far (p := ⟨gb183, _, none⟩) (by first | exact Nat.ne_of_lt (Nat.lt_of_lt_of_le (by have := World.block_lt_of_cell? _ _ hw186_0; first | rwa [add_block] at this | exact this) GW183.out) | (rw [add_block]; exact Nat.ne_of_lt (Nat.lt_of_lt_of_le (by have := World.block_lt_of_cell? _ _ hw186_0; first | rwa [add_block] at this | exact this) GW183.out)) | (show (Addr.add _ _).block ≠ _; rw [add_block]; exact Nat.ne_of_lt (Nat.lt_of_lt_of_le (by have := World.block_lt_of_cell? _ _ hw186_0; first | rwa [add_block] at this | exact this) GW183.out)) | (dsimp only; exact Nat.ne_of_lt (Nat.lt_of_lt_of_le (by have := World.block_lt_of_cell? _ _ hw186_0; first | rwa [add_block] at this | exact this) GW183.out))) _).trans (((cell_far (p := ⟨gb183, _, none⟩) (by first | exact Nat.ne_of_lt (Nat.lt_of_lt_of_le (by have := World.block_lt_of_cell? _ _ hw186_0; first | rwa [add_block] at this | exact this) GW183.out) | (rw [add_block]; exact Nat.ne_of_lt (Nat.lt_of_lt_of_le (by have := World.block_lt_of_cell? _ _ hw186_0; first | rwa [add_block] at this | exact this) GW183.out)) | (show (Addr.add _ _).block ≠ _; rw [add_block]; exact Nat.ne_of_lt (Nat.lt_of_lt_of_le (by have := World.block_lt_of_cell? _ _ hw186_0; first | rwa [add_block] at this | exact this) GW183.out)) | (dsimp only; exact Nat.ne_of_lt (Nat.lt_of_lt_of_le (by have := World.block_lt_of_cell? _ _ hw186_0; first | rwa [add_block] at this | exact this) GW183.out))) _).trans (((cell_far (p := ⟨gb183, _, none⟩) (by first | exact Nat.ne_of_lt (Nat.lt_of_lt_of_le (by have := World.block_lt_of_cell? _ _ hw186_0; first | rwa [add_block] at this | exact this) GW183.out) | (rw [add_block]; exact Nat.ne_of_lt (Nat.lt_of_lt_of_le (by have := World.block_lt_of_cell? _ _ hw186_0; first | rwa [add_block] at this | exact this) GW183.out)) | (show (Addr.add _ _).block ≠ _; rw [add_block]; exact Nat.ne_of_lt (Nat.lt_of_lt_of_le (by have := World.block_lt_of_cell? _ _ hw186_0; first | rwa [add_block] at this | exact this) GW183.out)) | (dsimp only; exact Nat.ne_of_lt (Nat.lt_of_lt_of_le (by have := World.block_lt_of_cell? _ _ hw186_0; first | rwa [add_block] at this | exact this) GW183.out))) _).trans (hHeld.2.2))))))))⟩ (fun hHeld => ?_)
      clear hK K
      refine done_ (done_of HT_.out (by kernel_rfl)) ?_
      try go_wp2
      refine bodyPost_ret (results_cell_row rfl _ _ gb183 24 #[.int .i64 (wrap64 (rd l0 0)), .int .i64 (wrap64 (rd l0 1)), .int .i64 (wrap64 (rd l0 2)), .slice Ao13 y191.length co13] (0, 0) _ rfl (by (with_reducible repeat (first | refine blk_drewN ?_ _ | refine blk_drew ?_ | refine blk_alloc ?_ _)); refine blk_put (cs := #[.int .i64 (wrap64 (rd l0 0)), .int .i64 (wrap64 (rd l0 1)), .int .i64 (wrap64 (rd l0 2)), .slice none 0 0]) ?_ 3 _ rfl; (with_reducible repeat (first | refine blk_drewN ?_ _ | refine blk_drew ?_ | refine blk_alloc ?_ _)); refine blk_put (cs := #[.int .i64 (wrap64 (rd l0 0)), .int .i64 (wrap64 (rd l0 1)), .int .i64 0, .slice none 0 0]) ?_ 2 _ rfl; (with_reducible repeat (first | refine blk_drewN ?_ _ | refine blk_drew ?_ | refine blk_alloc ?_ _)); refine blk_put (cs := #[.int .i64 (wrap64 (rd l0 0)), .int .i64 0, .int .i64 0, .slice none 0 0]) ?_ 1 _ rfl; (with_reducible repeat (first | refine blk_drewN ?_ _ | refine blk_drew ?_ | refine blk_alloc ?_ _)); refine blk_put (cs := #[.int .i64 0, .int .i64 0, .int .i64 0, .slice none 0 0]) ?_ 0 _ rfl; (with_reducible repeat (first | refine blk_drewN ?_ _ | refine blk_drew ?_ | refine blk_alloc ?_ _)); exact BK183.out) Try.underlying24 rfl (by kernel_rfl)) rfl ?_
      exact ⟨_, by first | rfl | (simp [errW_none, errW_some] <;> rfl) | (simp [*, errW_none, errW_some] <;> rfl) | (rw [Int.tdiv_eq_ediv_of_nonneg (by assumption)]; rfl), by (with_reducible repeat (first | apply Kd.R_alloc | apply Kd.R_drewN | apply Kd.R_drew)); exact Kd.R_mono (Kd.R_far (p := ⟨gb183, 3, none⟩) (Kd.R_far (p := ⟨gb183, 2, none⟩) (Kd.R_far (p := ⟨gb183, 1, none⟩) (Kd.R_far (p := ⟨gb183, 0, none⟩) (Kd.R_types HO193.out BK183.out (by decide)) (fun _ hk => hk.2) (.int .i64 (wrap64 (rd l0 0)))) (fun _ hk => hk.2) (.int .i64 (wrap64 (rd l0 1)))) (fun _ hk => hk.2) (.int .i64 (wrap64 (rd l0 2)))) (fun _ hk => hk.2) (.slice Ao13 y191.length co13)) (fun _ hk => trivial), by repeat (first | (with_reducible first | exact HB.out | apply below_alloc | apply pw_below_drewN | apply below_drew1 | refine below_set ?_ GE183.out) | exact HB.out)⟩
     ·
      rw [if_neg c6] at H
      exact absurd H (by simp)
    ·
     rw [if_neg c5] at H
     exact absurd H (by simp)
   ·
    rw [if_neg c4] at H
    exact absurd H (by simp)
  ·
   rw [if_neg c3] at H
   exact absurd H (by simp)
 ·
  rw [if_neg c2] at H
  exact absurd H (by simp)

end Go.Proofs.Ytjgemjhmkmahmaa.PA
