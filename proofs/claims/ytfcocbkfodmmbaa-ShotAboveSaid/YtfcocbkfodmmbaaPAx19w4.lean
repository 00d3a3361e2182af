import Derived.Test.YtfcocbkfodmmbaaPAx19w0
namespace Go.Proofs.Ytfcocbkfodmmbaa.PA
open Go.RowKit Go.Proofs.YtfcocbkfodmmbaaW.PrintWords Go.Proofs.YtfcocbkfodmmbaaW.PrintLast Go.Proofs.YtfcocbkfodmmbaaW.PrintMore
attribute [local go_sem] max2_int min2_int max_two min_two max_three min_three max_four min_four   -- for this text's walks alone
set_option linter.unusedVariables false
set_option linter.unusedSimpArgs false
attribute [local go_sem high] eqA38
set_option maxHeartbeats 8000000 in
set_option maxRecDepth 100000 in
theorem bivouaclaw16_ShotAbove.way4 (k : Nat) (a0_0 : Int) (a0_1 : Int) (a0_2 : Int) (A0_3 : Option Addr) (c0_3 : Nat) (l0_3 : List Int) (a0_4 : Int) (a0_5 : Int) (a0_6 : Int) (a0_7 : Int) (a0_8 : Int) (a0_9 : Int) (a0_10 : Int) (a0_11 : Int) (r : Bool) (w : World) (hr0_3 : Kd.C (Kd.int .u8) w A0_3 l0_3.length l0_3) (hc0_3 : l0_3.length ≤ c0_3) {t189 t190 t191 t192 t197 t198 : _}  (A20 : (bivouaclaw16_few.f a0_0 a0_1 a0_2 l0_3) = some (t189, t190, t191, t192)) (A30 : (bivouacref06_Check.f k t189 t190 t191 t192) = some t197) (c4 : ¬(t197 = 0)) (A1890 : (bivouaclaw16_awake.f) = some t198) (H : (some t198) = some r):
  Calls Try.prog 9 #[.agg #[.int .i64 a0_0, .int .i64 a0_1, .int .i64 a0_2, .slice A0_3 l0_3.length c0_3, .int .i64 a0_4, .int .i64 a0_5, .int .i64 a0_6, .int .i64 a0_7, .int .i64 a0_8, .int .i64 a0_9, .int .i64 a0_10, .int .u8 a0_11]] w fun e w' => e = .returned (.bool r) ∧ Below w.heap.size w w' := by
 have hu36 := Try.underlying36
 have hu25 := Try.underlying25
 have hu27 := Try.underlying27
 have hu38 := Try.underlying38
 have HR0_3 := aM19 hr0_3
 have HC0_3 := aM19 hc0_3
 clear hr0_3 hc0_3
 have HB := aM19 (Below.refl w.heap.size w)
 have A2 := aM19 A20
 clear A20
 have A3 := aM19 A30
 clear A30
 have c4b0 : (t197 == 0) = false := beq_eq_false_iff_ne.mpr c4
 have c4b1 : (t197 != 0) = true := bne_iff_ne.mpr c4
 have A189 := aM19 A1890
 clear A1890
 obtain rfl := Option.some.inj H
 go_enter Try.func9, Try.ntmps9
 try go_wp2_with (first | ((with_reducible refine gate_dst (N := 1) rfl ?_); refine box_event ?hg (N := 1) ?hd (cs := #[.int .i64 a0_0, .int .i64 a0_1, .int .i64 a0_2, .slice A0_3 l0_3.length c0_3, .int .i64 a0_4, .int .i64 a0_5, .int .i64 a0_6, .int .i64 a0_7, .int .i64 a0_8, .int .i64 a0_9, .int .i64 a0_10, .int .u8 a0_11]) (t := 36) ?hr ?_; (case hd => rfl); (case hg => rfl); (case hr => first | (go_simp; done) | (go_simp; rfl)); intro gb188 hg w190 hbox hb; have n0_ := aM19 (below_step (by repeat (first | (with_reducible first | exact HB.out | apply below_alloc | apply pw_below_drewN | apply below_drew1) | exact HB.out)) hb); have n1_ := aM19 (hbox); have n2_ := aM19 ((by rw [hg]; exact (below_size (by repeat (first | (with_reducible first | exact HB.out | apply below_alloc | apply pw_below_drewN | apply below_drew1) | exact HB.out))) : w.heap.size ≤ gb188)); have n3_ := aM19 ((by rw [hg]; exact (below_size (by repeat (first | (with_reducible first | exact HB.out | apply below_alloc | apply pw_below_drewN | apply below_drew1) | exact HB.out))) : w.heap.size ≤ gb188)); clear HB; have HB := n0_; have BK188 := n1_; have GW188 := n2_; have GE188 := n3_; clear n0_ n1_ n2_ n3_; clear hb hbox hg))
 have n0_ := aM19 (bD19 BK188.out)
 have n1_ := aM19 (below_drew1 HB.out)
 clear BK188
 clear HB
 have BK188 := n0_
 have HB := n1_
 clear n0_ n1_
 refine start_ (n := 16) (S := fun w' => w'.cell? ⟨gb188, 0, none⟩ = some (.int .i64 a0_0) ∧ w'.cell? ⟨gb188, 1, none⟩ = some (.int .i64 a0_1) ∧ w'.cell? ⟨gb188, 2, none⟩ = some (.int .i64 a0_2) ∧ w'.cell? ⟨gb188, 3, none⟩ = some (.slice A0_3 l0_3.length c0_3) ∧ w'.cell? ⟨gb188, 4, none⟩ = some (.int .i64 a0_4) ∧ w'.cell? ⟨gb188, 5, none⟩ = some (.int .i64 a0_5) ∧ w'.cell? ⟨gb188, 6, none⟩ = some (.int .i64 a0_6) ∧ w'.cell? ⟨gb188, 7, none⟩ = some (.int .i64 a0_7) ∧ w'.cell? ⟨gb188, 8, none⟩ = some (.int .i64 a0_8) ∧ w'.cell? ⟨gb188, 9, none⟩ = some (.int .i64 a0_9) ∧ w'.cell? ⟨gb188, 10, none⟩ = some (.int .i64 a0_10) ∧ w'.cell? ⟨gb188, 11, none⟩ = some (.int .u8 a0_11)) (ds := []) (bA 16 0) (by kernel_rfl) rfl rfl ⟨(bC19 BK188.out 0).trans rfl, (bC19 BK188.out 1).trans rfl, (bC19 BK188.out 2).trans rfl, (bC19 BK188.out 3).trans rfl, (bC19 BK188.out 4).trans rfl, (bC19 BK188.out 5).trans rfl, (bC19 BK188.out 6).trans rfl, (bC19 BK188.out 7).trans rfl, (bC19 BK188.out 8).trans rfl, (bC19 BK188.out 9).trans rfl, (bC19 BK188.out 10).trans rfl, (bC19 BK188.out 11).trans rfl⟩ (fun hHeld => ?_); refine with_tabW bivouaclaw16_ShotAbove.tab1 bivouaclaw16_ShotAbove.bits1 (fun HT_ HW_ => ?_)
 generalize w190.drew = w191 at BK188 HB hHeld ⊢
 refine pure_ (i := 0) (N := some 11) (v := ?_) (a' := ?_) (bA 16 1) rfl rfl (any_of HT_.out (by kernel_rfl)) (fun _ _ _ h => h) (Or.inl ⟨by rfl, ?_⟩) ?_ ?_
 rotate_left
 ·
  intro w'
  go_simp
  with_reducible rfl
 rotate_left
 ·
  simp only [Act.put, sA, sB, sC, i64_w, i32_w]
  rfl
 refine pure_ (i := 3) (N := some 14) (v := ?_) (a' := ?_) (bA 16 9) rfl rfl (any_of HT_.out (by kernel_rfl)) (fun _ _ _ h => h) (Or.inl ⟨by rfl, ?_⟩) ?_ ?_
 rotate_left
 ·
  intro w'
  go_simp
  with_reducible rfl
 rotate_left
 ·
  simp only [Act.put, sA, sB, sC, i64_w, i32_w]
  rfl
 refine pure_ (i := 5) (N := some 16) (v := ?_) (a' := ?_) (bA 16 41) rfl rfl (any_of HT_.out (by kernel_rfl)) (fun _ _ _ h => h) (Or.inl ⟨by rfl, ?_⟩) ?_ ?_
 rotate_left
 ·
  intro w'
  go_simp
  with_reducible rfl
 rotate_left
 ·
  simp only [Act.put, sA, sB, sC, i64_w, i32_w]
  rfl
 refine pure_ (i := 8) (N := some 19) (v := ?_) (a' := ?_) (bA 16 297) rfl rfl (any_of HT_.out (by kernel_rfl)) (fun _ _ _ h => h) (Or.inl ⟨by rfl, ?_⟩) ?_ ?_
 rotate_left
 ·
  intro w'
  go_simp
  with_reducible rfl
 rotate_left
 ·
  simp only [Act.put, sA, sB, sC, i64_w, i32_w]
  rfl
 refine take_ (i := 1) (N := some 12) (v := ?_) (a' := ?_) (bA 16 299) rfl rfl (take_ofW HT_.out HW_.out (by kernel_rfl)) (fun _ _ _ h => h) (Or.inl ⟨by rfl, ?_⟩) hHeld ?_ ?_
 rotate_left
 ·
  rintro w' ⟨s0, s1, s2, s3, s4, s5, s6, s7, s8, s9, s10, s11⟩
  go_simp
  with_reducible rfl
 rotate_left
 ·
  simp only [Act.put, sA, sB, sC, i64_w, i32_w]
  rfl
 refine take_ (i := 4) (N := some 15) (v := ?_) (a' := ?_) (bA 16 315) rfl rfl (take_ofW HT_.out HW_.out (by kernel_rfl)) (fun _ _ _ h => h) (Or.inl ⟨by rfl, ?_⟩) hHeld ?_ ?_
 rotate_left
 ·
  rintro w' ⟨s0, s1, s2, s3, s4, s5, s6, s7, s8, s9, s10, s11⟩
  go_simp
  with_reducible rfl
 rotate_left
 ·
  simp only [Act.put, sA, sB, sC, i64_w, i32_w]
  rfl
 refine take_ (i := 6) (N := some 17) (v := ?_) (a' := ?_) (bA 16 379) rfl rfl (take_ofW HT_.out HW_.out (by kernel_rfl)) (fun _ _ _ h => h) (Or.inl ⟨by rfl, ?_⟩) hHeld ?_ ?_
 rotate_left
 ·
  rintro w' ⟨s0, s1, s2, s3, s4, s5, s6, s7, s8, s9, s10, s11⟩
  go_simp
  with_reducible rfl
 rotate_left
 ·
  simp only [Act.put, sA, sB, sC, i64_w, i32_w]
  rfl
 refine pure_ (i := 7) (N := some 18) (v := ?_) (a' := ?_) (bA 16 507) rfl rfl (any_of HT_.out (by kernel_rfl)) (fun _ _ _ h => h) (Or.inl ⟨by rfl, ?_⟩) ?_ ?_
 rotate_left
 ·
  intro w'
  go_simp
  with_reducible rfl
 rotate_left
 ·
  simp only [Act.put, sA, sB, sC, i64_w, i32_w]
  rfl
 refine take_ (i := 9) (N := some 20) (v := ?_) (a' := ?_) (bA 16 1019) rfl rfl (take_ofW HT_.out HW_.out (by kernel_rfl)) (fun _ _ _ h => h) (Or.inl ⟨by rfl, ?_⟩) hHeld ?_ ?_
 rotate_left
 ·
  rintro w' ⟨s0, s1, s2, s3, s4, s5, s6, s7, s8, s9, s10, s11⟩
  go_simp
  with_reducible rfl
 rotate_left
 ·
  simp only [Act.put, sA, sB, sC, i64_w, i32_w]
  rfl
 refine join_ (σ := Value × Nat × Nat) 4 #[true, true, true, true, true, true, true, true, true, true, true, true, false, false, false, false] (fun s_ => [(13, .agg #[.int .i64 t189, .int .i64 t190, .int .i64 t191, s_.1]), (3, .pointer (some ⟨s_.2.1, 0, none⟩)), (4, .pointer (some ⟨s_.2.2, 0, none⟩))]) (fun s_ w' => (w'.cell? ⟨gb188, 0, none⟩ = some (.int .i64 a0_0) ∧ w'.cell? ⟨gb188, 1, none⟩ = some (.int .i64 a0_1) ∧ w'.cell? ⟨gb188, 2, none⟩ = some (.int .i64 a0_2) ∧ w'.cell? ⟨gb188, 3, none⟩ = some (.slice A0_3 l0_3.length c0_3) ∧ w'.cell? ⟨gb188, 4, none⟩ = some (.int .i64 a0_4) ∧ w'.cell? ⟨gb188, 5, none⟩ = some (.int .i64 a0_5) ∧ w'.cell? ⟨gb188, 6, none⟩ = some (.int .i64 a0_6) ∧ w'.cell? ⟨gb188, 7, none⟩ = some (.int .i64 a0_7) ∧ w'.cell? ⟨gb188, 8, none⟩ = some (.int .i64 a0_8) ∧ w'.cell? ⟨gb188, 9, none⟩ = some (.int .i64 a0_9) ∧ w'.cell? ⟨gb188, 10, none⟩ = some (.int .i64 a0_10) ∧ w'.cell? ⟨gb188, 11, none⟩ = some (.int .u8 a0_11)) ∧ (Kd.V (Kd.int .u8) 5 w' w.heap.size (fun k_ => k_ ≠ gb188 ∧ k_ ≠ s_.2.1 ∧ k_ ≠ s_.2.2) s_.1 t192) ∧ (w'.heap[gb188]? = some (.cells #[.int .i64 a0_0, .int .i64 a0_1, .int .i64 a0_2, .slice A0_3 l0_3.length c0_3, .int .i64 a0_4, .int .i64 a0_5, .int .i64 a0_6, .int .i64 a0_7, .int .i64 a0_8, .int .i64 a0_9, .int .i64 a0_10, .int .u8 a0_11] 36 (0, 0))) ∧ (w'.heap[s_.2.1]? = some (.cells #[.int .i64 0, .int .i64 0, .int .i64 0, .slice none 0 0] 25 (0, 0))) ∧ (w'.heap[s_.2.2]? = some (.cells #[.int .i64 0, .int .i64 0, .int .i64 0, .int .i64 0, .int .i64 0, .int .i64 0] 27 (0, 0))) ∧ (w.heap.size ≤ s_.2.1) ∧ (w.heap.size ≤ s_.2.1) ∧ (gb188 ≠ s_.2.1) ∧ (s_.2.1 ≠ gb188) ∧ (s_.2.2 ≠ s_.2.1) ∧ (s_.2.1 ≠ s_.2.2) ∧ (w.heap.size ≤ s_.2.2) ∧ (w.heap.size ≤ s_.2.2) ∧ (gb188 ≠ s_.2.2) ∧ (s_.2.2 ≠ gb188) ∧ (Below w.heap.size w w')) ?_ ?_
 rotate_left
 ·
  intro hJ2_10_11
  refine join_ (σ := Value × Nat) 5 #[true, true, true, true, true, true, true, true, true, true, true, false, false, false, false, false] (fun s_ => [(13, .agg #[.int .i64 t189, .int .i64 t190, .int .i64 t191, s_.1]), (3, .pointer (some ⟨s_.2, 0, none⟩))]) (fun s_ w' => (w'.cell? ⟨gb188, 0, none⟩ = some (.int .i64 a0_0) ∧ w'.cell? ⟨gb188, 1, none⟩ = some (.int .i64 a0_1) ∧ w'.cell? ⟨gb188, 2, none⟩ = some (.int .i64 a0_2) ∧ w'.cell? ⟨gb188, 3, none⟩ = some (.slice A0_3 l0_3.length c0_3) ∧ w'.cell? ⟨gb188, 4, none⟩ = some (.int .i64 a0_4) ∧ w'.cell? ⟨gb188, 5, none⟩ = some (.int .i64 a0_5) ∧ w'.cell? ⟨gb188, 6, none⟩ = some (.int .i64 a0_6) ∧ w'.cell? ⟨gb188, 7, none⟩ = some (.int .i64 a0_7) ∧ w'.cell? ⟨gb188, 8, none⟩ = some (.int .i64 a0_8) ∧ w'.cell? ⟨gb188, 9, none⟩ = some (.int .i64 a0_9) ∧ w'.cell? ⟨gb188, 10, none⟩ = some (.int .i64 a0_10) ∧ w'.cell? ⟨gb188, 11, none⟩ = some (.int .u8 a0_11)) ∧ (Kd.V (Kd.int .u8) 5 w' w.heap.size (fun k_ => k_ ≠ gb188 ∧ k_ ≠ s_.2) s_.1 t192) ∧ (w'.heap[gb188]? = some (.cells #[.int .i64 a0_0, .int .i64 a0_1, .int .i64 a0_2, .slice A0_3 l0_3.length c0_3, .int .i64 a0_4, .int .i64 a0_5, .int .i64 a0_6, .int .i64 a0_7, .int .i64 a0_8, .int .i64 a0_9, .int .i64 a0_10, .int .u8 a0_11] 36 (0, 0))) ∧ (w'.heap[s_.2]? = some (.cells #[.int .i64 0, .int .i64 0, .int .i64 0, .slice none 0 0] 25 (0, 0))) ∧ (w.heap.size ≤ s_.2) ∧ (w.heap.size ≤ s_.2) ∧ (gb188 ≠ s_.2) ∧ (s_.2 ≠ gb188) ∧ (Below w.heap.size w w')) ?_ ?_
  rotate_left
  ·
   intro hJ2_10
   refine join_ (σ := Value × Nat) 5 #[true, true, true, true, true, true, true, true, true, true, false, true, false, false, false, false] (fun s_ => [(13, .agg #[.int .i64 t189, .int .i64 t190, .int .i64 t191, s_.1]), (4, .pointer (some ⟨s_.2, 0, none⟩))]) (fun s_ w' => (w'.cell? ⟨gb188, 0, none⟩ = some (.int .i64 a0_0) ∧ w'.cell? ⟨gb188, 1, none⟩ = some (.int .i64 a0_1) ∧ w'.cell? ⟨gb188, 2, none⟩ = some (.int .i64 a0_2) ∧ w'.cell? ⟨gb188, 3, none⟩ = some (.slice A0_3 l0_3.length c0_3) ∧ w'.cell? ⟨gb188, 4, none⟩ = some (.int .i64 a0_4) ∧ w'.cell? ⟨gb188, 5, none⟩ = some (.int .i64 a0_5) ∧ w'.cell? ⟨gb188, 6, none⟩ = some (.int .i64 a0_6) ∧ w'.cell? ⟨gb188, 7, none⟩ = some (.int .i64 a0_7) ∧ w'.cell? ⟨gb188, 8, none⟩ = some (.int .i64 a0_8) ∧ w'.cell? ⟨gb188, 9, none⟩ = some (.int .i64 a0_9) ∧ w'.cell? ⟨gb188, 10, none⟩ = some (.int .i64 a0_10) ∧ w'.cell? ⟨gb188, 11, none⟩ = some (.int .u8 a0_11)) ∧ (Kd.V (Kd.int .u8) 5 w' w.heap.size (fun k_ => k_ ≠ gb188 ∧ k_ ≠ s_.2) s_.1 t192) ∧ (w'.heap[gb188]? = some (.cells #[.int .i64 a0_0, .int .i64 a0_1, .int .i64 a0_2, .slice A0_3 l0_3.length c0_3, .int .i64 a0_4, .int .i64 a0_5, .int .i64 a0_6, .int .i64 a0_7, .int .i64 a0_8, .int .i64 a0_9, .int .i64 a0_10, .int .u8 a0_11] 36 (0, 0))) ∧ (w'.heap[s_.2]? = some (.cells #[.int .i64 0, .int .i64 0, .int .i64 0, .int .i64 0, .int .i64 0, .int .i64 0] 27 (0, 0))) ∧ (w.heap.size ≤ s_.2) ∧ (w.heap.size ≤ s_.2) ∧ (gb188 ≠ s_.2) ∧ (s_.2 ≠ gb188) ∧ (Below w.heap.size w w')) ?_ ?_
   rotate_left
   ·
    intro hJ2_11
    refine join_ (σ := Nat × Nat) 5 #[true, true, false, true, true, true, true, true, true, true, true, true, false, false, false, false] (fun s_ => [(3, .pointer (some ⟨s_.1, 0, none⟩)), (4, .pointer (some ⟨s_.2, 0, none⟩))]) (fun s_ w' => (w'.cell? ⟨gb188, 0, none⟩ = some (.int .i64 a0_0) ∧ w'.cell? ⟨gb188, 1, none⟩ = some (.int .i64 a0_1) ∧ w'.cell? ⟨gb188, 2, none⟩ = some (.int .i64 a0_2) ∧ w'.cell? ⟨gb188, 3, none⟩ = some (.slice A0_3 l0_3.length c0_3) ∧ w'.cell? ⟨gb188, 4, none⟩ = some (.int .i64 a0_4) ∧ w'.cell? ⟨gb188, 5, none⟩ = some (.int .i64 a0_5) ∧ w'.cell? ⟨gb188, 6, none⟩ = some (.int .i64 a0_6) ∧ w'.cell? ⟨gb188, 7, none⟩ = some (.int .i64 a0_7) ∧ w'.cell? ⟨gb188, 8, none⟩ = some (.int .i64 a0_8) ∧ w'.cell? ⟨gb188, 9, none⟩ = some (.int .i64 a0_9) ∧ w'.cell? ⟨gb188, 10, none⟩ = some (.int .i64 a0_10) ∧ w'.cell? ⟨gb188, 11, none⟩ = some (.int .u8 a0_11)) ∧ (w'.heap[gb188]? = some (.cells #[.int .i64 a0_0, .int .i64 a0_1, .int .i64 a0_2, .slice A0_3 l0_3.length c0_3, .int .i64 a0_4, .int .i64 a0_5, .int .i64 a0_6, .int .i64 a0_7, .int .i64 a0_8, .int .i64 a0_9, .int .i64 a0_10, .int .u8 a0_11] 36 (0, 0))) ∧ (w'.heap[s_.1]? = some (.cells #[.int .i64 0, .int .i64 0, .int .i64 0, .slice none 0 0] 25 (0, 0))) ∧ (w'.heap[s_.2]? = some (.cells #[.int .i64 0, .int .i64 0, .int .i64 0, .int .i64 0, .int .i64 0, .int .i64 0] 27 (0, 0))) ∧ (w.heap.size ≤ s_.1) ∧ (w.heap.size ≤ s_.1) ∧ (gb188 ≠ s_.1) ∧ (s_.1 ≠ gb188) ∧ (s_.2 ≠ s_.1) ∧ (s_.1 ≠ s_.2) ∧ (w.heap.size ≤ s_.2) ∧ (w.heap.size ≤ s_.2) ∧ (gb188 ≠ s_.2) ∧ (s_.2 ≠ gb188) ∧ (Below w.heap.size w w')) ?_ ?_
    rotate_left
    ·
     intro hJ10_11
     refine join_ (σ := Value) 6 #[true, true, true, true, true, true, true, true, true, true, false, false, false, false, false, false] (fun s_ => [(13, .agg #[.int .i64 t189, .int .i64 t190, .int .i64 t191, s_])]) (fun s_ w' => (w'.cell? ⟨gb188, 0, none⟩ = some (.int .i64 a0_0) ∧ w'.cell? ⟨gb188, 1, none⟩ = some (.int .i64 a0_1) ∧ w'.cell? ⟨gb188, 2, none⟩ = some (.int .i64 a0_2) ∧ w'.cell? ⟨gb188, 3, none⟩ = some (.slice A0_3 l0_3.length c0_3) ∧ w'.cell? ⟨gb188, 4, none⟩ = some (.int .i64 a0_4) ∧ w'.cell? ⟨gb188, 5, none⟩ = some (.int .i64 a0_5) ∧ w'.cell? ⟨gb188, 6, none⟩ = some (.int .i64 a0_6) ∧ w'.cell? ⟨gb188, 7, none⟩ = some (.int .i64 a0_7) ∧ w'.cell? ⟨gb188, 8, none⟩ = some (.int .i64 a0_8) ∧ w'.cell? ⟨gb188, 9, none⟩ = some (.int .i64 a0_9) ∧ w'.cell? ⟨gb188, 10, none⟩ = some (.int .i64 a0_10) ∧ w'.cell? ⟨gb188, 11, none⟩ = some (.int .u8 a0_11)) ∧ (Kd.V (Kd.int .u8) 5 w' w.heap.size (fun k_ => k_ ≠ gb188) s_ t192) ∧ (w'.heap[gb188]? = some (.cells #[.int .i64 a0_0, .int .i64 a0_1, .int .i64 a0_2, .slice A0_3 l0_3.length c0_3, .int .i64 a0_4, .int .i64 a0_5, .int .i64 a0_6, .int .i64 a0_7, .int .i64 a0_8, .int .i64 a0_9, .int .i64 a0_10, .int .u8 a0_11] 36 (0, 0))) ∧ (Below w.heap.size w w')) ?_ ?_
     rotate_left
     ·
      intro hJ2
      refine join_ (σ := Nat) 6 #[true, true, false, true, true, true, true, true, true, true, true, false, false, false, false, false] (fun s_ => [(3, .pointer (some ⟨s_, 0, none⟩))]) (fun s_ w' => (w'.cell? ⟨gb188, 0, none⟩ = some (.int .i64 a0_0) ∧ w'.cell? ⟨gb188, 1, none⟩ = some (.int .i64 a0_1) ∧ w'.cell? ⟨gb188, 2, none⟩ = some (.int .i64 a0_2) ∧ w'.cell? ⟨gb188, 3, none⟩ = some (.slice A0_3 l0_3.length c0_3) ∧ w'.cell? ⟨gb188, 4, none⟩ = some (.int .i64 a0_4) ∧ w'.cell? ⟨gb188, 5, none⟩ = some (.int .i64 a0_5) ∧ w'.cell? ⟨gb188, 6, none⟩ = some (.int .i64 a0_6) ∧ w'.cell? ⟨gb188, 7, none⟩ = some (.int .i64 a0_7) ∧ w'.cell? ⟨gb188, 8, none⟩ = some (.int .i64 a0_8) ∧ w'.cell? ⟨gb188, 9, none⟩ = some (.int .i64 a0_9) ∧ w'.cell? ⟨gb188, 10, none⟩ = some (.int .i64 a0_10) ∧ w'.cell? ⟨gb188, 11, none⟩ = some (.int .u8 a0_11)) ∧ (w'.heap[gb188]? = some (.cells #[.int .i64 a0_0, .int .i64 a0_1, .int .i64 a0_2, .slice A0_3 l0_3.length c0_3, .int .i64 a0_4, .int .i64 a0_5, .int .i64 a0_6, .int .i64 a0_7, .int .i64 a0_8, .int .i64 a0_9, .int .i64 a0_10, .int .u8 a0_11] 36 (0, 0))) ∧ (w'.heap[s_]? = some (.cells #[.int .i64 0, .int .i64 0, .int .i64 0, .slice none 0 0] 25 (0, 0))) ∧ (w.heap.size ≤ s_) ∧ (w.heap.size ≤ s_) ∧ (gb188 ≠ s_) ∧ (s_ ≠ gb188) ∧ (Below w.heap.size w w')) ?_ ?_
      rotate_left
      ·
       intro hJ10
       refine join_ (σ := Nat) 6 #[true, true, false, true, true, true, true, true, true, true, false, true, false, false, false, false] (fun s_ => [(4, .pointer (some ⟨s_, 0, none⟩))]) (fun s_ w' => (w'.cell? ⟨gb188, 0, none⟩ = some (.int .i64 a0_0) ∧ w'.cell? ⟨gb188, 1, none⟩ = some (.int .i64 a0_1) ∧ w'.cell? ⟨gb188, 2, none⟩ = some (.int .i64 a0_2) ∧ w'.cell? ⟨gb188, 3, none⟩ = some (.slice A0_3 l0_3.length c0_3) ∧ w'.cell? ⟨gb188, 4, none⟩ = some (.int .i64 a0_4) ∧ w'.cell? ⟨gb188, 5, none⟩ = some (.int .i64 a0_5) ∧ w'.cell? ⟨gb188, 6, none⟩ = some (.int .i64 a0_6) ∧ w'.cell? ⟨gb188, 7, none⟩ = some (.int .i64 a0_7) ∧ w'.cell? ⟨gb188, 8, none⟩ = some (.int .i64 a0_8) ∧ w'.cell? ⟨gb188, 9, none⟩ = some (.int .i64 a0_9) ∧ w'.cell? ⟨gb188, 10, none⟩ = some (.int .i64 a0_10) ∧ w'.cell? ⟨gb188, 11, none⟩ = some (.int .u8 a0_11)) ∧ (w'.heap[gb188]? = some (.cells #[.int .i64 a0_0, .int .i64 a0_1, .int .i64 a0_2, .slice A0_3 l0_3.length c0_3, .int .i64 a0_4, .int .i64 a0_5, .int .i64 a0_6, .int .i64 a0_7, .int .i64 a0_8, .int .i64 a0_9, .int .i64 a0_10, .int .u8 a0_11] 36 (0, 0))) ∧ (w'.heap[s_]? = some (.cells #[.int .i64 0, .int .i64 0, .int .i64 0, .int .i64 0, .int .i64 0, .int .i64 0] 27 (0, 0))) ∧ (w.heap.size ≤ s_) ∧ (w.heap.size ≤ s_) ∧ (gb188 ≠ s_) ∧ (s_ ≠ gb188) ∧ (Below w.heap.size w w')) ?_ ?_
       rotate_left
       ·
        intro hJ11
        refine three_ (i := 2) (j := 10) (k := 11) (Ni := some 13) (Nj := some 3) (Nk := some 4) (bA 16 1023) #[true, true, false, true, true, true, true, true, true, true, true, false, false, false, false, false] #[true, true, false, true, true, true, true, true, true, true, false, true, false, false, false, false] rfl rfl rfl rfl rfl rfl (three_of HT_.out (by kernel_rfl)) (by decide) (by decide) (by decide) (fun K hK => ?_) (fun K hK => ?_) (fun K hK => ?_)
        ·
         skip
         refine goes_ Try.func11 (by kernel_rfl) rfl #[.agg #[.int .i64 a0_0, .int .i64 a0_1, .int .i64 a0_2, .slice A0_3 l0_3.length c0_3]] (by rfl) rfl rfl (by (try simp only [List.map_toArray, List.map_cons, List.map_nil]); first | done | rfl | (simp only [List.length_drop, List.length_take]; rfl)) ?_
         with_reducible refine (bivouaclaw16_few.calls a0_0 a0_1 a0_2 (fun k_ => k_ < w.heap.size) _ _ l0_3 t189 t190 t191 t192 _ ?side1 A2.out).mono ?_
         (case side1 => exact Kd.V_mk HC0_3.out (Kd.F_below (Kd.C_F (Kd.heap_int .u8) HR0_3.out) (by repeat (first | (with_reducible first | exact HB.out | apply below_alloc | apply pw_below_drewN | apply below_drew1 | refine below_set ?_ GE188.out) | exact HB.out))))
         rintro e w192 ⟨v193, rfl, ho0, hb⟩
         refine ⟨_, rfl, ?_⟩
         have n0_ := aM19 (Kd.V_lower (Kd.V_mono (ok' := fun k_ => k_ ≠ gb188) ho0 (fun k_ hk_ => Or.elim hk_ (fun hs_ => fun e_ => Nat.not_le.2 hs_ (by rw [e_]; exact GW188.out)) (fun hn_ => (Kd.freshB (g := gb188) (o := .cells #[.int .i64 a0_0, .int .i64 a0_1, .int .i64 a0_2, .slice A0_3 l0_3.length c0_3, .int .i64 a0_4, .int .i64 a0_5, .int .i64 a0_6, .int .i64 a0_7, .int .i64 a0_8, .int .i64 a0_9, .int .i64 a0_10, .int .u8 a0_11] 36 (0, 0)) (by (with_reducible repeat (first | refine bN19 ?_ _ | refine bD19 ?_ | refine bK19 ?_ _)); exact BK188.out) k_ hn_)))) (below_size (by repeat (first | (with_reducible first | exact HB.out | apply below_alloc | apply pw_below_drewN | apply below_drew1 | refine below_set ?_ GE188.out) | exact HB.out))))
         have n1_ := aM19 (blk_below (g := gb188) (o := .cells #[.int .i64 a0_0, .int .i64 a0_1, .int .i64 a0_2, .slice A0_3 l0_3.length c0_3, .int .i64 a0_4, .int .i64 a0_5, .int .i64 a0_6, .int .i64 a0_7, .int .i64 a0_8, .int .i64 a0_9, .int .i64 a0_10, .int .u8 a0_11] 36 (0, 0)) (by (with_reducible repeat (first | refine bN19 ?_ _ | refine bD19 ?_ | refine bK19 ?_ _)); exact BK188.out) hb)
         have n2_ := aM19 (below_step (by repeat (first | (with_reducible first | exact HB.out | apply below_alloc | apply pw_below_drewN | apply below_drew1 | refine below_set ?_ GE188.out) | exact HB.out)) hb)
         clear BK188
         clear HB
         have HO194 := n0_
         have BK188 := n1_
         have HB := n2_
         clear n0_ n1_ n2_
         (try clear hb)
         (try clear hb2)
         (try clear hk)
         (try clear hi)
         (try clear ho0)
         refine hK.out _ _ ⟨(bC19 BK188.out 0).trans rfl, (bC19 BK188.out 1).trans rfl, (bC19 BK188.out 2).trans rfl, (bC19 BK188.out 3).trans rfl, (bC19 BK188.out 4).trans rfl, (bC19 BK188.out 5).trans rfl, (bC19 BK188.out 6).trans rfl, (bC19 BK188.out 7).trans rfl, (bC19 BK188.out 8).trans rfl, (bC19 BK188.out 9).trans rfl, (bC19 BK188.out 10).trans rfl, (bC19 BK188.out 11).trans rfl⟩ (fun hHeld => ?_)
         clear hK K
         refine norm_ (a' := ?_) ?_ ?_
         rotate_left
         ·
          show Act.put _ (some 13) _ = _
          simp only [Act.put, sA, sB, sC, i64_w, i32_w]
          rfl
         exact norm_ (by first | (simp only [putAll, Act.put, List.setIfInBounds_toArray, List.set_cons_zero, List.set_cons_succ]; done) | (simp only [putAll, Act.put, List.setIfInBounds_toArray, List.set_cons_zero, List.set_cons_succ]; rfl)) (hJ2 (v193) _ ⟨hHeld, (by (with_reducible repeat (first | apply Kd.V_alloc | apply Kd.V_drewN | apply Kd.V_drew)); exact HO194.out), (by (with_reducible repeat (first | refine bN19 ?_ _ | refine bD19 ?_ | refine bK19 ?_ _)); exact BK188.out), (by repeat (first | (with_reducible first | exact HB.out | apply below_alloc | apply pw_below_drewN | apply below_drew1 | refine below_set ?_ GE188.out) | exact HB.out))⟩)
        ·
         skip
         refine box_step ?hg (N := 3) ?hd (cs := #[.int .i64 0, .int .i64 0, .int .i64 0, .slice none 0 0]) (t := 25) ?hr ?_; (case hd => rfl); (case hg => rfl); (case hr => first | (go_simp; done) | (go_simp; rfl))
         intro gb195 hg w192 hbox hb
         have n0_ := aM19 (blk_below (g := gb188) (o := .cells #[.int .i64 a0_0, .int .i64 a0_1, .int .i64 a0_2, .slice A0_3 l0_3.length c0_3, .int .i64 a0_4, .int .i64 a0_5, .int .i64 a0_6, .int .i64 a0_7, .int .i64 a0_8, .int .i64 a0_9, .int .i64 a0_10, .int .u8 a0_11] 36 (0, 0)) (by (with_reducible repeat (first | refine bN19 ?_ _ | refine bD19 ?_ | refine bK19 ?_ _)); exact BK188.out) hb)
         have n1_ := aM19 (below_step (by repeat (first | (with_reducible first | exact HB.out | apply below_alloc | apply pw_below_drewN | apply below_drew1 | refine below_set ?_ GE188.out) | exact HB.out)) hb)
         have n2_ := aM19 (hbox)
         have n3_ := aM19 ((by rw [hg]; exact (below_size (by repeat (first | (with_reducible first | exact HB.out | apply below_alloc | apply pw_below_drewN | apply below_drew1 | refine below_set ?_ GE188.out) | exact HB.out))) : w.heap.size ≤ gb195))
         have n4_ := aM19 ((by rw [hg]; exact (below_size (by repeat (first | (with_reducible first | exact HB.out | apply below_alloc | apply pw_below_drewN | apply below_drew1 | refine below_set ?_ GE188.out) | exact HB.out))) : w.heap.size ≤ gb195))
         have n5_ := aM19 ((by rw [hg]; exact Nat.ne_of_lt (blk_lt (g := gb188) (o := .cells #[.int .i64 a0_0, .int .i64 a0_1, .int .i64 a0_2, .slice A0_3 l0_3.length c0_3, .int .i64 a0_4, .int .i64 a0_5, .int .i64 a0_6, .int .i64 a0_7, .int .i64 a0_8, .int .i64 a0_9, .int .i64 a0_10, .int .u8 a0_11] 36 (0, 0)) (by (with_reducible repeat (first | refine bN19 ?_ _ | refine bD19 ?_ | refine bK19 ?_ _)); exact BK188.out)) : gb188 ≠ gb195))
         have n6_ := aM19 ((by rw [hg]; exact Nat.ne_of_gt (blk_lt (g := gb188) (o := .cells #[.int .i64 a0_0, .int .i64 a0_1, .int .i64 a0_2, .slice A0_3 l0_3.length c0_3, .int .i64 a0_4, .int .i64 a0_5, .int .i64 a0_6, .int .i64 a0_7, .int .i64 a0_8, .int .i64 a0_9, .int .i64 a0_10, .int .u8 a0_11] 36 (0, 0)) (by (with_reducible repeat (first | refine bN19 ?_ _ | refine bD19 ?_ | refine bK19 ?_ _)); exact BK188.out)) : gb195 ≠ gb188))
         clear BK188
         clear HB
         have BK188 := n0_
         have HB := n1_
         have BK195 := n2_
         have GW195 := n3_
         have GE195 := n4_
         have NB188_195 := n5_
         have NB195_188 := n6_
         clear n0_ n1_ n2_ n3_ n4_ n5_ n6_
         clear hb hbox hg
         refine hK.out _ _ ⟨(bC19 BK188.out 0).trans rfl, (bC19 BK188.out 1).trans rfl, (bC19 BK188.out 2).trans rfl, (bC19 BK188.out 3).trans rfl, (bC19 BK188.out 4).trans rfl, (bC19 BK188.out 5).trans rfl, (bC19 BK188.out 6).trans rfl, (bC19 BK188.out 7).trans rfl, (bC19 BK188.out 8).trans rfl, (bC19 BK188.out 9).trans rfl, (bC19 BK188.out 10).trans rfl, (bC19 BK188.out 11).trans rfl⟩ (fun hHeld => ?_)
         clear hK K
         refine norm_ (a' := ?_) ?_ ?_
         rotate_left
         ·
          show Act.put _ (some 3) _ = _
          simp only [Act.put, sA, sB, sC, i64_w, i32_w]
          rfl
         exact norm_ (by first | (simp only [putAll, Act.put, List.setIfInBounds_toArray, List.set_cons_zero, List.set_cons_succ]; done) | (simp only [putAll, Act.put, List.setIfInBounds_toArray, List.set_cons_zero, List.set_cons_succ]; rfl)) (hJ10 (gb195) _ ⟨hHeld, (by (with_reducible repeat (first | refine bN19 ?_ _ | refine bD19 ?_ | refine bK19 ?_ _)); exact BK188.out), (by (with_reducible repeat (first | refine bN19 ?_ _ | refine bD19 ?_ | refine bK19 ?_ _)); exact BK195.out), GW195.out, GE195.out, NB188_195.out, NB195_188.out, (by repeat (first | (with_reducible first | exact HB.out | apply below_alloc | apply pw_below_drewN | apply below_drew1 | refine below_set ?_ GE188.out | refine below_set ?_ GE195.out) | exact HB.out))⟩)
        skip
        refine box_step ?hg (N := 4) ?hd (cs := #[.int .i64 0, .int .i64 0, .int .i64 0, .int .i64 0, .int .i64 0, .int .i64 0]) (t := 27) ?hr ?_; (case hd => rfl); (case hg => rfl); (case hr => first | (go_simp; done) | (go_simp; rfl))
        intro gb196 hg w192 hbox hb
        have n0_ := aM19 (blk_below (g := gb188) (o := .cells #[.int .i64 a0_0, .int .i64 a0_1, .int .i64 a0_2, .slice A0_3 l0_3.length c0_3, .int .i64 a0_4, .int .i64 a0_5, .int .i64 a0_6, .int .i64 a0_7, .int .i64 a0_8, .int .i64 a0_9, .int .i64 a0_10, .int .u8 a0_11] 36 (0, 0)) (by (with_reducible repeat (first | refine bN19 ?_ _ | refine bD19 ?_ | refine bK19 ?_ _)); exact BK188.out) hb)
        have n1_ := aM19 (below_step (by repeat (first | (with_reducible first | exact HB.out | apply below_alloc | apply pw_below_drewN | apply below_drew1 | refine below_set ?_ GE188.out) | exact HB.out)) hb)
        have n2_ := aM19 (hbox)
        have n3_ := aM19 ((by rw [hg]; exact (below_size (by repeat (first | (with_reducible first | exact HB.out | apply below_alloc | apply pw_below_drewN | apply below_drew1 | refine below_set ?_ GE188.out) | exact HB.out))) : w.heap.size ≤ gb196))
        have n4_ := aM19 ((by rw [hg]; exact (below_size (by repeat (first | (with_reducible first | exact HB.out | apply below_alloc | apply pw_below_drewN | apply below_drew1 | refine below_set ?_ GE188.out) | exact HB.out))) : w.heap.size ≤ gb196))
        have n5_ := aM19 ((by rw [hg]; exact Nat.ne_of_lt (blk_lt (g := gb188) (o := .cells #[.int .i64 a0_0, .int .i64 a0_1, .int .i64 a0_2, .slice A0_3 l0_3.length c0_3, .int .i64 a0_4, .int .i64 a0_5, .int .i64 a0_6, .int .i64 a0_7, .int .i64 a0_8, .int .i64 a0_9, .int .i64 a0_10, .int .u8 a0_11] 36 (0, 0)) (by (with_reducible repeat (first | refine bN19 ?_ _ | refine bD19 ?_ | refine bK19 ?_ _)); exact BK188.out)) : gb188 ≠ gb196))
        have n6_ := aM19 ((by rw [hg]; exact Nat.ne_of_gt (blk_lt (g := gb188) (o := .cells #[.int .i64 a0_0, .int .i64 a0_1, .int .i64 a0_2, .slice A0_3 l0_3.length c0_3, .int .i64 a0_4, .int .i64 a0_5, .int .i64 a0_6, .int .i64 a0_7, .int .i64 a0_8, .int .i64 a0_9, .int .i64 a0_10, .int .u8 a0_11] 36 (0, 0)) (by (with_reducible repeat (first | refine bN19 ?_ _ | refine bD19 ?_ | refine bK19 ?_ _)); exact BK188.out)) : gb196 ≠ gb188))
        clear BK188
        clear HB
        have BK188 := n0_
        have HB := n1_
        have BK196 := n2_
        have GW196 := n3_
        have GE196 := n4_
        have NB188_196 := n5_
        have NB196_188 := n6_
        clear n0_ n1_ n2_ n3_ n4_ n5_ n6_
        clear hb hbox hg
        refine hK.out _ _ ⟨(bC19 BK188.out 0).trans rfl, (bC19 BK188.out 1).trans rfl, (bC19 BK188.out 2).trans rfl, (bC19 BK188.out 3).trans rfl, (bC19 BK188.out 4).trans rfl, (bC19 BK188.out 5).trans rfl, (bC19 BK188.out 6).trans rfl, (bC19 BK188.out 7).trans rfl, (bC19 BK188.out 8).trans rfl, (bC19 BK188.out 9).trans rfl, (bC19 BK188.out 10).trans rfl, (bC19 BK188.out 11).trans rfl⟩ (fun hHeld => ?_)
        clear hK K
        refine norm_ (a' := ?_) ?_ ?_
        rotate_left
        ·
         show Act.put _ (some 4) _ = _
         simp only [Act.put, sA, sB, sC, i64_w, i32_w]
         rfl
        exact norm_ (by first | (simp only [putAll, Act.put, List.setIfInBounds_toArray, List.set_cons_zero, List.set_cons_succ]; done) | (simp only [putAll, Act.put, List.setIfInBounds_toArray, List.set_cons_zero, List.set_cons_succ]; rfl)) (hJ11 (gb196) _ ⟨hHeld, (by (with_reducible repeat (first | refine bN19 ?_ _ | refine bD19 ?_ | refine bK19 ?_ _)); exact BK188.out), (by (with_reducible repeat (first | refine bN19 ?_ _ | refine bD19 ?_ | refine bK19 ?_ _)); exact BK196.out), GW196.out, GE196.out, NB188_196.out, NB196_188.out, (by repeat (first | (with_reducible first | exact HB.out | apply below_alloc | apply pw_below_drewN | apply below_drew1 | refine below_set ?_ GE188.out | refine below_set ?_ GE196.out) | exact HB.out))⟩)
       skip
       rintro gb196 w193 ⟨hS_, h0_, h1_, h2_, h3_, h4_, h5_, h6_⟩
       have n0_ : Aside0 (w193.heap[gb188]? = some (.cells #[.int .i64 a0_0, .int .i64 a0_1, .int .i64 a0_2, .slice A0_3 l0_3.length c0_3, .int .i64 a0_4, .int .i64 a0_5, .int .i64 a0_6, .int .i64 a0_7, .int .i64 a0_8, .int .i64 a0_9, .int .i64 a0_10, .int .u8 a0_11] 36 (0, 0))) := ⟨h0_⟩
       have n1_ : Aside0 (w193.heap[gb196]? = some (.cells #[.int .i64 0, .int .i64 0, .int .i64 0, .int .i64 0, .int .i64 0, .int .i64 0] 27 (0, 0))) := ⟨h1_⟩
       have n2_ : Aside0 (w.heap.size ≤ gb196) := ⟨h2_⟩
       have n3_ : Aside0 (w.heap.size ≤ gb196) := ⟨h3_⟩
       have n4_ : Aside0 (gb188 ≠ gb196) := ⟨h4_⟩
       have n5_ : Aside0 (gb196 ≠ gb188) := ⟨h5_⟩
       have n6_ : Aside0 (Below w.heap.size w w193) := ⟨h6_⟩
       clear BK188
       clear HB
       clear h0_ h1_ h2_ h3_ h4_ h5_ h6_
       have BK188 := n0_
       have BK196 := n1_
       have GW196 := n2_
       have GE196 := n3_
       have NB188_196 := n4_
       have NB196_188 := n5_
       have HB := n6_
       clear n0_ n1_ n2_ n3_ n4_ n5_ n6_
       have hHeld : w193.cell? ⟨gb188, 0, none⟩ = some (.int .i64 a0_0) ∧ w193.cell? ⟨gb188, 1, none⟩ = some (.int .i64 a0_1) ∧ w193.cell? ⟨gb188, 2, none⟩ = some (.int .i64 a0_2) ∧ w193.cell? ⟨gb188, 3, none⟩ = some (.slice A0_3 l0_3.length c0_3) ∧ w193.cell? ⟨gb188, 4, none⟩ = some (.int .i64 a0_4) ∧ w193.cell? ⟨gb188, 5, none⟩ = some (.int .i64 a0_5) ∧ w193.cell? ⟨gb188, 6, none⟩ = some (.int .i64 a0_6) ∧ w193.cell? ⟨gb188, 7, none⟩ = some (.int .i64 a0_7) ∧ w193.cell? ⟨gb188, 8, none⟩ = some (.int .i64 a0_8) ∧ w193.cell? ⟨gb188, 9, none⟩ = some (.int .i64 a0_9) ∧ w193.cell? ⟨gb188, 10, none⟩ = some (.int .i64 a0_10) ∧ w193.cell? ⟨gb188, 11, none⟩ = some (.int .u8 a0_11) := hS_
       refine norm_ (a' := ?_) ?_ ?_
       rotate_left
       ·
        simp only [putAll, Act.put, List.setIfInBounds_toArray, List.set_cons_zero, List.set_cons_succ]
        rfl
       refine two_ (i := 2) (j := 10) (Ni := some 13) (Nj := some 3) (bA 16 3071) #[true, true, false, true, true, true, true, true, true, true, true, true, false, false, false, false] rfl rfl rfl rfl (two_of HT_.out (by kernel_rfl)) (by decide) (by decide) (fun K hK => ?_) (fun K hK => ?_)
       ·
        skip
        refine goes_ Try.func11 (by kernel_rfl) rfl #[.agg #[.int .i64 a0_0, .int .i64 a0_1, .int .i64 a0_2, .slice A0_3 l0_3.length c0_3]] (by rfl) rfl rfl (by (try simp only [List.map_toArray, List.map_cons, List.map_nil]); first | done | rfl | (simp only [List.length_drop, List.length_take]; rfl)) ?_
        with_reducible refine (bivouaclaw16_few.calls a0_0 a0_1 a0_2 (fun k_ => k_ < w.heap.size) _ _ l0_3 t189 t190 t191 t192 _ ?side1 A2.out).mono ?_
        (case side1 => exact Kd.V_mk HC0_3.out (Kd.F_below (Kd.C_F (Kd.heap_int .u8) HR0_3.out) (by repeat (first | (with_reducible first | exact HB.out | apply below_alloc | apply pw_below_drewN | apply below_drew1 | refine below_set ?_ GE188.out | refine below_set ?_ GE196.out) | exact HB.out))))
        rintro e w194 ⟨v193, rfl, ho0, hb⟩
        refine ⟨_, rfl, ?_⟩
        have n0_ := aM19 (Kd.V_lower (Kd.V_mono (ok' := fun k_ => k_ ≠ gb188 ∧ k_ ≠ gb196) ho0 (fun k_ hk_ => ⟨Or.elim hk_ (fun hs_ => fun e_ => Nat.not_le.2 hs_ (by rw [e_]; exact GW188.out)) (fun hn_ => (Kd.freshB (g := gb188) (o := .cells #[.int .i64 a0_0, .int .i64 a0_1, .int .i64 a0_2, .slice A0_3 l0_3.length c0_3, .int .i64 a0_4, .int .i64 a0_5, .int .i64 a0_6, .int .i64 a0_7, .int .i64 a0_8, .int .i64 a0_9, .int .i64 a0_10, .int .u8 a0_11] 36 (0, 0)) (by (with_reducible repeat (first | refine bN19 ?_ _ | refine bD19 ?_ | refine bK19 ?_ _)); exact BK188.out) k_ hn_)), Or.elim hk_ (fun hs_ => fun e_ => Nat.not_le.2 hs_ (by rw [e_]; exact GW196.out)) (fun hn_ => (Kd.freshB (g := gb196) (o := .cells #[.int .i64 0, .int .i64 0, .int .i64 0, .int .i64 0, .int .i64 0, .int .i64 0] 27 (0, 0)) (by (with_reducible repeat (first | refine bN19 ?_ _ | refine bD19 ?_ | refine bK19 ?_ _)); exact BK196.out) k_ hn_))⟩)) (below_size (by repeat (first | (with_reducible first | exact HB.out | apply below_alloc | apply pw_below_drewN | apply below_drew1 | refine below_set ?_ GE188.out | refine below_set ?_ GE196.out) | exact HB.out))))
        have n1_ := aM19 (blk_below (g := gb188) (o := .cells #[.int .i64 a0_0, .int .i64 a0_1, .int .i64 a0_2, .slice A0_3 l0_3.length c0_3, .int .i64 a0_4, .int .i64 a0_5, .int .i64 a0_6, .int .i64 a0_7, .int .i64 a0_8, .int .i64 a0_9, .int .i64 a0_10, .int .u8 a0_11] 36 (0, 0)) (by (with_reducible repeat (first | refine bN19 ?_ _ | refine bD19 ?_ | refine bK19 ?_ _)); exact BK188.out) hb)
        have n2_ := aM19 (blk_below (g := gb196) (o := .cells #[.int .i64 0, .int .i64 0, .int .i64 0, .int .i64 0, .int .i64 0, .int .i64 0] 27 (0, 0)) (by (with_reducible repeat (first | refine bN19 ?_ _ | refine bD19 ?_ | refine bK19 ?_ _)); exact BK196.out) hb)
        have n3_ := aM19 (below_step (by repeat (first | (with_reducible first | exact HB.out | apply below_alloc | apply pw_below_drewN | apply below_drew1 | refine below_set ?_ GE188.out | refine below_set ?_ GE196.out) | exact HB.out)) hb)
        clear BK188
        clear BK196
        clear HB
        have HO194 := n0_
        have BK188 := n1_
        have BK196 := n2_
        have HB := n3_
        clear n0_ n1_ n2_ n3_
        (try clear hb)
        (try clear hb2)
        (try clear hk)
        (try clear hi)
        (try clear ho0)
        refine hK.out _ _ ⟨(bC19 BK188.out 0).trans rfl, (bC19 BK188.out 1).trans rfl, (bC19 BK188.out 2).trans rfl, (bC19 BK188.out 3).trans rfl, (bC19 BK188.out 4).trans rfl, (bC19 BK188.out 5).trans rfl, (bC19 BK188.out 6).trans rfl, (bC19 BK188.out 7).trans rfl, (bC19 BK188.out 8).trans rfl, (bC19 BK188.out 9).trans rfl, (bC19 BK188.out 10).trans rfl, (bC19 BK188.out 11).trans rfl⟩ (fun hHeld => ?_)
        clear hK K
        refine norm_ (a' := ?_) ?_ ?_
        rotate_left
        ·
         show Act.put _ (some 13) _ = _
         simp only [Act.put, sA, sB, sC, i64_w, i32_w]
         rfl
        exact norm_ (by first | (simp only [putAll, Act.put, List.setIfInBounds_toArray, List.set_cons_zero, List.set_cons_succ]; done) | (simp only [putAll, Act.put, List.setIfInBounds_toArray, List.set_cons_zero, List.set_cons_succ]; rfl)) (hJ2_11 (v193, gb196) _ ⟨hHeld, (by (with_reducible repeat (first | apply Kd.V_alloc | apply Kd.V_drewN | apply Kd.V_drew)); exact HO194.out), (by (with_reducible repeat (first | refine bN19 ?_ _ | refine bD19 ?_ | refine bK19 ?_ _)); exact BK188.out), (by (with_reducible repeat (first | refine bN19 ?_ _ | refine bD19 ?_ | refine bK19 ?_ _)); exact BK196.out), GW196.out, GE196.out, NB188_196.out, NB196_188.out, (by repeat (first | (with_reducible first | exact HB.out | apply below_alloc | apply pw_below_drewN | apply below_drew1 | refine below_set ?_ GE188.out | refine below_set ?_ GE196.out) | exact HB.out))⟩)
       skip
       refine box_step ?hg (N := 3) ?hd (cs := #[.int .i64 0, .int .i64 0, .int .i64 0, .slice none 0 0]) (t := 25) ?hr ?_; (case hd => rfl); (case hg => rfl); (case hr => first | (go_simp; done) | (go_simp; rfl))
       intro gb195 hg w194 hbox hb
       have n0_ := aM19 (blk_below (g := gb188) (o := .cells #[.int .i64 a0_0, .int .i64 a0_1, .int .i64 a0_2, .slice A0_3 l0_3.length c0_3, .int .i64 a0_4, .int .i64 a0_5, .int .i64 a0_6, .int .i64 a0_7, .int .i64 a0_8, .int .i64 a0_9, .int .i64 a0_10, .int .u8 a0_11] 36 (0, 0)) (by (with_reducible repeat (first | refine bN19 ?_ _ | refine bD19 ?_ | refine bK19 ?_ _)); exact BK188.out) hb)
       have n1_ := aM19 (blk_below (g := gb196) (o := .cells #[.int .i64 0, .int .i64 0, .int .i64 0, .int .i64 0, .int .i64 0, .int .i64 0] 27 (0, 0)) (by (with_reducible repeat (first | refine bN19 ?_ _ | refine bD19 ?_ | refine bK19 ?_ _)); exact BK196.out) hb)
       have n2_ := aM19 (below_step (by repeat (first | (with_reducible first | exact HB.out | apply below_alloc | apply pw_below_drewN | apply below_drew1 | refine below_set ?_ GE188.out | refine below_set ?_ GE196.out) | exact HB.out)) hb)
       have n3_ := aM19 (hbox)
       have n4_ := aM19 ((by rw [hg]; exact (below_size (by repeat (first | (with_reducible first | exact HB.out | apply below_alloc | apply pw_below_drewN | apply below_drew1 | refine below_set ?_ GE188.out | refine below_set ?_ GE196.out) | exact HB.out))) : w.heap.size ≤ gb195))
       have n5_ := aM19 ((by rw [hg]; exact (below_size (by repeat (first | (with_reducible first | exact HB.out | apply below_alloc | apply pw_below_drewN | apply below_drew1 | refine below_set ?_ GE188.out | refine below_set ?_ GE196.out) | exact HB.out))) : w.heap.size ≤ gb195))
       have n6_ := aM19 ((by rw [hg]; exact Nat.ne_of_lt (blk_lt (g := gb188) (o := .cells #[.int .i64 a0_0, .int .i64 a0_1, .int .i64 a0_2, .slice A0_3 l0_3.length c0_3, .int .i64 a0_4, .int .i64 a0_5, .int .i64 a0_6, .int .i64 a0_7, .int .i64 a0_8, .int .i64 a0_9, .int .i64 a0_10, .int .u8 a0_11] 36 (0, 0)) (by (with_reducible repeat (first | refine bN19 ?_ _ | refine bD19 ?_ | refine bK19 ?_ _)); exact BK188.out)) : gb188 ≠ gb195))
       have n7_ := aM19 ((by rw [hg]; exact Nat.ne_of_gt (blk_lt (g := gb188) (o := .cells #[.int .i64 a0_0, .int .i64 a0_1, .int .i64 a0_2, .slice A0_3 l0_3.length c0_3, .int .i64 a0_4, .int .i64 a0_5, .int .i64 a0_6, .int .i64 a0_7, .int .i64 a0_8, .int .i64 a0_9, .int .i64 a0_10, .int .u8 a0_11] 36 (0, 0)) (by (with_reducible repeat (first | refine bN19 ?_ _ | refine bD19 ?_ | refine bK19 ?_ _)); exact BK188.out)) : gb195 ≠ gb188))
       have n8_ := aM19 ((by rw [hg]; exact Nat.ne_of_lt (blk_lt (g := gb196) (o := .cells #[.int .i64 0, .int .i64 0, .int .i64 0, .int .i64 0, .int .i64 0, .int .i64 0] 27 (0, 0)) (by (with_reducible repeat (first | refine bN19 ?_ _ | refine bD19 ?_ | refine bK19 ?_ _)); exact BK196.out)) : gb196 ≠ gb195))
       have n9_ := aM19 ((by rw [hg]; exact Nat.ne_of_gt (blk_lt (g := gb196) (o := .cells #[.int .i64 0, .int .i64 0, .int .i64 0, .int .i64 0, .int .i64 0, .int .i64 0] 27 (0, 0)) (by (with_reducible repeat (first | refine bN19 ?_ _ | refine bD19 ?_ | refine bK19 ?_ _)); exact BK196.out)) : gb195 ≠ gb196))
       clear BK188
       clear BK196
       clear HB
       have BK188 := n0_
       have BK196 := n1_
       have HB := n2_
       have BK195 := n3_
       have GW195 := n4_
       have GE195 := n5_
       have NB188_195 := n6_
       have NB195_188 := n7_
       have NB196_195 := n8_
       have NB195_196 := n9_
       clear n0_ n1_ n2_ n3_ n4_ n5_ n6_ n7_ n8_ n9_
       clear hb hbox hg
       refine hK.out _ _ ⟨(bC19 BK188.out 0).trans rfl, (bC19 BK188.out 1).trans rfl, (bC19 BK188.out 2).trans rfl, (bC19 BK188.out 3).trans rfl, (bC19 BK188.out 4).trans rfl, (bC19 BK188.out 5).trans rfl, (bC19 BK188.out 6).trans rfl, (bC19 BK188.out 7).trans rfl, (bC19 BK188.out 8).trans rfl, (bC19 BK188.out 9).trans rfl, (bC19 BK188.out 10).trans rfl, (bC19 BK188.out 11).trans rfl⟩ (fun hHeld => ?_)
       clear hK K
       refine norm_ (a' := ?_) ?_ ?_
       rotate_left
       ·
        show Act.put _ (some 3) _ = _
        simp only [Act.put, sA, sB, sC, i64_w, i32_w]
        rfl
       exact norm_ (by first | (simp only [putAll, Act.put, List.setIfInBounds_toArray, List.set_cons_zero, List.set_cons_succ]; done) | (simp only [putAll, Act.put, List.setIfInBounds_toArray, List.set_cons_zero, List.set_cons_succ]; rfl)) (hJ10_11 (gb195, gb196) _ ⟨hHeld, (by (with_reducible repeat (first | refine bN19 ?_ _ | refine bD19 ?_ | refine bK19 ?_ _)); exact BK188.out), (by (with_reducible repeat (first | refine bN19 ?_ _ | refine bD19 ?_ | refine bK19 ?_ _)); exact BK195.out), (by (with_reducible repeat (first | refine bN19 ?_ _ | refine bD19 ?_ | refine bK19 ?_ _)); exact BK196.out), GW195.out, GE195.out, NB188_195.out, NB195_188.out, NB196_195.out, NB195_196.out, GW196.out, GE196.out, NB188_196.out, NB196_188.out, (by repeat (first | (with_reducible first | exact HB.out | apply below_alloc | apply pw_below_drewN | apply below_drew1 | refine below_set ?_ GE188.out | refine below_set ?_ GE196.out | refine below_set ?_ GE195.out) | exact HB.out))⟩)
      skip
      rintro gb195 w193 ⟨hS_, h0_, h1_, h2_, h3_, h4_, h5_, h6_⟩
      have n0_ : Aside0 (w193.heap[gb188]? = some (.cells #[.int .i64 a0_0, .int .i64 a0_1, .int .i64 a0_2, .slice A0_3 l0_3.length c0_3, .int .i64 a0_4, .int .i64 a0_5, .int .i64 a0_6, .int .i64 a0_7, .int .i64 a0_8, .int .i64 a0_9, .int .i64 a0_10, .int .u8 a0_11] 36 (0, 0))) := ⟨h0_⟩
      have n1_ : Aside0 (w193.heap[gb195]? = some (.cells #[.int .i64 0, .int .i64 0, .int .i64 0, .slice none 0 0] 25 (0, 0))) := ⟨h1_⟩
      have n2_ : Aside0 (w.heap.size ≤ gb195) := ⟨h2_⟩
      have n3_ : Aside0 (w.heap.size ≤ gb195) := ⟨h3_⟩
      have n4_ : Aside0 (gb188 ≠ gb195) := ⟨h4_⟩
      have n5_ : Aside0 (gb195 ≠ gb188) := ⟨h5_⟩
      have n6_ : Aside0 (Below w.heap.size w w193) := ⟨h6_⟩
      clear BK188
      clear HB
      clear h0_ h1_ h2_ h3_ h4_ h5_ h6_
      have BK188 := n0_
      have BK195 := n1_
      have GW195 := n2_
      have GE195 := n3_
      have NB188_195 := n4_
      have NB195_188 := n5_
      have HB := n6_
      clear n0_ n1_ n2_ n3_ n4_ n5_ n6_
      have hHeld : w193.cell? ⟨gb188, 0, none⟩ = some (.int .i64 a0_0) ∧ w193.cell? ⟨gb188, 1, none⟩ = some (.int .i64 a0_1) ∧ w193.cell? ⟨gb188, 2, none⟩ = some (.int .i64 a0_2) ∧ w193.cell? ⟨gb188, 3, none⟩ = some (.slice A0_3 l0_3.length c0_3) ∧ w193.cell? ⟨gb188, 4, none⟩ = some (.int .i64 a0_4) ∧ w193.cell? ⟨gb188, 5, none⟩ = some (.int .i64 a0_5) ∧ w193.cell? ⟨gb188, 6, none⟩ = some (.int .i64 a0_6) ∧ w193.cell? ⟨gb188, 7, none⟩ = some (.int .i64 a0_7) ∧ w193.cell? ⟨gb188, 8, none⟩ = some (.int .i64 a0_8) ∧ w193.cell? ⟨gb188, 9, none⟩ = some (.int .i64 a0_9) ∧ w193.cell? ⟨gb188, 10, none⟩ = some (.int .i64 a0_10) ∧ w193.cell? ⟨gb188, 11, none⟩ = some (.int .u8 a0_11) := hS_
      refine norm_ (a' := ?_) ?_ ?_
      rotate_left
      ·
       simp only [putAll, Act.put, List.setIfInBounds_toArray, List.set_cons_zero, List.set_cons_succ]
       rfl
      refine two_ (i := 2) (j := 11) (Ni := some 13) (Nj := some 4) (bA 16 2047) #[true, true, false, true, true, true, true, true, true, true, true, true, false, false, false, false] rfl rfl rfl rfl (two_of HT_.out (by kernel_rfl)) (by decide) (by decide) (fun K hK => ?_) (fun K hK => ?_)
      ·
       skip
       refine goes_ Try.func11 (by kernel_rfl) rfl #[.agg #[.int .i64 a0_0, .int .i64 a0_1, .int .i64 a0_2, .slice A0_3 l0_3.length c0_3]] (by rfl) rfl rfl (by (try simp only [List.map_toArray, List.map_cons, List.map_nil]); first | done | rfl | (simp only [List.length_drop, List.length_take]; rfl)) ?_
       with_reducible refine (bivouaclaw16_few.calls a0_0 a0_1 a0_2 (fun k_ => k_ < w.heap.size) _ _ l0_3 t189 t190 t191 t192 _ ?side1 A2.out).mono ?_
       (case side1 => exact Kd.V_mk HC0_3.out (Kd.F_below (Kd.C_F (Kd.heap_int .u8) HR0_3.out) (by repeat (first | (with_reducible first | exact HB.out | apply below_alloc | apply pw_below_drewN | apply below_drew1 | refine below_set ?_ GE188.out | refine below_set ?_ GE195.out) | exact HB.out))))
       rintro e w194 ⟨v193, rfl, ho0, hb⟩
       refine ⟨_, rfl, ?_⟩
       have n0_ := aM19 (Kd.V_lower (Kd.V_mono (ok' := fun k_ => k_ ≠ gb188 ∧ k_ ≠ gb195) ho0 (fun k_ hk_ => ⟨Or.elim hk_ (fun hs_ => fun e_ => Nat.not_le.2 hs_ (by rw [e_]; exact GW188.out)) (fun hn_ => (Kd.freshB (g := gb188) (o := .cells #[.int .i64 a0_0, .int .i64 a0_1, .int .i64 a0_2, .slice A0_3 l0_3.length c0_3, .int .i64 a0_4, .int .i64 a0_5, .int .i64 a0_6, .int .i64 a0_7, .int .i64 a0_8, .int .i64 a0_9, .int .i64 a0_10, .int .u8 a0_11] 36 (0, 0)) (by (with_reducible repeat (first | refine bN19 ?_ _ | refine bD19 ?_ | refine bK19 ?_ _)); exact BK188.out) k_ hn_)), Or.elim hk_ (fun hs_ => fun e_ => Nat.not_le.2 hs_ (by rw [e_]; exact GW195.out)) (fun hn_ => (Kd.freshB (g := gb195) (o := .cells #[.int .i64 0, .int .i64 0, .int .i64 0, .slice none 0 0] 25 (0, 0)) (by (with_reducible repeat (first | refine bN19 ?_ _ | refine bD19 ?_ | refine bK19 ?_ _)); exact BK195.out) k_ hn_))⟩)) (below_size (by repeat (first | (with_reducible first | exact HB.out | apply below_alloc | apply pw_below_drewN | apply below_drew1 | refine below_set ?_ GE188.out | refine below_set ?_ GE195.out) | exact HB.out))))
       have n1_ := aM19 (blk_below (g := gb188) (o := .cells #[.int .i64 a0_0, .int .i64 a0_1, .int .i64 a0_2, .slice A0_3 l0_3.length c0_3, .int .i64 a0_4, .int .i64 a0_5, .int .i64 a0_6, .int .i64 a0_7, .int .i64 a0_8, .int .i64 a0_9, .int .i64 a0_10, .int .u8 a0_11] 36 (0, 0)) (by (with_reducible repeat (first | refine bN19 ?_ _ | refine bD19 ?_ | refine bK19 ?_ _)); exact BK188.out) hb)
       have n2_ := aM19 (blk_below (g := gb195) (o := .cells #[.int .i64 0, .int .i64 0, .int .i64 0, .slice none 0 0] 25 (0, 0)) (by (with_reducible repeat (first | refine bN19 ?_ _ | refine bD19 ?_ | refine bK19 ?_ _)); exact BK195.out) hb)
       have n3_ := aM19 (below_step (by repeat (first | (with_reducible first | exact HB.out | apply below_alloc | apply pw_below_drewN | apply below_drew1 | refine below_set ?_ GE188.out | refine below_set ?_ GE195.out) | exact HB.out)) hb)
       clear BK188
       clear BK195
       clear HB
       have HO194 := n0_
       have BK188 := n1_
       have BK195 := n2_
       have HB := n3_
       clear n0_ n1_ n2_ n3_
       (try clear hb)
       (try clear hb2)
       (try clear hk)
       (try clear hi)
       (try clear ho0)
       refine hK.out _ _ ⟨(bC19 BK188.out 0).trans rfl, (bC19 BK188.out 1).trans rfl, (bC19 BK188.out 2).trans rfl, (bC19 BK188.out 3).trans rfl, (bC19 BK188.out 4).trans rfl, (bC19 BK188.out 5).trans rfl, (bC19 BK188.out 6).trans rfl, (bC19 BK188.out 7).trans rfl, (bC19 BK188.out 8).trans rfl, (bC19 BK188.out 9).trans rfl, (bC19 BK188.out 10).trans rfl, (bC19 BK188.out 11).trans rfl⟩ (fun hHeld => ?_)
       clear hK K
       refine norm_ (a' := ?_) ?_ ?_
       rotate_left
       ·
        show Act.put _ (some 13) _ = _
        simp only [Act.put, sA, sB, sC, i64_w, i32_w]
        rfl
       exact norm_ (by first | (simp only [putAll, Act.put, List.setIfInBounds_toArray, List.set_cons_zero, List.set_cons_succ]; done) | (simp only [putAll, Act.put, List.setIfInBounds_toArray, List.set_cons_zero, List.set_cons_succ]; rfl)) (hJ2_10 (v193, gb195) _ ⟨hHeld, (by (with_reducible repeat (first | apply Kd.V_alloc | apply Kd.V_drewN | apply Kd.V_drew)); exact HO194.out), (by (with_reducible repeat (first | refine bN19 ?_ _ | refine bD19 ?_ | refine bK19 ?_ _)); exact BK188.out), (by (with_reducible repeat (first | refine bN19 ?_ _ | refine bD19 ?_ | refine bK19 ?_ _)); exact BK195.out), GW195.out, GE195.out, NB188_195.out, NB195_188.out, (by repeat (first | (with_reducible first | exact HB.out | apply below_alloc | apply pw_below_drewN | apply below_drew1 | refine below_set ?_ GE188.out | refine below_set ?_ GE195.out) | exact HB.out))⟩)
      skip
      refine box_step ?hg (N := 4) ?hd (cs := #[.int .i64 0, .int .i64 0, .int .i64 0, .int .i64 0, .int .i64 0, .int .i64 0]) (t := 27) ?hr ?_; (case hd => rfl); (case hg => rfl); (case hr => first | (go_simp; done) | (go_simp; rfl))
      intro gb196 hg w194 hbox hb
      have n0_ := aM19 (blk_below (g := gb188) (o := .cells #[.int .i64 a0_0, .int .i64 a0_1, .int .i64 a0_2, .slice A0_3 l0_3.length c0_3, .int .i64 a0_4, .int .i64 a0_5, .int .i64 a0_6, .int .i64 a0_7, .int .i64 a0_8, .int .i64 a0_9, .int .i64 a0_10, .int .u8 a0_11] 36 (0, 0)) (by (with_reducible repeat (first | refine bN19 ?_ _ | refine bD19 ?_ | refine bK19 ?_ _)); exact BK188.out) hb)
      have n1_ := aM19 (blk_below (g := gb195) (o := .cells #[.int .i64 0, .int .i64 0, .int .i64 0, .slice none 0 0] 25 (0, 0)) (by (with_reducible repeat (first | refine bN19 ?_ _ | refine bD19 ?_ | refine bK19 ?_ _)); exact BK195.out) hb)
      have n2_ := aM19 (below_step (by repeat (first | (with_reducible first | exact HB.out | apply below_alloc | apply pw_below_drewN | apply below_drew1 | refine below_set ?_ GE188.out | refine below_set ?_ GE195.out) | exact HB.out)) hb)
      have n3_ := aM19 (hbox)
      have n4_ := aM19 ((by rw [hg]; exact (below_size (by repeat (first | (with_reducible first | exact HB.out | apply below_alloc | apply pw_below_drewN | apply below_drew1 | refine below_set ?_ GE188.out | refine below_set ?_ GE195.out) | exact HB.out))) : w.heap.size ≤ gb196))
      have n5_ := aM19 ((by rw [hg]; exact (below_size (by repeat (first | (with_reducible first | exact HB.out | apply below_alloc | apply pw_below_drewN | apply below_drew1 | refine below_set ?_ GE188.out | refine below_set ?_ GE195.out) | exact HB.out))) : w.heap.size ≤ gb196))
      have n6_ := aM19 ((by rw [hg]; exact Nat.ne_of_lt (blk_lt (g := gb188) (o := .cells #[.int .i64 a0_0, .int .i64 a0_1, .int .i64 a0_2, .slice A0_3 l0_3.length c0_3, .int .i64 a0_4, .int .i64 a0_5, .int .i64 a0_6, .int .i64 a0_7, .int .i64 a0_8, .int .i64 a0_9, .int .i64 a0_10, .int .u8 a0_11] 36 (0, 0)) (by (with_reducible repeat (first | refine bN19 ?_ _ | refine bD19 ?_ | refine bK19 ?_ _)); exact BK188.out)) : gb188 ≠ gb196))
      have n7_ := aM19 ((by rw [hg]; exact Nat.ne_of_gt (blk_lt (g := gb188) (o := .cells #[.int .i64 a0_0, .int .i64 a0_1, .int .i64 a0_2, .slice A0_3 l0_3.length c0_3, .int .i64 a0_4, .int .i64 a0_5, .int .i64 a0_6, .int .i64 a0_7, .int .i64 a0_8, .int .i64 a0_9, .int .i64 a0_10, .int .u8 a0_11] 36 (0, 0)) (by (with_reducible repeat (first | refine bN19 ?_ _ | refine bD19 ?_ | refine bK19 ?_ _)); exact BK188.out)) : gb196 ≠ gb188))
      have n8_ := aM19 ((by rw [hg]; exact Nat.ne_of_lt (blk_lt (g := gb195) (o := .cells #[.int .i64 0, .int .i64 0, .int .i64 0, .slice none 0 0] 25 (0, 0)) (by (with_reducible repeat (first | refine bN19 ?_ _ | refine bD19 ?_ | refine bK19 ?_ _)); exact BK195.out)) : gb195 ≠ gb196))
      have n9_ := aM19 ((by rw [hg]; exact Nat.ne_of_gt (blk_lt (g := gb195) (o := .cells #[.int .i64 0, .int .i64 0, .int .i64 0, .slice none 0 0] 25 (0, 0)) (by (with_reducible repeat (first | refine bN19 ?_ _ | refine bD19 ?_ | refine bK19 ?_ _)); exact BK195.out)) : gb196 ≠ gb195))
      clear BK188
      clear BK195
      clear HB
      have BK188 := n0_
      have BK195 := n1_
      have HB := n2_
      have BK196 := n3_
      have GW196 := n4_
      have GE196 := n5_
      have NB188_196 := n6_
      have NB196_188 := n7_
      have NB195_196 := n8_
      have NB196_195 := n9_
      clear n0_ n1_ n2_ n3_ n4_ n5_ n6_ n7_ n8_ n9_
      clear hb hbox hg
      refine hK.out _ _ ⟨(bC19 BK188.out 0).trans rfl, (bC19 BK188.out 1).trans rfl, (bC19 BK188.out 2).trans rfl, (bC19 BK188.out 3).trans rfl, (bC19 BK188.out 4).trans rfl, (bC19 BK188.out 5).trans rfl, (bC19 BK188.out 6).trans rfl, (bC19 BK188.out 7).trans rfl, (bC19 BK188.out 8).trans rfl, (bC19 BK188.out 9).trans rfl, (bC19 BK188.out 10).trans rfl, (bC19 BK188.out 11).trans rfl⟩ (fun hHeld => ?_)
      clear hK K
      refine norm_ (a' := ?_) ?_ ?_
      rotate_left
      ·
       show Act.put _ (some 4) _ = _
       simp only [Act.put, sA, sB, sC, i64_w, i32_w]
       rfl
      exact norm_ (by first | (simp only [putAll, Act.put, List.setIfInBounds_toArray, List.set_cons_zero, List.set_cons_succ]; done) | (simp only [putAll, Act.put, List.setIfInBounds_toArray, List.set_cons_zero, List.set_cons_succ]; rfl)) (hJ10_11 (gb195, gb196) _ ⟨hHeld, (by (with_reducible repeat (first | refine bN19 ?_ _ | refine bD19 ?_ | refine bK19 ?_ _)); exact BK188.out), (by (with_reducible repeat (first | refine bN19 ?_ _ | refine bD19 ?_ | refine bK19 ?_ _)); exact BK195.out), (by (with_reducible repeat (first | refine bN19 ?_ _ | refine bD19 ?_ | refine bK19 ?_ _)); exact BK196.out), GW195.out, GE195.out, NB188_195.out, NB195_188.out, NB196_195.out, NB195_196.out, GW196.out, GE196.out, NB188_196.out, NB196_188.out, (by repeat (first | (with_reducible first | exact HB.out | apply below_alloc | apply pw_below_drewN | apply below_drew1 | refine below_set ?_ GE188.out | refine below_set ?_ GE195.out | refine below_set ?_ GE196.out) | exact HB.out))⟩)
     skip
     rintro v193 w193 ⟨hS_, h0_, h1_, h2_⟩
     have n0_ : Aside0 (Kd.V (Kd.int .u8) 5 w193 w.heap.size (fun k_ => k_ ≠ gb188) v193 t192) := ⟨h0_⟩
     have n1_ : Aside0 (w193.heap[gb188]? = some (.cells #[.int .i64 a0_0, .int .i64 a0_1, .int .i64 a0_2, .slice A0_3 l0_3.length c0_3, .int .i64 a0_4, .int .i64 a0_5, .int .i64 a0_6, .int .i64 a0_7, .int .i64 a0_8, .int .i64 a0_9, .int .i64 a0_10, .int .u8 a0_11] 36 (0, 0))) := ⟨h1_⟩
     have n2_ : Aside0 (Below w.heap.size w w193) := ⟨h2_⟩
     clear BK188
     clear HB
     clear h0_ h1_ h2_
     have HO194 := n0_
     have BK188 := n1_
     have HB := n2_
     clear n0_ n1_ n2_
     have hHeld : w193.cell? ⟨gb188, 0, none⟩ = some (.int .i64 a0_0) ∧ w193.cell? ⟨gb188, 1, none⟩ = some (.int .i64 a0_1) ∧ w193.cell? ⟨gb188, 2, none⟩ = some (.int .i64 a0_2) ∧ w193.cell? ⟨gb188, 3, none⟩ = some (.slice A0_3 l0_3.length c0_3) ∧ w193.cell? ⟨gb188, 4, none⟩ = some (.int .i64 a0_4) ∧ w193.cell? ⟨gb188, 5, none⟩ = some (.int .i64 a0_5) ∧ w193.cell? ⟨gb188, 6, none⟩ = some (.int .i64 a0_6) ∧ w193.cell? ⟨gb188, 7, none⟩ = some (.int .i64 a0_7) ∧ w193.cell? ⟨gb188, 8, none⟩ = some (.int .i64 a0_8) ∧ w193.cell? ⟨gb188, 9, none⟩ = some (.int .i64 a0_9) ∧ w193.cell? ⟨gb188, 10, none⟩ = some (.int .i64 a0_10) ∧ w193.cell? ⟨gb188, 11, none⟩ = some (.int .u8 a0_11) := hS_
     refine norm_ (a' := ?_) ?_ ?_
     rotate_left
     ·
      simp only [putAll, Act.put, List.setIfInBounds_toArray, List.set_cons_zero, List.set_cons_succ]
      rfl
     refine two_ (i := 10) (j := 11) (Ni := some 3) (Nj := some 4) (bA 16 2047) #[true, true, true, true, true, true, true, true, true, true, false, true, false, false, false, false] rfl rfl rfl rfl (two_of HT_.out (by kernel_rfl)) (by decide) (by decide) (fun K hK => ?_) (fun K hK => ?_)
     ·
      skip
      refine box_step ?hg (N := 3) ?hd (cs := #[.int .i64 0, .int .i64 0, .int .i64 0, .slice none 0 0]) (t := 25) ?hr ?_; (case hd => rfl); (case hg => rfl); (case hr => first | (go_simp; done) | (go_simp; rfl))
      intro gb195 hg w194 hbox hb
      have n0_ := aM19 (Kd.V_below (Kd.V_elderB (by (with_reducible repeat (first | apply Kd.V_alloc | apply Kd.V_drewN | apply Kd.V_drew)); exact HO194.out) gb195 (Nat.le_of_eq hg.symm)) hb)
      have n1_ := aM19 (blk_below (g := gb188) (o := .cells #[.int .i64 a0_0, .int .i64 a0_1, .int .i64 a0_2, .slice A0_3 l0_3.length c0_3, .int .i64 a0_4, .int .i64 a0_5, .int .i64 a0_6, .int .i64 a0_7, .int .i64 a0_8, .int .i64 a0_9, .int .i64 a0_10, .int .u8 a0_11] 36 (0, 0)) (by (with_reducible repeat (first | refine bN19 ?_ _ | refine bD19 ?_ | refine bK19 ?_ _)); exact BK188.out) hb)
      have n2_ := aM19 (below_step (by repeat (first | (with_reducible first | exact HB.out | apply below_alloc | apply pw_below_drewN | apply below_drew1 | refine below_set ?_ GE188.out) | exact HB.out)) hb)
      have n3_ := aM19 (hbox)
      have n4_ := aM19 ((by rw [hg]; exact (below_size (by repeat (first | (with_reducible first | exact HB.out | apply below_alloc | apply pw_below_drewN | apply below_drew1 | refine below_set ?_ GE188.out) | exact HB.out))) : w.heap.size ≤ gb195))
      have n5_ := aM19 ((by rw [hg]; exact (below_size (by repeat (first | (with_reducible first | exact HB.out | apply below_alloc | apply pw_below_drewN | apply below_drew1 | refine below_set ?_ GE188.out) | exact HB.out))) : w.heap.size ≤ gb195))
      have n6_ := aM19 ((by rw [hg]; exact Nat.ne_of_lt (blk_lt (g := gb188) (o := .cells #[.int .i64 a0_0, .int .i64 a0_1, .int .i64 a0_2, .slice A0_3 l0_3.length c0_3, .int .i64 a0_4, .int .i64 a0_5, .int .i64 a0_6, .int .i64 a0_7, .int .i64 a0_8, .int .i64 a0_9, .int .i64 a0_10, .int .u8 a0_11] 36 (0, 0)) (by (with_reducible repeat (first | refine bN19 ?_ _ | refine bD19 ?_ | refine bK19 ?_ _)); exact BK188.out)) : gb188 ≠ gb195))
      have n7_ := aM19 ((by rw [hg]; exact Nat.ne_of_gt (blk_lt (g := gb188) (o := .cells #[.int .i64 a0_0, .int .i64 a0_1, .int .i64 a0_2, .slice A0_3 l0_3.length c0_3, .int .i64 a0_4, .int .i64 a0_5, .int .i64 a0_6, .int .i64 a0_7, .int .i64 a0_8, .int .i64 a0_9, .int .i64 a0_10, .int .u8 a0_11] 36 (0, 0)) (by (with_reducible repeat (first | refine bN19 ?_ _ | refine bD19 ?_ | refine bK19 ?_ _)); exact BK188.out)) : gb195 ≠ gb188))
      clear HO194
      clear BK188
      clear HB
      have HO194 := n0_
      have BK188 := n1_
      have HB := n2_
      have BK195 := n3_
      have GW195 := n4_
      have GE195 := n5_
      have NB188_195 := n6_
      have NB195_188 := n7_
      clear n0_ n1_ n2_ n3_ n4_ n5_ n6_ n7_
      clear hb hbox hg
      refine hK.out _ _ ⟨(bC19 BK188.out 0).trans rfl, (bC19 BK188.out 1).trans rfl, (bC19 BK188.out 2).trans rfl, (bC19 BK188.out 3).trans rfl, (bC19 BK188.out 4).trans rfl, (bC19 BK188.out 5).trans rfl, (bC19 BK188.out 6).trans rfl, (bC19 BK188.out 7).trans rfl, (bC19 BK188.out 8).trans rfl, (bC19 BK188.out 9).trans rfl, (bC19 BK188.out 10).trans rfl, (bC19 BK188.out 11).trans rfl⟩ (fun hHeld => ?_)
      clear hK K
      refine norm_ (a' := ?_) ?_ ?_
      rotate_left
      ·
       show Act.put _ (some 3) _ = _
       simp only [Act.put, sA, sB, sC, i64_w, i32_w]
       rfl
      exact norm_ (by first | (simp only [putAll, Act.put, List.setIfInBounds_toArray, List.set_cons_zero, List.set_cons_succ]; done) | (simp only [putAll, Act.put, List.setIfInBounds_toArray, List.set_cons_zero, List.set_cons_succ]; rfl)) (hJ2_10 (v193, gb195) _ ⟨hHeld, (by (with_reducible repeat (first | apply Kd.V_alloc | apply Kd.V_drewN | apply Kd.V_drew)); exact HO194.out), (by (with_reducible repeat (first | refine bN19 ?_ _ | refine bD19 ?_ | refine bK19 ?_ _)); exact BK188.out), (by (with_reducible repeat (first | refine bN19 ?_ _ | refine bD19 ?_ | refine bK19 ?_ _)); exact BK195.out), GW195.out, GE195.out, NB188_195.out, NB195_188.out, (by repeat (first | (with_reducible first | exact HB.out | apply below_alloc | apply pw_below_drewN | apply below_drew1 | refine below_set ?_ GE188.out | refine below_set ?_ GE195.out) | exact HB.out))⟩)
     skip
     refine box_step ?hg (N := 4) ?hd (cs := #[.int .i64 0, .int .i64 0, .int .i64 0, .int .i64 0, .int .i64 0, .int .i64 0]) (t := 27) ?hr ?_; (case hd => rfl); (case hg => rfl); (case hr => first | (go_simp; done) | (go_simp; rfl))
     intro gb196 hg w194 hbox hb
     have n0_ := aM19 (Kd.V_below (Kd.V_elderB (by (with_reducible repeat (first | apply Kd.V_alloc | apply Kd.V_drewN | apply Kd.V_drew)); exact HO194.out) gb196 (Nat.le_of_eq hg.symm)) hb)
     have n1_ := aM19 (blk_below (g := gb188) (o := .cells #[.int .i64 a0_0, .int .i64 a0_1, .int .i64 a0_2, .slice A0_3 l0_3.length c0_3, .int .i64 a0_4, .int .i64 a0_5, .int .i64 a0_6, .int .i64 a0_7, .int .i64 a0_8, .int .i64 a0_9, .int .i64 a0_10, .int .u8 a0_11] 36 (0, 0)) (by (with_reducible repeat (first | refine bN19 ?_ _ | refine bD19 ?_ | refine bK19 ?_ _)); exact BK188.out) hb)
     have n2_ := aM19 (below_step (by repeat (first | (with_reducible first | exact HB.out | apply below_alloc | apply pw_below_drewN | apply below_drew1 | refine below_set ?_ GE188.out) | exact HB.out)) hb)
     have n3_ := aM19 (hbox)
     have n4_ := aM19 ((by rw [hg]; exact (below_size (by repeat (first | (with_reducible first | exact HB.out | apply below_alloc | apply pw_below_drewN | apply below_drew1 | refine below_set ?_ GE188.out) | exact HB.out))) : w.heap.size ≤ gb196))
     have n5_ := aM19 ((by rw [hg]; exact (below_size (by repeat (first | (with_reducible first | exact HB.out | apply below_alloc | apply pw_below_drewN | apply below_drew1 | refine below_set ?_ GE188.out) | exact HB.out))) : w.heap.size ≤ gb196))
     have n6_ := aM19 ((by rw [hg]; exact Nat.ne_of_lt (blk_lt (g := gb188) (o := .cells #[.int .i64 a0_0, .int .i64 a0_1, .int .i64 a0_2, .slice A0_3 l0_3.length c0_3, .int .i64 a0_4, .int .i64 a0_5, .int .i64 a0_6, .int .i64 a0_7, .int .i64 a0_8, .int .i64 a0_9, .int .i64 a0_10, .int .u8 a0_11] 36 (0, 0)) (by (with_reducible repeat (first | refine bN19 ?_ _ | refine bD19 ?_ | refine bK19 ?_ _)); exact BK188.out)) : gb188 ≠ gb196))
     have n7_ := aM19 ((by rw [hg]; exact Nat.ne_of_gt (blk_lt (g := gb188) (o := .cells #[.int .i64 a0_0, .int .i64 a0_1, .int .i64 a0_2, .slice A0_3 l0_3.length c0_3, .int .i64 a0_4, .int .i64 a0_5, .int .i64 a0_6, .int .i64 a0_7, .int .i64 a0_8, .int .i64 a0_9, .int .i64 a0_10, .int .u8 a0_11] 36 (0, 0)) (by (with_reducible repeat (first | refine bN19 ?_ _ | refine bD19 ?_ | refine bK19 ?_ _)); exact BK188.out)) : gb196 ≠ gb188))
     clear HO194
     clear BK188
     clear HB
     have HO194 := n0_
     have BK188 := n1_
     have HB := n2_
     have BK196 := n3_
     have GW196 := n4_
     have GE196 := n5_
     have NB188_196 := n6_
     have NB196_188 := n7_
     clear n0_ n1_ n2_ n3_ n4_ n5_ n6_ n7_
     clear hb hbox hg
     refine hK.out _ _ ⟨(bC19 BK188.out 0).trans rfl, (bC19 BK188.out 1).trans rfl, (bC19 BK188.out 2).trans rfl, (bC19 BK188.out 3).trans rfl, (bC19 BK188.out 4).trans rfl, (bC19 BK188.out 5).trans rfl, (bC19 BK188.out 6).trans rfl, (bC19 BK188.out 7).trans rfl, (bC19 BK188.out 8).trans rfl, (bC19 BK188.out 9).trans rfl, (bC19 BK188.out 10).trans rfl, (bC19 BK188.out 11).trans rfl⟩ (fun hHeld => ?_)
     clear hK K
     refine norm_ (a' := ?_) ?_ ?_
     rotate_left
     ·
      show Act.put _ (some 4) _ = _
      simp only [Act.put, sA, sB, sC, i64_w, i32_w]
      rfl
     exact norm_ (by first | (simp only [putAll, Act.put, List.setIfInBounds_toArray, List.set_cons_zero, List.set_cons_succ]; done) | (simp only [putAll, Act.put, List.setIfInBounds_toArray, List.set_cons_zero, List.set_cons_succ]; rfl)) (hJ2_11 (v193, gb196) _ ⟨hHeld, (by (with_reducible repeat (first | apply Kd.V_alloc | apply Kd.V_drewN | apply Kd.V_drew)); exact HO194.out), (by (with_reducible repeat (first | refine bN19 ?_ _ | refine bD19 ?_ | refine bK19 ?_ _)); exact BK188.out), (by (with_reducible repeat (first | refine bN19 ?_ _ | refine bD19 ?_ | refine bK19 ?_ _)); exact BK196.out), GW196.out, GE196.out, NB188_196.out, NB196_188.out, (by repeat (first | (with_reducible first | exact HB.out | apply below_alloc | apply pw_below_drewN | apply below_drew1 | refine below_set ?_ GE188.out | refine below_set ?_ GE196.out) | exact HB.out))⟩)
    skip
    rintro ⟨gb195, gb196⟩ w194 ⟨hS_, h0_, h1_, h2_, h3_, h4_, h5_, h6_, h7_, h8_, h9_, h10_, h11_, h12_, h13_⟩
    have n0_ : Aside0 (w194.heap[gb188]? = some (.cells #[.int .i64 a0_0, .int .i64 a0_1, .int .i64 a0_2, .slice A0_3 l0_3.length c0_3, .int .i64 a0_4, .int .i64 a0_5, .int .i64 a0_6, .int .i64 a0_7, .int .i64 a0_8, .int .i64 a0_9, .int .i64 a0_10, .int .u8 a0_11] 36 (0, 0))) := ⟨h0_⟩
    have n1_ : Aside0 (w194.heap[gb195]? = some (.cells #[.int .i64 0, .int .i64 0, .int .i64 0, .slice none 0 0] 25 (0, 0))) := ⟨h1_⟩
    have n2_ : Aside0 (w194.heap[gb196]? = some (.cells #[.int .i64 0, .int .i64 0, .int .i64 0, .int .i64 0, .int .i64 0, .int .i64 0] 27 (0, 0))) := ⟨h2_⟩
    have n3_ : Aside0 (w.heap.size ≤ gb195) := ⟨h3_⟩
    have n4_ : Aside0 (w.heap.size ≤ gb195) := ⟨h4_⟩
    have n5_ : Aside0 (gb188 ≠ gb195) := ⟨h5_⟩
    have n6_ : Aside0 (gb195 ≠ gb188) := ⟨h6_⟩
    have n7_ : Aside0 (gb196 ≠ gb195) := ⟨h7_⟩
    have n8_ : Aside0 (gb195 ≠ gb196) := ⟨h8_⟩
    have n9_ : Aside0 (w.heap.size ≤ gb196) := ⟨h9_⟩
    have n10_ : Aside0 (w.heap.size ≤ gb196) := ⟨h10_⟩
    have n11_ : Aside0 (gb188 ≠ gb196) := ⟨h11_⟩
    have n12_ : Aside0 (gb196 ≠ gb188) := ⟨h12_⟩
    have n13_ : Aside0 (Below w.heap.size w w194) := ⟨h13_⟩
    clear BK188
    clear HB
    clear h0_ h1_ h2_ h3_ h4_ h5_ h6_ h7_ h8_ h9_ h10_ h11_ h12_ h13_
    have BK188 := n0_
    have BK195 := n1_
    have BK196 := n2_
    have GW195 := n3_
    have GE195 := n4_
    have NB188_195 := n5_
    have NB195_188 := n6_
    have NB196_195 := n7_
    have NB195_196 := n8_
    have GW196 := n9_
    have GE196 := n10_
    have NB188_196 := n11_
    have NB196_188 := n12_
    have HB := n13_
    clear n0_ n1_ n2_ n3_ n4_ n5_ n6_ n7_ n8_ n9_ n10_ n11_ n12_ n13_
    have hHeld : w194.cell? ⟨gb188, 0, none⟩ = some (.int .i64 a0_0) ∧ w194.cell? ⟨gb188, 1, none⟩ = some (.int .i64 a0_1) ∧ w194.cell? ⟨gb188, 2, none⟩ = some (.int .i64 a0_2) ∧ w194.cell? ⟨gb188, 3, none⟩ = some (.slice A0_3 l0_3.length c0_3) ∧ w194.cell? ⟨gb188, 4, none⟩ = some (.int .i64 a0_4) ∧ w194.cell? ⟨gb188, 5, none⟩ = some (.int .i64 a0_5) ∧ w194.cell? ⟨gb188, 6, none⟩ = some (.int .i64 a0_6) ∧ w194.cell? ⟨gb188, 7, none⟩ = some (.int .i64 a0_7) ∧ w194.cell? ⟨gb188, 8, none⟩ = some (.int .i64 a0_8) ∧ w194.cell? ⟨gb188, 9, none⟩ = some (.int .i64 a0_9) ∧ w194.cell? ⟨gb188, 10, none⟩ = some (.int .i64 a0_10) ∧ w194.cell? ⟨gb188, 11, none⟩ = some (.int .u8 a0_11) := hS_
    refine norm_ (a' := ?_) ?_ ?_
    rotate_left
    ·
     simp only [putAll, Act.put, List.setIfInBounds_toArray, List.set_cons_zero, List.set_cons_succ]
     rfl
    refine one_ (i := 2) (N := some 13) (bA 16 4095) rfl rfl (one_of HT_.out (by kernel_rfl)) (by decide) (fun K hK => ?_)
    refine goes_ Try.func11 (by kernel_rfl) rfl #[.agg #[.int .i64 a0_0, .int .i64 a0_1, .int .i64 a0_2, .slice A0_3 l0_3.length c0_3]] (by rfl) rfl rfl (by (try simp only [List.map_toArray, List.map_cons, List.map_nil]); first | done | rfl | (simp only [List.length_drop, List.length_take]; rfl)) ?_
    with_reducible refine (bivouaclaw16_few.calls a0_0 a0_1 a0_2 (fun k_ => k_ < w.heap.size) _ _ l0_3 t189 t190 t191 t192 _ ?side1 A2.out).mono ?_
    (case side1 => exact Kd.V_mk HC0_3.out (Kd.F_below (Kd.C_F (Kd.heap_int .u8) HR0_3.out) (by repeat (first | (with_reducible first | exact HB.out | apply below_alloc | apply pw_below_drewN | apply below_drew1 | refine below_set ?_ GE188.out | refine below_set ?_ GE195.out | refine below_set ?_ GE196.out) | exact HB.out))))
    rintro e w195 ⟨v193, rfl, ho0, hb⟩
    refine ⟨_, rfl, ?_⟩
    have n0_ := aM19 (Kd.V_lower (Kd.V_mono (ok' := fun k_ => k_ ≠ gb188 ∧ k_ ≠ gb195 ∧ k_ ≠ gb196) ho0 (fun k_ hk_ => ⟨Or.elim hk_ (fun hs_ => fun e_ => Nat.not_le.2 hs_ (by rw [e_]; exact GW188.out)) (fun hn_ => (Kd.freshB (g := gb188) (o := .cells #[.int .i64 a0_0, .int .i64 a0_1, .int .i64 a0_2, .slice A0_3 l0_3.length c0_3, .int .i64 a0_4, .int .i64 a0_5, .int .i64 a0_6, .int .i64 a0_7, .int .i64 a0_8, .int .i64 a0_9, .int .i64 a0_10, .int .u8 a0_11] 36 (0, 0)) (by (with_reducible repeat (first | refine bN19 ?_ _ | refine bD19 ?_ | refine bK19 ?_ _)); exact BK188.out) k_ hn_)), Or.elim hk_ (fun hs_ => fun e_ => Nat.not_le.2 hs_ (by rw [e_]; exact GW195.out)) (fun hn_ => (Kd.freshB (g := gb195) (o := .cells #[.int .i64 0, .int .i64 0, .int .i64 0, .slice none 0 0] 25 (0, 0)) (by (with_reducible repeat (first | refine bN19 ?_ _ | refine bD19 ?_ | refine bK19 ?_ _)); exact BK195.out) k_ hn_)), Or.elim hk_ (fun hs_ => fun e_ => Nat.not_le.2 hs_ (by rw [e_]; exact GW196.out)) (fun hn_ => (Kd.freshB (g := gb196) (o := .cells #[.int .i64 0, .int .i64 0, .int .i64 0, .int .i64 0, .int .i64 0, .int .i64 0] 27 (0, 0)) (by (with_reducible repeat (first | refine bN19 ?_ _ | refine bD19 ?_ | refine bK19 ?_ _)); exact BK196.out) k_ hn_))⟩)) (below_size (by repeat (first | (with_reducible first | exact HB.out | apply below_alloc | apply pw_below_drewN | apply below_drew1 | refine below_set ?_ GE188.out | refine below_set ?_ GE195.out | refine below_set ?_ GE196.out) | exact HB.out))))
    have n1_ := aM19 (blk_below (g := gb188) (o := .cells #[.int .i64 a0_0, .int .i64 a0_1, .int .i64 a0_2, .slice A0_3 l0_3.length c0_3, .int .i64 a0_4, .int .i64 a0_5, .int .i64 a0_6, .int .i64 a0_7, .int .i64 a0_8, .int .i64 a0_9, .int .i64 a0_10, .int .u8 a0_11] 36 (0, 0)) (by (with_reducible repeat (first | refine bN19 ?_ _ | refine bD19 ?_ | refine bK19 ?_ _)); exact BK188.out) hb)
    have n2_ := aM19 (blk_below (g := gb195) (o := .cells #[.int .i64 0, .int .i64 0, .int .i64 0, .slice none 0 0] 25 (0, 0)) (by (with_reducible repeat (first | refine bN19 ?_ _ | refine bD19 ?_ | refine bK19 ?_ _)); exact BK195.out) hb)
    have n3_ := aM19 (blk_below (g := gb196) (o := .cells #[.int .i64 0, .int .i64 0, .int .i64 0, .int .i64 0, .int .i64 0, .int .i64 0] 27 (0, 0)) (by (with_reducible repeat (first | refine bN19 ?_ _ | refine bD19 ?_ | refine bK19 ?_ _)); exact BK196.out) hb)
    have n4_ := aM19 (below_step (by repeat (first | (with_reducible first | exact HB.out | apply below_alloc | apply pw_below_drewN | apply below_drew1 | refine below_set ?_ GE188.out | refine below_set ?_ GE195.out | refine below_set ?_ GE196.out) | exact HB.out)) hb)
    clear BK188
    clear BK195
    clear BK196
    clear HB
    have HO194 := n0_
    have BK188 := n1_
    have BK195 := n2_
    have BK196 := n3_
    have HB := n4_
    clear n0_ n1_ n2_ n3_ n4_
    (try clear hb)
    (try clear hb2)
    (try clear hk)
    (try clear hi)
    (try clear ho0)
    refine hK.out _ _ ⟨(bC19 BK188.out 0).trans rfl, (bC19 BK188.out 1).trans rfl, (bC19 BK188.out 2).trans rfl, (bC19 BK188.out 3).trans rfl, (bC19 BK188.out 4).trans rfl, (bC19 BK188.out 5).trans rfl, (bC19 BK188.out 6).trans rfl, (bC19 BK188.out 7).trans rfl, (bC19 BK188.out 8).trans rfl, (bC19 BK188.out 9).trans rfl, (bC19 BK188.out 10).trans rfl, (bC19 BK188.out 11).trans rfl⟩ (fun hHeld => ?_)
    clear hK K
    refine norm_ (a' := ?_) ?_ ?_
    rotate_left
    ·
     show Act.put _ (some 13) _ = _
     simp only [Act.put, sA, sB, sC, i64_w, i32_w]
     rfl
    exact norm_ (by first | (simp only [putAll, Act.put, List.setIfInBounds_toArray, List.set_cons_zero, List.set_cons_succ]; done) | (simp only [putAll, Act.put, List.setIfInBounds_toArray, List.set_cons_zero, List.set_cons_succ]; rfl)) (hJ2_10_11 (v193, gb195, gb196) _ ⟨hHeld, (by (with_reducible repeat (first | apply Kd.V_alloc | apply Kd.V_drewN | apply Kd.V_drew)); exact HO194.out), (by (with_reducible repeat (first | refine bN19 ?_ _ | refine bD19 ?_ | refine bK19 ?_ _)); exact BK188.out), (by (with_reducible repeat (first | refine bN19 ?_ _ | refine bD19 ?_ | refine bK19 ?_ _)); exact BK195.out), (by (with_reducible repeat (first | refine bN19 ?_ _ | refine bD19 ?_ | refine bK19 ?_ _)); exact BK196.out), GW195.out, GE195.out, NB188_195.out, NB195_188.out, NB196_195.out, NB195_196.out, GW196.out, GE196.out, NB188_196.out, NB196_188.out, (by repeat (first | (with_reducible first | exact HB.out | apply below_alloc | apply pw_below_drewN | apply below_drew1 | refine below_set ?_ GE188.out | refine below_set ?_ GE195.out | refine below_set ?_ GE196.out) | exact HB.out))⟩)
   skip
   rintro ⟨v193, gb196⟩ w194 ⟨hS_, h0_, h1_, h2_, h3_, h4_, h5_, h6_, h7_⟩
   have n0_ : Aside0 (Kd.V (Kd.int .u8) 5 w194 w.heap.size (fun k_ => k_ ≠ gb188 ∧ k_ ≠ gb196) v193 t192) := ⟨h0_⟩
   have n1_ : Aside0 (w194.heap[gb188]? = some (.cells #[.int .i64 a0_0, .int .i64 a0_1, .int .i64 a0_2, .slice A0_3 l0_3.length c0_3, .int .i64 a0_4, .int .i64 a0_5, .int .i64 a0_6, .int .i64 a0_7, .int .i64 a0_8, .int .i64 a0_9, .int .i64 a0_10, .int .u8 a0_11] 36 (0, 0))) := ⟨h1_⟩
   have n2_ : Aside0 (w194.heap[gb196]? = some (.cells #[.int .i64 0, .int .i64 0, .int .i64 0, .int .i64 0, .int .i64 0, .int .i64 0] 27 (0, 0))) := ⟨h2_⟩
   have n3_ : Aside0 (w.heap.size ≤ gb196) := ⟨h3_⟩
   have n4_ : Aside0 (w.heap.size ≤ gb196) := ⟨h4_⟩
   have n5_ : Aside0 (gb188 ≠ gb196) := ⟨h5_⟩
   have n6_ : Aside0 (gb196 ≠ gb188) := ⟨h6_⟩
   have n7_ : Aside0 (Below w.heap.size w w194) := ⟨h7_⟩
   clear BK188
   clear HB
   clear h0_ h1_ h2_ h3_ h4_ h5_ h6_ h7_
   have HO194 := n0_
   have BK188 := n1_
   have BK196 := n2_
   have GW196 := n3_
   have GE196 := n4_
   have NB188_196 := n5_
   have NB196_188 := n6_
   have HB := n7_
   clear n0_ n1_ n2_ n3_ n4_ n5_ n6_ n7_
   have hHeld : w194.cell? ⟨gb188, 0, none⟩ = some (.int .i64 a0_0) ∧ w194.cell? ⟨gb188, 1, none⟩ = some (.int .i64 a0_1) ∧ w194.cell? ⟨gb188, 2, none⟩ = some (.int .i64 a0_2) ∧ w194.cell? ⟨gb188, 3, none⟩ = some (.slice A0_3 l0_3.length c0_3) ∧ w194.cell? ⟨gb188, 4, none⟩ = some (.int .i64 a0_4) ∧ w194.cell? ⟨gb188, 5, none⟩ = some (.int .i64 a0_5) ∧ w194.cell? ⟨gb188, 6, none⟩ = some (.int .i64 a0_6) ∧ w194.cell? ⟨gb188, 7, none⟩ = some (.int .i64 a0_7) ∧ w194.cell? ⟨gb188, 8, none⟩ = some (.int .i64 a0_8) ∧ w194.cell? ⟨gb188, 9, none⟩ = some (.int .i64 a0_9) ∧ w194.cell? ⟨gb188, 10, none⟩ = some (.int .i64 a0_10) ∧ w194.cell? ⟨gb188, 11, none⟩ = some (.int .u8 a0_11) := hS_
   refine norm_ (a' := ?_) ?_ ?_
   rotate_left
   ·
    simp only [putAll, Act.put, List.setIfInBounds_toArray, List.set_cons_zero, List.set_cons_succ]
    rfl
   refine one_ (i := 10) (N := some 3) (bA 16 4095) rfl rfl (one_of HT_.out (by kernel_rfl)) (by decide) (fun K hK => ?_)
   refine box_step ?hg (N := 3) ?hd (cs := #[.int .i64 0, .int .i64 0, .int .i64 0, .slice none 0 0]) (t := 25) ?hr ?_; (case hd => rfl); (case hg => rfl); (case hr => first | (go_simp; done) | (go_simp; rfl))
   intro gb195 hg w195 hbox hb
   have n0_ := aM19 (Kd.V_below (Kd.V_elderB (by (with_reducible repeat (first | apply Kd.V_alloc | apply Kd.V_drewN | apply Kd.V_drew)); exact HO194.out) gb195 (Nat.le_of_eq hg.symm)) hb)
   have n1_ := aM19 (blk_below (g := gb188) (o := .cells #[.int .i64 a0_0, .int .i64 a0_1, .int .i64 a0_2, .slice A0_3 l0_3.length c0_3, .int .i64 a0_4, .int .i64 a0_5, .int .i64 a0_6, .int .i64 a0_7, .int .i64 a0_8, .int .i64 a0_9, .int .i64 a0_10, .int .u8 a0_11] 36 (0, 0)) (by (with_reducible repeat (first | refine bN19 ?_ _ | refine bD19 ?_ | refine bK19 ?_ _)); exact BK188.out) hb)
   have n2_ := aM19 (blk_below (g := gb196) (o := .cells #[.int .i64 0, .int .i64 0, .int .i64 0, .int .i64 0, .int .i64 0, .int .i64 0] 27 (0, 0)) (by (with_reducible repeat (first | refine bN19 ?_ _ | refine bD19 ?_ | refine bK19 ?_ _)); exact BK196.out) hb)
   have n3_ := aM19 (below_step (by repeat (first | (with_reducible first | exact HB.out | apply below_alloc | apply pw_below_drewN | apply below_drew1 | refine below_set ?_ GE188.out | refine below_set ?_ GE196.out) | exact HB.out)) hb)
   have n4_ := aM19 (hbox)
   have n5_ := aM19 ((by rw [hg]; exact (below_size (by repeat (first | (with_reducible first | exact HB.out | apply below_alloc | apply pw_below_drewN | apply below_drew1 | refine below_set ?_ GE188.out | refine below_set ?_ GE196.out) | exact HB.out))) : w.heap.size ≤ gb195))
   have n6_ := aM19 ((by rw [hg]; exact (below_size (by repeat (first | (with_reducible first | exact HB.out | apply below_alloc | apply pw_below_drewN | apply below_drew1 | refine below_set ?_ GE188.out | refine below_set ?_ GE196.out) | exact HB.out))) : w.heap.size ≤ gb195))
   have n7_ := aM19 ((by rw [hg]; exact Nat.ne_of_lt (blk_lt (g := gb188) (o := .cells #[.int .i64 a0_0, .int .i64 a0_1, .int .i64 a0_2, .slice A0_3 l0_3.length c0_3, .int .i64 a0_4, .int .i64 a0_5, .int .i64 a0_6, .int .i64 a0_7, .int .i64 a0_8, .int .i64 a0_9, .int .i64 a0_10, .int .u8 a0_11] 36 (0, 0)) (by (with_reducible repeat (first | refine bN19 ?_ _ | refine bD19 ?_ | refine bK19 ?_ _)); exact BK188.out)) : gb188 ≠ gb195))
   have n8_ := aM19 ((by rw [hg]; exact Nat.ne_of_gt (blk_lt (g := gb188) (o := .cells #[.int .i64 a0_0, .int .i64 a0_1, .int .i64 a0_2, .slice A0_3 l0_3.length c0_3, .int .i64 a0_4, .int .i64 a0_5, .int .i64 a0_6, .int .i64 a0_7, .int .i64 a0_8, .int .i64 a0_9, .int .i64 a0_10, .int .u8 a0_11] 36 (0, 0)) (by (with_reducible repeat (first | refine bN19 ?_ _ | refine bD19 ?_ | refine bK19 ?_ _)); exact BK188.out)) : gb195 ≠ gb188))
   have n9_ := aM19 ((by rw [hg]; exact Nat.ne_of_lt (blk_lt (g := gb196) (o := .cells #[.int .i64 0, .int .i64 0, .int .i64 0, .int .i64 0, .int .i64 0, .int .i64 0] 27 (0, 0)) (by (with_reducible repeat (first | refine bN19 ?_ _ | refine bD19 ?_ | refine bK19 ?_ _)); exact BK196.out)) : gb196 ≠ gb195))
   have n10_ := aM19 ((by rw [hg]; exact Nat.ne_of_gt (blk_lt (g := gb196) (o := .cells #[.int .i64 0, .int .i64 0, .int .i64 0, .int .i64 0, .int .i64 0, .int .i64 0] 27 (0, 0)) (by (with_reducible repeat (first | refine bN19 ?_ _ | refine bD19 ?_ | refine bK19 ?_ _)); exact BK196.out)) : gb195 ≠ gb196))
   clear HO194
   clear BK188
   clear BK196
   clear HB
   have HO194 := n0_
   have BK188 := n1_
   have BK196 := n2_
   have HB := n3_
   have BK195 := n4_
   have GW195 := n5_
   have GE195 := n6_
   have NB188_195 := n7_
   have NB195_188 := n8_
   have NB196_195 := n9_
   have NB195_196 := n10_
   clear n0_ n1_ n2_ n3_ n4_ n5_ n6_ n7_ n8_ n9_ n10_
   clear hb hbox hg
   refine hK.out _ _ ⟨(bC19 BK188.out 0).trans rfl, (bC19 BK188.out 1).trans rfl, (bC19 BK188.out 2).trans rfl, (bC19 BK188.out 3).trans rfl, (bC19 BK188.out 4).trans rfl, (bC19 BK188.out 5).trans rfl, (bC19 BK188.out 6).trans rfl, (bC19 BK188.out 7).trans rfl, (bC19 BK188.out 8).trans rfl, (bC19 BK188.out 9).trans rfl, (bC19 BK188.out 10).trans rfl, (bC19 BK188.out 11).trans rfl⟩ (fun hHeld => ?_)
   clear hK K
   refine norm_ (a' := ?_) ?_ ?_
   rotate_left
   ·
    show Act.put _ (some 3) _ = _
    simp only [Act.put, sA, sB, sC, i64_w, i32_w]
    rfl
   exact norm_ (by first | (simp only [putAll, Act.put, List.setIfInBounds_toArray, List.set_cons_zero, List.set_cons_succ]; done) | (simp only [putAll, Act.put, List.setIfInBounds_toArray, List.set_cons_zero, List.set_cons_succ]; rfl)) (hJ2_10_11 (v193, gb195, gb196) _ ⟨hHeld, (by (with_reducible repeat (first | apply Kd.V_alloc | apply Kd.V_drewN | apply Kd.V_drew)); exact Kd.V_mono HO194.out (fun _ hk => ⟨hk.1.1, ⟨hk.2, hk.1.2⟩⟩)), (by (with_reducible repeat (first | refine bN19 ?_ _ | refine bD19 ?_ | refine bK19 ?_ _)); exact BK188.out), (by (with_reducible repeat (first | refine bN19 ?_ _ | refine bD19 ?_ | refine bK19 ?_ _)); exact BK195.out), (by (with_reducible repeat (first | refine bN19 ?_ _ | refine bD19 ?_ | refine bK19 ?_ _)); exact BK196.out), GW195.out, GE195.out, NB188_195.out, NB195_188.out, NB196_195.out, NB195_196.out, GW196.out, GE196.out, NB188_196.out, NB196_188.out, (by repeat (first | (with_reducible first | exact HB.out | apply below_alloc | apply pw_below_drewN | apply below_drew1 | refine below_set ?_ GE188.out | refine below_set ?_ GE196.out | refine below_set ?_ GE195.out) | exact HB.out))⟩)
  skip
  rintro ⟨v193, gb195⟩ w194 ⟨hS_, h0_, h1_, h2_, h3_, h4_, h5_, h6_, h7_⟩
  have n0_ : Aside0 (Kd.V (Kd.int .u8) 5 w194 w.heap.size (fun k_ => k_ ≠ gb188 ∧ k_ ≠ gb195) v193 t192) := ⟨h0_⟩
  have n1_ : Aside0 (w194.heap[gb188]? = some (.cells #[.int .i64 a0_0, .int .i64 a0_1, .int .i64 a0_2, .slice A0_3 l0_3.length c0_3, .int .i64 a0_4, .int .i64 a0_5, .int .i64 a0_6, .int .i64 a0_7, .int .i64 a0_8, .int .i64 a0_9, .int .i64 a0_10, .int .u8 a0_11] 36 (0, 0))) := ⟨h1_⟩
  have n2_ : Aside0 (w194.heap[gb195]? = some (.cells #[.int .i64 0, .int .i64 0, .int .i64 0, .slice none 0 0] 25 (0, 0))) := ⟨h2_⟩
  have n3_ : Aside0 (w.heap.size ≤ gb195) := ⟨h3_⟩
  have n4_ : Aside0 (w.heap.size ≤ gb195) := ⟨h4_⟩
  have n5_ : Aside0 (gb188 ≠ gb195) := ⟨h5_⟩
  have n6_ : Aside0 (gb195 ≠ gb188) := ⟨h6_⟩
  have n7_ : Aside0 (Below w.heap.size w w194) := ⟨h7_⟩
  clear BK188
  clear HB
  clear h0_ h1_ h2_ h3_ h4_ h5_ h6_ h7_
  have HO194 := n0_
  have BK188 := n1_
  have BK195 := n2_
  have GW195 := n3_
  have GE195 := n4_
  have NB188_195 := n5_
  have NB195_188 := n6_
  have HB := n7_
  clear n0_ n1_ n2_ n3_ n4_ n5_ n6_ n7_
  have hHeld : w194.cell? ⟨gb188, 0, none⟩ = some (.int .i64 a0_0) ∧ w194.cell? ⟨gb188, 1, none⟩ = some (.int .i64 a0_1) ∧ w194.cell? ⟨gb188, 2, none⟩ = some (.int .i64 a0_2) ∧ w194.cell? ⟨gb188, 3, none⟩ = some (.slice A0_3 l0_3.length c0_3) ∧ w194.cell? ⟨gb188, 4, none⟩ = some (.int .i64 a0_4) ∧ w194.cell? ⟨gb188, 5, none⟩ = some (.int .i64 a0_5) ∧ w194.cell? ⟨gb188, 6, none⟩ = some (.int .i64 a0_6) ∧ w194.cell? ⟨gb188, 7, none⟩ = some (.int .i64 a0_7) ∧ w194.cell? ⟨gb188, 8, none⟩ = some (.int .i64 a0_8) ∧ w194.cell? ⟨gb188, 9, none⟩ = some (.int .i64 a0_9) ∧ w194.cell? ⟨gb188, 10, none⟩ = some (.int .i64 a0_10) ∧ w194.cell? ⟨gb188, 11, none⟩ = some (.int .u8 a0_11) := hS_
  refine norm_ (a' := ?_) ?_ ?_
  rotate_left
  ·
   simp only [putAll, Act.put, List.setIfInBounds_toArray, List.set_cons_zero, List.set_cons_succ]
   rfl
  refine one_ (i := 11) (N := some 4) (bA 16 4095) rfl rfl (one_of HT_.out (by kernel_rfl)) (by decide) (fun K hK => ?_)
  refine box_step ?hg (N := 4) ?hd (cs := #[.int .i64 0, .int .i64 0, .int .i64 0, .int .i64 0, .int .i64 0, .int .i64 0]) (t := 27) ?hr ?_; (case hd => rfl); (case hg => rfl); (case hr => first | (go_simp; done) | (go_simp; rfl))
  intro gb196 hg w195 hbox hb
  have n0_ := aM19 (Kd.V_below (Kd.V_elderB (by (with_reducible repeat (first | apply Kd.V_alloc | apply Kd.V_drewN | apply Kd.V_drew)); exact HO194.out) gb196 (Nat.le_of_eq hg.symm)) hb)
  have n1_ := aM19 (blk_below (g := gb188) (o := .cells #[.int .i64 a0_0, .int .i64 a0_1, .int .i64 a0_2, .slice A0_3 l0_3.length c0_3, .int .i64 a0_4, .int .i64 a0_5, .int .i64 a0_6, .int .i64 a0_7, .int .i64 a0_8, .int .i64 a0_9, .int .i64 a0_10, .int .u8 a0_11] 36 (0, 0)) (by (with_reducible repeat (first | refine bN19 ?_ _ | refine bD19 ?_ | refine bK19 ?_ _)); exact BK188.out) hb)
  have n2_ := aM19 (blk_below (g := gb195) (o := .cells #[.int .i64 0, .int .i64 0, .int .i64 0, .slice none 0 0] 25 (0, 0)) (by (with_reducible repeat (first | refine bN19 ?_ _ | refine bD19 ?_ | refine bK19 ?_ _)); exact BK195.out) hb)
  have n3_ := aM19 (below_step (by repeat (first | (with_reducible first | exact HB.out | apply below_alloc | apply pw_below_drewN | apply below_drew1 | refine below_set ?_ GE188.out | refine below_set ?_ GE195.out) | exact HB.out)) hb)
  have n4_ := aM19 (hbox)
  have n5_ := aM19 ((by rw [hg]; exact (below_size (by repeat (first | (with_reducible first | exact HB.out | apply below_alloc | apply pw_below_drewN | apply below_drew1 | refine below_set ?_ GE188.out | refine below_set ?_ GE195.out) | exact HB.out))) : w.heap.size ≤ gb196))
  have n6_ := aM19 ((by rw [hg]; exact (below_size (by repeat (first | (with_reducible first | exact HB.out | apply below_alloc | apply pw_below_drewN | apply below_drew1 | refine below_set ?_ GE188.out | refine below_set ?_ GE195.out) | exact HB.out))) : w.heap.size ≤ gb196))
  have n7_ := aM19 ((by rw [hg]; exact Nat.ne_of_lt (blk_lt (g := gb188) (o := .cells #[.int .i64 a0_0, .int .i64 a0_1, .int .i64 a0_2, .slice A0_3 l0_3.length c0_3, .int .i64 a0_4, .int .i64 a0_5, .int .i64 a0_6, .int .i64 a0_7, .int .i64 a0_8, .int .i64 a0_9, .int .i64 a0_10, .int .u8 a0_11] 36 (0, 0)) (by (with_reducible repeat (first | refine bN19 ?_ _ | refine bD19 ?_ | refine bK19 ?_ _)); exact BK188.out)) : gb188 ≠ gb196))
  have n8_ := aM19 ((by rw [hg]; exact Nat.ne_of_gt (blk_lt (g := gb188) (o := .cells #[.int .i64 a0_0, .int .i64 a0_1, .int .i64 a0_2, .slice A0_3 l0_3.length c0_3, .int .i64 a0_4, .int .i64 a0_5, .int .i64 a0_6, .int .i64 a0_7, .int .i64 a0_8, .int .i64 a0_9, .int .i64 a0_10, .int .u8 a0_11] 36 (0, 0)) (by (with_reducible repeat (first | refine bN19 ?_ _ | refine bD19 ?_ | refine bK19 ?_ _)); exact BK188.out)) : gb196 ≠ gb188))
  have n9_ := aM19 ((by rw [hg]; exact Nat.ne_of_lt (blk_lt (g := gb195) (o := .cells #[.int .i64 0, .int .i64 0, .int .i64 0, .slice none 0 0] 25 (0, 0)) (by (with_reducible repeat (first | refine bN19 ?_ _ | refine bD19 ?_ | refine bK19 ?_ _)); exact BK195.out)) : gb195 ≠ gb196))
  have n10_ := aM19 ((by rw [hg]; exact Nat.ne_of_gt (blk_lt (g := gb195) (o := .cells #[.int .i64 0, .int .i64 0, .int .i64 0, .slice none 0 0] 25 (0, 0)) (by (with_reducible repeat (first | refine bN19 ?_ _ | refine bD19 ?_ | refine bK19 ?_ _)); exact BK195.out)) : gb196 ≠ gb195))
  clear HO194
  clear BK188
  clear BK195
  clear HB
  have HO194 := n0_
  have BK188 := n1_
  have BK195 := n2_
  have HB := n3_
  have BK196 := n4_
  have GW196 := n5_
  have GE196 := n6_
  have NB188_196 := n7_
  have NB196_188 := n8_
  have NB195_196 := n9_
  have NB196_195 := n10_
  clear n0_ n1_ n2_ n3_ n4_ n5_ n6_ n7_ n8_ n9_ n10_
  clear hb hbox hg
  refine hK.out _ _ ⟨(bC19 BK188.out 0).trans rfl, (bC19 BK188.out 1).trans rfl, (bC19 BK188.out 2).trans rfl, (bC19 BK188.out 3).trans rfl, (bC19 BK188.out 4).trans rfl, (bC19 BK188.out 5).trans rfl, (bC19 BK188.out 6).trans rfl, (bC19 BK188.out 7).trans rfl, (bC19 BK188.out 8).trans rfl, (bC19 BK188.out 9).trans rfl, (bC19 BK188.out 10).trans rfl, (bC19 BK188.out 11).trans rfl⟩ (fun hHeld => ?_)
  clear hK K
  refine norm_ (a' := ?_) ?_ ?_
  rotate_left
  ·
   show Act.put _ (some 4) _ = _
   simp only [Act.put, sA, sB, sC, i64_w, i32_w]
   rfl
  exact norm_ (by first | (simp only [putAll, Act.put, List.setIfInBounds_toArray, List.set_cons_zero, List.set_cons_succ]; done) | (simp only [putAll, Act.put, List.setIfInBounds_toArray, List.set_cons_zero, List.set_cons_succ]; rfl)) (hJ2_10_11 (v193, gb195, gb196) _ ⟨hHeld, (by (with_reducible repeat (first | apply Kd.V_alloc | apply Kd.V_drewN | apply Kd.V_drew)); exact Kd.V_mono HO194.out (fun _ hk => ⟨hk.1.1, ⟨hk.1.2, hk.2⟩⟩)), (by (with_reducible repeat (first | refine bN19 ?_ _ | refine bD19 ?_ | refine bK19 ?_ _)); exact BK188.out), (by (with_reducible repeat (first | refine bN19 ?_ _ | refine bD19 ?_ | refine bK19 ?_ _)); exact BK195.out), (by (with_reducible repeat (first | refine bN19 ?_ _ | refine bD19 ?_ | refine bK19 ?_ _)); exact BK196.out), GW195.out, GE195.out, NB188_195.out, NB195_188.out, NB196_195.out, NB195_196.out, GW196.out, GE196.out, NB188_196.out, NB196_188.out, (by repeat (first | (with_reducible first | exact HB.out | apply below_alloc | apply pw_below_drewN | apply below_drew1 | refine below_set ?_ GE188.out | refine below_set ?_ GE195.out | refine below_set ?_ GE196.out) | exact HB.out))⟩)
 rintro ⟨v193, gb195, gb196⟩ w195 ⟨hS_, h0_, h1_, h2_, h3_, h4_, h5_, h6_, h7_, h8_, h9_, h10_, h11_, h12_, h13_, h14_⟩
 have n0_ : Aside0 (Kd.V (Kd.int .u8) 5 w195 w.heap.size (fun k_ => k_ ≠ gb188 ∧ k_ ≠ gb195 ∧ k_ ≠ gb196) v193 t192) := ⟨h0_⟩
 have n1_ : Aside0 (w195.heap[gb188]? = some (.cells #[.int .i64 a0_0, .int .i64 a0_1, .int .i64 a0_2, .slice A0_3 l0_3.length c0_3, .int .i64 a0_4, .int .i64 a0_5, .int .i64 a0_6, .int .i64 a0_7, .int .i64 a0_8, .int .i64 a0_9, .int .i64 a0_10, .int .u8 a0_11] 36 (0, 0))) := ⟨h1_⟩
 have n2_ : Aside0 (w195.heap[gb195]? = some (.cells #[.int .i64 0, .int .i64 0, .int .i64 0, .slice none 0 0] 25 (0, 0))) := ⟨h2_⟩
 have n3_ : Aside0 (w195.heap[gb196]? = some (.cells #[.int .i64 0, .int .i64 0, .int .i64 0, .int .i64 0, .int .i64 0, .int .i64 0] 27 (0, 0))) := ⟨h3_⟩
 have n4_ : Aside0 (w.heap.size ≤ gb195) := ⟨h4_⟩
 have n5_ : Aside0 (w.heap.size ≤ gb195) := ⟨h5_⟩
 have n6_ : Aside0 (gb188 ≠ gb195) := ⟨h6_⟩
 have n7_ : Aside0 (gb195 ≠ gb188) := ⟨h7_⟩
 have n8_ : Aside0 (gb196 ≠ gb195) := ⟨h8_⟩
 have n9_ : Aside0 (gb195 ≠ gb196) := ⟨h9_⟩
 have n10_ : Aside0 (w.heap.size ≤ gb196) := ⟨h10_⟩
 have n11_ : Aside0 (w.heap.size ≤ gb196) := ⟨h11_⟩
 have n12_ : Aside0 (gb188 ≠ gb196) := ⟨h12_⟩
 have n13_ : Aside0 (gb196 ≠ gb188) := ⟨h13_⟩
 have n14_ : Aside0 (Below w.heap.size w w195) := ⟨h14_⟩
 clear BK188
 clear HB
 clear h0_ h1_ h2_ h3_ h4_ h5_ h6_ h7_ h8_ h9_ h10_ h11_ h12_ h13_ h14_
 have HO194 := n0_
 have BK188 := n1_
 have BK195 := n2_
 have BK196 := n3_
 have GW195 := n4_
 have GE195 := n5_
 have NB188_195 := n6_
 have NB195_188 := n7_
 have NB196_195 := n8_
 have NB195_196 := n9_
 have GW196 := n10_
 have GE196 := n11_
 have NB188_196 := n12_
 have NB196_188 := n13_
 have HB := n14_
 clear n0_ n1_ n2_ n3_ n4_ n5_ n6_ n7_ n8_ n9_ n10_ n11_ n12_ n13_ n14_
 have hHeld : w195.cell? ⟨gb188, 0, none⟩ = some (.int .i64 a0_0) ∧ w195.cell? ⟨gb188, 1, none⟩ = some (.int .i64 a0_1) ∧ w195.cell? ⟨gb188, 2, none⟩ = some (.int .i64 a0_2) ∧ w195.cell? ⟨gb188, 3, none⟩ = some (.slice A0_3 l0_3.length c0_3) ∧ w195.cell? ⟨gb188, 4, none⟩ = some (.int .i64 a0_4) ∧ w195.cell? ⟨gb188, 5, none⟩ = some (.int .i64 a0_5) ∧ w195.cell? ⟨gb188, 6, none⟩ = some (.int .i64 a0_6) ∧ w195.cell? ⟨gb188, 7, none⟩ = some (.int .i64 a0_7) ∧ w195.cell? ⟨gb188, 8, none⟩ = some (.int .i64 a0_8) ∧ w195.cell? ⟨gb188, 9, none⟩ = some (.int .i64 a0_9) ∧ w195.cell? ⟨gb188, 10, none⟩ = some (.int .i64 a0_10) ∧ w195.cell? ⟨gb188, 11, none⟩ = some (.int .u8 a0_11) := hS_
 obtain ⟨Ao199, co199, eo199⟩ := Kd.V_slice HO194.out
 (first | subst eo199 | (injection eo199 with f1_ f2_ f3_; have f4_ := f1_.symm; have f5_ := f3_.symm; clear f1_ f2_ f3_; subst f4_; subst f5_))
 refine norm_ (a' := ?_) ?_ ?_
 rotate_left
 ·
  simp only [putAll, Act.put, List.setIfInBounds_toArray, List.set_cons_zero, List.set_cons_succ]
  rfl
 refine one_ (i := 12) (N := none) (bA 16 8191) rfl rfl (one_of HT_.out (by kernel_rfl)) (by decide) (fun K hK => ?_)
 have hs196 : w195.cell? ⟨gb195, 0, none⟩ = some (.int .i64 0) := (bC19 BK195.out 0).trans rfl
 have hfs196 := bF19 BK195.out 0
 have hns196_0 := NB188_195.out
 have hns196_2 := NB196_195.out
 have hms196_0 := NB195_188.out
 have hms196_2 := NB195_196.out
 have hs197 : w195.cell? ⟨gb195, 1, none⟩ = some (.int .i64 0) := (bC19 BK195.out 1).trans rfl
 have hfs197 := bF19 BK195.out 1
 have hns197_0 := NB188_195.out
 have hns197_2 := NB196_195.out
 have hms197_0 := NB195_188.out
 have hms197_2 := NB195_196.out
 have hs198 : w195.cell? ⟨gb195, 2, none⟩ = some (.int .i64 0) := (bC19 BK195.out 2).trans rfl
 have hfs198 := bF19 BK195.out 2
 have hns198_0 := NB188_195.out
 have hns198_2 := NB196_195.out
 have hms198_0 := NB195_188.out
 have hms198_2 := NB195_196.out
 have hs200 : w195.cell? ⟨gb195, 3, none⟩ = some (.slice none 0 0) := (bC19 BK195.out 3).trans rfl
 have hfs200 := bF19 BK195.out 3
 have hns200_0 := NB188_195.out
 have hns200_2 := NB196_195.out
 have hms200_0 := NB195_188.out
 have hms200_2 := NB195_196.out
 refine skip_ (w1 := ?_) (by rfl) rfl ?_ ?_
 rotate_left
 ·
  go_simp
  rfl
 refine hK.out _ _ ⟨((cell_far (p := ⟨gb195, _, none⟩) NB188_195.out _).trans (((cell_far (p := ⟨gb195, _, none⟩) NB188_195.out _).trans (((cell_far (p := ⟨gb195, _, none⟩) NB188_195.out _).trans (((cell_far (p := ⟨gb195, _, none⟩) NB188_195.out _).trans (hHeld.1)))))))), ((cell_far (p := ⟨gb195, _, none⟩) NB188_195.out _).trans (((cell_far (p := ⟨gb195, _, none⟩) NB188_195.out _).trans (((cell_far (p := ⟨gb195, _, none⟩) NB188_195.out _).trans (((cell_far (p := ⟨gb195, _, none⟩) NB188_195.out _).trans (hHeld.2.1)))))))), ((cell_far (p := ⟨gb195, _, none⟩) NB188_195.out _).trans (((cell_far (p := ⟨gb195, _, none⟩) NB188_195.out _).trans (((cell_far (p := ⟨gb195, _, none⟩) NB188_195.out _).trans (((cell_far (p := ⟨gb195, _, none⟩) NB188_195.out _).trans (hHeld.2.2.1)))))))), ((cell_far (p := ⟨gb195, _, none⟩) NB188_195.out _).trans (((cell_far (p := ⟨gb195, _, none⟩) NB188_195.out _).trans (((cell_far (p := ⟨gb195, _, none⟩) NB188_195.out _).trans (((cell_far (p := ⟨gb195, _, none⟩) NB188_195.out _).trans (hHeld.2.2.2.1)))))))), ((cell_far (p := ⟨gb195, _, none⟩) NB188_195.out _).trans (((cell_far (p := ⟨gb195, _, none⟩) NB188_195.out _).trans (((cell_far (p := ⟨gb195, _, none⟩) NB188_195.out _).trans (((cell_far (p := ⟨gb195, _, none⟩) NB188_195.out _).trans (hHeld.2.2.2.2.1)))))))), ((cell_far (p := ⟨gb195, _, none⟩) NB188_195.out _).trans (((cell_far (p := ⟨gb195, _, none⟩) NB188_195.out _).trans (((cell_far (p := ⟨gb195, _, none⟩) NB188_195.out _).trans (((cell_far (p := ⟨gb195, _, none⟩) NB188_195.out _).trans (hHeld.2.2.2.2.2.1)))))))), ((cell_far (p := ⟨gb195, _, none⟩) NB188_195.out _).trans (((cell_far (p := ⟨gb195, _, none⟩) NB188_195.out _).trans (((cell_far (p := ⟨gb195, _, none⟩) NB188_195.out _).trans (((cell_far (p := ⟨gb195, _, none⟩) NB188_195.out _).trans (hHeld.2.2.2.2.2.2.1)))))))), ((cell_far (p := ⟨gb195, _, none⟩) NB188_195.out _).trans (((cell_far (p := ⟨gb195, _, none⟩) NB188_195.out _).trans (((cell_far (p := ⟨gb195, _, none⟩) NB188_195.out _).trans (((cell_far (p := ⟨gb195, _, none⟩) NB188_195.out _).trans (hHeld.2.2.2.2.2.2.2.1)))))))), ((cell_far (p := ⟨gb195, _, none⟩) NB188_195.out _).trans (((cell_far (p := ⟨gb195, _, none⟩) NB188_195.out _).trans (((cell_far (p := ⟨gb195, _, none⟩) NB188_195.out _).trans (((cell_far (p := ⟨gb195, _, none⟩) NB188_195.out _).trans (hHeld.2.2.2.2.2.2.2.2.1)))))))), ((cell_far (p := ⟨gb195, _, none⟩) NB188_195.out _).trans (((cell_far (p := ⟨gb195, _, none⟩) NB188_195.out _).trans (((cell_far (p := ⟨gb195, _, none⟩) NB188_195.out _).trans (((cell_far (p := ⟨gb195, _, none⟩) NB188_195.out _).trans (hHeld.2.2.2.2.2.2.2.2.2.1)))))))), ((cell_far (p := ⟨gb195, _, none⟩) NB188_195.out _).trans (((cell_far (p := ⟨gb195, _, none⟩) NB188_195.out _).trans (((cell_far (p := ⟨gb195, _, none⟩) NB188_195.out _).trans (((cell_far (p := ⟨gb195, _, none⟩) NB188_195.out _).trans (hHeld.2.2.2.2.2.2.2.2.2.2.1)))))))), ((cell_far (p := ⟨gb195, _, none⟩) NB188_195.out _).trans (((cell_far (p := ⟨gb195, _, none⟩) NB188_195.out _).trans (((cell_far (p := ⟨gb195, _, none⟩) NB188_195.out _).trans (((cell_far (p := ⟨gb195, _, none⟩) NB188_195.out _).trans (hHeld.2.2.2.2.2.2.2.2.2.2.2))))))))⟩ (fun hHeld => ?_)
 clear hK K
 refine one_ (i := 13) (N := none) (bA 16 16383) rfl rfl (one_of HT_.out (by kernel_rfl)) (by decide) (fun K hK => ?_)
 have hs201 : w195.cell? ⟨gb196, 0, none⟩ = some (.int .i64 0) := (bC19 BK196.out 0).trans rfl
 have hfs201 := bF19 BK196.out 0
 have hns201_0 := NB188_196.out
 have hns201_1 := NB195_196.out
 have hms201_0 := NB196_188.out
 have hms201_1 := NB196_195.out
 have hs202 : w195.cell? ⟨gb196, 1, none⟩ = some (.int .i64 0) := (bC19 BK196.out 1).trans rfl
 have hfs202 := bF19 BK196.out 1
 have hns202_0 := NB188_196.out
 have hns202_1 := NB195_196.out
 have hms202_0 := NB196_188.out
 have hms202_1 := NB196_195.out
 have hs203 : w195.cell? ⟨gb196, 2, none⟩ = some (.int .i64 0) := (bC19 BK196.out 2).trans rfl
 have hfs203 := bF19 BK196.out 2
 have hns203_0 := NB188_196.out
 have hns203_1 := NB195_196.out
 have hms203_0 := NB196_188.out
 have hms203_1 := NB196_195.out
 have hs204 : w195.cell? ⟨gb196, 3, none⟩ = some (.int .i64 0) := (bC19 BK196.out 3).trans rfl
 have hfs204 := bF19 BK196.out 3
 have hns204_0 := NB188_196.out
 have hns204_1 := NB195_196.out
 have hms204_0 := NB196_188.out
 have hms204_1 := NB196_195.out
 have hs205 : w195.cell? ⟨gb196, 4, none⟩ = some (.int .i64 0) := (bC19 BK196.out 4).trans rfl
 have hfs205 := bF19 BK196.out 4
 have hns205_0 := NB188_196.out
 have hns205_1 := NB195_196.out
 have hms205_0 := NB196_188.out
 have hms205_1 := NB196_195.out
 have hs206 : w195.cell? ⟨gb196, 5, none⟩ = some (.int .i64 0) := (bC19 BK196.out 5).trans rfl
 have hfs206 := bF19 BK196.out 5
 have hns206_0 := NB188_196.out
 have hns206_1 := NB195_196.out
 have hms206_0 := NB196_188.out
 have hms206_1 := NB196_195.out
 refine skip_ (w1 := ?_) (by rfl) rfl ?_ ?_
 rotate_left
 ·
  go_simp
  rfl
 refine hK.out _ _ ⟨((cell_far (p := ⟨gb196, _, none⟩) NB188_196.out _).trans (((cell_far (p := ⟨gb196, _, none⟩) NB188_196.out _).trans (((cell_far (p := ⟨gb196, _, none⟩) NB188_196.out _).trans (((cell_far (p := ⟨gb196, _, none⟩) NB188_196.out _).trans (((cell_far (p := ⟨gb196, _, none⟩) NB188_196.out _).trans (((cell_far (p := ⟨gb196, _, none⟩) NB188_196.out _).trans (hHeld.1)))))))))))), ((cell_far (p := ⟨gb196, _, none⟩) NB188_196.out _).trans (((cell_far (p := ⟨gb196, _, none⟩) NB188_196.out _).trans (((cell_far (p := ⟨gb196, _, none⟩) NB188_196.out _).trans (((cell_far (p := ⟨gb196, _, none⟩) NB188_196.out _).trans (((cell_far (p := ⟨gb196, _, none⟩) NB188_196.out _).trans (((cell_far (p := ⟨gb196, _, none⟩) NB188_196.out _).trans (hHeld.2.1)))))))))))), ((cell_far (p := ⟨gb196, _, none⟩) NB188_196.out _).trans (((cell_far (p := ⟨gb196, _, none⟩) NB188_196.out _).trans (((cell_far (p := ⟨gb196, _, none⟩) NB188_196.out _).trans (((cell_far (p := ⟨gb196, _, none⟩) NB188_196.out _).trans (((cell_far (p := ⟨gb196, _, none⟩) NB188_196.out _).trans (((cell_far (p := ⟨gb196, _, none⟩) NB188_196.out _).trans (hHeld.2.2.1)))))))))))), ((cell_far (p := ⟨gb196, _, none⟩) NB188_196.out _).trans (((cell_far (p := ⟨gb196, _, none⟩) NB188_196.out _).trans (((cell_far (p := ⟨gb196, _, none⟩) NB188_196.out _).trans (((cell_far (p := ⟨gb196, _, none⟩) NB188_196.out _).trans (((cell_far (p := ⟨gb196, _, none⟩) NB188_196.out _).trans (((cell_far (p := ⟨gb196, _, none⟩) NB188_196.out _).trans (hHeld.2.2.2.1)))))))))))), ((cell_far (p := ⟨gb196, _, none⟩) NB188_196.out _).trans (((cell_far (p := ⟨gb196, _, none⟩) NB188_196.out _).trans (((cell_far (p := ⟨gb196, _, none⟩) NB188_196.out _).trans (((cell_far (p := ⟨gb196, _, none⟩) NB188_196.out _).trans (((cell_far (p := ⟨gb196, _, none⟩) NB188_196.out _).trans (((cell_far (p := ⟨gb196, _, none⟩) NB188_196.out _).trans (hHeld.2.2.2.2.1)))))))))))), ((cell_far (p := ⟨gb196, _, none⟩) NB188_196.out _).trans (((cell_far (p := ⟨gb196, _, none⟩) NB188_196.out _).trans (((cell_far (p := ⟨gb196, _, none⟩) NB188_196.out _).trans (((cell_far (p := ⟨gb196, _, none⟩) NB188_196.out _).trans (((cell_far (p := ⟨gb196, _, none⟩) NB188_196.out _).trans (((cell_far (p := ⟨gb196, _, none⟩) NB188_196.out _).trans (hHeld.2.2.2.2.2.1)))))))))))), ((cell_far (p := ⟨gb196, _, none⟩) NB188_196.out _).trans (((cell_far (p := ⟨gb196, _, none⟩) NB188_196.out _).trans (((cell_far (p := ⟨gb196, _, none⟩) NB188_196.out _).trans (((cell_far (p := ⟨gb196, _, none⟩) NB188_196.out _).trans (((cell_far (p := ⟨gb196, _, none⟩) NB188_196.out _).trans (((cell_far (p := ⟨gb196, _, none⟩) NB188_196.out _).trans (hHeld.2.2.2.2.2.2.1)))))))))))), ((cell_far (p := ⟨gb196, _, none⟩) NB188_196.out _).trans (((cell_far (p := ⟨gb196, _, none⟩) NB188_196.out _).trans (((cell_far (p := ⟨gb196, _, none⟩) NB188_196.out _).trans (((cell_far (p := ⟨gb196, _, none⟩) NB188_196.out _).trans (((cell_far (p := ⟨gb196, _, none⟩) NB188_196.out _).trans (((cell_far (p := ⟨gb196, _, none⟩) NB188_196.out _).trans (hHeld.2.2.2.2.2.2.2.1)))))))))))), ((cell_far (p := ⟨gb196, _, none⟩) NB188_196.out _).trans (((cell_far (p := ⟨gb196, _, none⟩) NB188_196.out _).trans (((cell_far (p := ⟨gb196, _, none⟩) NB188_196.out _).trans (((cell_far (p := ⟨gb196, _, none⟩) NB188_196.out _).trans (((cell_far (p := ⟨gb196, _, none⟩) NB188_196.out _).trans (((cell_far (p := ⟨gb196, _, none⟩) NB188_196.out _).trans (hHeld.2.2.2.2.2.2.2.2.1)))))))))))), ((cell_far (p := ⟨gb196, _, none⟩) NB188_196.out _).trans (((cell_far (p := ⟨gb196, _, none⟩) NB188_196.out _).trans (((cell_far (p := ⟨gb196, _, none⟩) NB188_196.out _).trans (((cell_far (p := ⟨gb196, _, none⟩) NB188_196.out _).trans (((cell_far (p := ⟨gb196, _, none⟩) NB188_196.out _).trans (((cell_far (p := ⟨gb196, _, none⟩) NB188_196.out _).trans (hHeld.2.2.2.2.2.2.2.2.2.1)))))))))))), ((cell_far (p := ⟨gb196, _, none⟩) NB188_196.out _).trans (((cell_far (p := ⟨gb196, _, none⟩) NB188_196.out _).trans (((cell_far (p := ⟨gb196, _, none⟩) NB188_196.out _).trans (((cell_far (p := ⟨gb196, _, none⟩) NB188_196.out _).trans (((cell_far (p := ⟨gb196, _, none⟩) NB188_196.out _).trans (((cell_far (p := ⟨gb196, _, none⟩) NB188_196.out _).trans (hHeld.2.2.2.2.2.2.2.2.2.2.1)))))))))))), ((cell_far (p := ⟨gb196, _, none⟩) NB188_196.out _).trans (((cell_far (p := ⟨gb196, _, none⟩) NB188_196.out _).trans (((cell_far (p := ⟨gb196, _, none⟩) NB188_196.out _).trans (((cell_far (p := ⟨gb196, _, none⟩) NB188_196.out _).trans (((cell_far (p := ⟨gb196, _, none⟩) NB188_196.out _).trans (((cell_far (p := ⟨gb196, _, none⟩) NB188_196.out _).trans (hHeld.2.2.2.2.2.2.2.2.2.2.2))))))))))))⟩ (fun hHeld => ?_)
 clear hK K
 refine pure_ (i := 14) (N := some 5) (v := ?_) (a' := ?_) (bA 16 32767) rfl rfl (any_of HT_.out (by kernel_rfl)) (fun _ _ _ h => h) (Or.inl ⟨by rfl, ?_⟩) ?_ ?_
 rotate_left
 ·
  intro w'
  go_simp
  with_reducible rfl
 rotate_left
 ·
  simp only [Act.put, sA, sB, sC, i64_w, i32_w]
  rfl
 refine pure_ (i := 15) (N := some 6) (v := ?_) (a' := ?_) (bA 16 65535) rfl rfl (any_of HT_.out (by kernel_rfl)) (fun _ _ _ h => h) (Or.inl ⟨by rfl, ?_⟩) ?_ ?_
 rotate_left
 ·
  intro w'
  go_simp
  with_reducible rfl
 rotate_left
 ·
  simp only [Act.put, sA, sB, sC, i64_w, i32_w]
  rfl
 refine done_ (done_of HT_.out (by kernel_rfl)) ?_
 have hnb207 := NB195_188.out
 have hnc207 := NB188_195.out
 have hnb208 := NB195_196.out
 have hnc208 := NB196_195.out
 have hcz209_0 : w195.cell? ⟨gb195, 0, none⟩ = some (.int .i64 0) := (bC19 BK195.out 0).trans rfl
 have hcz209_1 : w195.cell? ⟨gb195, 1, none⟩ = some (.int .i64 0) := (bC19 BK195.out 1).trans rfl
 have hcz209_2 : w195.cell? ⟨gb195, 2, none⟩ = some (.int .i64 0) := (bC19 BK195.out 2).trans rfl
 have hcz209_3 : w195.cell? ⟨gb195, 3, none⟩ = some (.slice none 0 0) := (bC19 BK195.out 3).trans rfl
 have hfz209_0 := bF19 BK195.out 0
 have hfz209_1 := bF19 BK195.out 1
 have hfz209_2 := bF19 BK195.out 2
 have hfz209_3 := bF19 BK195.out 3
 try go_wp2_with (first | ((with_reducible refine gate_callee (f := 20) rfl ?_); refine goesL_ (some 22) rfl rfl Try.func20 (by kernel_rfl) rfl #[.agg #[.int .i64 t189, .int .i64 t190, .int .i64 t191, .slice Ao199 t192.length co199]] rfl (by (try simp only [List.map_toArray, List.map_cons, List.map_nil]); first | done | rfl | (simp only [List.length_drop, List.length_take]; rfl)) ?_; (with_reducible refine (bivouacref06_Check.calls k t189 t190 t191 _ _ t192 t197 _ ?side1 ?side2 A3.out).mono ?_); (case side1 => refine (Kd.V_reads' (e := 5) (base := w.heap.size) (ok := fun k_ => (k_ ≠ gb188 ∧ (k_ ≠ gb195 ∧ k_ ≠ gb196))) (n := t192.length) (c := co199) ?_).2.2; exact (by (with_reducible repeat (first | apply Kd.V_alloc | apply Kd.V_drewN | apply Kd.V_drew)); exact (Kd.V_mono (Kd.V_mono (Kd.V_far (p := ⟨gb196, 5, none⟩) (Kd.V_far (p := ⟨gb196, 4, none⟩) (Kd.V_far (p := ⟨gb196, 3, none⟩) (Kd.V_far (p := ⟨gb196, 2, none⟩) (Kd.V_far (p := ⟨gb196, 1, none⟩) (Kd.V_far (p := ⟨gb196, 0, none⟩) (Kd.V_far (p := ⟨gb195, 3, none⟩) (Kd.V_far (p := ⟨gb195, 2, none⟩) (Kd.V_far (p := ⟨gb195, 1, none⟩) (Kd.V_far (p := ⟨gb195, 0, none⟩) (Kd.V_mono (Kd.V_mono HO194.out (fun k_ hk => (⟨hk, hk.2.1⟩ : _ ∧ k_ ≠ gb195))) (fun k_ hk => (⟨hk, hk.1.2.2⟩ : _ ∧ k_ ≠ gb196))) (fun _ hk => hk.1.2) (.int .i64 t189)) (fun _ hk => hk.1.2) (.int .i64 t190)) (fun _ hk => hk.1.2) (.int .i64 t191)) (fun _ hk => hk.1.2) (.slice Ao199 t192.length co199)) (fun _ hk => hk.2) (.int .i64 a0_4)) (fun _ hk => hk.2) (.int .i64 a0_5)) (fun _ hk => hk.2) (.int .i64 a0_6)) (fun _ hk => hk.2) (.int .i64 a0_7)) (fun _ hk => hk.2) (.int .i64 a0_8)) (fun _ hk => hk.2) (.int .i64 a0_9)) (fun _ h_ => h_.1)) (fun _ h_ => h_.1)))); (case side2 => exact (Kd.V_reads' HO194.out).2.1); rintro e w210 ⟨rfl, hb⟩; refine ⟨_, rfl, ?_⟩; have n0_ := aM19 (Kd.V_below (by (with_reducible repeat (first | apply Kd.V_alloc | apply Kd.V_drewN | apply Kd.V_drew)); exact (Kd.V_mono (Kd.V_mono (Kd.V_far (p := ⟨gb196, 5, none⟩) (Kd.V_far (p := ⟨gb196, 4, none⟩) (Kd.V_far (p := ⟨gb196, 3, none⟩) (Kd.V_far (p := ⟨gb196, 2, none⟩) (Kd.V_far (p := ⟨gb196, 1, none⟩) (Kd.V_far (p := ⟨gb196, 0, none⟩) (Kd.V_far (p := ⟨gb195, 3, none⟩) (Kd.V_far (p := ⟨gb195, 2, none⟩) (Kd.V_far (p := ⟨gb195, 1, none⟩) (Kd.V_far (p := ⟨gb195, 0, none⟩) (Kd.V_mono (Kd.V_mono HO194.out (fun k_ hk => (⟨hk, hk.2.1⟩ : _ ∧ k_ ≠ gb195))) (fun k_ hk => (⟨hk, hk.1.2.2⟩ : _ ∧ k_ ≠ gb196))) (fun _ hk => hk.1.2) (.int .i64 t189)) (fun _ hk => hk.1.2) (.int .i64 t190)) (fun _ hk => hk.1.2) (.int .i64 t191)) (fun _ hk => hk.1.2) (.slice Ao199 t192.length co199)) (fun _ hk => hk.2) (.int .i64 a0_4)) (fun _ hk => hk.2) (.int .i64 a0_5)) (fun _ hk => hk.2) (.int .i64 a0_6)) (fun _ hk => hk.2) (.int .i64 a0_7)) (fun _ hk => hk.2) (.int .i64 a0_8)) (fun _ hk => hk.2) (.int .i64 a0_9)) (fun _ h_ => h_.1)) (fun _ h_ => h_.1))) hb); have n1_ := aM19 (blk_below (g := gb188) (o := .cells #[.int .i64 a0_0, .int .i64 a0_1, .int .i64 a0_2, .slice A0_3 l0_3.length c0_3, .int .i64 a0_4, .int .i64 a0_5, .int .i64 a0_6, .int .i64 a0_7, .int .i64 a0_8, .int .i64 a0_9, .int .i64 a0_10, .int .u8 a0_11] 36 (0, 0)) (by (with_reducible repeat (first | refine bN19 ?_ _ | refine bD19 ?_ | refine bK19 ?_ _)); refine blk_far ?_ NB188_196.out _; (with_reducible repeat (first | refine bN19 ?_ _ | refine bD19 ?_ | refine bK19 ?_ _)); refine blk_far ?_ NB188_196.out _; (with_reducible repeat (first | refine bN19 ?_ _ | refine bD19 ?_ | refine bK19 ?_ _)); refine blk_far ?_ NB188_196.out _; (with_reducible repeat (first | refine bN19 ?_ _ | refine bD19 ?_ | refine bK19 ?_ _)); refine blk_far ?_ NB188_196.out _; (with_reducible repeat (first | refine bN19 ?_ _ | refine bD19 ?_ | refine bK19 ?_ _)); refine blk_far ?_ NB188_196.out _; (with_reducible repeat (first | refine bN19 ?_ _ | refine bD19 ?_ | refine bK19 ?_ _)); refine blk_far ?_ NB188_196.out _; (with_reducible repeat (first | refine bN19 ?_ _ | refine bD19 ?_ | refine bK19 ?_ _)); refine blk_far ?_ NB188_195.out _; (with_reducible repeat (first | refine bN19 ?_ _ | refine bD19 ?_ | refine bK19 ?_ _)); refine blk_far ?_ NB188_195.out _; (with_reducible repeat (first | refine bN19 ?_ _ | refine bD19 ?_ | refine bK19 ?_ _)); refine blk_far ?_ NB188_195.out _; (with_reducible repeat (first | refine bN19 ?_ _ | refine bD19 ?_ | refine bK19 ?_ _)); refine blk_far ?_ NB188_195.out _; (with_reducible repeat (first | refine bN19 ?_ _ | refine bD19 ?_ | refine bK19 ?_ _)); exact BK188.out) hb); have n2_ := aM19 (blk_below (g := gb195) (o := .cells #[.int .i64 t189, .int .i64 t190, .int .i64 t191, .slice Ao199 t192.length co199] 25 (0, 0)) (by (with_reducible repeat (first | refine bN19 ?_ _ | refine bD19 ?_ | refine bK19 ?_ _)); refine blk_far ?_ NB195_196.out _; (with_reducible repeat (first | refine bN19 ?_ _ | refine bD19 ?_ | refine bK19 ?_ _)); refine blk_far ?_ NB195_196.out _; (with_reducible repeat (first | refine bN19 ?_ _ | refine bD19 ?_ | refine bK19 ?_ _)); refine blk_far ?_ NB195_196.out _; (with_reducible repeat (first | refine bN19 ?_ _ | refine bD19 ?_ | refine bK19 ?_ _)); refine blk_far ?_ NB195_196.out _; (with_reducible repeat (first | refine bN19 ?_ _ | refine bD19 ?_ | refine bK19 ?_ _)); refine blk_far ?_ NB195_196.out _; (with_reducible repeat (first | refine bN19 ?_ _ | refine bD19 ?_ | refine bK19 ?_ _)); refine blk_far ?_ NB195_196.out _; (with_reducible repeat (first | refine bN19 ?_ _ | refine bD19 ?_ | refine bK19 ?_ _)); refine blk_put (cs := #[.int .i64 t189, .int .i64 t190, .int .i64 t191, .slice none 0 0]) ?_ 3 _ rfl; (with_reducible repeat (first | refine bN19 ?_ _ | refine bD19 ?_ | refine bK19 ?_ _)); refine blk_put (cs := #[.int .i64 t189, .int .i64 t190, .int .i64 0, .slice none 0 0]) ?_ 2 _ rfl; (with_reducible repeat (first | refine bN19 ?_ _ | refine bD19 ?_ | refine bK19 ?_ _)); refine blk_put (cs := #[.int .i64 t189, .int .i64 0, .int .i64 0, .slice none 0 0]) ?_ 1 _ rfl; (with_reducible repeat (first | refine bN19 ?_ _ | refine bD19 ?_ | refine bK19 ?_ _)); refine blk_put (cs := #[.int .i64 0, .int .i64 0, .int .i64 0, .slice none 0 0]) ?_ 0 _ rfl; (with_reducible repeat (first | refine bN19 ?_ _ | refine bD19 ?_ | refine bK19 ?_ _)); exact BK195.out) hb); have n3_ := aM19 (blk_below (g := gb196) (o := .cells #[.int .i64 a0_4, .int .i64 a0_5, .int .i64 a0_6, .int .i64 a0_7, .int .i64 a0_8, .int .i64 a0_9] 27 (0, 0)) (by (with_reducible repeat (first | refine bN19 ?_ _ | refine bD19 ?_ | refine bK19 ?_ _)); refine blk_put (cs := #[.int .i64 a0_4, .int .i64 a0_5, .int .i64 a0_6, .int .i64 a0_7, .int .i64 a0_8, .int .i64 0]) ?_ 5 _ rfl; (with_reducible repeat (first | refine bN19 ?_ _ | refine bD19 ?_ | refine bK19 ?_ _)); refine blk_put (cs := #[.int .i64 a0_4, .int .i64 a0_5, .int .i64 a0_6, .int .i64 a0_7, .int .i64 0, .int .i64 0]) ?_ 4 _ rfl; (with_reducible repeat (first | refine bN19 ?_ _ | refine bD19 ?_ | refine bK19 ?_ _)); refine blk_put (cs := #[.int .i64 a0_4, .int .i64 a0_5, .int .i64 a0_6, .int .i64 0, .int .i64 0, .int .i64 0]) ?_ 3 _ rfl; (with_reducible repeat (first | refine bN19 ?_ _ | refine bD19 ?_ | refine bK19 ?_ _)); refine blk_put (cs := #[.int .i64 a0_4, .int .i64 a0_5, .int .i64 0, .int .i64 0, .int .i64 0, .int .i64 0]) ?_ 2 _ rfl; (with_reducible repeat (first | refine bN19 ?_ _ | refine bD19 ?_ | refine bK19 ?_ _)); refine blk_put (cs := #[.int .i64 a0_4, .int .i64 0, .int .i64 0, .int .i64 0, .int .i64 0, .int .i64 0]) ?_ 1 _ rfl; (with_reducible repeat (first | refine bN19 ?_ _ | refine bD19 ?_ | refine bK19 ?_ _)); refine blk_put (cs := #[.int .i64 0, .int .i64 0, .int .i64 0, .int .i64 0, .int .i64 0, .int .i64 0]) ?_ 0 _ rfl; (with_reducible repeat (first | refine bN19 ?_ _ | refine bD19 ?_ | refine bK19 ?_ _)); refine blk_far ?_ NB196_195.out _; (with_reducible repeat (first | refine bN19 ?_ _ | refine bD19 ?_ | refine bK19 ?_ _)); refine blk_far ?_ NB196_195.out _; (with_reducible repeat (first | refine bN19 ?_ _ | refine bD19 ?_ | refine bK19 ?_ _)); refine blk_far ?_ NB196_195.out _; (with_reducible repeat (first | refine bN19 ?_ _ | refine bD19 ?_ | refine bK19 ?_ _)); refine blk_far ?_ NB196_195.out _; (with_reducible repeat (first | refine bN19 ?_ _ | refine bD19 ?_ | refine bK19 ?_ _)); exact BK196.out) hb); have n4_ := aM19 (below_step (by repeat (first | (with_reducible first | exact HB.out | apply below_alloc | apply pw_below_drewN | apply below_drew1 | refine below_set ?_ GE188.out | refine below_set ?_ GE195.out | refine below_set ?_ GE196.out) | exact HB.out)) hb); clear HO194; clear BK188; clear BK195; clear BK196; clear HB; have HO194 := n0_; have BK188 := n1_; have BK195 := n2_; have BK196 := n3_; have HB := n4_; clear n0_ n1_ n2_ n3_ n4_; (try clear hb); (try clear hb2); (try clear hk); (try clear hi)) | ((with_reducible refine gate_callee (f := 10) rfl ?_); refine goesL_ (some 24) rfl rfl Try.func10 (by kernel_rfl) rfl #[] rfl (by (try simp only [List.map_toArray, List.map_cons, List.map_nil]); first | done | rfl | (simp only [List.length_drop, List.length_take]; rfl)) ?_; (with_reducible refine (bivouaclaw16_awake.calls  t198 _ A189.out).mono ?_); rintro e w211 ⟨rfl, hb⟩; refine ⟨_, rfl, ?_⟩; have n0_ := aM19 (Kd.V_below (by (with_reducible repeat (first | apply Kd.V_alloc | apply Kd.V_drewN | apply Kd.V_drew)); exact HO194.out) hb); have n1_ := aM19 (blk_below (g := gb188) (o := .cells #[.int .i64 a0_0, .int .i64 a0_1, .int .i64 a0_2, .slice A0_3 l0_3.length c0_3, .int .i64 a0_4, .int .i64 a0_5, .int .i64 a0_6, .int .i64 a0_7, .int .i64 a0_8, .int .i64 a0_9, .int .i64 a0_10, .int .u8 a0_11] 36 (0, 0)) (by (with_reducible repeat (first | refine bN19 ?_ _ | refine bD19 ?_ | refine bK19 ?_ _)); exact BK188.out) hb); have n2_ := aM19 (blk_below (g := gb195) (o := .cells #[.int .i64 t189, .int .i64 t190, .int .i64 t191, .slice Ao199 t192.length co199] 25 (0, 0)) (by (with_reducible repeat (first | refine bN19 ?_ _ | refine bD19 ?_ | refine bK19 ?_ _)); exact BK195.out) hb); have n3_ := aM19 (blk_below (g := gb196) (o := .cells #[.int .i64 a0_4, .int .i64 a0_5, .int .i64 a0_6, .int .i64 a0_7, .int .i64 a0_8, .int .i64 a0_9] 27 (0, 0)) (by (with_reducible repeat (first | refine bN19 ?_ _ | refine bD19 ?_ | refine bK19 ?_ _)); exact BK196.out) hb); have n4_ := aM19 (below_step (by repeat (first | (with_reducible first | exact HB.out | apply below_alloc | apply pw_below_drewN | apply below_drew1 | refine below_set ?_ GE188.out | refine below_set ?_ GE195.out | refine below_set ?_ GE196.out) | exact HB.out)) hb); clear HO194; clear BK188; clear BK195; clear BK196; clear HB; have HO194 := n0_; have BK188 := n1_; have BK195 := n2_; have BK196 := n3_; have HB := n4_; clear n0_ n1_ n2_ n3_ n4_; (try clear hb); (try clear hb2); (try clear hk); (try clear hi)))
 go_ret
 exact ⟨by first | rfl | (simp [errW_none, errW_some] <;> rfl) | (simp [*, errW_none, errW_some] <;> rfl) | (rw [Int.tdiv_eq_ediv_of_nonneg (by assumption)]; rfl), by repeat (first | (with_reducible first | exact HB.out | apply below_alloc | apply pw_below_drewN | apply below_drew1 | refine below_set ?_ GE188.out | refine below_set ?_ GE195.out | refine below_set ?_ GE196.out) | exact HB.out)⟩
end Go.Proofs.Ytfcocbkfodmmbaa.PA
