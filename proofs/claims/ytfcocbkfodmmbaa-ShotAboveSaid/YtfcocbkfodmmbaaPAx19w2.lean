import Derived.Test.YtfcocbkfodmmbaaPAx19w0
namespace Go.Proofs.Ytfcocbkfodmmbaa.PA
open Go.RowKit Go.Proofs.YtfcocbkfodmmbaaW.PrintWords Go.Proofs.YtfcocbkfodmmbaaW.PrintLast Go.Proofs.YtfcocbkfodmmbaaW.PrintMore
attribute [local go_sem] max2_int min2_int max_two min_two max_three min_three max_four min_four   -- for this text's walks alone
set_option linter.unusedVariables false
set_option linter.unusedSimpArgs false
attribute [local go_sem high] eqA38
set_option maxHeartbeats 8000000 in
set_option maxRecDepth 100000 in
theorem bivouaclaw16_ShotAbove.way2 (k : Nat) (a0_0 : Int) (a0_1 : Int) (a0_2 : Int) (A0_3 : Option Addr) (c0_3 : Nat) (l0_3 : List Int) (a0_4 : Int) (a0_5 : Int) (a0_6 : Int) (a0_7 : Int) (a0_8 : Int) (a0_9 : Int) (a0_10 : Int) (a0_11 : Int) (r : Bool) (w : World) (hr0_3 : Kd.C (Kd.int .u8) w A0_3 l0_3.length l0_3) (hc0_3 : l0_3.length ≤ c0_3) {t189 t190 t191 t192 t197 t199 t200 t201 t202 t203 t204 t205 t206 t207 t209 t210 t211 t212 t213 t214 t215 t216 t217 t220 t221 : _}  (A20 : (bivouaclaw16_few.f a0_0 a0_1 a0_2 l0_3) = some (t189, t190, t191, t192)) (A30 : (bivouacref06_Check.f k t189 t190 t191 t192) = some t197) (c4 : (t197 = 0)) (A50 : (shot_Fly.f k t189 t190 t191 t192 a0_4 a0_5 a0_6 a0_7 a0_8 a0_9 ((a0_10) % 256)) = some (t199, t200, t201, t202, t203, t204, t205, t206, t207)) (A60 : (shot_Fly.f k t189 t190 t191 t192 a0_4 a0_5 a0_6 a0_7 a0_8 a0_9 (wrap64 (((a0_10) % 256) + (wrap64 (a0_11))))) = some (t209, t210, t211, t212, t213, t214, t215, t216, t217)) (c7 : (t207 = 0)) (c8 : ¬(t200 = 0)) (c96 : (t217 = 0)) (c97 : ((t209 == t199 && (t210 == t200 && ((t211 == t201 && (t212 == t202 && (t213 == t203 && (t214 == t204 && (t215 == t205 && (t216 == t206))))))))) = true)) (c98 : (t199 ≥ 1)) (c99 : (t199 ≤ ((a0_10) % 256))) (A1000 : (bivouacref06_On.f t189 t190 t191 t192 t201 t202) = some t220) (c101 : (((t200 == 3) == (!t220)) = true)) (A1020 : (bivouaclaw16_awake.f) = some t221) (H : (some t221) = some r):
  Calls Try.prog 9 #[.agg #[.int .i64 a0_0, .int .i64 a0_1, .int .i64 a0_2, .slice A0_3 l0_3.length c0_3, .int .i64 a0_4, .int .i64 a0_5, .int .i64 a0_6, .int .i64 a0_7, .int .i64 a0_8, .int .i64 a0_9, .int .i64 a0_10, .int .u8 a0_11]] w fun e w' => e = .returned (.bool r) ∧ Below w.heap.size w w' := by
 have hu36 := Try.underlying36
 have hu25 := Try.underlying25
 have hu27 := Try.underlying27
 have hu38 := Try.underlying38
 have HR0_3 := aM19 hr0_3
 have HC0_3 := aM19 hc0_3
 clear hr0_3 hc0_3
 have HB := aM19 (Below.refl w.heap.size w)
 have A2 := aM19 A20
 clear A20
 have A3 := aM19 A30
 clear A30
 have c4b0 : (t197 == 0) = true := beq_iff_eq.mpr c4
 have c4b1 : (t197 != 0) = false := bne_eq_false_iff_eq.mpr c4
 clear c4
 have A5 := aM19 A50
 clear A50
 have A6 := aM19 A60
 clear A60
 have c7b0 : (t207 == 0) = true := beq_iff_eq.mpr c7
 have c7b1 : (t207 != 0) = false := bne_eq_false_iff_eq.mpr c7
 clear c7
 have c8b0 : (t200 == 0) = false := beq_eq_false_iff_ne.mpr c8
 have c8b1 : (t200 != 0) = true := bne_iff_ne.mpr c8
 have c96b0 : (t217 == 0) = true := beq_iff_eq.mpr c96
 have c96b1 : (t217 != 0) = false := bne_eq_false_iff_eq.mpr c96
 clear c96
 have c97b0 : (t209 == t199 && (t210 == t200 && ((t211 == t201 && (t212 == t202 && (t213 == t203 && (t214 == t204 && (t215 == t205 && (t216 == t206))))))))) = true := c97
 (try (have c97b1 : decide (t209 = t199 && (t210 == t200 && ((t211 == t201 && (t212 == t202 && (t213 == t203 && (t214 == t204 && (t215 == t205 && (t216 == t206))))))))) = true := by simpa using c97))
 (try (have c97b2 : (t209 == t199 && (t210 == t200 && ((t211 == t201 && (t212 == t202 && (t213 == t203 && (t214 == t204 && (t215 == t205 && (t216 == t206))))))))) = true := by simpa using c97))
 clear c97
 have c98b0 : decide (1 ≤ t199) = true := decide_eq_true c98
 clear c98
 have c99b0 : decide (t199 ≤ ((a0_10) % 256)) = true := decide_eq_true c99
 clear c99
 have A100 := aM19 A1000
 clear A1000
 have c101b0 : ((t200 == 3) == (!t220)) = true := c101
 (try (have c101b1 : decide ((t200 == 3) = (!t220)) = true := by simpa using c101))
 (try (have c101b2 : ((t200 == 3) == (!t220)) = true := by simpa using c101))
 clear c101
 have A102 := aM19 A1020
 clear A1020
 obtain rfl := Option.some.inj H
 go_enter Try.func9, Try.ntmps9
 try go_wp2_with (first | ((with_reducible refine gate_dst (N := 1) rfl ?_); refine box_event ?hg (N := 1) ?hd (cs := #[.int .i64 a0_0, .int .i64 a0_1, .int .i64 a0_2, .slice A0_3 l0_3.length c0_3, .int .i64 a0_4, .int .i64 a0_5, .int .i64 a0_6, .int .i64 a0_7, .int .i64 a0_8, .int .i64 a0_9, .int .i64 a0_10, .int .u8 a0_11]) (t := 36) ?hr ?_; (case hd => rfl); (case hg => rfl); (case hr => first | (go_simp; done) | (go_simp; rfl)); intro gb188 hg w103 hbox hb; have n0_ := aM19 (below_step (by repeat (first | (with_reducible first | exact HB.out | apply below_alloc | apply pw_below_drewN | apply below_drew1) | exact HB.out)) hb); have n1_ := aM19 (hbox); have n2_ := aM19 ((by rw [hg]; exact (below_size (by repeat (first | (with_reducible first | exact HB.out | apply below_alloc | apply pw_below_drewN | apply below_drew1) | exact HB.out))) : w.heap.size ≤ gb188)); have n3_ := aM19 ((by rw [hg]; exact (below_size (by repeat (first | (with_reducible first | exact HB.out | apply below_alloc | apply pw_below_drewN | apply below_drew1) | exact HB.out))) : w.heap.size ≤ gb188)); clear HB; have HB := n0_; have BK188 := n1_; have GW188 := n2_; have GE188 := n3_; clear n0_ n1_ n2_ n3_; clear hb hbox hg))
 have n0_ := aM19 (bD19 BK188.out)
 have n1_ := aM19 (below_drew1 HB.out)
 clear BK188
 clear HB
 have BK188 := n0_
 have HB := n1_
 clear n0_ n1_
 refine start_ (n := 16) (S := fun w' => w'.cell? ⟨gb188, 0, none⟩ = some (.int .i64 a0_0) ∧ w'.cell? ⟨gb188, 1, none⟩ = some (.int .i64 a0_1) ∧ w'.cell? ⟨gb188, 2, none⟩ = some (.int .i64 a0_2) ∧ w'.cell? ⟨gb188, 3, none⟩ = some (.slice A0_3 l0_3.length c0_3) ∧ w'.cell? ⟨gb188, 4, none⟩ = some (.int .i64 a0_4) ∧ w'.cell? ⟨gb188, 5, none⟩ = some (.int .i64 a0_5) ∧ w'.cell? ⟨gb188, 6, none⟩ = some (.int .i64 a0_6) ∧ w'.cell? ⟨gb188, 7, none⟩ = some (.int .i64 a0_7) ∧ w'.cell? ⟨gb188, 8, none⟩ = some (.int .i64 a0_8) ∧ w'.cell? ⟨gb188, 9, none⟩ = some (.int .i64 a0_9) ∧ w'.cell? ⟨gb188, 10, none⟩ = some (.int .i64 a0_10) ∧ w'.cell? ⟨gb188, 11, none⟩ = some (.int .u8 a0_11)) (ds := []) (bA 16 0) (by kernel_rfl) rfl rfl ⟨(bC19 BK188.out 0).trans rfl, (bC19 BK188.out 1).trans rfl, (bC19 BK188.out 2).trans rfl, (bC19 BK188.out 3).trans rfl, (bC19 BK188.out 4).trans rfl, (bC19 BK188.out 5).trans rfl, (bC19 BK188.out 6).trans rfl, (bC19 BK188.out 7).trans rfl, (bC19 BK188.out 8).trans rfl, (bC19 BK188.out 9).trans rfl, (bC19 BK188.out 10).trans rfl, (bC19 BK188.out 11).trans rfl⟩ (fun hHeld => ?_); refine with_tabW bivouaclaw16_ShotAbove.tab1 bivouaclaw16_ShotAbove.bits1 (fun HT_ HW_ => ?_)
 generalize w103.drew = w104 at BK188 HB hHeld ⊢
 refine pure_ (i := 0) (N := some 11) (v := ?_) (a' := ?_) (bA 16 1) rfl rfl (any_of HT_.out (by kernel_rfl)) (fun _ _ _ h => h) (Or.inl ⟨by rfl, ?_⟩) ?_ ?_
 rotate_left
 ·
  intro w'
  go_simp
  with_reducible rfl
 rotate_left
 ·
  simp only [Act.put, sA, sB, sC, i64_w, i32_w]
  rfl
 refine pure_ (i := 3) (N := some 14) (v := ?_) (a' := ?_) (bA 16 9) rfl rfl (any_of HT_.out (by kernel_rfl)) (fun _ _ _ h => h) (Or.inl ⟨by rfl, ?_⟩) ?_ ?_
 rotate_left
 ·
  intro w'
  go_simp
  with_reducible rfl
 rotate_left
 ·
  simp only [Act.put, sA, sB, sC, i64_w, i32_w]
  rfl
 refine pure_ (i := 5) (N := some 16) (v := ?_) (a' := ?_) (bA 16 41) rfl rfl (any_of HT_.out (by kernel_rfl)) (fun _ _ _ h => h) (Or.inl ⟨by rfl, ?_⟩) ?_ ?_
 rotate_left
 ·
  intro w'
  go_simp
  with_reducible rfl
 rotate_left
 ·
  simp only [Act.put, sA, sB, sC, i64_w, i32_w]
  rfl
 refine pure_ (i := 8) (N := some 19) (v := ?_) (a' := ?_) (bA 16 297) rfl rfl (any_of HT_.out (by kernel_rfl)) (fun _ _ _ h => h) (Or.inl ⟨by rfl, ?_⟩) ?_ ?_
 rotate_left
 ·
  intro w'
  go_simp
  with_reducible rfl
 rotate_left
 ·
  simp only [Act.put, sA, sB, sC, i64_w, i32_w]
  rfl
 refine take_ (i := 1) (N := some 12) (v := ?_) (a' := ?_) (bA 16 299) rfl rfl (take_ofW HT_.out HW_.out (by kernel_rfl)) (fun _ _ _ h => h) (Or.inl ⟨by rfl, ?_⟩) hHeld ?_ ?_
 rotate_left
 ·
  rintro w' ⟨s0, s1, s2, s3, s4, s5, s6, s7, s8, s9, s10, s11⟩
  go_simp
  with_reducible rfl
 rotate_left
 ·
  simp only [Act.put, sA, sB, sC, i64_w, i32_w]
  rfl
 refine take_ (i := 4) (N := some 15) (v := ?_) (a' := ?_) (bA 16 315) rfl rfl (take_ofW HT_.out HW_.out (by kernel_rfl)) (fun _ _ _ h => h) (Or.inl ⟨by rfl, ?_⟩) hHeld ?_ ?_
 rotate_left
 ·
  rintro w' ⟨s0, s1, s2, s3, s4, s5, s6, s7, s8, s9, s10, s11⟩
  go_simp
  with_reducible rfl
 rotate_left
 ·
  simp only [Act.put, sA, sB, sC, i64_w, i32_w]
  rfl
 refine take_ (i := 6) (N := some 17) (v := ?_) (a' := ?_) (bA 16 379) rfl rfl (take_ofW HT_.out HW_.out (by kernel_rfl)) (fun _ _ _ h => h) (Or.inl ⟨by rfl, ?_⟩) hHeld ?_ ?_
 rotate_left
 ·
  rintro w' ⟨s0, s1, s2, s3, s4, s5, s6, s7, s8, s9, s10, s11⟩
  go_simp
  with_reducible rfl
 rotate_left
 ·
  simp only [Act.put, sA, sB, sC, i64_w, i32_w]
  rfl
 refine pure_ (i := 7) (N := some 18) (v := ?_) (a' := ?_) (bA 16 507) rfl rfl (any_of HT_.out (by kernel_rfl)) (fun _ _ _ h => h) (Or.inl ⟨by rfl, ?_⟩) ?_ ?_
 rotate_left
 ·
  intro w'
  go_simp
  with_reducible rfl
 rotate_left
 ·
  simp only [Act.put, sA, sB, sC, i64_w, i32_w]
  rfl
 refine take_ (i := 9) (N := some 20) (v := ?_) (a' := ?_) (bA 16 1019) rfl rfl (take_ofW HT_.out HW_.out (by kernel_rfl)) (fun _ _ _ h => h) (Or.inl ⟨by rfl, ?_⟩) hHeld ?_ ?_
 rotate_left
 ·
  rintro w' ⟨s0, s1, s2, s3, s4, s5, s6, s7, s8, s9, s10, s11⟩
  go_simp
  with_reducible rfl
 rotate_left
 ·
  simp only [Act.put, sA, sB, sC, i64_w, i32_w]
  rfl
 refine join_ (σ := Value × Nat × Nat) 4 #[true, true, true, true, true, true, true, true, true, true, true, true, false, false, false, false] (fun s_ => [(13, .agg #[.int .i64 t189, .int .i64 t190, .int .i64 t191, s_.1]), (3, .pointer (some ⟨s_.2.1, 0, none⟩)), (4, .pointer (some ⟨s_.2.2, 0, none⟩))]) (fun s_ w' => (w'.cell? ⟨gb188, 0, none⟩ = some (.int .i64 a0_0) ∧ w'.cell? ⟨gb188, 1, none⟩ = some (.int .i64 a0_1) ∧ w'.cell? ⟨gb188, 2, none⟩ = some (.int .i64 a0_2) ∧ w'.cell? ⟨gb188, 3, none⟩ = some (.slice A0_3 l0_3.length c0_3) ∧ w'.cell? ⟨gb188, 4, none⟩ = some (.int .i64 a0_4) ∧ w'.cell? ⟨gb188, 5, none⟩ = some (.int .i64 a0_5) ∧ w'.cell? ⟨gb188, 6, none⟩ = some (.int .i64 a0_6) ∧ w'.cell? ⟨gb188, 7, none⟩ = some (.int .i64 a0_7) ∧ w'.cell? ⟨gb188, 8, none⟩ = some (.int .i64 a0_8) ∧ w'.cell? ⟨gb188, 9, none⟩ = some (.int .i64 a0_9) ∧ w'.cell? ⟨gb188, 10, none⟩ = some (.int .i64 a0_10) ∧ w'.cell? ⟨gb188, 11, none⟩ = some (.int .u8 a0_11)) ∧ (Kd.V (Kd.int .u8) 5 w' w.heap.size (fun k_ => k_ ≠ gb188 ∧ k_ ≠ s_.2.1 ∧ k_ ≠ s_.2.2) s_.1 t192) ∧ (w'.heap[gb188]? = some (.cells #[.int .i64 a0_0, .int .i64 a0_1, .int .i64 a0_2, .slice A0_3 l0_3.length c0_3, .int .i64 a0_4, .int .i64 a0_5, .int .i64 a0_6, .int .i64 a0_7, .int .i64 a0_8, .int .i64 a0_9, .int .i64 a0_10, .int .u8 a0_11] 36 (0, 0))) ∧ (w'.heap[s_.2.1]? = some (.cells #[.int .i64 0, .int .i64 0, .int .i64 0, .slice none 0 0] 25 (0, 0))) ∧ (w'.heap[s_.2.2]? = some (.cells #[.int .i64 0, .int .i64 0, .int .i64 0, .int .i64 0, .int .i64 0, .int .i64 0] 27 (0, 0))) ∧ (w.heap.size ≤ s_.2.1) ∧ (w.heap.size ≤ s_.2.1) ∧ (gb188 ≠ s_.2.1) ∧ (s_.2.1 ≠ gb188) ∧ (s_.2.2 ≠ s_.2.1) ∧ (s_.2.1 ≠ s_.2.2) ∧ (w.heap.size ≤ s_.2.2) ∧ (w.heap.size ≤ s_.2.2) ∧ (gb188 ≠ s_.2.2) ∧ (s_.2.2 ≠ gb188) ∧ (Below w.heap.size w w')) ?_ ?_
 rotate_left
 ·
  intro hJ2_10_11
  refine join_ (σ := Value × Nat) 5 #[true, true, true, true, true, true, true, true, true, true, true, false, false, false, false, false] (fun s_ => [(13, .agg #[.int .i64 t189, .int .i64 t190, .int .i64 t191, s_.1]), (3, .pointer (some ⟨s_.2, 0, none⟩))]) (fun s_ w' => (w'.cell? ⟨gb188, 0, none⟩ = some (.int .i64 a0_0) ∧ w'.cell? ⟨gb188, 1, none⟩ = some (.int .i64 a0_1) ∧ w'.cell? ⟨gb188, 2, none⟩ = some (.int .i64 a0_2) ∧ w'.cell? ⟨gb188, 3, none⟩ = some (.slice A0_3 l0_3.length c0_3) ∧ w'.cell? ⟨gb188, 4, none⟩ = some (.int .i64 a0_4) ∧ w'.cell? ⟨gb188, 5, none⟩ = some (.int .i64 a0_5) ∧ w'.cell? ⟨gb188, 6, none⟩ = some (.int .i64 a0_6) ∧ w'.cell? ⟨gb188, 7, none⟩ = some (.int .i64 a0_7) ∧ w'.cell? ⟨gb188, 8, none⟩ = some (.int .i64 a0_8) ∧ w'.cell? ⟨gb188, 9, none⟩ = some (.int .i64 a0_9) ∧ w'.cell? ⟨gb188, 10, none⟩ = some (.int .i64 a0_10) ∧ w'.cell? ⟨gb188, 11, none⟩ = some (.int .u8 a0_11)) ∧ (Kd.V (Kd.int .u8) 5 w' w.heap.size (fun k_ => k_ ≠ gb188 ∧ k_ ≠ s_.2) s_.1 t192) ∧ (w'.heap[gb188]? = some (.cells #[.int .i64 a0_0, .int .i64 a0_1, .int .i64 a0_2, .slice A0_3 l0_3.length c0_3, .int .i64 a0_4, .int .i64 a0_5, .int .i64 a0_6, .int .i64 a0_7, .int .i64 a0_8, .int .i64 a0_9, .int .i64 a0_10, .int .u8 a0_11] 36 (0, 0))) ∧ (w'.heap[s_.2]? = some (.cells #[.int .i64 0, .int .i64 0, .int .i64 0, .slice none 0 0] 25 (0, 0))) ∧ (w.heap.size ≤ s_.2) ∧ (w.heap.size ≤ s_.2) ∧ (gb188 ≠ s_.2) ∧ (s_.2 ≠ gb188) ∧ (Below w.heap.size w w')) ?_ ?_
  rotate_left
  ·
   intro hJ2_10
   refine join_ (σ := Value × Nat) 5 #[true, true, true, true, true, true, true, true, true, true, false, true, false, false, false, false] (fun s_ => [(13, .agg #[.int .i64 t189, .int .i64 t190, .int .i64 t191, s_.1]), (4, .pointer (some ⟨s_.2, 0, none⟩))]) (fun s_ w' => (w'.cell? ⟨gb188, 0, none⟩ = some (.int .i64 a0_0) ∧ w'.cell? ⟨gb188, 1, none⟩ = some (.int .i64 a0_1) ∧ w'.cell? ⟨gb188, 2, none⟩ = some (.int .i64 a0_2) ∧ w'.cell? ⟨gb188, 3, none⟩ = some (.slice A0_3 l0_3.length c0_3) ∧ w'.cell? ⟨gb188, 4, none⟩ = some (.int .i64 a0_4) ∧ w'.cell? ⟨gb188, 5, none⟩ = some (.int .i64 a0_5) ∧ w'.cell? ⟨gb188, 6, none⟩ = some (.int .i64 a0_6) ∧ w'.cell? ⟨gb188, 7, none⟩ = some (.int .i64 a0_7) ∧ w'.cell? ⟨gb188, 8, none⟩ = some (.int .i64 a0_8) ∧ w'.cell? ⟨gb188, 9, none⟩ = some (.int .i64 a0_9) ∧ w'.cell? ⟨gb188, 10, none⟩ = some (.int .i64 a0_10) ∧ w'.cell? ⟨gb188, 11, none⟩ = some (.int .u8 a0_11)) ∧ (Kd.V (Kd.int .u8) 5 w' w.heap.size (fun k_ => k_ ≠ gb188 ∧ k_ ≠ s_.2) s_.1 t192) ∧ (w'.heap[gb188]? = some (.cells #[.int .i64 a0_0, .int .i64 a0_1, .int .i64 a0_2, .slice A0_3 l0_3.length c0_3, .int .i64 a0_4, .int .i64 a0_5, .int .i64 a0_6, .int .i64 a0_7, .int .i64 a0_8, .int .i64 a0_9, .int .i64 a0_10, .int .u8 a0_11] 36 (0, 0))) ∧ (w'.heap[s_.2]? = some (.cells #[.int .i64 0, .int .i64 0, .int .i64 0, .int .i64 0, .int .i64 0, .int .i64 0] 27 (0, 0))) ∧ (w.heap.size ≤ s_.2) ∧ (w.heap.size ≤ s_.2) ∧ (gb188 ≠ s_.2) ∧ (s_.2 ≠ gb188) ∧ (Below w.heap.size w w')) ?_ ?_
   rotate_left
   ·
    intro hJ2_11
    refine join_ (σ := Nat × Nat) 5 #[true, true, false, true, true, true, true, true, true, true, true, true, false, false, false, false] (fun s_ => [(3, .pointer (some ⟨s_.1, 0, none⟩)), (4, .pointer (some ⟨s_.2, 0, none⟩))]) (fun s_ w' => (w'.cell? ⟨gb188, 0, none⟩ = some (.int .i64 a0_0) ∧ w'.cell? ⟨gb188, 1, none⟩ = some (.int .i64 a0_1) ∧ w'.cell? ⟨gb188, 2, none⟩ = some (.int .i64 a0_2) ∧ w'.cell? ⟨gb188, 3, none⟩ = some (.slice A0_3 l0_3.length c0_3) ∧ w'.cell? ⟨gb188, 4, none⟩ = some (.int .i64 a0_4) ∧ w'.cell? ⟨gb188, 5, none⟩ = some (.int .i64 a0_5) ∧ w'.cell? ⟨gb188, 6, none⟩ = some (.int .i64 a0_6) ∧ w'.cell? ⟨gb188, 7, none⟩ = some (.int .i64 a0_7) ∧ w'.cell? ⟨gb188, 8, none⟩ = some (.int .i64 a0_8) ∧ w'.cell? ⟨gb188, 9, none⟩ = some (.int .i64 a0_9) ∧ w'.cell? ⟨gb188, 10, none⟩ = some (.int .i64 a0_10) ∧ w'.cell? ⟨gb188, 11, none⟩ = some (.int .u8 a0_11)) ∧ (w'.heap[gb188]? = some (.cells #[.int .i64 a0_0, .int .i64 a0_1, .int .i64 a0_2, .slice A0_3 l0_3.length c0_3, .int .i64 a0_4, .int .i64 a0_5, .int .i64 a0_6, .int .i64 a0_7, .int .i64 a0_8, .int .i64 a0_9, .int .i64 a0_10, .int .u8 a0_11] 36 (0, 0))) ∧ (w'.heap[s_.1]? = some (.cells #[.int .i64 0, .int .i64 0, .int .i64 0, .slice none 0 0] 25 (0, 0))) ∧ (w'.heap[s_.2]? = some (.cells #[.int .i64 0, .int .i64 0, .int .i64 0, .int .i64 0, .int .i64 0, .int .i64 0] 27 (0, 0))) ∧ (w.heap.size ≤ s_.1) ∧ (w.heap.size ≤ s_.1) ∧ (gb188 ≠ s_.1) ∧ (s_.1 ≠ gb188) ∧ (s_.2 ≠ s_.1) ∧ (s_.1 ≠ s_.2) ∧ (w.heap.size ≤ s_.2) ∧ (w.heap.size ≤ s_.2) ∧ (gb188 ≠ s_.2) ∧ (s_.2 ≠ gb188) ∧ (Below w.heap.size w w')) ?_ ?_
    rotate_left
    ·
     intro hJ10_11
     refine join_ (σ := Value) 6 #[true, true, true, true, true, true, true, true, true, true, false, false, false, false, false, false] (fun s_ => [(13, .agg #[.int .i64 t189, .int .i64 t190, .int .i64 t191, s_])]) (fun s_ w' => (w'.cell? ⟨gb188, 0, none⟩ = some (.int .i64 a0_0) ∧ w'.cell? ⟨gb188, 1, none⟩ = some (.int .i64 a0_1) ∧ w'.cell? ⟨gb188, 2, none⟩ = some (.int .i64 a0_2) ∧ w'.cell? ⟨gb188, 3, none⟩ = some (.slice A0_3 l0_3.length c0_3) ∧ w'.cell? ⟨gb188, 4, none⟩ = some (.int .i64 a0_4) ∧ w'.cell? ⟨gb188, 5, none⟩ = some (.int .i64 a0_5) ∧ w'.cell? ⟨gb188, 6, none⟩ = some (.int .i64 a0_6) ∧ w'.cell? ⟨gb188, 7, none⟩ = some (.int .i64 a0_7) ∧ w'.cell? ⟨gb188, 8, none⟩ = some (.int .i64 a0_8) ∧ w'.cell? ⟨gb188, 9, none⟩ = some (.int .i64 a0_9) ∧ w'.cell? ⟨gb188, 10, none⟩ = some (.int .i64 a0_10) ∧ w'.cell? ⟨gb188, 11, none⟩ = some (.int .u8 a0_11)) ∧ (Kd.V (Kd.int .u8) 5 w' w.heap.size (fun k_ => k_ ≠ gb188) s_ t192) ∧ (w'.heap[gb188]? = some (.cells #[.int .i64 a0_0, .int .i64 a0_1, .int .i64 a0_2, .slice A0_3 l0_3.length c0_3, .int .i64 a0_4, .int .i64 a0_5, .int .i64 a0_6, .int .i64 a0_7, .int .i64 a0_8, .int .i64 a0_9, .int .i64 a0_10, .int .u8 a0_11] 36 (0, 0))) ∧ (Below w.heap.size w w')) ?_ ?_
     rotate_left
     ·
      intro hJ2
      refine join_ (σ := Nat) 6 #[true, true, false, true, true, true, true, true, true, true, true, false, false, false, false, false] (fun s_ => [(3, .pointer (some ⟨s_, 0, none⟩))]) (fun s_ w' => (w'.cell? ⟨gb188, 0, none⟩ = some (.int .i64 a0_0) ∧ w'.cell? ⟨gb188, 1, none⟩ = some (.int .i64 a0_1) ∧ w'.cell? ⟨gb188, 2, none⟩ = some (.int .i64 a0_2) ∧ w'.cell? ⟨gb188, 3, none⟩ = some (.slice A0_3 l0_3.length c0_3) ∧ w'.cell? ⟨gb188, 4, none⟩ = some (.int .i64 a0_4) ∧ w'.cell? ⟨gb188, 5, none⟩ = some (.int .i64 a0_5) ∧ w'.cell? ⟨gb188, 6, none⟩ = some (.int .i64 a0_6) ∧ w'.cell? ⟨gb188, 7, none⟩ = some (.int .i64 a0_7) ∧ w'.cell? ⟨gb188, 8, none⟩ = some (.int .i64 a0_8) ∧ w'.cell? ⟨gb188, 9, none⟩ = some (.int .i64 a0_9) ∧ w'.cell? ⟨gb188, 10, none⟩ = some (.int .i64 a0_10) ∧ w'.cell? ⟨gb188, 11, none⟩ = some (.int .u8 a0_11)) ∧ (w'.heap[gb188]? = some (.cells #[.int .i64 a0_0, .int .i64 a0_1, .int .i64 a0_2, .slice A0_3 l0_3.length c0_3, .int .i64 a0_4, .int .i64 a0_5, .int .i64 a0_6, .int .i64 a0_7, .int .i64 a0_8, .int .i64 a0_9, .int .i64 a0_10, .int .u8 a0_11] 36 (0, 0))) ∧ (w'.heap[s_]? = some (.cells #[.int .i64 0, .int .i64 0, .int .i64 0, .slice none 0 0] 25 (0, 0))) ∧ (w.heap.size ≤ s_) ∧ (w.heap.size ≤ s_) ∧ (gb188 ≠ s_) ∧ (s_ ≠ gb188) ∧ (Below w.heap.size w w')) ?_ ?_
      rotate_left
      ·
       intro hJ10
       refine join_ (σ := Nat) 6 #[true, true, false, true, true, true, true, true, true, true, false, true, false, false, false, false] (fun s_ => [(4, .pointer (some ⟨s_, 0, none⟩))]) (fun s_ w' => (w'.cell? ⟨gb188, 0, none⟩ = some (.int .i64 a0_0) ∧ w'.cell? ⟨gb188, 1, none⟩ = some (.int .i64 a0_1) ∧ w'.cell? ⟨gb188, 2, none⟩ = some (.int .i64 a0_2) ∧ w'.cell? ⟨gb188, 3, none⟩ = some (.slice A0_3 l0_3.length c0_3) ∧ w'.cell? ⟨gb188, 4, none⟩ = some (.int .i64 a0_4) ∧ w'.cell? ⟨gb188, 5, none⟩ = some (.int .i64 a0_5) ∧ w'.cell? ⟨gb188, 6, none⟩ = some (.int .i64 a0_6) ∧ w'.cell? ⟨gb188, 7, none⟩ = some (.int .i64 a0_7) ∧ w'.cell? ⟨gb188, 8, none⟩ = some (.int .i64 a0_8) ∧ w'.cell? ⟨gb188, 9, none⟩ = some (.int .i64 a0_9) ∧ w'.cell? ⟨gb188, 10, none⟩ = some (.int .i64 a0_10) ∧ w'.cell? ⟨gb188, 11, none⟩ = some (.int .u8 a0_11)) ∧ (w'.heap[gb188]? = some (.cells #[.int .i64 a0_0, .int .i64 a0_1, .int .i64 a0_2, .slice A0_3 l0_3.length c0_3, .int .i64 a0_4, .int .i64 a0_5, .int .i64 a0_6, .int .i64 a0_7, .int .i64 a0_8, .int .i64 a0_9, .int .i64 a0_10, .int .u8 a0_11] 36 (0, 0))) ∧ (w'.heap[s_]? = some (.cells #[.int .i64 0, .int .i64 0, .int .i64 0, .int .i64 0, .int .i64 0, .int .i64 0] 27 (0, 0))) ∧ (w.heap.size ≤ s_) ∧ (w.heap.size ≤ s_) ∧ (gb188 ≠ s_) ∧ (s_ ≠ gb188) ∧ (Below w.heap.size w w')) ?_ ?_
       rotate_left
       ·
        intro hJ11
        refine three_ (i := 2) (j := 10) (k := 11) (Ni := some 13) (Nj := some 3) (Nk := some 4) (bA 16 1023) #[true, true, false, true, true, true, true, true, true, true, true, false, false, false, false, false] #[true, true, false, true, true, true, true, true, true, true, false, true, false, false, false, false] rfl rfl rfl rfl rfl rfl (three_of HT_.out (by kernel_rfl)) (by decide) (by decide) (by decide) (fun K hK => ?_) (fun K hK => ?_) (fun K hK => ?_)
        ·
         skip
         refine goes_ Try.func11 (by kernel_rfl) rfl #[.agg #[.int .i64 a0_0, .int .i64 a0_1, .int .i64 a0_2, .slice A0_3 l0_3.length c0_3]] (by rfl) rfl rfl (by (try simp only [List.map_toArray, List.map_cons, List.map_nil]); first | done | rfl | (simp only [List.length_drop, List.length_take]; rfl)) ?_
         with_reducible refine (bivouaclaw16_few.calls a0_0 a0_1 a0_2 (fun k_ => k_ < w.heap.size) _ _ l0_3 t189 t190 t191 t192 _ ?side1 A2.out).mono ?_
         (case side1 => exact Kd.V_mk HC0_3.out (Kd.F_below (Kd.C_F (Kd.heap_int .u8) HR0_3.out) (by repeat (first | (with_reducible first | exact HB.out | apply below_alloc | apply pw_below_drewN | apply below_drew1 | refine below_set ?_ GE188.out) | exact HB.out))))
         rintro e w105 ⟨v193, rfl, ho0, hb⟩
         refine ⟨_, rfl, ?_⟩
         have n0_ := aM19 (Kd.V_lower (Kd.V_mono (ok' := fun k_ => k_ ≠ gb188) ho0 (fun k_ hk_ => Or.elim hk_ (fun hs_ => fun e_ => Nat.not_le.2 hs_ (by rw [e_]; exact GW188.out)) (fun hn_ => (Kd.freshB (g := gb188) (o := .cells #[.int .i64 a0_0, .int .i64 a0_1, .int .i64 a0_2, .slice A0_3 l0_3.length c0_3, .int .i64 a0_4, .int .i64 a0_5, .int .i64 a0_6, .int .i64 a0_7, .int .i64 a0_8, .int .i64 a0_9, .int .i64 a0_10, .int .u8 a0_11] 36 (0, 0)) (by (with_reducible repeat (first | refine bN19 ?_ _ | refine bD19 ?_ | refine bK19 ?_ _)); exact BK188.out) k_ hn_)))) (below_size (by repeat (first | (with_reducible first | exact HB.out | apply below_alloc | apply pw_below_drewN | apply below_drew1 | refine below_set ?_ GE188.out) | exact HB.out))))
         have n1_ := aM19 (blk_below (g := gb188) (o := .cells #[.int .i64 a0_0, .int .i64 a0_1, .int .i64 a0_2, .slice A0_3 l0_3.length c0_3, .int .i64 a0_4, .int .i64 a0_5, .int .i64 a0_6, .int .i64 a0_7, .int .i64 a0_8, .int .i64 a0_9, .int .i64 a0_10, .int .u8 a0_11] 36 (0, 0)) (by (with_reducible repeat (first | refine bN19 ?_ _ | refine bD19 ?_ | refine bK19 ?_ _)); exact BK188.out) hb)
         have n2_ := aM19 (below_step (by repeat (first | (with_reducible first | exact HB.out | apply below_alloc | apply pw_below_drewN | apply below_drew1 | refine below_set ?_ GE188.out) | exact HB.out)) hb)
         clear BK188
         clear HB
         have HO194 := n0_
         have BK188 := n1_
         have HB := n2_
         clear n0_ n1_ n2_
         (try clear hb)
         (try clear hb2)
         (try clear hk)
         (try clear hi)
         (try clear ho0)
         refine hK.out _ _ ⟨(bC19 BK188.out 0).trans rfl, (bC19 BK188.out 1).trans rfl, (bC19 BK188.out 2).trans rfl, (bC19 BK188.out 3).trans rfl, (bC19 BK188.out 4).trans rfl, (bC19 BK188.out 5).trans rfl, (bC19 BK188.out 6).trans rfl, (bC19 BK188.out 7).trans rfl, (bC19 BK188.out 8).trans rfl, (bC19 BK188.out 9).trans rfl, (bC19 BK188.out 10).trans rfl, (bC19 BK188.out 11).trans rfl⟩ (fun hHeld => ?_)
         clear hK K
         refine norm_ (a' := ?_) ?_ ?_
         rotate_left
         ·
          show Act.put _ (some 13) _ = _
          simp only [Act.put, sA, sB, sC, i64_w, i32_w]
          rfl
         exact norm_ (by first | (simp only [putAll, Act.put, List.setIfInBounds_toArray, List.set_cons_zero, List.set_cons_succ]; done) | (simp only [putAll, Act.put, List.setIfInBounds_toArray, List.set_cons_zero, List.set_cons_succ]; rfl)) (hJ2 (v193) _ ⟨hHeld, (by (with_reducible repeat (first | apply Kd.V_alloc | apply Kd.V_drewN | apply Kd.V_drew)); exact HO194.out), (by (with_reducible repeat (first | refine bN19 ?_ _ | refine bD19 ?_ | refine bK19 ?_ _)); exact BK188.out), (by repeat (first | (with_reducible first | exact HB.out | apply below_alloc | apply pw_below_drewN | apply below_drew1 | refine below_set ?_ GE188.out) | exact HB.out))⟩)
        ·
         skip
         refine box_step ?hg (N := 3) ?hd (cs := #[.int .i64 0, .int .i64 0, .int .i64 0, .slice none 0 0]) (t := 25) ?hr ?_; (case hd => rfl); (case hg => rfl); (case hr => first | (go_simp; done) | (go_simp; rfl))
         intro gb195 hg w105 hbox hb
         have n0_ := aM19 (blk_below (g := gb188) (o := .cells #[.int .i64 a0_0, .int .i64 a0_1, .int .i64 a0_2, .slice A0_3 l0_3.length c0_3, .int .i64 a0_4, .int .i64 a0_5, .int .i64 a0_6, .int .i64 a0_7, .int .i64 a0_8, .int .i64 a0_9, .int .i64 a0_10, .int .u8 a0_11] 36 (0, 0)) (by (with_reducible repeat (first | refine bN19 ?_ _ | refine bD19 ?_ | refine bK19 ?_ _)); exact BK188.out) hb)
         have n1_ := aM19 (below_step (by repeat (first | (with_reducible first | exact HB.out | apply below_alloc | apply pw_below_drewN | apply below_drew1 | refine below_set ?_ GE188.out) | exact HB.out)) hb)
         have n2_ := aM19 (hbox)
         have n3_ := aM19 ((by rw [hg]; exact (below_size (by repeat (first | (with_reducible first | exact HB.out | apply below_alloc | apply pw_below_drewN | apply below_drew1 | refine below_set ?_ GE188.out) | exact HB.out))) : w.heap.size ≤ gb195))
         have n4_ := aM19 ((by rw [hg]; exact (below_size (by repeat (first | (with_reducible first | exact HB.out | apply below_alloc | apply pw_below_drewN | apply below_drew1 | refine below_set ?_ GE188.out) | exact HB.out))) : w.heap.size ≤ gb195))
         have n5_ := aM19 ((by rw [hg]; exact Nat.ne_of_lt (blk_lt (g := gb188) (o := .cells #[.int .i64 a0_0, .int .i64 a0_1, .int .i64 a0_2, .slice A0_3 l0_3.length c0_3, .int .i64 a0_4, .int .i64 a0_5, .int .i64 a0_6, .int .i64 a0_7, .int .i64 a0_8, .int .i64 a0_9, .int .i64 a0_10, .int .u8 a0_11] 36 (0, 0)) (by (with_reducible repeat (first | refine bN19 ?_ _ | refine bD19 ?_ | refine bK19 ?_ _)); exact BK188.out)) : gb188 ≠ gb195))
         have n6_ := aM19 ((by rw [hg]; exact Nat.ne_of_gt (blk_lt (g := gb188) (o := .cells #[.int .i64 a0_0, .int .i64 a0_1, .int .i64 a0_2, .slice A0_3 l0_3.length c0_3, .int .i64 a0_4, .int .i64 a0_5, .int .i64 a0_6, .int .i64 a0_7, .int .i64 a0_8, .int .i64 a0_9, .int .i64 a0_10, .int .u8 a0_11] 36 (0, 0)) (by (with_reducible repeat (first | refine bN19 ?_ _ | refine bD19 ?_ | refine bK19 ?_ _)); exact BK188.out)) : gb195 ≠ gb188))
         clear BK188
         clear HB
         have BK188 := n0_
         have HB := n1_
         have BK195 := n2_
         have GW195 := n3_
         have GE195 := n4_
         have NB188_195 := n5_
         have NB195_188 := n6_
         clear n0_ n1_ n2_ n3_ n4_ n5_ n6_
         clear hb hbox hg
         refine hK.out _ _ ⟨(bC19 BK188.out 0).trans rfl, (bC19 BK188.out 1).trans rfl, (bC19 BK188.out 2).trans rfl, (bC19 BK188.out 3).trans rfl, (bC19 BK188.out 4).trans rfl, (bC19 BK188.out 5).trans rfl, (bC19 BK188.out 6).trans rfl, (bC19 BK188.out 7).trans rfl, (bC19 BK188.out 8).trans rfl, (bC19 BK188.out 9).trans rfl, (bC19 BK188.out 10).trans rfl, (bC19 BK188.out 11).trans rfl⟩ (fun hHeld => ?_)
         clear hK K
         refine norm_ (a' := ?_) ?_ ?_
         rotate_left
         ·
          show Act.put _ (some 3) _ = _
          simp only [Act.put, sA, sB, sC, i64_w, i32_w]
          rfl
         exact norm_ (by first | (simp only [putAll, Act.put, List.setIfInBounds_toArray, List.set_cons_zero, List.set_cons_succ]; done) | (simp only [putAll, Act.put, List.setIfInBounds_toArray, List.set_cons_zero, List.set_cons_succ]; rfl)) (hJ10 (gb195) _ ⟨hHeld, (by (with_reducible repeat (first | refine bN19 ?_ _ | refine bD19 ?_ | refine bK19 ?_ _)); exact BK188.out), (by (with_reducible repeat (first | refine bN19 ?_ _ | refine bD19 ?_ | refine bK19 ?_ _)); exact BK195.out), GW195.out, GE195.out, NB188_195.out, NB195_188.out, (by repeat (first | (with_reducible first | exact HB.out | apply below_alloc | apply pw_below_drewN | apply below_drew1 | refine below_set ?_ GE188.out | refine below_set ?_ GE195.out) | exact HB.out))⟩)
        skip
        refine box_step ?hg (N := 4) ?hd (cs := #[.int .i64 0, .int .i64 0, .int .i64 0, .int .i64 0, .int .i64 0, .int .i64 0]) (t := 27) ?hr ?_; (case hd => rfl); (case hg => rfl); (case hr => first | (go_simp; done) | (go_simp; rfl))
        intro gb196 hg w105 hbox hb
        have n0_ := aM19 (blk_below (g := gb188) (o := .cells #[.int .i64 a0_0, .int .i64 a0_1, .int .i64 a0_2, .slice A0_3 l0_3.length c0_3, .int .i64 a0_4, .int .i64 a0_5, .int .i64 a0_6, .int .i64 a0_7, .int .i64 a0_8, .int .i64 a0_9, .int .i64 a0_10, .int .u8 a0_11] 36 (0, 0)) (by (with_reducible repeat (first | refine bN19 ?_ _ | refine bD19 ?_ | refine bK19 ?_ _)); exact BK188.out) hb)
        have n1_ := aM19 (below_step (by repeat (first | (with_reducible first | exact HB.out | apply below_alloc | apply pw_below_drewN | apply below_drew1 | refine below_set ?_ GE188.out) | exact HB.out)) hb)
        have n2_ := aM19 (hbox)
        have n3_ := aM19 ((by rw [hg]; exact (below_size (by repeat (first | (with_reducible first | exact HB.out | apply below_alloc | apply pw_below_drewN | apply below_drew1 | refine below_set ?_ GE188.out) | exact HB.out))) : w.heap.size ≤ gb196))
        have n4_ := aM19 ((by rw [hg]; exact (below_size (by repeat (first | (with_reducible first | exact HB.out | apply below_alloc | apply pw_below_drewN | apply below_drew1 | refine below_set ?_ GE188.out) | exact HB.out))) : w.heap.size ≤ gb196))
        have n5_ := aM19 ((by rw [hg]; exact Nat.ne_of_lt (blk_lt (g := gb188) (o := .cells #[.int .i64 a0_0, .int .i64 a0_1, .int .i64 a0_2, .slice A0_3 l0_3.length c0_3, .int .i64 a0_4, .int .i64 a0_5, .int .i64 a0_6, .int .i64 a0_7, .int .i64 a0_8, .int .i64 a0_9, .int .i64 a0_10, .int .u8 a0_11] 36 (0, 0)) (by (with_reducible repeat (first | refine bN19 ?_ _ | refine bD19 ?_ | refine bK19 ?_ _)); exact BK188.out)) : gb188 ≠ gb196))
        have n6_ := aM19 ((by rw [hg]; exact Nat.ne_of_gt (blk_lt (g := gb188) (o := .cells #[.int .i64 a0_0, .int .i64 a0_1, .int .i64 a0_2, .slice A0_3 l0_3.length c0_3, .int .i64 a0_4, .int .i64 a0_5, .int .i64 a0_6, .int .i64 a0_7, .int .i64 a0_8, .int .i64 a0_9, .int .i64 a0_10, .int .u8 a0_11] 36 (0, 0)) (by (with_reducible repeat (first | refine bN19 ?_ _ | refine bD19 ?_ | refine bK19 ?_ _)); exact BK188.out)) : gb196 ≠ gb188))
        clear BK188
        clear HB
        have BK188 := n0_
        have HB := n1_
        have BK196 := n2_
        have GW196 := n3_
        have GE196 := n4_
        have NB188_196 := n5_
        have NB196_188 := n6_
        clear n0_ n1_ n2_ n3_ n4_ n5_ n6_
        clear hb hbox hg
        refine hK.out _ _ ⟨(bC19 BK188.out 0).trans rfl, (bC19 BK188.out 1).trans rfl, (bC19 BK188.out 2).trans rfl, (bC19 BK188.out 3).trans rfl, (bC19 BK188.out 4).trans rfl, (bC19 BK188.out 5).trans rfl, (bC19 BK188.out 6).trans rfl, (bC19 BK188.out 7).trans rfl, (bC19 BK188.out 8).trans rfl, (bC19 BK188.out 9).trans rfl, (bC19 BK188.out 10).trans rfl, (bC19 BK188.out 11).trans rfl⟩ (fun hHeld => ?_)
        clear hK K
        refine norm_ (a' := ?_) ?_ ?_
        rotate_left
        ·
         show Act.put _ (some 4) _ = _
         simp only [Act.put, sA, sB, sC, i64_w, i32_w]
         rfl
        exact norm_ (by first | (simp only [putAll, Act.put, List.setIfInBounds_toArray, List.set_cons_zero, List.set_cons_succ]; done) | (simp only [putAll, Act.put, List.setIfInBounds_toArray, List.set_cons_zero, List.set_cons_succ]; rfl)) (hJ11 (gb196) _ ⟨hHeld, (by (with_reducible repeat (first | refine bN19 ?_ _ | refine bD19 ?_ | refine bK19 ?_ _)); exact BK188.out), (by (with_reducible repeat (first | refine bN19 ?_ _ | refine bD19 ?_ | refine bK19 ?_ _)); exact BK196.out), GW196.out, GE196.out, NB188_196.out, NB196_188.out, (by repeat (first | (with_reducible first | exact HB.out | apply below_alloc | apply pw_below_drewN | apply below_drew1 | refine below_set ?_ GE188.out | refine below_set ?_ GE196.out) | exact HB.out))⟩)
       skip
       rintro gb196 w106 ⟨hS_, h0_, h1_, h2_, h3_, h4_, h5_, h6_⟩
       have n0_ : Aside0 (w106.heap[gb188]? = some (.cells #[.int .i64 a0_0, .int .i64 a0_1, .int .i64 a0_2, .slice A0_3 l0_3.length c0_3, .int .i64 a0_4, .int .i64 a0_5, .int .i64 a0_6, .int .i64 a0_7, .int .i64 a0_8, .int .i64 a0_9, .int .i64 a0_10, .int .u8 a0_11] 36 (0, 0))) := ⟨h0_⟩
       have n1_ : Aside0 (w106.heap[gb196]? = some (.cells #[.int .i64 0, .int .i64 0, .int .i64 0, .int .i64 0, .int .i64 0, .int .i64 0] 27 (0, 0))) := ⟨h1_⟩
       have n2_ : Aside0 (w.heap.size ≤ gb196) := ⟨h2_⟩
       have n3_ : Aside0 (w.heap.size ≤ gb196) := ⟨h3_⟩
       have n4_ : Aside0 (gb188 ≠ gb196) := ⟨h4_⟩
       have n5_ : Aside0 (gb196 ≠ gb188) := ⟨h5_⟩
       have n6_ : Aside0 (Below w.heap.size w w106) := ⟨h6_⟩
       clear BK188
       clear HB
       clear h0_ h1_ h2_ h3_ h4_ h5_ h6_
       have BK188 := n0_
       have BK196 := n1_
       have GW196 := n2_
       have GE196 := n3_
       have NB188_196 := n4_
       have NB196_188 := n5_
       have HB := n6_
       clear n0_ n1_ n2_ n3_ n4_ n5_ n6_
       have hHeld : w106.cell? ⟨gb188, 0, none⟩ = some (.int .i64 a0_0) ∧ w106.cell? ⟨gb188, 1, none⟩ = some (.int .i64 a0_1) ∧ w106.cell? ⟨gb188, 2, none⟩ = some (.int .i64 a0_2) ∧ w106.cell? ⟨gb188, 3, none⟩ = some (.slice A0_3 l0_3.length c0_3) ∧ w106.cell? ⟨gb188, 4, none⟩ = some (.int .i64 a0_4) ∧ w106.cell? ⟨gb188, 5, none⟩ = some (.int .i64 a0_5) ∧ w106.cell? ⟨gb188, 6, none⟩ = some (.int .i64 a0_6) ∧ w106.cell? ⟨gb188, 7, none⟩ = some (.int .i64 a0_7) ∧ w106.cell? ⟨gb188, 8, none⟩ = some (.int .i64 a0_8) ∧ w106.cell? ⟨gb188, 9, none⟩ = some (.int .i64 a0_9) ∧ w106.cell? ⟨gb188, 10, none⟩ = some (.int .i64 a0_10) ∧ w106.cell? ⟨gb188, 11, none⟩ = some (.int .u8 a0_11) := hS_
       refine norm_ (a' := ?_) ?_ ?_
       rotate_left
       ·
        simp only [putAll, Act.put, List.setIfInBounds_toArray, List.set_cons_zero, List.set_cons_succ]
        rfl
       refine two_ (i := 2) (j := 10) (Ni := some 13) (Nj := some 3) (bA 16 3071) #[true, true, false, true, true, true, true, true, true, true, true, true, false, false, false, false] rfl rfl rfl rfl (two_of HT_.out (by kernel_rfl)) (by decide) (by decide) (fun K hK => ?_) (fun K hK => ?_)
       ·
        skip
        refine goes_ Try.func11 (by kernel_rfl) rfl #[.agg #[.int .i64 a0_0, .int .i64 a0_1, .int .i64 a0_2, .slice A0_3 l0_3.length c0_3]] (by rfl) rfl rfl (by (try simp only [List.map_toArray, List.map_cons, List.map_nil]); first | done | rfl | (simp only [List.length_drop, List.length_take]; rfl)) ?_
        with_reducible refine (bivouaclaw16_few.calls a0_0 a0_1 a0_2 (fun k_ => k_ < w.heap.size) _ _ l0_3 t189 t190 t191 t192 _ ?side1 A2.out).mono ?_
        (case side1 => exact Kd.V_mk HC0_3.out (Kd.F_below (Kd.C_F (Kd.heap_int .u8) HR0_3.out) (by repeat (first | (with_reducible first | exact HB.out | apply below_alloc | apply pw_below_drewN | apply below_drew1 | refine below_set ?_ GE188.out | refine below_set ?_ GE196.out) | exact HB.out))))
        rintro e w107 ⟨v193, rfl, ho0, hb⟩
        refine ⟨_, rfl, ?_⟩
        have n0_ := aM19 (Kd.V_lower (Kd.V_mono (ok' := fun k_ => k_ ≠ gb188 ∧ k_ ≠ gb196) ho0 (fun k_ hk_ => ⟨Or.elim hk_ (fun hs_ => fun e_ => Nat.not_le.2 hs_ (by rw [e_]; exact GW188.out)) (fun hn_ => (Kd.freshB (g := gb188) (o := .cells #[.int .i64 a0_0, .int .i64 a0_1, .int .i64 a0_2, .slice A0_3 l0_3.length c0_3, .int .i64 a0_4, .int .i64 a0_5, .int .i64 a0_6, .int .i64 a0_7, .int .i64 a0_8, .int .i64 a0_9, .int .i64 a0_10, .int .u8 a0_11] 36 (0, 0)) (by (with_reducible repeat (first | refine bN19 ?_ _ | refine bD19 ?_ | refine bK19 ?_ _)); exact BK188.out) k_ hn_)), Or.elim hk_ (fun hs_ => fun e_ => Nat.not_le.2 hs_ (by rw [e_]; exact GW196.out)) (fun hn_ => (Kd.freshB (g := gb196) (o := .cells #[.int .i64 0, .int .i64 0, .int .i64 0, .int .i64 0, .int .i64 0, .int .i64 0] 27 (0, 0)) (by (with_reducible repeat (first | refine bN19 ?_ _ | refine bD19 ?_ | refine bK19 ?_ _)); exact BK196.out) k_ hn_))⟩)) (below_size (by repeat (first | (with_reducible first | exact HB.out | apply below_alloc | apply pw_below_drewN | apply below_drew1 | refine below_set ?_ GE188.out | refine below_set ?_ GE196.out) | exact HB.out))))
        have n1_ := aM19 (blk_below (g := gb188) (o := .cells #[.int .i64 a0_0, .int .i64 a0_1, .int .i64 a0_2, .slice A0_3 l0_3.length c0_3, .int .i64 a0_4, .int .i64 a0_5, .int .i64 a0_6, .int .i64 a0_7, .int .i64 a0_8, .int .i64 a0_9, .int .i64 a0_10, .int .u8 a0_11] 36 (0, 0)) (by (with_reducible repeat (first | refine bN19 ?_ _ | refine bD19 ?_ | refine bK19 ?_ _)); exact BK188.out) hb)
        have n2_ := aM19 (blk_below (g := gb196) (o := .cells #[.int .i64 0, .int .i64 0, .int .i64 0, .int .i64 0, .int .i64 0, .int .i64 0] 27 (0, 0)) (by (with_reducible repeat (first | refine bN19 ?_ _ | refine bD19 ?_ | refine bK19 ?_ _)); exact BK196.out) hb)
        have n3_ := aM19 (below_step (by repeat (first | (with_reducible first | exact HB.out | apply below_alloc | apply pw_below_drewN | apply below_drew1 | refine below_set ?_ GE188.out | refine below_set ?_ GE196.out) | exact HB.out)) hb)
        clear BK188
        clear BK196
        clear HB
        have HO194 := n0_
        have BK188 := n1_
        have BK196 := n2_
        have HB := n3_
        clear n0_ n1_ n2_ n3_
        (try clear hb)
        (try clear hb2)
        (try clear hk)
        (try clear hi)
        (try clear ho0)
        refine hK.out _ _ ⟨(bC19 BK188.out 0).trans rfl, (bC19 BK188.out 1).trans rfl, (bC19 BK188.out 2).trans rfl, (bC19 BK188.out 3).trans rfl, (bC19 BK188.out 4).trans rfl, (bC19 BK188.out 5).trans rfl, (bC19 BK188.out 6).trans rfl, (bC19 BK188.out 7).trans rfl, (bC19 BK188.out 8).trans rfl, (bC19 BK188.out 9).trans rfl, (bC19 BK188.out 10).trans rfl, (bC19 BK188.out 11).trans rfl⟩ (fun hHeld => ?_)
        clear hK K
        refine norm_ (a' := ?_) ?_ ?_
        rotate_left
        ·
         show Act.put _ (some 13) _ = _
         simp only [Act.put, sA, sB, sC, i64_w, i32_w]
         rfl
        exact norm_ (by first | (simp only [putAll, Act.put, List.setIfInBounds_toArray, List.set_cons_zero, List.set_cons_succ]; done) | (simp only [putAll, Act.put, List.setIfInBounds_toArray, List.set_cons_zero, List.set_cons_succ]; rfl)) (hJ2_11 (v193, gb196) _ ⟨hHeld, (by (with_reducible repeat (first | apply Kd.V_alloc | apply Kd.V_drewN | apply Kd.V_drew)); exact HO194.out), (by (with_reducible repeat (first | refine bN19 ?_ _ | refine bD19 ?_ | refine bK19 ?_ _)); exact BK188.out), (by (with_reducible repeat (first | refine bN19 ?_ _ | refine bD19 ?_ | refine bK19 ?_ _)); exact BK196.out), GW196.out, GE196.out, NB188_196.out, NB196_188.out, (by repeat (first | (with_reducible first | exact HB.out | apply below_alloc | apply pw_below_drewN | apply below_drew1 | refine below_set ?_ GE188.out | refine below_set ?_ GE196.out) | exact HB.out))⟩)
       skip
       refine box_step ?hg (N := 3) ?hd (cs := #[.int .i64 0, .int .i64 0, .int .i64 0, .slice none 0 0]) (t := 25) ?hr ?_; (case hd => rfl); (case hg => rfl); (case hr => first | (go_simp; done) | (go_simp; rfl))
       intro gb195 hg w107 hbox hb
       have n0_ := aM19 (blk_below (g := gb188) (o := .cells #[.int .i64 a0_0, .int .i64 a0_1, .int .i64 a0_2, .slice A0_3 l0_3.length c0_3, .int .i64 a0_4, .int .i64 a0_5, .int .i64 a0_6, .int .i64 a0_7, .int .i64 a0_8, .int .i64 a0_9, .int .i64 a0_10, .int .u8 a0_11] 36 (0, 0)) (by (with_reducible repeat (first | refine bN19 ?_ _ | refine bD19 ?_ | refine bK19 ?_ _)); exact BK188.out) hb)
       have n1_ := aM19 (blk_below (g := gb196) (o := .cells #[.int .i64 0, .int .i64 0, .int .i64 0, .int .i64 0, .int .i64 0, .int .i64 0] 27 (0, 0)) (by (with_reducible repeat (first | refine bN19 ?_ _ | refine bD19 ?_ | refine bK19 ?_ _)); exact BK196.out) hb)
       have n2_ := aM19 (below_step (by repeat (first | (with_reducible first | exact HB.out | apply below_alloc | apply pw_below_drewN | apply below_drew1 | refine below_set ?_ GE188.out | refine below_set ?_ GE196.out) | exact HB.out)) hb)
       have n3_ := aM19 (hbox)
       have n4_ := aM19 ((by rw [hg]; exact (below_size (by repeat (first | (with_reducible first | exact HB.out | apply below_alloc | apply pw_below_drewN | apply below_drew1 | refine below_set ?_ GE188.out | refine below_set ?_ GE196.out) | exact HB.out))) : w.heap.size ≤ gb195))
       have n5_ := aM19 ((by rw [hg]; exact (below_size (by repeat (first | (with_reducible first | exact HB.out | apply below_alloc | apply pw_below_drewN | apply below_drew1 | refine below_set ?_ GE188.out | refine below_set ?_ GE196.out) | exact HB.out))) : w.heap.size ≤ gb195))
       have n6_ := aM19 ((by rw [hg]; exact Nat.ne_of_lt (blk_lt (g := gb188) (o := .cells #[.int .i64 a0_0, .int .i64 a0_1, .int .i64 a0_2, .slice A0_3 l0_3.length c0_3, .int .i64 a0_4, .int .i64 a0_5, .int .i64 a0_6, .int .i64 a0_7, .int .i64 a0_8, .int .i64 a0_9, .int .i64 a0_10, .int .u8 a0_11] 36 (0, 0)) (by (with_reducible repeat (first | refine bN19 ?_ _ | refine bD19 ?_ | refine bK19 ?_ _)); exact BK188.out)) : gb188 ≠ gb195))
       have n7_ := aM19 ((by rw [hg]; exact Nat.ne_of_gt (blk_lt (g := gb188) (o := .cells #[.int .i64 a0_0, .int .i64 a0_1, .int .i64 a0_2, .slice A0_3 l0_3.length c0_3, .int .i64 a0_4, .int .i64 a0_5, .int .i64 a0_6, .int .i64 a0_7, .int .i64 a0_8, .int .i64 a0_9, .int .i64 a0_10, .int .u8 a0_11] 36 (0, 0)) (by (with_reducible repeat (first | refine bN19 ?_ _ | refine bD19 ?_ | refine bK19 ?_ _)); exact BK188.out)) : gb195 ≠ gb188))
       have n8_ := aM19 ((by rw [hg]; exact Nat.ne_of_lt (blk_lt (g := gb196) (o := .cells #[.int .i64 0, .int .i64 0, .int .i64 0, .int .i64 0, .int .i64 0, .int .i64 0] 27 (0, 0)) (by (with_reducible repeat (first | refine bN19 ?_ _ | refine bD19 ?_ | refine bK19 ?_ _)); exact BK196.out)) : gb196 ≠ gb195))
       have n9_ := aM19 ((by rw [hg]; exact Nat.ne_of_gt (blk_lt (g := gb196) (o := .cells #[.int .i64 0, .int .i64 0, .int .i64 0, .int .i64 0, .int .i64 0, .int .i64 0] 27 (0, 0)) (by (with_reducible repeat (first | refine bN19 ?_ _ | refine bD19 ?_ | refine bK19 ?_ _)); exact BK196.out)) : gb195 ≠ gb196))
       clear BK188
       clear BK196
       clear HB
       have BK188 := n0_
       have BK196 := n1_
       have HB := n2_
       have BK195 := n3_
       have GW195 := n4_
       have GE195 := n5_
       have NB188_195 := n6_
       have NB195_188 := n7_
       have NB196_195 := n8_
       have NB195_196 := n9_
       clear n0_ n1_ n2_ n3_ n4_ n5_ n6_ n7_ n8_ n9_
       clear hb hbox hg
       refine hK.out _ _ ⟨(bC19 BK188.out 0).trans rfl, (bC19 BK188.out 1).trans rfl, (bC19 BK188.out 2).trans rfl, (bC19 BK188.out 3).trans rfl, (bC19 BK188.out 4).trans rfl, (bC19 BK188.out 5).trans rfl, (bC19 BK188.out 6).trans rfl, (bC19 BK188.out 7).trans rfl, (bC19 BK188.out 8).trans rfl, (bC19 BK188.out 9).trans rfl, (bC19 BK188.out 10).trans rfl, (bC19 BK188.out 11).trans rfl⟩ (fun hHeld => ?_)
       clear hK K
       refine norm_ (a' := ?_) ?_ ?_
       rotate_left
       ·
        show Act.put _ (some 3) _ = _
        simp only [Act.put, sA, sB, sC, i64_w, i32_w]
        rfl
       exact norm_ (by first | (simp only [putAll, Act.put, List.setIfInBounds_toArray, List.set_cons_zero, List.set_cons_succ]; done) | (simp only [putAll, Act.put, List.setIfInBounds_toArray, List.set_cons_zero, List.set_cons_succ]; rfl)) (hJ10_11 (gb195, gb196) _ ⟨hHeld, (by (with_reducible repeat (first | refine bN19 ?_ _ | refine bD19 ?_ | refine bK19 ?_ _)); exact BK188.out), (by (with_reducible repeat (first | refine bN19 ?_ _ | refine bD19 ?_ | refine bK19 ?_ _)); exact BK195.out), (by (with_reducible repeat (first | refine bN19 ?_ _ | refine bD19 ?_ | refine bK19 ?_ _)); exact BK196.out), GW195.out, GE195.out, NB188_195.out, NB195_188.out, NB196_195.out, NB195_196.out, GW196.out, GE196.out, NB188_196.out, NB196_188.out, (by repeat (first | (with_reducible first | exact HB.out | apply below_alloc | apply pw_below_drewN | apply below_drew1 | refine below_set ?_ GE188.out | refine below_set ?_ GE196.out | refine below_set ?_ GE195.out) | exact HB.out))⟩)
      skip
      rintro gb195 w106 ⟨hS_, h0_, h1_, h2_, h3_, h4_, h5_, h6_⟩
      have n0_ : Aside0 (w106.heap[gb188]? = some (.cells #[.int .i64 a0_0, .int .i64 a0_1, .int .i64 a0_2, .slice A0_3 l0_3.length c0_3, .int .i64 a0_4, .int .i64 a0_5, .int .i64 a0_6, .int .i64 a0_7, .int .i64 a0_8, .int .i64 a0_9, .int .i64 a0_10, .int .u8 a0_11] 36 (0, 0))) := ⟨h0_⟩
      have n1_ : Aside0 (w106.heap[gb195]? = some (.cells #[.int .i64 0, .int .i64 0, .int .i64 0, .slice none 0 0] 25 (0, 0))) := ⟨h1_⟩
      have n2_ : Aside0 (w.heap.size ≤ gb195) := ⟨h2_⟩
      have n3_ : Aside0 (w.heap.size ≤ gb195) := ⟨h3_⟩
      have n4_ : Aside0 (gb188 ≠ gb195) := ⟨h4_⟩
      have n5_ : Aside0 (gb195 ≠ gb188) := ⟨h5_⟩
      have n6_ : Aside0 (Below w.heap.size w w106) := ⟨h6_⟩
      clear BK188
      clear HB
      clear h0_ h1_ h2_ h3_ h4_ h5_ h6_
      have BK188 := n0_
      have BK195 := n1_
      have GW195 := n2_
      have GE195 := n3_
      have NB188_195 := n4_
      have NB195_188 := n5_
      have HB := n6_
      clear n0_ n1_ n2_ n3_ n4_ n5_ n6_
      have hHeld : w106.cell? ⟨gb188, 0, none⟩ = some (.int .i64 a0_0) ∧ w106.cell? ⟨gb188, 1, none⟩ = some (.int .i64 a0_1) ∧ w106.cell? ⟨gb188, 2, none⟩ = some (.int .i64 a0_2) ∧ w106.cell? ⟨gb188, 3, none⟩ = some (.slice A0_3 l0_3.length c0_3) ∧ w106.cell? ⟨gb188, 4, none⟩ = some (.int .i64 a0_4) ∧ w106.cell? ⟨gb188, 5, none⟩ = some (.int .i64 a0_5) ∧ w106.cell? ⟨gb188, 6, none⟩ = some (.int .i64 a0_6) ∧ w106.cell? ⟨gb188, 7, none⟩ = some (.int .i64 a0_7) ∧ w106.cell? ⟨gb188, 8, none⟩ = some (.int .i64 a0_8) ∧ w106.cell? ⟨gb188, 9, none⟩ = some (.int .i64 a0_9) ∧ w106.cell? ⟨gb188, 10, none⟩ = some (.int .i64 a0_10) ∧ w106.cell? ⟨gb188, 11, none⟩ = some (.int .u8 a0_11) := hS_
      refine norm_ (a' := ?_) ?_ ?_
      rotate_left
      ·
       simp only [putAll, Act.put, List.setIfInBounds_toArray, List.set_cons_zero, List.set_cons_succ]
       rfl
      refine two_ (i := 2) (j := 11) (Ni := some 13) (Nj := some 4) (bA 16 2047) #[true, true, false, true, true, true, true, true, true, true, true, true, false, false, false, false] rfl rfl rfl rfl (two_of HT_.out (by kernel_rfl)) (by decide) (by decide) (fun K hK => ?_) (fun K hK => ?_)
      ·
       skip
       refine goes_ Try.func11 (by kernel_rfl) rfl #[.agg #[.int .i64 a0_0, .int .i64 a0_1, .int .i64 a0_2, .slice A0_3 l0_3.length c0_3]] (by rfl) rfl rfl (by (try simp only [List.map_toArray, List.map_cons, List.map_nil]); first | done | rfl | (simp only [List.length_drop, List.length_take]; rfl)) ?_
       with_reducible refine (bivouaclaw16_few.calls a0_0 a0_1 a0_2 (fun k_ => k_ < w.heap.size) _ _ l0_3 t189 t190 t191 t192 _ ?side1 A2.out).mono ?_
       (case side1 => exact Kd.V_mk HC0_3.out (Kd.F_below (Kd.C_F (Kd.heap_int .u8) HR0_3.out) (by repeat (first | (with_reducible first | exact HB.out | apply below_alloc | apply pw_below_drewN | apply below_drew1 | refine below_set ?_ GE188.out | refine below_set ?_ GE195.out) | exact HB.out))))
       rintro e w107 ⟨v193, rfl, ho0, hb⟩
       refine ⟨_, rfl, ?_⟩
       have n0_ := aM19 (Kd.V_lower (Kd.V_mono (ok' := fun k_ => k_ ≠ gb188 ∧ k_ ≠ gb195) ho0 (fun k_ hk_ => ⟨Or.elim hk_ (fun hs_ => fun e_ => Nat.not_le.2 hs_ (by rw [e_]; exact GW188.out)) (fun hn_ => (Kd.freshB (g := gb188) (o := .cells #[.int .i64 a0_0, .int .i64 a0_1, .int .i64 a0_2, .slice A0_3 l0_3.length c0_3, .int .i64 a0_4, .int .i64 a0_5, .int .i64 a0_6, .int .i64 a0_7, .int .i64 a0_8, .int .i64 a0_9, .int .i64 a0_10, .int .u8 a0_11] 36 (0, 0)) (by (with_reducible repeat (first | refine bN19 ?_ _ | refine bD19 ?_ | refine bK19 ?_ _)); exact BK188.out) k_ hn_)), Or.elim hk_ (fun hs_ => fun e_ => Nat.not_le.2 hs_ (by rw [e_]; exact GW195.out)) (fun hn_ => (Kd.freshB (g := gb195) (o := .cells #[.int .i64 0, .int .i64 0, .int .i64 0, .slice none 0 0] 25 (0, 0)) (by (with_reducible repeat (first | refine bN19 ?_ _ | refine bD19 ?_ | refine bK19 ?_ _)); exact BK195.out) k_ hn_))⟩)) (below_size (by repeat (first | (with_reducible first | exact HB.out | apply below_alloc | apply pw_below_drewN | apply below_drew1 | refine below_set ?_ GE188.out | refine below_set ?_ GE195.out) | exact HB.out))))
       have n1_ := aM19 (blk_below (g := gb188) (o := .cells #[.int .i64 a0_0, .int .i64 a0_1, .int .i64 a0_2, .slice A0_3 l0_3.length c0_3, .int .i64 a0_4, .int .i64 a0_5, .int .i64 a0_6, .int .i64 a0_7, .int .i64 a0_8, .int .i64 a0_9, .int .i64 a0_10, .int .u8 a0_11] 36 (0, 0)) (by (with_reducible repeat (first | refine bN19 ?_ _ | refine bD19 ?_ | refine bK19 ?_ _)); exact BK188.out) hb)
       have n2_ := aM19 (blk_below (g := gb195) (o := .cells #[.int .i64 0, .int .i64 0, .int .i64 0, .slice none 0 0] 25 (0, 0)) (by (with_reducible repeat (first | refine bN19 ?_ _ | refine bD19 ?_ | refine bK19 ?_ _)); exact BK195.out) hb)
       have n3_ := aM19 (below_step (by repeat (first | (with_reducible first | exact HB.out | apply below_alloc | apply pw_below_drewN | apply below_drew1 | refine below_set ?_ GE188.out | refine below_set ?_ GE195.out) | exact HB.out)) hb)
       clear BK188
       clear BK195
       clear HB
       have HO194 := n0_
       have BK188 := n1_
       have BK195 := n2_
       have HB := n3_
       clear n0_ n1_ n2_ n3_
       (try clear hb)
       (try clear hb2)
       (try clear hk)
       (try clear hi)
       (try clear ho0)
       refine hK.out _ _ ⟨(bC19 BK188.out 0).trans rfl, (bC19 BK188.out 1).trans rfl, (bC19 BK188.out 2).trans rfl, (bC19 BK188.out 3).trans rfl, (bC19 BK188.out 4).trans rfl, (bC19 BK188.out 5).trans rfl, (bC19 BK188.out 6).trans rfl, (bC19 BK188.out 7).trans rfl, (bC19 BK188.out 8).trans rfl, (bC19 BK188.out 9).trans rfl, (bC19 BK188.out 10).trans rfl, (bC19 BK188.out 11).trans rfl⟩ (fun hHeld => ?_)
       clear hK K
       refine norm_ (a' := ?_) ?_ ?_
       rotate_left
       ·
        show Act.put _ (some 13) _ = _
        simp only [Act.put, sA, sB, sC, i64_w, i32_w]
        rfl
       exact norm_ (by first | (simp only [putAll, Act.put, List.setIfInBounds_toArray, List.set_cons_zero, List.set_cons_succ]; done) | (simp only [putAll, Act.put, List.setIfInBounds_toArray, List.set_cons_zero, List.set_cons_succ]; rfl)) (hJ2_10 (v193, gb195) _ ⟨hHeld, (by (with_reducible repeat (first | apply Kd.V_alloc | apply Kd.V_drewN | apply Kd.V_drew)); exact HO194.out), (by (with_reducible repeat (first | refine bN19 ?_ _ | refine bD19 ?_ | refine bK19 ?_ _)); exact BK188.out), (by (with_reducible repeat (first | refine bN19 ?_ _ | refine bD19 ?_ | refine bK19 ?_ _)); exact BK195.out), GW195.out, GE195.out, NB188_195.out, NB195_188.out, (by repeat (first | (with_reducible first | exact HB.out | apply below_alloc | apply pw_below_drewN | apply below_drew1 | refine below_set ?_ GE188.out | refine below_set ?_ GE195.out) | exact HB.out))⟩)
      skip
      refine box_step ?hg (N := 4) ?hd (cs := #[.int .i64 0, .int .i64 0, .int .i64 0, .int .i64 0, .int .i64 0, .int .i64 0]) (t := 27) ?hr ?_; (case hd => rfl); (case hg => rfl); (case hr => first | (go_simp; done) | (go_simp; rfl))
      intro gb196 hg w107 hbox hb
      have n0_ := aM19 (blk_below (g := gb188) (o := .cells #[.int .i64 a0_0, .int .i64 a0_1, .int .i64 a0_2, .slice A0_3 l0_3.length c0_3, .int .i64 a0_4, .int .i64 a0_5, .int .i64 a0_6, .int .i64 a0_7, .int .i64 a0_8, .int .i64 a0_9, .int .i64 a0_10, .int .u8 a0_11] 36 (0, 0)) (by (with_reducible repeat (first | refine bN19 ?_ _ | refine bD19 ?_ | refine bK19 ?_ _)); exact BK188.out) hb)
      have n1_ := aM19 (blk_below (g := gb195) (o := .cells #[.int .i64 0, .int .i64 0, .int .i64 0, .slice none 0 0] 25 (0, 0)) (by (with_reducible repeat (first | refine bN19 ?_ _ | refine bD19 ?_ | refine bK19 ?_ _)); exact BK195.out) hb)
      have n2_ := aM19 (below_step (by repeat (first | (with_reducible first | exact HB.out | apply below_alloc | apply pw_below_drewN | apply below_drew1 | refine below_set ?_ GE188.out | refine below_set ?_ GE195.out) | exact HB.out)) hb)
      have n3_ := aM19 (hbox)
      have n4_ := aM19 ((by rw [hg]; exact (below_size (by repeat (first | (with_reducible first | exact HB.out | apply below_alloc | apply pw_below_drewN | apply below_drew1 | refine below_set ?_ GE188.out | refine below_set ?_ GE195.out) | exact HB.out))) : w.heap.size ≤ gb196))
      have n5_ := aM19 ((by rw [hg]; exact (below_size (by repeat (first | (with_reducible first | exact HB.out | apply below_alloc | apply pw_below_drewN | apply below_drew1 | refine below_set ?_ GE188.out | refine below_set ?_ GE195.out) | exact HB.out))) : w.heap.size ≤ gb196))
      have n6_ := aM19 ((by rw [hg]; exact Nat.ne_of_lt (blk_lt (g := gb188) (o := .cells #[.int .i64 a0_0, .int .i64 a0_1, .int .i64 a0_2, .slice A0_3 l0_3.length c0_3, .int .i64 a0_4, .int .i64 a0_5, .int .i64 a0_6, .int .i64 a0_7, .int .i64 a0_8, .int .i64 a0_9, .int .i64 a0_10, .int .u8 a0_11] 36 (0, 0)) (by (with_reducible repeat (first | refine bN19 ?_ _ | refine bD19 ?_ | refine bK19 ?_ _)); exact BK188.out)) : gb188 ≠ gb196))
      have n7_ := aM19 ((by rw [hg]; exact Nat.ne_of_gt (blk_lt (g := gb188) (o := .cells #[.int .i64 a0_0, .int .i64 a0_1, .int .i64 a0_2, .slice A0_3 l0_3.length c0_3, .int .i64 a0_4, .int .i64 a0_5, .int .i64 a0_6, .int .i64 a0_7, .int .i64 a0_8, .int .i64 a0_9, .int .i64 a0_10, .int .u8 a0_11] 36 (0, 0)) (by (with_reducible repeat (first | refine bN19 ?_ _ | refine bD19 ?_ | refine bK19 ?_ _)); exact BK188.out)) : gb196 ≠ gb188))
      have n8_ := aM19 ((by rw [hg]; exact Nat.ne_of_lt (blk_lt (g := gb195) (o := .cells #[.int .i64 0, .int .i64 0, .int .i64 0, .slice none 0 0] 25 (0, 0)) (by (with_reducible repeat (first | refine bN19 ?_ _ | refine bD19 ?_ | refine bK19 ?_ _)); exact BK195.out)) : gb195 ≠ gb196))
      have n9_ := aM19 ((by rw [hg]; exact Nat.ne_of_gt (blk_lt (g := gb195) (o := .cells #[.int .i64 0, .int .i64 0, .int .i64 0, .slice none 0 0] 25 (0, 0)) (by (with_reducible repeat (first | refine bN19 ?_ _ | refine bD19 ?_ | refine bK19 ?_ _)); exact BK195.out)) : gb196 ≠ gb195))
      clear BK188
      clear BK195
      clear HB
      have BK188 := n0_
      have BK195 := n1_
      have HB := n2_
      have BK196 := n3_
      have GW196 := n4_
      have GE196 := n5_
      have NB188_196 := n6_
      have NB196_188 := n7_
      have NB195_196 := n8_
      have NB196_195 := n9_
      clear n0_ n1_ n2_ n3_ n4_ n5_ n6_ n7_ n8_ n9_
      clear hb hbox hg
      refine hK.out _ _ ⟨(bC19 BK188.out 0).trans rfl, (bC19 BK188.out 1).trans rfl, (bC19 BK188.out 2).trans rfl, (bC19 BK188.out 3).trans rfl, (bC19 BK188.out 4).trans rfl, (bC19 BK188.out 5).trans rfl, (bC19 BK188.out 6).trans rfl, (bC19 BK188.out 7).trans rfl, (bC19 BK188.out 8).trans rfl, (bC19 BK188.out 9).trans rfl, (bC19 BK188.out 10).trans rfl, (bC19 BK188.out 11).trans rfl⟩ (fun hHeld => ?_)
      clear hK K
      refine norm_ (a' := ?_) ?_ ?_
      rotate_left
      ·
       show Act.put _ (some 4) _ = _
       simp only [Act.put, sA, sB, sC, i64_w, i32_w]
       rfl
      exact norm_ (by first | (simp only [putAll, Act.put, List.setIfInBounds_toArray, List.set_cons_zero, List.set_cons_succ]; done) | (simp only [putAll, Act.put, List.setIfInBounds_toArray, List.set_cons_zero, List.set_cons_succ]; rfl)) (hJ10_11 (gb195, gb196) _ ⟨hHeld, (by (with_reducible repeat (first | refine bN19 ?_ _ | refine bD19 ?_ | refine bK19 ?_ _)); exact BK188.out), (by (with_reducible repeat (first | refine bN19 ?_ _ | refine bD19 ?_ | refine bK19 ?_ _)); exact BK195.out), (by (with_reducible repeat (first | refine bN19 ?_ _ | refine bD19 ?_ | refine bK19 ?_ _)); exact BK196.out), GW195.out, GE195.out, NB188_195.out, NB195_188.out, NB196_195.out, NB195_196.out, GW196.out, GE196.out, NB188_196.out, NB196_188.out, (by repeat (first | (with_reducible first | exact HB.out | apply below_alloc | apply pw_below_drewN | apply below_drew1 | refine below_set ?_ GE188.out | refine below_set ?_ GE195.out | refine below_set ?_ GE196.out) | exact HB.out))⟩)
     skip
     rintro v193 w106 ⟨hS_, h0_, h1_, h2_⟩
     have n0_ : Aside0 (Kd.V (Kd.int .u8) 5 w106 w.heap.size (fun k_ => k_ ≠ gb188) v193 t192) := ⟨h0_⟩
     have n1_ : Aside0 (w106.heap[gb188]? = some (.cells #[.int .i64 a0_0, .int .i64 a0_1, .int .i64 a0_2, .slice A0_3 l0_3.length c0_3, .int .i64 a0_4, .int .i64 a0_5, .int .i64 a0_6, .int .i64 a0_7, .int .i64 a0_8, .int .i64 a0_9, .int .i64 a0_10, .int .u8 a0_11] 36 (0, 0))) := ⟨h1_⟩
     have n2_ : Aside0 (Below w.heap.size w w106) := ⟨h2_⟩
     clear BK188
     clear HB
     clear h0_ h1_ h2_
     have HO194 := n0_
     have BK188 := n1_
     have HB := n2_
     clear n0_ n1_ n2_
     have hHeld : w106.cell? ⟨gb188, 0, none⟩ = some (.int .i64 a0_0) ∧ w106.cell? ⟨gb188, 1, none⟩ = some (.int .i64 a0_1) ∧ w106.cell? ⟨gb188, 2, none⟩ = some (.int .i64 a0_2) ∧ w106.cell? ⟨gb188, 3, none⟩ = some (.slice A0_3 l0_3.length c0_3) ∧ w106.cell? ⟨gb188, 4, none⟩ = some (.int .i64 a0_4) ∧ w106.cell? ⟨gb188, 5, none⟩ = some (.int .i64 a0_5) ∧ w106.cell? ⟨gb188, 6, none⟩ = some (.int .i64 a0_6) ∧ w106.cell? ⟨gb188, 7, none⟩ = some (.int .i64 a0_7) ∧ w106.cell? ⟨gb188, 8, none⟩ = some (.int .i64 a0_8) ∧ w106.cell? ⟨gb188, 9, none⟩ = some (.int .i64 a0_9) ∧ w106.cell? ⟨gb188, 10, none⟩ = some (.int .i64 a0_10) ∧ w106.cell? ⟨gb188, 11, none⟩ = some (.int .u8 a0_11) := hS_
     refine norm_ (a' := ?_) ?_ ?_
     rotate_left
     ·
      simp only [putAll, Act.put, List.setIfInBounds_toArray, List.set_cons_zero, List.set_cons_succ]
      rfl
     refine two_ (i := 10) (j := 11) (Ni := some 3) (Nj := some 4) (bA 16 2047) #[true, true, true, true, true, true, true, true, true, true, false, true, false, false, false, false] rfl rfl rfl rfl (two_of HT_.out (by kernel_rfl)) (by decide) (by decide) (fun K hK => ?_) (fun K hK => ?_)
     ·
      skip
      refine box_step ?hg (N := 3) ?hd (cs := #[.int .i64 0, .int .i64 0, .int .i64 0, .slice none 0 0]) (t := 25) ?hr ?_; (case hd => rfl); (case hg => rfl); (case hr => first | (go_simp; done) | (go_simp; rfl))
      intro gb195 hg w107 hbox hb
      have n0_ := aM19 (Kd.V_below (Kd.V_elderB (by (with_reducible repeat (first | apply Kd.V_alloc | apply Kd.V_drewN | apply Kd.V_drew)); exact HO194.out) gb195 (Nat.le_of_eq hg.symm)) hb)
      have n1_ := aM19 (blk_below (g := gb188) (o := .cells #[.int .i64 a0_0, .int .i64 a0_1, .int .i64 a0_2, .slice A0_3 l0_3.length c0_3, .int .i64 a0_4, .int .i64 a0_5, .int .i64 a0_6, .int .i64 a0_7, .int .i64 a0_8, .int .i64 a0_9, .int .i64 a0_10, .int .u8 a0_11] 36 (0, 0)) (by (with_reducible repeat (first | refine bN19 ?_ _ | refine bD19 ?_ | refine bK19 ?_ _)); exact BK188.out) hb)
      have n2_ := aM19 (below_step (by repeat (first | (with_reducible first | exact HB.out | apply below_alloc | apply pw_below_drewN | apply below_drew1 | refine below_set ?_ GE188.out) | exact HB.out)) hb)
      have n3_ := aM19 (hbox)
      have n4_ := aM19 ((by rw [hg]; exact (below_size (by repeat (first | (with_reducible first | exact HB.out | apply below_alloc | apply pw_below_drewN | apply below_drew1 | refine below_set ?_ GE188.out) | exact HB.out))) : w.heap.size ≤ gb195))
      have n5_ := aM19 ((by rw [hg]; exact (below_size (by repeat (first | (with_reducible first | exact HB.out | apply below_alloc | apply pw_below_drewN | apply below_drew1 | refine below_set ?_ GE188.out) | exact HB.out))) : w.heap.size ≤ gb195))
      have n6_ := aM19 ((by rw [hg]; exact Nat.ne_of_lt (blk_lt (g := gb188) (o := .cells #[.int .i64 a0_0, .int .i64 a0_1, .int .i64 a0_2, .slice A0_3 l0_3.length c0_3, .int .i64 a0_4, .int .i64 a0_5, .int .i64 a0_6, .int .i64 a0_7, .int .i64 a0_8, .int .i64 a0_9, .int .i64 a0_10, .int .u8 a0_11] 36 (0, 0)) (by (with_reducible repeat (first | refine bN19 ?_ _ | refine bD19 ?_ | refine bK19 ?_ _)); exact BK188.out)) : gb188 ≠ gb195))
      have n7_ := aM19 ((by rw [hg]; exact Nat.ne_of_gt (blk_lt (g := gb188) (o := .cells #[.int .i64 a0_0, .int .i64 a0_1, .int .i64 a0_2, .slice A0_3 l0_3.length c0_3, .int .i64 a0_4, .int .i64 a0_5, .int .i64 a0_6, .int .i64 a0_7, .int .i64 a0_8, .int .i64 a0_9, .int .i64 a0_10, .int .u8 a0_11] 36 (0, 0)) (by (with_reducible repeat (first | refine bN19 ?_ _ | refine bD19 ?_ | refine bK19 ?_ _)); exact BK188.out)) : gb195 ≠ gb188))
      clear HO194
      clear BK188
      clear HB
      have HO194 := n0_
      have BK188 := n1_
      have HB := n2_
      have BK195 := n3_
      have GW195 := n4_
      have GE195 := n5_
      have NB188_195 := n6_
      have NB195_188 := n7_
      clear n0_ n1_ n2_ n3_ n4_ n5_ n6_ n7_
      clear hb hbox hg
      refine hK.out _ _ ⟨(bC19 BK188.out 0).trans rfl, (bC19 BK188.out 1).trans rfl, (bC19 BK188.out 2).trans rfl, (bC19 BK188.out 3).trans rfl, (bC19 BK188.out 4).trans rfl, (bC19 BK188.out 5).trans rfl, (bC19 BK188.out 6).trans rfl, (bC19 BK188.out 7).trans rfl, (bC19 BK188.out 8).trans rfl, (bC19 BK188.out 9).trans rfl, (bC19 BK188.out 10).trans rfl, (bC19 BK188.out 11).trans rfl⟩ (fun hHeld => ?_)
      clear hK K
      refine norm_ (a' := ?_) ?_ ?_
      rotate_left
      ·
       show Act.put _ (some 3) _ = _
       simp only [Act.put, sA, sB, sC, i64_w, i32_w]
       rfl
      exact norm_ (by first | (simp only [putAll, Act.put, List.setIfInBounds_toArray, List.set_cons_zero, List.set_cons_succ]; done) | (simp only [putAll, Act.put, List.setIfInBounds_toArray, List.set_cons_zero, List.set_cons_succ]; rfl)) (hJ2_10 (v193, gb195) _ ⟨hHeld, (by (with_reducible repeat (first | apply Kd.V_alloc | apply Kd.V_drewN | apply Kd.V_drew)); exact HO194.out), (by (with_reducible repeat (first | refine bN19 ?_ _ | refine bD19 ?_ | refine bK19 ?_ _)); exact BK188.out), (by (with_reducible repeat (first | refine bN19 ?_ _ | refine bD19 ?_ | refine bK19 ?_ _)); exact BK195.out), GW195.out, GE195.out, NB188_195.out, NB195_188.out, (by repeat (first | (with_reducible first | exact HB.out | apply below_alloc | apply pw_below_drewN | apply below_drew1 | refine below_set ?_ GE188.out | refine below_set ?_ GE195.out) | exact HB.out))⟩)
     skip
     refine box_step ?hg (N := 4) ?hd (cs := #[.int .i64 0, .int .i64 0, .int .i64 0, .int .i64 0, .int .i64 0, .int .i64 0]) (t := 27) ?hr ?_; (case hd => rfl); (case hg => rfl); (case hr => first | (go_simp; done) | (go_simp; rfl))
     intro gb196 hg w107 hbox hb
     have n0_ := aM19 (Kd.V_below (Kd.V_elderB (by (with_reducible repeat (first | apply Kd.V_alloc | apply Kd.V_drewN | apply Kd.V_drew)); exact HO194.out) gb196 (Nat.le_of_eq hg.symm)) hb)
     have n1_ := aM19 (blk_below (g := gb188) (o := .cells #[.int .i64 a0_0, .int .i64 a0_1, .int .i64 a0_2, .slice A0_3 l0_3.length c0_3, .int .i64 a0_4, .int .i64 a0_5, .int .i64 a0_6, .int .i64 a0_7, .int .i64 a0_8, .int .i64 a0_9, .int .i64 a0_10, .int .u8 a0_11] 36 (0, 0)) (by (with_reducible repeat (first | refine bN19 ?_ _ | refine bD19 ?_ | refine bK19 ?_ _)); exact BK188.out) hb)
     have n2_ := aM19 (below_step (by repeat (first | (with_reducible first | exact HB.out | apply below_alloc | apply pw_below_drewN | apply below_drew1 | refine below_set ?_ GE188.out) | exact HB.out)) hb)
     have n3_ := aM19 (hbox)
     have n4_ := aM19 ((by rw [hg]; exact (below_size (by repeat (first | (with_reducible first | exact HB.out | apply below_alloc | apply pw_below_drewN | apply below_drew1 | refine below_set ?_ GE188.out) | exact HB.out))) : w.heap.size ≤ gb196))
     have n5_ := aM19 ((by rw [hg]; exact (below_size (by repeat (first | (with_reducible first | exact HB.out | apply below_alloc | apply pw_below_drewN | apply below_drew1 | refine below_set ?_ GE188.out) | exact HB.out))) : w.heap.size ≤ gb196))
     have n6_ := aM19 ((by rw [hg]; exact Nat.ne_of_lt (blk_lt (g := gb188) (o := .cells #[.int .i64 a0_0, .int .i64 a0_1, .int .i64 a0_2, .slice A0_3 l0_3.length c0_3, .int .i64 a0_4, .int .i64 a0_5, .int .i64 a0_6, .int .i64 a0_7, .int .i64 a0_8, .int .i64 a0_9, .int .i64 a0_10, .int .u8 a0_11] 36 (0, 0)) (by (with_reducible repeat (first | refine bN19 ?_ _ | refine bD19 ?_ | refine bK19 ?_ _)); exact BK188.out)) : gb188 ≠ gb196))
     have n7_ := aM19 ((by rw [hg]; exact Nat.ne_of_gt (blk_lt (g := gb188) (o := .cells #[.int .i64 a0_0, .int .i64 a0_1, .int .i64 a0_2, .slice A0_3 l0_3.length c0_3, .int .i64 a0_4, .int .i64 a0_5, .int .i64 a0_6, .int .i64 a0_7, .int .i64 a0_8, .int .i64 a0_9, .int .i64 a0_10, .int .u8 a0_11] 36 (0, 0)) (by (with_reducible repeat (first | refine bN19 ?_ _ | refine bD19 ?_ | refine bK19 ?_ _)); exact BK188.out)) : gb196 ≠ gb188))
     clear HO194
     clear BK188
     clear HB
     have HO194 := n0_
     have BK188 := n1_
     have HB := n2_
     have BK196 := n3_
     have GW196 := n4_
     have GE196 := n5_
     have NB188_196 := n6_
     have NB196_188 := n7_
     clear n0_ n1_ n2_ n3_ n4_ n5_ n6_ n7_
     clear hb hbox hg
     refine hK.out _ _ ⟨(bC19 BK188.out 0).trans rfl, (bC19 BK188.out 1).trans rfl, (bC19 BK188.out 2).trans rfl, (bC19 BK188.out 3).trans rfl, (bC19 BK188.out 4).trans rfl, (bC19 BK188.out 5).trans rfl, (bC19 BK188.out 6).trans rfl, (bC19 BK188.out 7).trans rfl, (bC19 BK188.out 8).trans rfl, (bC19 BK188.out 9).trans rfl, (bC19 BK188.out 10).trans rfl, (bC19 BK188.out 11).trans rfl⟩ (fun hHeld => ?_)
     clear hK K
     refine norm_ (a' := ?_) ?_ ?_
     rotate_left
     ·
      show Act.put _ (some 4) _ = _
      simp only [Act.put, sA, sB, sC, i64_w, i32_w]
      rfl
     exact norm_ (by first | (simp only [putAll, Act.put, List.setIfInBounds_toArray, List.set_cons_zero, List.set_cons_succ]; done) | (simp only [putAll, Act.put, List.setIfInBounds_toArray, List.set_cons_zero, List.set_cons_succ]; rfl)) (hJ2_11 (v193, gb196) _ ⟨hHeld, (by (with_reducible repeat (first | apply Kd.V_alloc | apply Kd.V_drewN | apply Kd.V_drew)); exact HO194.out), (by (with_reducible repeat (first | refine bN19 ?_ _ | refine bD19 ?_ | refine bK19 ?_ _)); exact BK188.out), (by (with_reducible repeat (first | refine bN19 ?_ _ | refine bD19 ?_ | refine bK19 ?_ _)); exact BK196.out), GW196.out, GE196.out, NB188_196.out, NB196_188.out, (by repeat (first | (with_reducible first | exact HB.out | apply below_alloc | apply pw_below_drewN | apply below_drew1 | refine below_set ?_ GE188.out | refine below_set ?_ GE196.out) | exact HB.out))⟩)
    skip
    rintro ⟨gb195, gb196⟩ w107 ⟨hS_, h0_, h1_, h2_, h3_, h4_, h5_, h6_, h7_, h8_, h9_, h10_, h11_, h12_, h13_⟩
    have n0_ : Aside0 (w107.heap[gb188]? = some (.cells #[.int .i64 a0_0, .int .i64 a0_1, .int .i64 a0_2, .slice A0_3 l0_3.length c0_3, .int .i64 a0_4, .int .i64 a0_5, .int .i64 a0_6, .int .i64 a0_7, .int .i64 a0_8, .int .i64 a0_9, .int .i64 a0_10, .int .u8 a0_11] 36 (0, 0))) := ⟨h0_⟩
    have n1_ : Aside0 (w107.heap[gb195]? = some (.cells #[.int .i64 0, .int .i64 0, .int .i64 0, .slice none 0 0] 25 (0, 0))) := ⟨h1_⟩
    have n2_ : Aside0 (w107.heap[gb196]? = some (.cells #[.int .i64 0, .int .i64 0, .int .i64 0, .int .i64 0, .int .i64 0, .int .i64 0] 27 (0, 0))) := ⟨h2_⟩
    have n3_ : Aside0 (w.heap.size ≤ gb195) := ⟨h3_⟩
    have n4_ : Aside0 (w.heap.size ≤ gb195) := ⟨h4_⟩
    have n5_ : Aside0 (gb188 ≠ gb195) := ⟨h5_⟩
    have n6_ : Aside0 (gb195 ≠ gb188) := ⟨h6_⟩
    have n7_ : Aside0 (gb196 ≠ gb195) := ⟨h7_⟩
    have n8_ : Aside0 (gb195 ≠ gb196) := ⟨h8_⟩
    have n9_ : Aside0 (w.heap.size ≤ gb196) := ⟨h9_⟩
    have n10_ : Aside0 (w.heap.size ≤ gb196) := ⟨h10_⟩
    have n11_ : Aside0 (gb188 ≠ gb196) := ⟨h11_⟩
    have n12_ : Aside0 (gb196 ≠ gb188) := ⟨h12_⟩
    have n13_ : Aside0 (Below w.heap.size w w107) := ⟨h13_⟩
    clear BK188
    clear HB
    clear h0_ h1_ h2_ h3_ h4_ h5_ h6_ h7_ h8_ h9_ h10_ h11_ h12_ h13_
    have BK188 := n0_
    have BK195 := n1_
    have BK196 := n2_
    have GW195 := n3_
    have GE195 := n4_
    have NB188_195 := n5_
    have NB195_188 := n6_
    have NB196_195 := n7_
    have NB195_196 := n8_
    have GW196 := n9_
    have GE196 := n10_
    have NB188_196 := n11_
    have NB196_188 := n12_
    have HB := n13_
    clear n0_ n1_ n2_ n3_ n4_ n5_ n6_ n7_ n8_ n9_ n10_ n11_ n12_ n13_
    have hHeld : w107.cell? ⟨gb188, 0, none⟩ = some (.int .i64 a0_0) ∧ w107.cell? ⟨gb188, 1, none⟩ = some (.int .i64 a0_1) ∧ w107.cell? ⟨gb188, 2, none⟩ = some (.int .i64 a0_2) ∧ w107.cell? ⟨gb188, 3, none⟩ = some (.slice A0_3 l0_3.length c0_3) ∧ w107.cell? ⟨gb188, 4, none⟩ = some (.int .i64 a0_4) ∧ w107.cell? ⟨gb188, 5, none⟩ = some (.int .i64 a0_5) ∧ w107.cell? ⟨gb188, 6, none⟩ = some (.int .i64 a0_6) ∧ w107.cell? ⟨gb188, 7, none⟩ = some (.int .i64 a0_7) ∧ w107.cell? ⟨gb188, 8, none⟩ = some (.int .i64 a0_8) ∧ w107.cell? ⟨gb188, 9, none⟩ = some (.int .i64 a0_9) ∧ w107.cell? ⟨gb188, 10, none⟩ = some (.int .i64 a0_10) ∧ w107.cell? ⟨gb188, 11, none⟩ = some (.int .u8 a0_11) := hS_
    refine norm_ (a' := ?_) ?_ ?_
    rotate_left
    ·
     simp only [putAll, Act.put, List.setIfInBounds_toArray, List.set_cons_zero, List.set_cons_succ]
     rfl
    refine one_ (i := 2) (N := some 13) (bA 16 4095) rfl rfl (one_of HT_.out (by kernel_rfl)) (by decide) (fun K hK => ?_)
    refine goes_ Try.func11 (by kernel_rfl) rfl #[.agg #[.int .i64 a0_0, .int .i64 a0_1, .int .i64 a0_2, .slice A0_3 l0_3.length c0_3]] (by rfl) rfl rfl (by (try simp only [List.map_toArray, List.map_cons, List.map_nil]); first | done | rfl | (simp only [List.length_drop, List.length_take]; rfl)) ?_
    with_reducible refine (bivouaclaw16_few.calls a0_0 a0_1 a0_2 (fun k_ => k_ < w.heap.size) _ _ l0_3 t189 t190 t191 t192 _ ?side1 A2.out).mono ?_
    (case side1 => exact Kd.V_mk HC0_3.out (Kd.F_below (Kd.C_F (Kd.heap_int .u8) HR0_3.out) (by repeat (first | (with_reducible first | exact HB.out | apply below_alloc | apply pw_below_drewN | apply below_drew1 | refine below_set ?_ GE188.out | refine below_set ?_ GE195.out | refine below_set ?_ GE196.out) | exact HB.out))))
    rintro e w108 ⟨v193, rfl, ho0, hb⟩
    refine ⟨_, rfl, ?_⟩
    have n0_ := aM19 (Kd.V_lower (Kd.V_mono (ok' := fun k_ => k_ ≠ gb188 ∧ k_ ≠ gb195 ∧ k_ ≠ gb196) ho0 (fun k_ hk_ => ⟨Or.elim hk_ (fun hs_ => fun e_ => Nat.not_le.2 hs_ (by rw [e_]; exact GW188.out)) (fun hn_ => (Kd.freshB (g := gb188) (o := .cells #[.int .i64 a0_0, .int .i64 a0_1, .int .i64 a0_2, .slice A0_3 l0_3.length c0_3, .int .i64 a0_4, .int .i64 a0_5, .int .i64 a0_6, .int .i64 a0_7, .int .i64 a0_8, .int .i64 a0_9, .int .i64 a0_10, .int .u8 a0_11] 36 (0, 0)) (by (with_reducible repeat (first | refine bN19 ?_ _ | refine bD19 ?_ | refine bK19 ?_ _)); exact BK188.out) k_ hn_)), Or.elim hk_ (fun hs_ => fun e_ => Nat.not_le.2 hs_ (by rw [e_]; exact GW195.out)) (fun hn_ => (Kd.freshB (g := gb195) (o := .cells #[.int .i64 0, .int .i64 0, .int .i64 0, .slice none 0 0] 25 (0, 0)) (by (with_reducible repeat (first | refine bN19 ?_ _ | refine bD19 ?_ | refine bK19 ?_ _)); exact BK195.out) k_ hn_)), Or.elim hk_ (fun hs_ => fun e_ => Nat.not_le.2 hs_ (by rw [e_]; exact GW196.out)) (fun hn_ => (Kd.freshB (g := gb196) (o := .cells #[.int .i64 0, .int .i64 0, .int .i64 0, .int .i64 0, .int .i64 0, .int .i64 0] 27 (0, 0)) (by (with_reducible repeat (first | refine bN19 ?_ _ | refine bD19 ?_ | refine bK19 ?_ _)); exact BK196.out) k_ hn_))⟩)) (below_size (by repeat (first | (with_reducible first | exact HB.out | apply below_alloc | apply pw_below_drewN | apply below_drew1 | refine below_set ?_ GE188.out | refine below_set ?_ GE195.out | refine below_set ?_ GE196.out) | exact HB.out))))
    have n1_ := aM19 (blk_below (g := gb188) (o := .cells #[.int .i64 a0_0, .int .i64 a0_1, .int .i64 a0_2, .slice A0_3 l0_3.length c0_3, .int .i64 a0_4, .int .i64 a0_5, .int .i64 a0_6, .int .i64 a0_7, .int .i64 a0_8, .int .i64 a0_9, .int .i64 a0_10, .int .u8 a0_11] 36 (0, 0)) (by (with_reducible repeat (first | refine bN19 ?_ _ | refine bD19 ?_ | refine bK19 ?_ _)); exact BK188.out) hb)
    have n2_ := aM19 (blk_below (g := gb195) (o := .cells #[.int .i64 0, .int .i64 0, .int .i64 0, .slice none 0 0] 25 (0, 0)) (by (with_reducible repeat (first | refine bN19 ?_ _ | refine bD19 ?_ | refine bK19 ?_ _)); exact BK195.out) hb)
    have n3_ := aM19 (blk_below (g := gb196) (o := .cells #[.int .i64 0, .int .i64 0, .int .i64 0, .int .i64 0, .int .i64 0, .int .i64 0] 27 (0, 0)) (by (with_reducible repeat (first | refine bN19 ?_ _ | refine bD19 ?_ | refine bK19 ?_ _)); exact BK196.out) hb)
    have n4_ := aM19 (below_step (by repeat (first | (with_reducible first | exact HB.out | apply below_alloc | apply pw_below_drewN | apply below_drew1 | refine below_set ?_ GE188.out | refine below_set ?_ GE195.out | refine below_set ?_ GE196.out) | exact HB.out)) hb)
    clear BK188
    clear BK195
    clear BK196
    clear HB
    have HO194 := n0_
    have BK188 := n1_
    have BK195 := n2_
    have BK196 := n3_
    have HB := n4_
    clear n0_ n1_ n2_ n3_ n4_
    (try clear hb)
    (try clear hb2)
    (try clear hk)
    (try clear hi)
    (try clear ho0)
    refine hK.out _ _ ⟨(bC19 BK188.out 0).trans rfl, (bC19 BK188.out 1).trans rfl, (bC19 BK188.out 2).trans rfl, (bC19 BK188.out 3).trans rfl, (bC19 BK188.out 4).trans rfl, (bC19 BK188.out 5).trans rfl, (bC19 BK188.out 6).trans rfl, (bC19 BK188.out 7).trans rfl, (bC19 BK188.out 8).trans rfl, (bC19 BK188.out 9).trans rfl, (bC19 BK188.out 10).trans rfl, (bC19 BK188.out 11).trans rfl⟩ (fun hHeld => ?_)
    clear hK K
    refine norm_ (a' := ?_) ?_ ?_
    rotate_left
    ·
     show Act.put _ (some 13) _ = _
     simp only [Act.put, sA, sB, sC, i64_w, i32_w]
     rfl
    exact norm_ (by first | (simp only [putAll, Act.put, List.setIfInBounds_toArray, List.set_cons_zero, List.set_cons_succ]; done) | (simp only [putAll, Act.put, List.setIfInBounds_toArray, List.set_cons_zero, List.set_cons_succ]; rfl)) (hJ2_10_11 (v193, gb195, gb196) _ ⟨hHeld, (by (with_reducible repeat (first | apply Kd.V_alloc | apply Kd.V_drewN | apply Kd.V_drew)); exact HO194.out), (by (with_reducible repeat (first | refine bN19 ?_ _ | refine bD19 ?_ | refine bK19 ?_ _)); exact BK188.out), (by (with_reducible repeat (first | refine bN19 ?_ _ | refine bD19 ?_ | refine bK19 ?_ _)); exact BK195.out), (by (with_reducible repeat (first | refine bN19 ?_ _ | refine bD19 ?_ | refine bK19 ?_ _)); exact BK196.out), GW195.out, GE195.out, NB188_195.out, NB195_188.out, NB196_195.out, NB195_196.out, GW196.out, GE196.out, NB188_196.out, NB196_188.out, (by repeat (first | (with_reducible first | exact HB.out | apply below_alloc | apply pw_below_drewN | apply below_drew1 | refine below_set ?_ GE188.out | refine below_set ?_ GE195.out | refine below_set ?_ GE196.out) | exact HB.out))⟩)
   skip
   rintro ⟨v193, gb196⟩ w107 ⟨hS_, h0_, h1_, h2_, h3_, h4_, h5_, h6_, h7_⟩
   have n0_ : Aside0 (Kd.V (Kd.int .u8) 5 w107 w.heap.size (fun k_ => k_ ≠ gb188 ∧ k_ ≠ gb196) v193 t192) := ⟨h0_⟩
   have n1_ : Aside0 (w107.heap[gb188]? = some (.cells #[.int .i64 a0_0, .int .i64 a0_1, .int .i64 a0_2, .slice A0_3 l0_3.length c0_3, .int .i64 a0_4, .int .i64 a0_5, .int .i64 a0_6, .int .i64 a0_7, .int .i64 a0_8, .int .i64 a0_9, .int .i64 a0_10, .int .u8 a0_11] 36 (0, 0))) := ⟨h1_⟩
   have n2_ : Aside0 (w107.heap[gb196]? = some (.cells #[.int .i64 0, .int .i64 0, .int .i64 0, .int .i64 0, .int .i64 0, .int .i64 0] 27 (0, 0))) := ⟨h2_⟩
   have n3_ : Aside0 (w.heap.size ≤ gb196) := ⟨h3_⟩
   have n4_ : Aside0 (w.heap.size ≤ gb196) := ⟨h4_⟩
   have n5_ : Aside0 (gb188 ≠ gb196) := ⟨h5_⟩
   have n6_ : Aside0 (gb196 ≠ gb188) := ⟨h6_⟩
   have n7_ : Aside0 (Below w.heap.size w w107) := ⟨h7_⟩
   clear BK188
   clear HB
   clear h0_ h1_ h2_ h3_ h4_ h5_ h6_ h7_
   have HO194 := n0_
   have BK188 := n1_
   have BK196 := n2_
   have GW196 := n3_
   have GE196 := n4_
   have NB188_196 := n5_
   have NB196_188 := n6_
   have HB := n7_
   clear n0_ n1_ n2_ n3_ n4_ n5_ n6_ n7_
   have hHeld : w107.cell? ⟨gb188, 0, none⟩ = some (.int .i64 a0_0) ∧ w107.cell? ⟨gb188, 1, none⟩ = some (.int .i64 a0_1) ∧ w107.cell? ⟨gb188, 2, none⟩ = some (.int .i64 a0_2) ∧ w107.cell? ⟨gb188, 3, none⟩ = some (.slice A0_3 l0_3.length c0_3) ∧ w107.cell? ⟨gb188, 4, none⟩ = some (.int .i64 a0_4) ∧ w107.cell? ⟨gb188, 5, none⟩ = some (.int .i64 a0_5) ∧ w107.cell? ⟨gb188, 6, none⟩ = some (.int .i64 a0_6) ∧ w107.cell? ⟨gb188, 7, none⟩ = some (.int .i64 a0_7) ∧ w107.cell? ⟨gb188, 8, none⟩ = some (.int .i64 a0_8) ∧ w107.cell? ⟨gb188, 9, none⟩ = some (.int .i64 a0_9) ∧ w107.cell? ⟨gb188, 10, none⟩ = some (.int .i64 a0_10) ∧ w107.cell? ⟨gb188, 11, none⟩ = some (.int .u8 a0_11) := hS_
   refine norm_ (a' := ?_) ?_ ?_
   rotate_left
   ·
    simp only [putAll, Act.put, List.setIfInBounds_toArray, List.set_cons_zero, List.set_cons_succ]
    rfl
   refine one_ (i := 10) (N := some 3) (bA 16 4095) rfl rfl (one_of HT_.out (by kernel_rfl)) (by decide) (fun K hK => ?_)
   refine box_step ?hg (N := 3) ?hd (cs := #[.int .i64 0, .int .i64 0, .int .i64 0, .slice none 0 0]) (t := 25) ?hr ?_; (case hd => rfl); (case hg => rfl); (case hr => first | (go_simp; done) | (go_simp; rfl))
   intro gb195 hg w108 hbox hb
   have n0_ := aM19 (Kd.V_below (Kd.V_elderB (by (with_reducible repeat (first | apply Kd.V_alloc | apply Kd.V_drewN | apply Kd.V_drew)); exact HO194.out) gb195 (Nat.le_of_eq hg.symm)) hb)
   have n1_ := aM19 (blk_below (g := gb188) (o := .cells #[.int .i64 a0_0, .int .i64 a0_1, .int .i64 a0_2, .slice A0_3 l0_3.length c0_3, .int .i64 a0_4, .int .i64 a0_5, .int .i64 a0_6, .int .i64 a0_7, .int .i64 a0_8, .int .i64 a0_9, .int .i64 a0_10, .int .u8 a0_11] 36 (0, 0)) (by (with_reducible repeat (first | refine bN19 ?_ _ | refine bD19 ?_ | refine bK19 ?_ _)); exact BK188.out) hb)
   have n2_ := aM19 (blk_below (g := gb196) (o := .cells #[.int .i64 0, .int .i64 0, .int .i64 0, .int .i64 0, .int .i64 0, .int .i64 0] 27 (0, 0)) (by (with_reducible repeat (first | refine bN19 ?_ _ | refine bD19 ?_ | refine bK19 ?_ _)); exact BK196.out) hb)
   have n3_ := aM19 (below_step (by repeat (first | (with_reducible first | exact HB.out | apply below_alloc | apply pw_below_drewN | apply below_drew1 | refine below_set ?_ GE188.out | refine below_set ?_ GE196.out) | exact HB.out)) hb)
   have n4_ := aM19 (hbox)
   have n5_ := aM19 ((by rw [hg]; exact (below_size (by repeat (first | (with_reducible first | exact HB.out | apply below_alloc | apply pw_below_drewN | apply below_drew1 | refine below_set ?_ GE188.out | refine below_set ?_ GE196.out) | exact HB.out))) : w.heap.size ≤ gb195))
   have n6_ := aM19 ((by rw [hg]; exact (below_size (by repeat (first | (with_reducible first | exact HB.out | apply below_alloc | apply pw_below_drewN | apply below_drew1 | refine below_set ?_ GE188.out | refine below_set ?_ GE196.out) | exact HB.out))) : w.heap.size ≤ gb195))
   have n7_ := aM19 ((by rw [hg]; exact Nat.ne_of_lt (blk_lt (g := gb188) (o := .cells #[.int .i64 a0_0, .int .i64 a0_1, .int .i64 a0_2, .slice A0_3 l0_3.length c0_3, .int .i64 a0_4, .int .i64 a0_5, .int .i64 a0_6, .int .i64 a0_7, .int .i64 a0_8, .int .i64 a0_9, .int .i64 a0_10, .int .u8 a0_11] 36 (0, 0)) (by (with_reducible repeat (first | refine bN19 ?_ _ | refine bD19 ?_ | refine bK19 ?_ _)); exact BK188.out)) : gb188 ≠ gb195))
   have n8_ := aM19 ((by rw [hg]; exact Nat.ne_of_gt (blk_lt (g := gb188) (o := .cells #[.int .i64 a0_0, .int .i64 a0_1, .int .i64 a0_2, .slice A0_3 l0_3.length c0_3, .int .i64 a0_4, .int .i64 a0_5, .int .i64 a0_6, .int .i64 a0_7, .int .i64 a0_8, .int .i64 a0_9, .int .i64 a0_10, .int .u8 a0_11] 36 (0, 0)) (by (with_reducible repeat (first | refine bN19 ?_ _ | refine bD19 ?_ | refine bK19 ?_ _)); exact BK188.out)) : gb195 ≠ gb188))
   have n9_ := aM19 ((by rw [hg]; exact Nat.ne_of_lt (blk_lt (g := gb196) (o := .cells #[.int .i64 0, .int .i64 0, .int .i64 0, .int .i64 0, .int .i64 0, .int .i64 0] 27 (0, 0)) (by (with_reducible repeat (first | refine bN19 ?_ _ | refine bD19 ?_ | refine bK19 ?_ _)); exact BK196.out)) : gb196 ≠ gb195))
   have n10_ := aM19 ((by rw [hg]; exact Nat.ne_of_gt (blk_lt (g := gb196) (o := .cells #[.int .i64 0, .int .i64 0, .int .i64 0, .int .i64 0, .int .i64 0, .int .i64 0] 27 (0, 0)) (by (with_reducible repeat (first | refine bN19 ?_ _ | refine bD19 ?_ | refine bK19 ?_ _)); exact BK196.out)) : gb195 ≠ gb196))
   clear HO194
   clear BK188
   clear BK196
   clear HB
   have HO194 := n0_
   have BK188 := n1_
   have BK196 := n2_
   have HB := n3_
   have BK195 := n4_
   have GW195 := n5_
   have GE195 := n6_
   have NB188_195 := n7_
   have NB195_188 := n8_
   have NB196_195 := n9_
   have NB195_196 := n10_
   clear n0_ n1_ n2_ n3_ n4_ n5_ n6_ n7_ n8_ n9_ n10_
   clear hb hbox hg
   refine hK.out _ _ ⟨(bC19 BK188.out 0).trans rfl, (bC19 BK188.out 1).trans rfl, (bC19 BK188.out 2).trans rfl, (bC19 BK188.out 3).trans rfl, (bC19 BK188.out 4).trans rfl, (bC19 BK188.out 5).trans rfl, (bC19 BK188.out 6).trans rfl, (bC19 BK188.out 7).trans rfl, (bC19 BK188.out 8).trans rfl, (bC19 BK188.out 9).trans rfl, (bC19 BK188.out 10).trans rfl, (bC19 BK188.out 11).trans rfl⟩ (fun hHeld => ?_)
   clear hK K
   refine norm_ (a' := ?_) ?_ ?_
   rotate_left
   ·
    show Act.put _ (some 3) _ = _
    simp only [Act.put, sA, sB, sC, i64_w, i32_w]
    rfl
   exact norm_ (by first | (simp only [putAll, Act.put, List.setIfInBounds_toArray, List.set_cons_zero, List.set_cons_succ]; done) | (simp only [putAll, Act.put, List.setIfInBounds_toArray, List.set_cons_zero, List.set_cons_succ]; rfl)) (hJ2_10_11 (v193, gb195, gb196) _ ⟨hHeld, (by (with_reducible repeat (first | apply Kd.V_alloc | apply Kd.V_drewN | apply Kd.V_drew)); exact Kd.V_mono HO194.out (fun _ hk => ⟨hk.1.1, ⟨hk.2, hk.1.2⟩⟩)), (by (with_reducible repeat (first | refine bN19 ?_ _ | refine bD19 ?_ | refine bK19 ?_ _)); exact BK188.out), (by (with_reducible repeat (first | refine bN19 ?_ _ | refine bD19 ?_ | refine bK19 ?_ _)); exact BK195.out), (by (with_reducible repeat (first | refine bN19 ?_ _ | refine bD19 ?_ | refine bK19 ?_ _)); exact BK196.out), GW195.out, GE195.out, NB188_195.out, NB195_188.out, NB196_195.out, NB195_196.out, GW196.out, GE196.out, NB188_196.out, NB196_188.out, (by repeat (first | (with_reducible first | exact HB.out | apply below_alloc | apply pw_below_drewN | apply below_drew1 | refine below_set ?_ GE188.out | refine below_set ?_ GE196.out | refine below_set ?_ GE195.out) | exact HB.out))⟩)
  skip
  rintro ⟨v193, gb195⟩ w107 ⟨hS_, h0_, h1_, h2_, h3_, h4_, h5_, h6_, h7_⟩
  have n0_ : Aside0 (Kd.V (Kd.int .u8) 5 w107 w.heap.size (fun k_ => k_ ≠ gb188 ∧ k_ ≠ gb195) v193 t192) := ⟨h0_⟩
  have n1_ : Aside0 (w107.heap[gb188]? = some (.cells #[.int .i64 a0_0, .int .i64 a0_1, .int .i64 a0_2, .slice A0_3 l0_3.length c0_3, .int .i64 a0_4, .int .i64 a0_5, .int .i64 a0_6, .int .i64 a0_7, .int .i64 a0_8, .int .i64 a0_9, .int .i64 a0_10, .int .u8 a0_11] 36 (0, 0))) := ⟨h1_⟩
  have n2_ : Aside0 (w107.heap[gb195]? = some (.cells #[.int .i64 0, .int .i64 0, .int .i64 0, .slice none 0 0] 25 (0, 0))) := ⟨h2_⟩
  have n3_ : Aside0 (w.heap.size ≤ gb195) := ⟨h3_⟩
  have n4_ : Aside0 (w.heap.size ≤ gb195) := ⟨h4_⟩
  have n5_ : Aside0 (gb188 ≠ gb195) := ⟨h5_⟩
  have n6_ : Aside0 (gb195 ≠ gb188) := ⟨h6_⟩
  have n7_ : Aside0 (Below w.heap.size w w107) := ⟨h7_⟩
  clear BK188
  clear HB
  clear h0_ h1_ h2_ h3_ h4_ h5_ h6_ h7_
  have HO194 := n0_
  have BK188 := n1_
  have BK195 := n2_
  have GW195 := n3_
  have GE195 := n4_
  have NB188_195 := n5_
  have NB195_188 := n6_
  have HB := n7_
  clear n0_ n1_ n2_ n3_ n4_ n5_ n6_ n7_
  have hHeld : w107.cell? ⟨gb188, 0, none⟩ = some (.int .i64 a0_0) ∧ w107.cell? ⟨gb188, 1, none⟩ = some (.int .i64 a0_1) ∧ w107.cell? ⟨gb188, 2, none⟩ = some (.int .i64 a0_2) ∧ w107.cell? ⟨gb188, 3, none⟩ = some (.slice A0_3 l0_3.length c0_3) ∧ w107.cell? ⟨gb188, 4, none⟩ = some (.int .i64 a0_4) ∧ w107.cell? ⟨gb188, 5, none⟩ = some (.int .i64 a0_5) ∧ w107.cell? ⟨gb188, 6, none⟩ = some (.int .i64 a0_6) ∧ w107.cell? ⟨gb188, 7, none⟩ = some (.int .i64 a0_7) ∧ w107.cell? ⟨gb188, 8, none⟩ = some (.int .i64 a0_8) ∧ w107.cell? ⟨gb188, 9, none⟩ = some (.int .i64 a0_9) ∧ w107.cell? ⟨gb188, 10, none⟩ = some (.int .i64 a0_10) ∧ w107.cell? ⟨gb188, 11, none⟩ = some (.int .u8 a0_11) := hS_
  refine norm_ (a' := ?_) ?_ ?_
  rotate_left
  ·
   simp only [putAll, Act.put, List.setIfInBounds_toArray, List.set_cons_zero, List.set_cons_succ]
   rfl
  refine one_ (i := 11) (N := some 4) (bA 16 4095) rfl rfl (one_of HT_.out (by kernel_rfl)) (by decide) (fun K hK => ?_)
  refine box_step ?hg (N := 4) ?hd (cs := #[.int .i64 0, .int .i64 0, .int .i64 0, .int .i64 0, .int .i64 0, .int .i64 0]) (t := 27) ?hr ?_; (case hd => rfl); (case hg => rfl); (case hr => first | (go_simp; done) | (go_simp; rfl))
  intro gb196 hg w108 hbox hb
  have n0_ := aM19 (Kd.V_below (Kd.V_elderB (by (with_reducible repeat (first | apply Kd.V_alloc | apply Kd.V_drewN | apply Kd.V_drew)); exact HO194.out) gb196 (Nat.le_of_eq hg.symm)) hb)
  have n1_ := aM19 (blk_below (g := gb188) (o := .cells #[.int .i64 a0_0, .int .i64 a0_1, .int .i64 a0_2, .slice A0_3 l0_3.length c0_3, .int .i64 a0_4, .int .i64 a0_5, .int .i64 a0_6, .int .i64 a0_7, .int .i64 a0_8, .int .i64 a0_9, .int .i64 a0_10, .int .u8 a0_11] 36 (0, 0)) (by (with_reducible repeat (first | refine bN19 ?_ _ | refine bD19 ?_ | refine bK19 ?_ _)); exact BK188.out) hb)
  have n2_ := aM19 (blk_below (g := gb195) (o := .cells #[.int .i64 0, .int .i64 0, .int .i64 0, .slice none 0 0] 25 (0, 0)) (by (with_reducible repeat (first | refine bN19 ?_ _ | refine bD19 ?_ | refine bK19 ?_ _)); exact BK195.out) hb)
  have n3_ := aM19 (below_step (by repeat (first | (with_reducible first | exact HB.out | apply below_alloc | apply pw_below_drewN | apply below_drew1 | refine below_set ?_ GE188.out | refine below_set ?_ GE195.out) | exact HB.out)) hb)
  have n4_ := aM19 (hbox)
  have n5_ := aM19 ((by rw [hg]; exact (below_size (by repeat (first | (with_reducible first | exact HB.out | apply below_alloc | apply pw_below_drewN | apply below_drew1 | refine below_set ?_ GE188.out | refine below_set ?_ GE195.out) | exact HB.out))) : w.heap.size ≤ gb196))
  have n6_ := aM19 ((by rw [hg]; exact (below_size (by repeat (first | (with_reducible first | exact HB.out | apply below_alloc | apply pw_below_drewN | apply below_drew1 | refine below_set ?_ GE188.out | refine below_set ?_ GE195.out) | exact HB.out))) : w.heap.size ≤ gb196))
  have n7_ := aM19 ((by rw [hg]; exact Nat.ne_of_lt (blk_lt (g := gb188) (o := .cells #[.int .i64 a0_0, .int .i64 a0_1, .int .i64 a0_2, .slice A0_3 l0_3.length c0_3, .int .i64 a0_4, .int .i64 a0_5, .int .i64 a0_6, .int .i64 a0_7, .int .i64 a0_8, .int .i64 a0_9, .int .i64 a0_10, .int .u8 a0_11] 36 (0, 0)) (by (with_reducible repeat (first | refine bN19 ?_ _ | refine bD19 ?_ | refine bK19 ?_ _)); exact BK188.out)) : gb188 ≠ gb196))
  have n8_ := aM19 ((by rw [hg]; exact Nat.ne_of_gt (blk_lt (g := gb188) (o := .cells #[.int .i64 a0_0, .int .i64 a0_1, .int .i64 a0_2, .slice A0_3 l0_3.length c0_3, .int .i64 a0_4, .int .i64 a0_5, .int .i64 a0_6, .int .i64 a0_7, .int .i64 a0_8, .int .i64 a0_9, .int .i64 a0_10, .int .u8 a0_11] 36 (0, 0)) (by (with_reducible repeat (first | refine bN19 ?_ _ | refine bD19 ?_ | refine bK19 ?_ _)); exact BK188.out)) : gb196 ≠ gb188))
  have n9_ := aM19 ((by rw [hg]; exact Nat.ne_of_lt (blk_lt (g := gb195) (o := .cells #[.int .i64 0, .int .i64 0, .int .i64 0, .slice none 0 0] 25 (0, 0)) (by (with_reducible repeat (first | refine bN19 ?_ _ | refine bD19 ?_ | refine bK19 ?_ _)); exact BK195.out)) : gb195 ≠ gb196))
  have n10_ := aM19 ((by rw [hg]; exact Nat.ne_of_gt (blk_lt (g := gb195) (o := .cells #[.int .i64 0, .int .i64 0, .int .i64 0, .slice none 0 0] 25 (0, 0)) (by (with_reducible repeat (first | refine bN19 ?_ _ | refine bD19 ?_ | refine bK19 ?_ _)); exact BK195.out)) : gb196 ≠ gb195))
  clear HO194
  clear BK188
  clear BK195
  clear HB
  have HO194 := n0_
  have BK188 := n1_
  have BK195 := n2_
  have HB := n3_
  have BK196 := n4_
  have GW196 := n5_
  have GE196 := n6_
  have NB188_196 := n7_
  have NB196_188 := n8_
  have NB195_196 := n9_
  have NB196_195 := n10_
  clear n0_ n1_ n2_ n3_ n4_ n5_ n6_ n7_ n8_ n9_ n10_
  clear hb hbox hg
  refine hK.out _ _ ⟨(bC19 BK188.out 0).trans rfl, (bC19 BK188.out 1).trans rfl, (bC19 BK188.out 2).trans rfl, (bC19 BK188.out 3).trans rfl, (bC19 BK188.out 4).trans rfl, (bC19 BK188.out 5).trans rfl, (bC19 BK188.out 6).trans rfl, (bC19 BK188.out 7).trans rfl, (bC19 BK188.out 8).trans rfl, (bC19 BK188.out 9).trans rfl, (bC19 BK188.out 10).trans rfl, (bC19 BK188.out 11).trans rfl⟩ (fun hHeld => ?_)
  clear hK K
  refine norm_ (a' := ?_) ?_ ?_
  rotate_left
  ·
   show Act.put _ (some 4) _ = _
   simp only [Act.put, sA, sB, sC, i64_w, i32_w]
   rfl
  exact norm_ (by first | (simp only [putAll, Act.put, List.setIfInBounds_toArray, List.set_cons_zero, List.set_cons_succ]; done) | (simp only [putAll, Act.put, List.setIfInBounds_toArray, List.set_cons_zero, List.set_cons_succ]; rfl)) (hJ2_10_11 (v193, gb195, gb196) _ ⟨hHeld, (by (with_reducible repeat (first | apply Kd.V_alloc | apply Kd.V_drewN | apply Kd.V_drew)); exact Kd.V_mono HO194.out (fun _ hk => ⟨hk.1.1, ⟨hk.1.2, hk.2⟩⟩)), (by (with_reducible repeat (first | refine bN19 ?_ _ | refine bD19 ?_ | refine bK19 ?_ _)); exact BK188.out), (by (with_reducible repeat (first | refine bN19 ?_ _ | refine bD19 ?_ | refine bK19 ?_ _)); exact BK195.out), (by (with_reducible repeat (first | refine bN19 ?_ _ | refine bD19 ?_ | refine bK19 ?_ _)); exact BK196.out), GW195.out, GE195.out, NB188_195.out, NB195_188.out, NB196_195.out, NB195_196.out, GW196.out, GE196.out, NB188_196.out, NB196_188.out, (by repeat (first | (with_reducible first | exact HB.out | apply below_alloc | apply pw_below_drewN | apply below_drew1 | refine below_set ?_ GE188.out | refine below_set ?_ GE195.out | refine below_set ?_ GE196.out) | exact HB.out))⟩)
 rintro ⟨v193, gb195, gb196⟩ w108 ⟨hS_, h0_, h1_, h2_, h3_, h4_, h5_, h6_, h7_, h8_, h9_, h10_, h11_, h12_, h13_, h14_⟩
 have n0_ : Aside0 (Kd.V (Kd.int .u8) 5 w108 w.heap.size (fun k_ => k_ ≠ gb188 ∧ k_ ≠ gb195 ∧ k_ ≠ gb196) v193 t192) := ⟨h0_⟩
 have n1_ : Aside0 (w108.heap[gb188]? = some (.cells #[.int .i64 a0_0, .int .i64 a0_1, .int .i64 a0_2, .slice A0_3 l0_3.length c0_3, .int .i64 a0_4, .int .i64 a0_5, .int .i64 a0_6, .int .i64 a0_7, .int .i64 a0_8, .int .i64 a0_9, .int .i64 a0_10, .int .u8 a0_11] 36 (0, 0))) := ⟨h1_⟩
 have n2_ : Aside0 (w108.heap[gb195]? = some (.cells #[.int .i64 0, .int .i64 0, .int .i64 0, .slice none 0 0] 25 (0, 0))) := ⟨h2_⟩
 have n3_ : Aside0 (w108.heap[gb196]? = some (.cells #[.int .i64 0, .int .i64 0, .int .i64 0, .int .i64 0, .int .i64 0, .int .i64 0] 27 (0, 0))) := ⟨h3_⟩
 have n4_ : Aside0 (w.heap.size ≤ gb195) := ⟨h4_⟩
 have n5_ : Aside0 (w.heap.size ≤ gb195) := ⟨h5_⟩
 have n6_ : Aside0 (gb188 ≠ gb195) := ⟨h6_⟩
 have n7_ : Aside0 (gb195 ≠ gb188) := ⟨h7_⟩
 have n8_ : Aside0 (gb196 ≠ gb195) := ⟨h8_⟩
 have n9_ : Aside0 (gb195 ≠ gb196) := ⟨h9_⟩
 have n10_ : Aside0 (w.heap.size ≤ gb196) := ⟨h10_⟩
 have n11_ : Aside0 (w.heap.size ≤ gb196) := ⟨h11_⟩
 have n12_ : Aside0 (gb188 ≠ gb196) := ⟨h12_⟩
 have n13_ : Aside0 (gb196 ≠ gb188) := ⟨h13_⟩
 have n14_ : Aside0 (Below w.heap.size w w108) := ⟨h14_⟩
 clear BK188
 clear HB
 clear h0_ h1_ h2_ h3_ h4_ h5_ h6_ h7_ h8_ h9_ h10_ h11_ h12_ h13_ h14_
 have HO194 := n0_
 have BK188 := n1_
 have BK195 := n2_
 have BK196 := n3_
 have GW195 := n4_
 have GE195 := n5_
 have NB188_195 := n6_
 have NB195_188 := n7_
 have NB196_195 := n8_
 have NB195_196 := n9_
 have GW196 := n10_
 have GE196 := n11_
 have NB188_196 := n12_
 have NB196_188 := n13_
 have HB := n14_
 clear n0_ n1_ n2_ n3_ n4_ n5_ n6_ n7_ n8_ n9_ n10_ n11_ n12_ n13_ n14_
 have hHeld : w108.cell? ⟨gb188, 0, none⟩ = some (.int .i64 a0_0) ∧ w108.cell? ⟨gb188, 1, none⟩ = some (.int .i64 a0_1) ∧ w108.cell? ⟨gb188, 2, none⟩ = some (.int .i64 a0_2) ∧ w108.cell? ⟨gb188, 3, none⟩ = some (.slice A0_3 l0_3.length c0_3) ∧ w108.cell? ⟨gb188, 4, none⟩ = some (.int .i64 a0_4) ∧ w108.cell? ⟨gb188, 5, none⟩ = some (.int .i64 a0_5) ∧ w108.cell? ⟨gb188, 6, none⟩ = some (.int .i64 a0_6) ∧ w108.cell? ⟨gb188, 7, none⟩ = some (.int .i64 a0_7) ∧ w108.cell? ⟨gb188, 8, none⟩ = some (.int .i64 a0_8) ∧ w108.cell? ⟨gb188, 9, none⟩ = some (.int .i64 a0_9) ∧ w108.cell? ⟨gb188, 10, none⟩ = some (.int .i64 a0_10) ∧ w108.cell? ⟨gb188, 11, none⟩ = some (.int .u8 a0_11) := hS_
 obtain ⟨Ao112, co112, eo112⟩ := Kd.V_slice HO194.out
 (first | subst eo112 | (injection eo112 with f1_ f2_ f3_; have f4_ := f1_.symm; have f5_ := f3_.symm; clear f1_ f2_ f3_; subst f4_; subst f5_))
 refine norm_ (a' := ?_) ?_ ?_
 rotate_left
 ·
  simp only [putAll, Act.put, List.setIfInBounds_toArray, List.set_cons_zero, List.set_cons_succ]
  rfl
 refine one_ (i := 12) (N := none) (bA 16 8191) rfl rfl (one_of HT_.out (by kernel_rfl)) (by decide) (fun K hK => ?_)
 have hs109 : w108.cell? ⟨gb195, 0, none⟩ = some (.int .i64 0) := (bC19 BK195.out 0).trans rfl
 have hfs109 := bF19 BK195.out 0
 have hns109_0 := NB188_195.out
 have hns109_2 := NB196_195.out
 have hms109_0 := NB195_188.out
 have hms109_2 := NB195_196.out
 have hs110 : w108.cell? ⟨gb195, 1, none⟩ = some (.int .i64 0) := (bC19 BK195.out 1).trans rfl
 have hfs110 := bF19 BK195.out 1
 have hns110_0 := NB188_195.out
 have hns110_2 := NB196_195.out
 have hms110_0 := NB195_188.out
 have hms110_2 := NB195_196.out
 have hs111 : w108.cell? ⟨gb195, 2, none⟩ = some (.int .i64 0) := (bC19 BK195.out 2).trans rfl
 have hfs111 := bF19 BK195.out 2
 have hns111_0 := NB188_195.out
 have hns111_2 := NB196_195.out
 have hms111_0 := NB195_188.out
 have hms111_2 := NB195_196.out
 have hs113 : w108.cell? ⟨gb195, 3, none⟩ = some (.slice none 0 0) := (bC19 BK195.out 3).trans rfl
 have hfs113 := bF19 BK195.out 3
 have hns113_0 := NB188_195.out
 have hns113_2 := NB196_195.out
 have hms113_0 := NB195_188.out
 have hms113_2 := NB195_196.out
 refine skip_ (w1 := ?_) (by rfl) rfl ?_ ?_
 rotate_left
 ·
  go_simp
  rfl
 refine hK.out _ _ ⟨((cell_far (p := ⟨gb195, _, none⟩) NB188_195.out _).trans (((cell_far (p := ⟨gb195, _, none⟩) NB188_195.out _).trans (((cell_far (p := ⟨gb195, _, none⟩) NB188_195.out _).trans (((cell_far (p := ⟨gb195, _, none⟩) NB188_195.out _).trans (hHeld.1)))))))), ((cell_far (p := ⟨gb195, _, none⟩) NB188_195.out _).trans (((cell_far (p := ⟨gb195, _, none⟩) NB188_195.out _).trans (((cell_far (p := ⟨gb195, _, none⟩) NB188_195.out _).trans (((cell_far (p := ⟨gb195, _, none⟩) NB188_195.out _).trans (hHeld.2.1)))))))), ((cell_far (p := ⟨gb195, _, none⟩) NB188_195.out _).trans (((cell_far (p := ⟨gb195, _, none⟩) NB188_195.out _).trans (((cell_far (p := ⟨gb195, _, none⟩) NB188_195.out _).trans (((cell_far (p := ⟨gb195, _, none⟩) NB188_195.out _).trans (hHeld.2.2.1)))))))), ((cell_far (p := ⟨gb195, _, none⟩) NB188_195.out _).trans (((cell_far (p := ⟨gb195, _, none⟩) NB188_195.out _).trans (((cell_far (p := ⟨gb195, _, none⟩) NB188_195.out _).trans (((cell_far (p := ⟨gb195, _, none⟩) NB188_195.out _).trans (hHeld.2.2.2.1)))))))), ((cell_far (p := ⟨gb195, _, none⟩) NB188_195.out _).trans (((cell_far (p := ⟨gb195, _, none⟩) NB188_195.out _).trans (((cell_far (p := ⟨gb195, _, none⟩) NB188_195.out _).trans (((cell_far (p := ⟨gb195, _, none⟩) NB188_195.out _).trans (hHeld.2.2.2.2.1)))))))), ((cell_far (p := ⟨gb195, _, none⟩) NB188_195.out _).trans (((cell_far (p := ⟨gb195, _, none⟩) NB188_195.out _).trans (((cell_far (p := ⟨gb195, _, none⟩) NB188_195.out _).trans (((cell_far (p := ⟨gb195, _, none⟩) NB188_195.out _).trans (hHeld.2.2.2.2.2.1)))))))), ((cell_far (p := ⟨gb195, _, none⟩) NB188_195.out _).trans (((cell_far (p := ⟨gb195, _, none⟩) NB188_195.out _).trans (((cell_far (p := ⟨gb195, _, none⟩) NB188_195.out _).trans (((cell_far (p := ⟨gb195, _, none⟩) NB188_195.out _).trans (hHeld.2.2.2.2.2.2.1)))))))), ((cell_far (p := ⟨gb195, _, none⟩) NB188_195.out _).trans (((cell_far (p := ⟨gb195, _, none⟩) NB188_195.out _).trans (((cell_far (p := ⟨gb195, _, none⟩) NB188_195.out _).trans (((cell_far (p := ⟨gb195, _, none⟩) NB188_195.out _).trans (hHeld.2.2.2.2.2.2.2.1)))))))), ((cell_far (p := ⟨gb195, _, none⟩) NB188_195.out _).trans (((cell_far (p := ⟨gb195, _, none⟩) NB188_195.out _).trans (((cell_far (p := ⟨gb195, _, none⟩) NB188_195.out _).trans (((cell_far (p := ⟨gb195, _, none⟩) NB188_195.out _).trans (hHeld.2.2.2.2.2.2.2.2.1)))))))), ((cell_far (p := ⟨gb195, _, none⟩) NB188_195.out _).trans (((cell_far (p := ⟨gb195, _, none⟩) NB188_195.out _).trans (((cell_far (p := ⟨gb195, _, none⟩) NB188_195.out _).trans (((cell_far (p := ⟨gb195, _, none⟩) NB188_195.out _).trans (hHeld.2.2.2.2.2.2.2.2.2.1)))))))), ((cell_far (p := ⟨gb195, _, none⟩) NB188_195.out _).trans (((cell_far (p := ⟨gb195, _, none⟩) NB188_195.out _).trans (((cell_far (p := ⟨gb195, _, none⟩) NB188_195.out _).trans (((cell_far (p := ⟨gb195, _, none⟩) NB188_195.out _).trans (hHeld.2.2.2.2.2.2.2.2.2.2.1)))))))), ((cell_far (p := ⟨gb195, _, none⟩) NB188_195.out _).trans (((cell_far (p := ⟨gb195, _, none⟩) NB188_195.out _).trans (((cell_far (p := ⟨gb195, _, none⟩) NB188_195.out _).trans (((cell_far (p := ⟨gb195, _, none⟩) NB188_195.out _).trans (hHeld.2.2.2.2.2.2.2.2.2.2.2))))))))⟩ (fun hHeld => ?_)
 clear hK K
 refine one_ (i := 13) (N := none) (bA 16 16383) rfl rfl (one_of HT_.out (by kernel_rfl)) (by decide) (fun K hK => ?_)
 have hs114 : w108.cell? ⟨gb196, 0, none⟩ = some (.int .i64 0) := (bC19 BK196.out 0).trans rfl
 have hfs114 := bF19 BK196.out 0
 have hns114_0 := NB188_196.out
 have hns114_1 := NB195_196.out
 have hms114_0 := NB196_188.out
 have hms114_1 := NB196_195.out
 have hs115 : w108.cell? ⟨gb196, 1, none⟩ = some (.int .i64 0) := (bC19 BK196.out 1).trans rfl
 have hfs115 := bF19 BK196.out 1
 have hns115_0 := NB188_196.out
 have hns115_1 := NB195_196.out
 have hms115_0 := NB196_188.out
 have hms115_1 := NB196_195.out
 have hs116 : w108.cell? ⟨gb196, 2, none⟩ = some (.int .i64 0) := (bC19 BK196.out 2).trans rfl
 have hfs116 := bF19 BK196.out 2
 have hns116_0 := NB188_196.out
 have hns116_1 := NB195_196.out
 have hms116_0 := NB196_188.out
 have hms116_1 := NB196_195.out
 have hs117 : w108.cell? ⟨gb196, 3, none⟩ = some (.int .i64 0) := (bC19 BK196.out 3).trans rfl
 have hfs117 := bF19 BK196.out 3
 have hns117_0 := NB188_196.out
 have hns117_1 := NB195_196.out
 have hms117_0 := NB196_188.out
 have hms117_1 := NB196_195.out
 have hs118 : w108.cell? ⟨gb196, 4, none⟩ = some (.int .i64 0) := (bC19 BK196.out 4).trans rfl
 have hfs118 := bF19 BK196.out 4
 have hns118_0 := NB188_196.out
 have hns118_1 := NB195_196.out
 have hms118_0 := NB196_188.out
 have hms118_1 := NB196_195.out
 have hs119 : w108.cell? ⟨gb196, 5, none⟩ = some (.int .i64 0) := (bC19 BK196.out 5).trans rfl
 have hfs119 := bF19 BK196.out 5
 have hns119_0 := NB188_196.out
 have hns119_1 := NB195_196.out
 have hms119_0 := NB196_188.out
 have hms119_1 := NB196_195.out
 refine skip_ (w1 := ?_) (by rfl) rfl ?_ ?_
 rotate_left
 ·
  go_simp
  rfl
 refine hK.out _ _ ⟨((cell_far (p := ⟨gb196, _, none⟩) NB188_196.out _).trans (((cell_far (p := ⟨gb196, _, none⟩) NB188_196.out _).trans (((cell_far (p := ⟨gb196, _, none⟩) NB188_196.out _).trans (((cell_far (p := ⟨gb196, _, none⟩) NB188_196.out _).trans (((cell_far (p := ⟨gb196, _, none⟩) NB188_196.out _).trans (((cell_far (p := ⟨gb196, _, none⟩) NB188_196.out _).trans (hHeld.1)))))))))))), ((cell_far (p := ⟨gb196, _, none⟩) NB188_196.out _).trans (((cell_far (p := ⟨gb196, _, none⟩) NB188_196.out _).trans (((cell_far (p := ⟨gb196, _, none⟩) NB188_196.out _).trans (((cell_far (p := ⟨gb196, _, none⟩) NB188_196.out _).trans (((cell_far (p := ⟨gb196, _, none⟩) NB188_196.out _).trans (((cell_far (p := ⟨gb196, _, none⟩) NB188_196.out _).trans (hHeld.2.1)))))))))))), ((cell_far (p := ⟨gb196, _, none⟩) NB188_196.out _).trans (((cell_far (p := ⟨gb196, _, none⟩) NB188_196.out _).trans (((cell_far (p := ⟨gb196, _, none⟩) NB188_196.out _).trans (((cell_far (p := ⟨gb196, _, none⟩) NB188_196.out _).trans (((cell_far (p := ⟨gb196, _, none⟩) NB188_196.out _).trans (((cell_far (p := ⟨gb196, _, none⟩) NB188_196.out _).trans (hHeld.2.2.1)))))))))))), ((cell_far (p := ⟨gb196, _, none⟩) NB188_196.out _).trans (((cell_far (p := ⟨gb196, _, none⟩) NB188_196.out _).trans (((cell_far (p := ⟨gb196, _, none⟩) NB188_196.out _).trans (((cell_far (p := ⟨gb196, _, none⟩) NB188_196.out _).trans (((cell_far (p := ⟨gb196, _, none⟩) NB188_196.out _).trans (((cell_far (p := ⟨gb196, _, none⟩) NB188_196.out _).trans (hHeld.2.2.2.1)))))))))))), ((cell_far (p := ⟨gb196, _, none⟩) NB188_196.out _).trans (((cell_far (p := ⟨gb196, _, none⟩) NB188_196.out _).trans (((cell_far (p := ⟨gb196, _, none⟩) NB188_196.out _).trans (((cell_far (p := ⟨gb196, _, none⟩) NB188_196.out _).trans (((cell_far (p := ⟨gb196, _, none⟩) NB188_196.out _).trans (((cell_far (p := ⟨gb196, _, none⟩) NB188_196.out _).trans (hHeld.2.2.2.2.1)))))))))))), ((cell_far (p := ⟨gb196, _, none⟩) NB188_196.out _).trans (((cell_far (p := ⟨gb196, _, none⟩) NB188_196.out _).trans (((cell_far (p := ⟨gb196, _, none⟩) NB188_196.out _).trans (((cell_far (p := ⟨gb196, _, none⟩) NB188_196.out _).trans (((cell_far (p := ⟨gb196, _, none⟩) NB188_196.out _).trans (((cell_far (p := ⟨gb196, _, none⟩) NB188_196.out _).trans (hHeld.2.2.2.2.2.1)))))))))))), ((cell_far (p := ⟨gb196, _, none⟩) NB188_196.out _).trans (((cell_far (p := ⟨gb196, _, none⟩) NB188_196.out _).trans (((cell_far (p := ⟨gb196, _, none⟩) NB188_196.out _).trans (((cell_far (p := ⟨gb196, _, none⟩) NB188_196.out _).trans (((cell_far (p := ⟨gb196, _, none⟩) NB188_196.out _).trans (((cell_far (p := ⟨gb196, _, none⟩) NB188_196.out _).trans (hHeld.2.2.2.2.2.2.1)))))))))))), ((cell_far (p := ⟨gb196, _, none⟩) NB188_196.out _).trans (((cell_far (p := ⟨gb196, _, none⟩) NB188_196.out _).trans (((cell_far (p := ⟨gb196, _, none⟩) NB188_196.out _).trans (((cell_far (p := ⟨gb196, _, none⟩) NB188_196.out _).trans (((cell_far (p := ⟨gb196, _, none⟩) NB188_196.out _).trans (((cell_far (p := ⟨gb196, _, none⟩) NB188_196.out _).trans (hHeld.2.2.2.2.2.2.2.1)))))))))))), ((cell_far (p := ⟨gb196, _, none⟩) NB188_196.out _).trans (((cell_far (p := ⟨gb196, _, none⟩) NB188_196.out _).trans (((cell_far (p := ⟨gb196, _, none⟩) NB188_196.out _).trans (((cell_far (p := ⟨gb196, _, none⟩) NB188_196.out _).trans (((cell_far (p := ⟨gb196, _, none⟩) NB188_196.out _).trans (((cell_far (p := ⟨gb196, _, none⟩) NB188_196.out _).trans (hHeld.2.2.2.2.2.2.2.2.1)))))))))))), ((cell_far (p := ⟨gb196, _, none⟩) NB188_196.out _).trans (((cell_far (p := ⟨gb196, _, none⟩) NB188_196.out _).trans (((cell_far (p := ⟨gb196, _, none⟩) NB188_196.out _).trans (((cell_far (p := ⟨gb196, _, none⟩) NB188_196.out _).trans (((cell_far (p := ⟨gb196, _, none⟩) NB188_196.out _).trans (((cell_far (p := ⟨gb196, _, none⟩) NB188_196.out _).trans (hHeld.2.2.2.2.2.2.2.2.2.1)))))))))))), ((cell_far (p := ⟨gb196, _, none⟩) NB188_196.out _).trans (((cell_far (p := ⟨gb196, _, none⟩) NB188_196.out _).trans (((cell_far (p := ⟨gb196, _, none⟩) NB188_196.out _).trans (((cell_far (p := ⟨gb196, _, none⟩) NB188_196.out _).trans (((cell_far (p := ⟨gb196, _, none⟩) NB188_196.out _).trans (((cell_far (p := ⟨gb196, _, none⟩) NB188_196.out _).trans (hHeld.2.2.2.2.2.2.2.2.2.2.1)))))))))))), ((cell_far (p := ⟨gb196, _, none⟩) NB188_196.out _).trans (((cell_far (p := ⟨gb196, _, none⟩) NB188_196.out _).trans (((cell_far (p := ⟨gb196, _, none⟩) NB188_196.out _).trans (((cell_far (p := ⟨gb196, _, none⟩) NB188_196.out _).trans (((cell_far (p := ⟨gb196, _, none⟩) NB188_196.out _).trans (((cell_far (p := ⟨gb196, _, none⟩) NB188_196.out _).trans (hHeld.2.2.2.2.2.2.2.2.2.2.2))))))))))))⟩ (fun hHeld => ?_)
 clear hK K
 refine pure_ (i := 14) (N := some 5) (v := ?_) (a' := ?_) (bA 16 32767) rfl rfl (any_of HT_.out (by kernel_rfl)) (fun _ _ _ h => h) (Or.inl ⟨by rfl, ?_⟩) ?_ ?_
 rotate_left
 ·
  intro w'
  go_simp
  with_reducible rfl
 rotate_left
 ·
  simp only [Act.put, sA, sB, sC, i64_w, i32_w]
  rfl
 refine pure_ (i := 15) (N := some 6) (v := ?_) (a' := ?_) (bA 16 65535) rfl rfl (any_of HT_.out (by kernel_rfl)) (fun _ _ _ h => h) (Or.inl ⟨by rfl, ?_⟩) ?_ ?_
 rotate_left
 ·
  intro w'
  go_simp
  with_reducible rfl
 rotate_left
 ·
  simp only [Act.put, sA, sB, sC, i64_w, i32_w]
  rfl
 refine done_ (done_of HT_.out (by kernel_rfl)) ?_
 have hnb120 := NB195_188.out
 have hnc120 := NB188_195.out
 have hnb121 := NB195_196.out
 have hnc121 := NB196_195.out
 have hcz122_0 : w108.cell? ⟨gb195, 0, none⟩ = some (.int .i64 0) := (bC19 BK195.out 0).trans rfl
 have hcz122_1 : w108.cell? ⟨gb195, 1, none⟩ = some (.int .i64 0) := (bC19 BK195.out 1).trans rfl
 have hcz122_2 : w108.cell? ⟨gb195, 2, none⟩ = some (.int .i64 0) := (bC19 BK195.out 2).trans rfl
 have hcz122_3 : w108.cell? ⟨gb195, 3, none⟩ = some (.slice none 0 0) := (bC19 BK195.out 3).trans rfl
 have hfz122_0 := bF19 BK195.out 0
 have hfz122_1 := bF19 BK195.out 1
 have hfz122_2 := bF19 BK195.out 2
 have hfz122_3 := bF19 BK195.out 3
 try go_wp2_with (first | ((with_reducible refine gate_callee (f := 20) rfl ?_); refine goesL_ (some 22) rfl rfl Try.func20 (by kernel_rfl) rfl #[.agg #[.int .i64 t189, .int .i64 t190, .int .i64 t191, .slice Ao112 t192.length co112]] rfl (by (try simp only [List.map_toArray, List.map_cons, List.map_nil]); first | done | rfl | (simp only [List.length_drop, List.length_take]; rfl)) ?_; (with_reducible refine (bivouacref06_Check.calls k t189 t190 t191 _ _ t192 t197 _ ?side1 ?side2 A3.out).mono ?_); (case side1 => refine (Kd.V_reads' (e := 5) (base := w.heap.size) (ok := fun k_ => (k_ ≠ gb188 ∧ (k_ ≠ gb195 ∧ k_ ≠ gb196))) (n := t192.length) (c := co112) ?_).2.2; exact (by (with_reducible repeat (first | apply Kd.V_alloc | apply Kd.V_drewN | apply Kd.V_drew)); exact (Kd.V_mono (Kd.V_mono (Kd.V_far (p := ⟨gb196, 5, none⟩) (Kd.V_far (p := ⟨gb196, 4, none⟩) (Kd.V_far (p := ⟨gb196, 3, none⟩) (Kd.V_far (p := ⟨gb196, 2, none⟩) (Kd.V_far (p := ⟨gb196, 1, none⟩) (Kd.V_far (p := ⟨gb196, 0, none⟩) (Kd.V_far (p := ⟨gb195, 3, none⟩) (Kd.V_far (p := ⟨gb195, 2, none⟩) (Kd.V_far (p := ⟨gb195, 1, none⟩) (Kd.V_far (p := ⟨gb195, 0, none⟩) (Kd.V_mono (Kd.V_mono HO194.out (fun k_ hk => (⟨hk, hk.2.1⟩ : _ ∧ k_ ≠ gb195))) (fun k_ hk => (⟨hk, hk.1.2.2⟩ : _ ∧ k_ ≠ gb196))) (fun _ hk => hk.1.2) (.int .i64 t189)) (fun _ hk => hk.1.2) (.int .i64 t190)) (fun _ hk => hk.1.2) (.int .i64 t191)) (fun _ hk => hk.1.2) (.slice Ao112 t192.length co112)) (fun _ hk => hk.2) (.int .i64 a0_4)) (fun _ hk => hk.2) (.int .i64 a0_5)) (fun _ hk => hk.2) (.int .i64 a0_6)) (fun _ hk => hk.2) (.int .i64 a0_7)) (fun _ hk => hk.2) (.int .i64 a0_8)) (fun _ hk => hk.2) (.int .i64 a0_9)) (fun _ h_ => h_.1)) (fun _ h_ => h_.1)))); (case side2 => exact (Kd.V_reads' HO194.out).2.1); rintro e w123 ⟨rfl, hb⟩; refine ⟨_, rfl, ?_⟩; have n0_ := aM19 (Kd.V_below (by (with_reducible repeat (first | apply Kd.V_alloc | apply Kd.V_drewN | apply Kd.V_drew)); exact (Kd.V_mono (Kd.V_mono (Kd.V_far (p := ⟨gb196, 5, none⟩) (Kd.V_far (p := ⟨gb196, 4, none⟩) (Kd.V_far (p := ⟨gb196, 3, none⟩) (Kd.V_far (p := ⟨gb196, 2, none⟩) (Kd.V_far (p := ⟨gb196, 1, none⟩) (Kd.V_far (p := ⟨gb196, 0, none⟩) (Kd.V_far (p := ⟨gb195, 3, none⟩) (Kd.V_far (p := ⟨gb195, 2, none⟩) (Kd.V_far (p := ⟨gb195, 1, none⟩) (Kd.V_far (p := ⟨gb195, 0, none⟩) (Kd.V_mono (Kd.V_mono HO194.out (fun k_ hk => (⟨hk, hk.2.1⟩ : _ ∧ k_ ≠ gb195))) (fun k_ hk => (⟨hk, hk.1.2.2⟩ : _ ∧ k_ ≠ gb196))) (fun _ hk => hk.1.2) (.int .i64 t189)) (fun _ hk => hk.1.2) (.int .i64 t190)) (fun _ hk => hk.1.2) (.int .i64 t191)) (fun _ hk => hk.1.2) (.slice Ao112 t192.length co112)) (fun _ hk => hk.2) (.int .i64 a0_4)) (fun _ hk => hk.2) (.int .i64 a0_5)) (fun _ hk => hk.2) (.int .i64 a0_6)) (fun _ hk => hk.2) (.int .i64 a0_7)) (fun _ hk => hk.2) (.int .i64 a0_8)) (fun _ hk => hk.2) (.int .i64 a0_9)) (fun _ h_ => h_.1)) (fun _ h_ => h_.1))) hb); have n1_ := aM19 (blk_below (g := gb188) (o := .cells #[.int .i64 a0_0, .int .i64 a0_1, .int .i64 a0_2, .slice A0_3 l0_3.length c0_3, .int .i64 a0_4, .int .i64 a0_5, .int .i64 a0_6, .int .i64 a0_7, .int .i64 a0_8, .int .i64 a0_9, .int .i64 a0_10, .int .u8 a0_11] 36 (0, 0)) (by (with_reducible repeat (first | refine bN19 ?_ _ | refine bD19 ?_ | refine bK19 ?_ _)); refine blk_far ?_ NB188_196.out _; (with_reducible repeat (first | refine bN19 ?_ _ | refine bD19 ?_ | refine bK19 ?_ _)); refine blk_far ?_ NB188_196.out _; (with_reducible repeat (first | refine bN19 ?_ _ | refine bD19 ?_ | refine bK19 ?_ _)); refine blk_far ?_ NB188_196.out _; (with_reducible repeat (first | refine bN19 ?_ _ | refine bD19 ?_ | refine bK19 ?_ _)); refine blk_far ?_ NB188_196.out _; (with_reducible repeat (first | refine bN19 ?_ _ | refine bD19 ?_ | refine bK19 ?_ _)); refine blk_far ?_ NB188_196.out _; (with_reducible repeat (first | refine bN19 ?_ _ | refine bD19 ?_ | refine bK19 ?_ _)); refine blk_far ?_ NB188_196.out _; (with_reducible repeat (first | refine bN19 ?_ _ | refine bD19 ?_ | refine bK19 ?_ _)); refine blk_far ?_ NB188_195.out _; (with_reducible repeat (first | refine bN19 ?_ _ | refine bD19 ?_ | refine bK19 ?_ _)); refine blk_far ?_ NB188_195.out _; (with_reducible repeat (first | refine bN19 ?_ _ | refine bD19 ?_ | refine bK19 ?_ _)); refine blk_far ?_ NB188_195.out _; (with_reducible repeat (first | refine bN19 ?_ _ | refine bD19 ?_ | refine bK19 ?_ _)); refine blk_far ?_ NB188_195.out _; (with_reducible repeat (first | refine bN19 ?_ _ | refine bD19 ?_ | refine bK19 ?_ _)); exact BK188.out) hb); have n2_ := aM19 (blk_below (g := gb195) (o := .cells #[.int .i64 t189, .int .i64 t190, .int .i64 t191, .slice Ao112 t192.length co112] 25 (0, 0)) (by (with_reducible repeat (first | refine bN19 ?_ _ | refine bD19 ?_ | refine bK19 ?_ _)); refine blk_far ?_ NB195_196.out _; (with_reducible repeat (first | refine bN19 ?_ _ | refine bD19 ?_ | refine bK19 ?_ _)); refine blk_far ?_ NB195_196.out _; (with_reducible repeat (first | refine bN19 ?_ _ | refine bD19 ?_ | refine bK19 ?_ _)); refine blk_far ?_ NB195_196.out _; (with_reducible repeat (first | refine bN19 ?_ _ | refine bD19 ?_ | refine bK19 ?_ _)); refine blk_far ?_ NB195_196.out _; (with_reducible repeat (first | refine bN19 ?_ _ | refine bD19 ?_ | refine bK19 ?_ _)); refine blk_far ?_ NB195_196.out _; (with_reducible repeat (first | refine bN19 ?_ _ | refine bD19 ?_ | refine bK19 ?_ _)); refine blk_far ?_ NB195_196.out _; (with_reducible repeat (first | refine bN19 ?_ _ | refine bD19 ?_ | refine bK19 ?_ _)); refine blk_put (cs := #[.int .i64 t189, .int .i64 t190, .int .i64 t191, .slice none 0 0]) ?_ 3 _ rfl; (with_reducible repeat (first | refine bN19 ?_ _ | refine bD19 ?_ | refine bK19 ?_ _)); refine blk_put (cs := #[.int .i64 t189, .int .i64 t190, .int .i64 0, .slice none 0 0]) ?_ 2 _ rfl; (with_reducible repeat (first | refine bN19 ?_ _ | refine bD19 ?_ | refine bK19 ?_ _)); refine blk_put (cs := #[.int .i64 t189, .int .i64 0, .int .i64 0, .slice none 0 0]) ?_ 1 _ rfl; (with_reducible repeat (first | refine bN19 ?_ _ | refine bD19 ?_ | refine bK19 ?_ _)); refine blk_put (cs := #[.int .i64 0, .int .i64 0, .int .i64 0, .slice none 0 0]) ?_ 0 _ rfl; (with_reducible repeat (first | refine bN19 ?_ _ | refine bD19 ?_ | refine bK19 ?_ _)); exact BK195.out) hb); have n3_ := aM19 (blk_below (g := gb196) (o := .cells #[.int .i64 a0_4, .int .i64 a0_5, .int .i64 a0_6, .int .i64 a0_7, .int .i64 a0_8, .int .i64 a0_9] 27 (0, 0)) (by (with_reducible repeat (first | refine bN19 ?_ _ | refine bD19 ?_ | refine bK19 ?_ _)); refine blk_put (cs := #[.int .i64 a0_4, .int .i64 a0_5, .int .i64 a0_6, .int .i64 a0_7, .int .i64 a0_8, .int .i64 0]) ?_ 5 _ rfl; (with_reducible repeat (first | refine bN19 ?_ _ | refine bD19 ?_ | refine bK19 ?_ _)); refine blk_put (cs := #[.int .i64 a0_4, .int .i64 a0_5, .int .i64 a0_6, .int .i64 a0_7, .int .i64 0, .int .i64 0]) ?_ 4 _ rfl; (with_reducible repeat (first | refine bN19 ?_ _ | refine bD19 ?_ | refine bK19 ?_ _)); refine blk_put (cs := #[.int .i64 a0_4, .int .i64 a0_5, .int .i64 a0_6, .int .i64 0, .int .i64 0, .int .i64 0]) ?_ 3 _ rfl; (with_reducible repeat (first | refine bN19 ?_ _ | refine bD19 ?_ | refine bK19 ?_ _)); refine blk_put (cs := #[.int .i64 a0_4, .int .i64 a0_5, .int .i64 0, .int .i64 0, .int .i64 0, .int .i64 0]) ?_ 2 _ rfl; (with_reducible repeat (first | refine bN19 ?_ _ | refine bD19 ?_ | refine bK19 ?_ _)); refine blk_put (cs := #[.int .i64 a0_4, .int .i64 0, .int .i64 0, .int .i64 0, .int .i64 0, .int .i64 0]) ?_ 1 _ rfl; (with_reducible repeat (first | refine bN19 ?_ _ | refine bD19 ?_ | refine bK19 ?_ _)); refine blk_put (cs := #[.int .i64 0, .int .i64 0, .int .i64 0, .int .i64 0, .int .i64 0, .int .i64 0]) ?_ 0 _ rfl; (with_reducible repeat (first | refine bN19 ?_ _ | refine bD19 ?_ | refine bK19 ?_ _)); refine blk_far ?_ NB196_195.out _; (with_reducible repeat (first | refine bN19 ?_ _ | refine bD19 ?_ | refine bK19 ?_ _)); refine blk_far ?_ NB196_195.out _; (with_reducible repeat (first | refine bN19 ?_ _ | refine bD19 ?_ | refine bK19 ?_ _)); refine blk_far ?_ NB196_195.out _; (with_reducible repeat (first | refine bN19 ?_ _ | refine bD19 ?_ | refine bK19 ?_ _)); refine blk_far ?_ NB196_195.out _; (with_reducible repeat (first | refine bN19 ?_ _ | refine bD19 ?_ | refine bK19 ?_ _)); exact BK196.out) hb); have n4_ := aM19 (below_step (by repeat (first | (with_reducible first | exact HB.out | apply below_alloc | apply pw_below_drewN | apply below_drew1 | refine below_set ?_ GE188.out | refine below_set ?_ GE195.out | refine below_set ?_ GE196.out) | exact HB.out)) hb); clear HO194; clear BK188; clear BK195; clear BK196; clear HB; have HO194 := n0_; have BK188 := n1_; have BK195 := n2_; have BK196 := n3_; have HB := n4_; clear n0_ n1_ n2_ n3_ n4_; (try clear hb); (try clear hb2); (try clear hk); (try clear hi); have hcz124_0 : w123.cell? ⟨gb195, 0, none⟩ = some (.int .i64 t189) := (bC19 BK195.out 0).trans rfl; have hcz124_1 : w123.cell? ⟨gb195, 1, none⟩ = some (.int .i64 t190) := (bC19 BK195.out 1).trans rfl; have hcz124_2 : w123.cell? ⟨gb195, 2, none⟩ = some (.int .i64 t191) := (bC19 BK195.out 2).trans rfl; have hcz124_3 : w123.cell? ⟨gb195, 3, none⟩ = some (.slice Ao112 t192.length co112) := (bC19 BK195.out 3).trans rfl; have hfz124_0 := bF19 BK195.out 0; have hfz124_1 := bF19 BK195.out 1; have hfz124_2 := bF19 BK195.out 2; have hfz124_3 := bF19 BK195.out 3; have hnb125 := NB196_188.out; have hnc125 := NB188_196.out; have hcz126_0 : w123.cell? ⟨gb196, 0, none⟩ = some (.int .i64 a0_4) := (bC19 BK196.out 0).trans rfl; have hcz126_1 : w123.cell? ⟨gb196, 1, none⟩ = some (.int .i64 a0_5) := (bC19 BK196.out 1).trans rfl; have hcz126_2 : w123.cell? ⟨gb196, 2, none⟩ = some (.int .i64 a0_6) := (bC19 BK196.out 2).trans rfl; have hcz126_3 : w123.cell? ⟨gb196, 3, none⟩ = some (.int .i64 a0_7) := (bC19 BK196.out 3).trans rfl; have hcz126_4 : w123.cell? ⟨gb196, 4, none⟩ = some (.int .i64 a0_8) := (bC19 BK196.out 4).trans rfl; have hcz126_5 : w123.cell? ⟨gb196, 5, none⟩ = some (.int .i64 a0_9) := (bC19 BK196.out 5).trans rfl; have hfz126_0 := bF19 BK196.out 0; have hfz126_1 := bF19 BK196.out 1; have hfz126_2 := bF19 BK196.out 2; have hfz126_3 := bF19 BK196.out 3; have hfz126_4 := bF19 BK196.out 4; have hfz126_5 := bF19 BK196.out 5) | ((with_reducible refine gate_callee (f := 17) rfl ?_); refine goesL_ (some 30) rfl rfl Try.func17 (by kernel_rfl) rfl #[.agg #[.int .i64 t189, .int .i64 t190, .int .i64 t191, .slice Ao112 t192.length co112], .agg #[.int .i64 a0_4, .int .i64 a0_5, .int .i64 a0_6, .int .i64 a0_7, .int .i64 a0_8, .int .i64 a0_9], .int .i64 ((a0_10) % 256)] rfl (by (try simp only [List.map_toArray, List.map_cons, List.map_nil]); first | done | rfl | (simp only [List.length_drop, List.length_take]; rfl)) ?_; (with_reducible refine (shot_Fly.calls k t189 t190 t191 _ _ t192 a0_4 a0_5 a0_6 a0_7 a0_8 a0_9 ((a0_10) % 256) t199 t200 t201 t202 t203 t204 t205 t206 t207 _ ?side1 ?side2 A5.out).mono ?_); (case side1 => repeat (first | exact (Kd.V_reads' HO194.out).2.2 | (with_reducible refine Kd.C_alloc ?_ _) | (with_reducible refine Kd.C_drewN ?_ _) | (with_reducible refine Kd.C_drew ?_))); (case side2 => exact (Kd.V_reads' HO194.out).2.1); rintro e w127 ⟨rfl, hb⟩; refine ⟨_, rfl, ?_⟩; have n0_ := aM19 (Kd.V_below (by (with_reducible repeat (first | apply Kd.V_alloc | apply Kd.V_drewN | apply Kd.V_drew)); exact HO194.out) hb); have n1_ := aM19 (blk_below (g := gb188) (o := .cells #[.int .i64 a0_0, .int .i64 a0_1, .int .i64 a0_2, .slice A0_3 l0_3.length c0_3, .int .i64 a0_4, .int .i64 a0_5, .int .i64 a0_6, .int .i64 a0_7, .int .i64 a0_8, .int .i64 a0_9, .int .i64 a0_10, .int .u8 a0_11] 36 (0, 0)) (by (with_reducible repeat (first | refine bN19 ?_ _ | refine bD19 ?_ | refine bK19 ?_ _)); exact BK188.out) hb); have n2_ := aM19 (blk_below (g := gb195) (o := .cells #[.int .i64 t189, .int .i64 t190, .int .i64 t191, .slice Ao112 t192.length co112] 25 (0, 0)) (by (with_reducible repeat (first | refine bN19 ?_ _ | refine bD19 ?_ | refine bK19 ?_ _)); exact BK195.out) hb); have n3_ := aM19 (blk_below (g := gb196) (o := .cells #[.int .i64 a0_4, .int .i64 a0_5, .int .i64 a0_6, .int .i64 a0_7, .int .i64 a0_8, .int .i64 a0_9] 27 (0, 0)) (by (with_reducible repeat (first | refine bN19 ?_ _ | refine bD19 ?_ | refine bK19 ?_ _)); exact BK196.out) hb); have n4_ := aM19 (below_step (by repeat (first | (with_reducible first | exact HB.out | apply below_alloc | apply pw_below_drewN | apply below_drew1 | refine below_set ?_ GE188.out | refine below_set ?_ GE195.out | refine below_set ?_ GE196.out) | exact HB.out)) hb); clear HO194; clear BK188; clear BK195; clear BK196; clear HB; have HO194 := n0_; have BK188 := n1_; have BK195 := n2_; have BK196 := n3_; have HB := n4_; clear n0_ n1_ n2_ n3_ n4_; (try clear hb); (try clear hb2); (try clear hk); (try clear hi)) | ((with_reducible refine gate_dst (N := 7) rfl ?_); refine box_event ?hg (N := 7) ?hd (cs := #[.int .i64 0, .int .i64 0, .int .i64 0, .int .i64 0, .int .i64 0, .int .i64 0, .int .i64 0, .int .i64 0]) (t := 38) ?hr ?_; (case hd => rfl); (case hg => rfl); (case hr => first | (go_simp; done) | (go_simp; rfl)); intro gb208 hg w128 hbox hb; have n0_ := aM19 (Kd.V_below (Kd.V_elderB (by (with_reducible repeat (first | apply Kd.V_alloc | apply Kd.V_drewN | apply Kd.V_drew)); exact HO194.out) gb208 (Nat.le_of_eq hg.symm)) hb); have n1_ := aM19 (blk_below (g := gb188) (o := .cells #[.int .i64 a0_0, .int .i64 a0_1, .int .i64 a0_2, .slice A0_3 l0_3.length c0_3, .int .i64 a0_4, .int .i64 a0_5, .int .i64 a0_6, .int .i64 a0_7, .int .i64 a0_8, .int .i64 a0_9, .int .i64 a0_10, .int .u8 a0_11] 36 (0, 0)) (by (with_reducible repeat (first | refine bN19 ?_ _ | refine bD19 ?_ | refine bK19 ?_ _)); exact BK188.out) hb); have n2_ := aM19 (blk_below (g := gb195) (o := .cells #[.int .i64 t189, .int .i64 t190, .int .i64 t191, .slice Ao112 t192.length co112] 25 (0, 0)) (by (with_reducible repeat (first | refine bN19 ?_ _ | refine bD19 ?_ | refine bK19 ?_ _)); exact BK195.out) hb); have n3_ := aM19 (blk_below (g := gb196) (o := .cells #[.int .i64 a0_4, .int .i64 a0_5, .int .i64 a0_6, .int .i64 a0_7, .int .i64 a0_8, .int .i64 a0_9] 27 (0, 0)) (by (with_reducible repeat (first | refine bN19 ?_ _ | refine bD19 ?_ | refine bK19 ?_ _)); exact BK196.out) hb); have n4_ := aM19 (below_step (by repeat (first | (with_reducible first | exact HB.out | apply below_alloc | apply pw_below_drewN | apply below_drew1 | refine below_set ?_ GE188.out | refine below_set ?_ GE195.out | refine below_set ?_ GE196.out) | exact HB.out)) hb); have n5_ := aM19 (hbox); have n6_ := aM19 ((by rw [hg]; exact (below_size (by repeat (first | (with_reducible first | exact HB.out | apply below_alloc | apply pw_below_drewN | apply below_drew1 | refine below_set ?_ GE188.out | refine below_set ?_ GE195.out | refine below_set ?_ GE196.out) | exact HB.out))) : w.heap.size ≤ gb208)); have n7_ := aM19 ((by rw [hg]; exact (below_size (by repeat (first | (with_reducible first | exact HB.out | apply below_alloc | apply pw_below_drewN | apply below_drew1 | refine below_set ?_ GE188.out | refine below_set ?_ GE195.out | refine below_set ?_ GE196.out) | exact HB.out))) : w.heap.size ≤ gb208)); have n8_ := aM19 ((by rw [hg]; exact Nat.ne_of_lt (blk_lt (g := gb188) (o := .cells #[.int .i64 a0_0, .int .i64 a0_1, .int .i64 a0_2, .slice A0_3 l0_3.length c0_3, .int .i64 a0_4, .int .i64 a0_5, .int .i64 a0_6, .int .i64 a0_7, .int .i64 a0_8, .int .i64 a0_9, .int .i64 a0_10, .int .u8 a0_11] 36 (0, 0)) (by (with_reducible repeat (first | refine bN19 ?_ _ | refine bD19 ?_ | refine bK19 ?_ _)); exact BK188.out)) : gb188 ≠ gb208)); have n9_ := aM19 ((by rw [hg]; exact Nat.ne_of_gt (blk_lt (g := gb188) (o := .cells #[.int .i64 a0_0, .int .i64 a0_1, .int .i64 a0_2, .slice A0_3 l0_3.length c0_3, .int .i64 a0_4, .int .i64 a0_5, .int .i64 a0_6, .int .i64 a0_7, .int .i64 a0_8, .int .i64 a0_9, .int .i64 a0_10, .int .u8 a0_11] 36 (0, 0)) (by (with_reducible repeat (first | refine bN19 ?_ _ | refine bD19 ?_ | refine bK19 ?_ _)); exact BK188.out)) : gb208 ≠ gb188)); have n10_ := aM19 ((by rw [hg]; exact Nat.ne_of_lt (blk_lt (g := gb195) (o := .cells #[.int .i64 t189, .int .i64 t190, .int .i64 t191, .slice Ao112 t192.length co112] 25 (0, 0)) (by (with_reducible repeat (first | refine bN19 ?_ _ | refine bD19 ?_ | refine bK19 ?_ _)); exact BK195.out)) : gb195 ≠ gb208)); have n11_ := aM19 ((by rw [hg]; exact Nat.ne_of_gt (blk_lt (g := gb195) (o := .cells #[.int .i64 t189, .int .i64 t190, .int .i64 t191, .slice Ao112 t192.length co112] 25 (0, 0)) (by (with_reducible repeat (first | refine bN19 ?_ _ | refine bD19 ?_ | refine bK19 ?_ _)); exact BK195.out)) : gb208 ≠ gb195)); have n12_ := aM19 ((by rw [hg]; exact Nat.ne_of_lt (blk_lt (g := gb196) (o := .cells #[.int .i64 a0_4, .int .i64 a0_5, .int .i64 a0_6, .int .i64 a0_7, .int .i64 a0_8, .int .i64 a0_9] 27 (0, 0)) (by (with_reducible repeat (first | refine bN19 ?_ _ | refine bD19 ?_ | refine bK19 ?_ _)); exact BK196.out)) : gb196 ≠ gb208)); have n13_ := aM19 ((by rw [hg]; exact Nat.ne_of_gt (blk_lt (g := gb196) (o := .cells #[.int .i64 a0_4, .int .i64 a0_5, .int .i64 a0_6, .int .i64 a0_7, .int .i64 a0_8, .int .i64 a0_9] 27 (0, 0)) (by (with_reducible repeat (first | refine bN19 ?_ _ | refine bD19 ?_ | refine bK19 ?_ _)); exact BK196.out)) : gb208 ≠ gb196)); clear HO194; clear BK188; clear BK195; clear BK196; clear HB; have HO194 := n0_; have BK188 := n1_; have BK195 := n2_; have BK196 := n3_; have HB := n4_; have BK208 := n5_; have GW208 := n6_; have GE208 := n7_; have NB188_208 := n8_; have NB208_188 := n9_; have NB195_208 := n10_; have NB208_195 := n11_; have NB196_208 := n12_; have NB208_196 := n13_; clear n0_ n1_ n2_ n3_ n4_ n5_ n6_ n7_ n8_ n9_ n10_ n11_ n12_ n13_; clear hb hbox hg; have hnb129 := NB208_188.out; have hnc129 := NB188_208.out; have hnb130 := NB208_195.out; have hnc130 := NB195_208.out; have hnb131 := NB208_196.out; have hnc131 := NB196_208.out; have hcz132_0 : w128.cell? ⟨gb208, 0, none⟩ = some (.int .i64 0) := (bC19 BK208.out 0).trans rfl; have hcz132_1 : w128.cell? ⟨gb208, 1, none⟩ = some (.int .i64 0) := (bC19 BK208.out 1).trans rfl; have hcz132_2 : w128.cell? ⟨gb208, 2, none⟩ = some (.int .i64 0) := (bC19 BK208.out 2).trans rfl; have hcz132_3 : w128.cell? ⟨gb208, 3, none⟩ = some (.int .i64 0) := (bC19 BK208.out 3).trans rfl; have hcz132_4 : w128.cell? ⟨gb208, 4, none⟩ = some (.int .i64 0) := (bC19 BK208.out 4).trans rfl; have hcz132_5 : w128.cell? ⟨gb208, 5, none⟩ = some (.int .i64 0) := (bC19 BK208.out 5).trans rfl; have hcz132_6 : w128.cell? ⟨gb208, 6, none⟩ = some (.int .i64 0) := (bC19 BK208.out 6).trans rfl; have hcz132_7 : w128.cell? ⟨gb208, 7, none⟩ = some (.int .i64 0) := (bC19 BK208.out 7).trans rfl; have hfz132_0 := bF19 BK208.out 0; have hfz132_1 := bF19 BK208.out 1; have hfz132_2 := bF19 BK208.out 2; have hfz132_3 := bF19 BK208.out 3; have hfz132_4 := bF19 BK208.out 4; have hfz132_5 := bF19 BK208.out 5; have hfz132_6 := bF19 BK208.out 6; have hfz132_7 := bF19 BK208.out 7; have hcz133_0 : w128.cell? ⟨gb195, 0, none⟩ = some (.int .i64 t189) := (bC19 BK195.out 0).trans rfl; have hcz133_1 : w128.cell? ⟨gb195, 1, none⟩ = some (.int .i64 t190) := (bC19 BK195.out 1).trans rfl; have hcz133_2 : w128.cell? ⟨gb195, 2, none⟩ = some (.int .i64 t191) := (bC19 BK195.out 2).trans rfl; have hcz133_3 : w128.cell? ⟨gb195, 3, none⟩ = some (.slice Ao112 t192.length co112) := (bC19 BK195.out 3).trans rfl; have hfz133_0 := bF19 BK195.out 0; have hfz133_1 := bF19 BK195.out 1; have hfz133_2 := bF19 BK195.out 2; have hfz133_3 := bF19 BK195.out 3; have hcz134_0 : w128.cell? ⟨gb196, 0, none⟩ = some (.int .i64 a0_4) := (bC19 BK196.out 0).trans rfl; have hcz134_1 : w128.cell? ⟨gb196, 1, none⟩ = some (.int .i64 a0_5) := (bC19 BK196.out 1).trans rfl; have hcz134_2 : w128.cell? ⟨gb196, 2, none⟩ = some (.int .i64 a0_6) := (bC19 BK196.out 2).trans rfl; have hcz134_3 : w128.cell? ⟨gb196, 3, none⟩ = some (.int .i64 a0_7) := (bC19 BK196.out 3).trans rfl; have hcz134_4 : w128.cell? ⟨gb196, 4, none⟩ = some (.int .i64 a0_8) := (bC19 BK196.out 4).trans rfl; have hcz134_5 : w128.cell? ⟨gb196, 5, none⟩ = some (.int .i64 a0_9) := (bC19 BK196.out 5).trans rfl; have hfz134_0 := bF19 BK196.out 0; have hfz134_1 := bF19 BK196.out 1; have hfz134_2 := bF19 BK196.out 2; have hfz134_3 := bF19 BK196.out 3; have hfz134_4 := bF19 BK196.out 4; have hfz134_5 := bF19 BK196.out 5) | ((with_reducible refine gate_callee (f := 17) rfl ?_); refine goesL_ (some 41) rfl rfl Try.func17 (by kernel_rfl) rfl #[.agg #[.int .i64 t189, .int .i64 t190, .int .i64 t191, .slice Ao112 t192.length co112], .agg #[.int .i64 a0_4, .int .i64 a0_5, .int .i64 a0_6, .int .i64 a0_7, .int .i64 a0_8, .int .i64 a0_9], .int .i64 (wrap64 (((a0_10) % 256) + (wrap64 (a0_11))))] rfl (by (try simp only [List.map_toArray, List.map_cons, List.map_nil]); first | done | rfl | (simp only [List.length_drop, List.length_take]; rfl)) ?_; (with_reducible refine (shot_Fly.calls k t189 t190 t191 _ _ t192 a0_4 a0_5 a0_6 a0_7 a0_8 a0_9 (wrap64 (((a0_10) % 256) + (wrap64 (a0_11)))) t209 t210 t211 t212 t213 t214 t215 t216 t217 _ ?side1 ?side2 A6.out).mono ?_); (case side1 => refine (Kd.V_reads' (e := 5) (base := w.heap.size) (ok := fun k_ => ((k_ ≠ gb188 ∧ (k_ ≠ gb195 ∧ k_ ≠ gb196)) ∧ k_ ≠ gb208)) (n := t192.length) (c := co112) ?_).2.2; exact (by (with_reducible repeat (first | apply Kd.V_alloc | apply Kd.V_drewN | apply Kd.V_drew)); exact (Kd.V_mono (Kd.V_far (p := ⟨gb208, 7, none⟩) (Kd.V_far (p := ⟨gb208, 6, none⟩) (Kd.V_far (p := ⟨gb208, 5, none⟩) (Kd.V_far (p := ⟨gb208, 4, none⟩) (Kd.V_far (p := ⟨gb208, 3, none⟩) (Kd.V_far (p := ⟨gb208, 2, none⟩) (Kd.V_far (p := ⟨gb208, 1, none⟩) (Kd.V_far (p := ⟨gb208, 0, none⟩) (Kd.V_mono HO194.out (fun k_ hk => (⟨hk, hk.2⟩ : _ ∧ k_ ≠ gb208))) (fun _ hk => hk.2) (.int .i64 t199)) (fun _ hk => hk.2) (.int .i64 t200)) (fun _ hk => hk.2) (.int .i64 t201)) (fun _ hk => hk.2) (.int .i64 t202)) (fun _ hk => hk.2) (.int .i64 t203)) (fun _ hk => hk.2) (.int .i64 t204)) (fun _ hk => hk.2) (.int .i64 t205)) (fun _ hk => hk.2) (.int .i64 t206)) (fun _ h_ => h_.1)))); (case side2 => exact (Kd.V_reads' HO194.out).2.1); rintro e w135 ⟨rfl, hb⟩; refine ⟨_, rfl, ?_⟩; have n0_ := aM19 (Kd.V_below (by (with_reducible repeat (first | apply Kd.V_alloc | apply Kd.V_drewN | apply Kd.V_drew)); exact (Kd.V_mono (Kd.V_far (p := ⟨gb208, 7, none⟩) (Kd.V_far (p := ⟨gb208, 6, none⟩) (Kd.V_far (p := ⟨gb208, 5, none⟩) (Kd.V_far (p := ⟨gb208, 4, none⟩) (Kd.V_far (p := ⟨gb208, 3, none⟩) (Kd.V_far (p := ⟨gb208, 2, none⟩) (Kd.V_far (p := ⟨gb208, 1, none⟩) (Kd.V_far (p := ⟨gb208, 0, none⟩) (Kd.V_mono HO194.out (fun k_ hk => (⟨hk, hk.2⟩ : _ ∧ k_ ≠ gb208))) (fun _ hk => hk.2) (.int .i64 t199)) (fun _ hk => hk.2) (.int .i64 t200)) (fun _ hk => hk.2) (.int .i64 t201)) (fun _ hk => hk.2) (.int .i64 t202)) (fun _ hk => hk.2) (.int .i64 t203)) (fun _ hk => hk.2) (.int .i64 t204)) (fun _ hk => hk.2) (.int .i64 t205)) (fun _ hk => hk.2) (.int .i64 t206)) (fun _ h_ => h_.1))) hb); have n1_ := aM19 (blk_below (g := gb188) (o := .cells #[.int .i64 a0_0, .int .i64 a0_1, .int .i64 a0_2, .slice A0_3 l0_3.length c0_3, .int .i64 a0_4, .int .i64 a0_5, .int .i64 a0_6, .int .i64 a0_7, .int .i64 a0_8, .int .i64 a0_9, .int .i64 a0_10, .int .u8 a0_11] 36 (0, 0)) (by (with_reducible repeat (first | refine bN19 ?_ _ | refine bD19 ?_ | refine bK19 ?_ _)); refine blk_far ?_ NB188_208.out _; (with_reducible repeat (first | refine bN19 ?_ _ | refine bD19 ?_ | refine bK19 ?_ _)); refine blk_far ?_ NB188_208.out _; (with_reducible repeat (first | refine bN19 ?_ _ | refine bD19 ?_ | refine bK19 ?_ _)); refine blk_far ?_ NB188_208.out _; (with_reducible repeat (first | refine bN19 ?_ _ | refine bD19 ?_ | refine bK19 ?_ _)); refine blk_far ?_ NB188_208.out _; (with_reducible repeat (first | refine bN19 ?_ _ | refine bD19 ?_ | refine bK19 ?_ _)); refine blk_far ?_ NB188_208.out _; (with_reducible repeat (first | refine bN19 ?_ _ | refine bD19 ?_ | refine bK19 ?_ _)); refine blk_far ?_ NB188_208.out _; (with_reducible repeat (first | refine bN19 ?_ _ | refine bD19 ?_ | refine bK19 ?_ _)); refine blk_far ?_ NB188_208.out _; (with_reducible repeat (first | refine bN19 ?_ _ | refine bD19 ?_ | refine bK19 ?_ _)); refine blk_far ?_ NB188_208.out _; (with_reducible repeat (first | refine bN19 ?_ _ | refine bD19 ?_ | refine bK19 ?_ _)); exact BK188.out) hb); have n2_ := aM19 (blk_below (g := gb195) (o := .cells #[.int .i64 t189, .int .i64 t190, .int .i64 t191, .slice Ao112 t192.length co112] 25 (0, 0)) (by (with_reducible repeat (first | refine bN19 ?_ _ | refine bD19 ?_ | refine bK19 ?_ _)); refine blk_far ?_ NB195_208.out _; (with_reducible repeat (first | refine bN19 ?_ _ | refine bD19 ?_ | refine bK19 ?_ _)); refine blk_far ?_ NB195_208.out _; (with_reducible repeat (first | refine bN19 ?_ _ | refine bD19 ?_ | refine bK19 ?_ _)); refine blk_far ?_ NB195_208.out _; (with_reducible repeat (first | refine bN19 ?_ _ | refine bD19 ?_ | refine bK19 ?_ _)); refine blk_far ?_ NB195_208.out _; (with_reducible repeat (first | refine bN19 ?_ _ | refine bD19 ?_ | refine bK19 ?_ _)); refine blk_far ?_ NB195_208.out _; (with_reducible repeat (first | refine bN19 ?_ _ | refine bD19 ?_ | refine bK19 ?_ _)); refine blk_far ?_ NB195_208.out _; (with_reducible repeat (first | refine bN19 ?_ _ | refine bD19 ?_ | refine bK19 ?_ _)); refine blk_far ?_ NB195_208.out _; (with_reducible repeat (first | refine bN19 ?_ _ | refine bD19 ?_ | refine bK19 ?_ _)); refine blk_far ?_ NB195_208.out _; (with_reducible repeat (first | refine bN19 ?_ _ | refine bD19 ?_ | refine bK19 ?_ _)); exact BK195.out) hb); have n3_ := aM19 (blk_below (g := gb196) (o := .cells #[.int .i64 a0_4, .int .i64 a0_5, .int .i64 a0_6, .int .i64 a0_7, .int .i64 a0_8, .int .i64 a0_9] 27 (0, 0)) (by (with_reducible repeat (first | refine bN19 ?_ _ | refine bD19 ?_ | refine bK19 ?_ _)); refine blk_far ?_ NB196_208.out _; (with_reducible repeat (first | refine bN19 ?_ _ | refine bD19 ?_ | refine bK19 ?_ _)); refine blk_far ?_ NB196_208.out _; (with_reducible repeat (first | refine bN19 ?_ _ | refine bD19 ?_ | refine bK19 ?_ _)); refine blk_far ?_ NB196_208.out _; (with_reducible repeat (first | refine bN19 ?_ _ | refine bD19 ?_ | refine bK19 ?_ _)); refine blk_far ?_ NB196_208.out _; (with_reducible repeat (first | refine bN19 ?_ _ | refine bD19 ?_ | refine bK19 ?_ _)); refine blk_far ?_ NB196_208.out _; (with_reducible repeat (first | refine bN19 ?_ _ | refine bD19 ?_ | refine bK19 ?_ _)); refine blk_far ?_ NB196_208.out _; (with_reducible repeat (first | refine bN19 ?_ _ | refine bD19 ?_ | refine bK19 ?_ _)); refine blk_far ?_ NB196_208.out _; (with_reducible repeat (first | refine bN19 ?_ _ | refine bD19 ?_ | refine bK19 ?_ _)); refine blk_far ?_ NB196_208.out _; (with_reducible repeat (first | refine bN19 ?_ _ | refine bD19 ?_ | refine bK19 ?_ _)); exact BK196.out) hb); have n4_ := aM19 (blk_below (g := gb208) (o := .cells #[.int .i64 t199, .int .i64 t200, .int .i64 t201, .int .i64 t202, .int .i64 t203, .int .i64 t204, .int .i64 t205, .int .i64 t206] 38 (0, 0)) (by (with_reducible repeat (first | refine bN19 ?_ _ | refine bD19 ?_ | refine bK19 ?_ _)); refine blk_put (cs := #[.int .i64 t199, .int .i64 t200, .int .i64 t201, .int .i64 t202, .int .i64 t203, .int .i64 t204, .int .i64 t205, .int .i64 0]) ?_ 7 _ rfl; (with_reducible repeat (first | refine bN19 ?_ _ | refine bD19 ?_ | refine bK19 ?_ _)); refine blk_put (cs := #[.int .i64 t199, .int .i64 t200, .int .i64 t201, .int .i64 t202, .int .i64 t203, .int .i64 t204, .int .i64 0, .int .i64 0]) ?_ 6 _ rfl; (with_reducible repeat (first | refine bN19 ?_ _ | refine bD19 ?_ | refine bK19 ?_ _)); refine blk_put (cs := #[.int .i64 t199, .int .i64 t200, .int .i64 t201, .int .i64 t202, .int .i64 t203, .int .i64 0, .int .i64 0, .int .i64 0]) ?_ 5 _ rfl; (with_reducible repeat (first | refine bN19 ?_ _ | refine bD19 ?_ | refine bK19 ?_ _)); refine blk_put (cs := #[.int .i64 t199, .int .i64 t200, .int .i64 t201, .int .i64 t202, .int .i64 0, .int .i64 0, .int .i64 0, .int .i64 0]) ?_ 4 _ rfl; (with_reducible repeat (first | refine bN19 ?_ _ | refine bD19 ?_ | refine bK19 ?_ _)); refine blk_put (cs := #[.int .i64 t199, .int .i64 t200, .int .i64 t201, .int .i64 0, .int .i64 0, .int .i64 0, .int .i64 0, .int .i64 0]) ?_ 3 _ rfl; (with_reducible repeat (first | refine bN19 ?_ _ | refine bD19 ?_ | refine bK19 ?_ _)); refine blk_put (cs := #[.int .i64 t199, .int .i64 t200, .int .i64 0, .int .i64 0, .int .i64 0, .int .i64 0, .int .i64 0, .int .i64 0]) ?_ 2 _ rfl; (with_reducible repeat (first | refine bN19 ?_ _ | refine bD19 ?_ | refine bK19 ?_ _)); refine blk_put (cs := #[.int .i64 t199, .int .i64 0, .int .i64 0, .int .i64 0, .int .i64 0, .int .i64 0, .int .i64 0, .int .i64 0]) ?_ 1 _ rfl; (with_reducible repeat (first | refine bN19 ?_ _ | refine bD19 ?_ | refine bK19 ?_ _)); refine blk_put (cs := #[.int .i64 0, .int .i64 0, .int .i64 0, .int .i64 0, .int .i64 0, .int .i64 0, .int .i64 0, .int .i64 0]) ?_ 0 _ rfl; (with_reducible repeat (first | refine bN19 ?_ _ | refine bD19 ?_ | refine bK19 ?_ _)); exact BK208.out) hb); have n5_ := aM19 (below_step (by repeat (first | (with_reducible first | exact HB.out | apply below_alloc | apply pw_below_drewN | apply below_drew1 | refine below_set ?_ GE188.out | refine below_set ?_ GE195.out | refine below_set ?_ GE196.out | refine below_set ?_ GE208.out) | exact HB.out)) hb); clear HO194; clear BK188; clear BK195; clear BK196; clear BK208; clear HB; have HO194 := n0_; have BK188 := n1_; have BK195 := n2_; have BK196 := n3_; have BK208 := n4_; have HB := n5_; clear n0_ n1_ n2_ n3_ n4_ n5_; (try clear hb); (try clear hb2); (try clear hk); (try clear hi)) | ((with_reducible refine gate_dst (N := 9) rfl ?_); refine box_event ?hg (N := 9) ?hd (cs := #[.int .i64 0, .int .i64 0, .int .i64 0, .int .i64 0, .int .i64 0, .int .i64 0, .int .i64 0, .int .i64 0]) (t := 38) ?hr ?_; (case hd => rfl); (case hg => rfl); (case hr => first | (go_simp; done) | (go_simp; rfl)); intro gb218 hg w136 hbox hb; have n0_ := aM19 (Kd.V_below (Kd.V_elderB (by (with_reducible repeat (first | apply Kd.V_alloc | apply Kd.V_drewN | apply Kd.V_drew)); exact HO194.out) gb218 (Nat.le_of_eq hg.symm)) hb); have n1_ := aM19 (blk_below (g := gb188) (o := .cells #[.int .i64 a0_0, .int .i64 a0_1, .int .i64 a0_2, .slice A0_3 l0_3.length c0_3, .int .i64 a0_4, .int .i64 a0_5, .int .i64 a0_6, .int .i64 a0_7, .int .i64 a0_8, .int .i64 a0_9, .int .i64 a0_10, .int .u8 a0_11] 36 (0, 0)) (by (with_reducible repeat (first | refine bN19 ?_ _ | refine bD19 ?_ | refine bK19 ?_ _)); exact BK188.out) hb); have n2_ := aM19 (blk_below (g := gb195) (o := .cells #[.int .i64 t189, .int .i64 t190, .int .i64 t191, .slice Ao112 t192.length co112] 25 (0, 0)) (by (with_reducible repeat (first | refine bN19 ?_ _ | refine bD19 ?_ | refine bK19 ?_ _)); exact BK195.out) hb); have n3_ := aM19 (blk_below (g := gb196) (o := .cells #[.int .i64 a0_4, .int .i64 a0_5, .int .i64 a0_6, .int .i64 a0_7, .int .i64 a0_8, .int .i64 a0_9] 27 (0, 0)) (by (with_reducible repeat (first | refine bN19 ?_ _ | refine bD19 ?_ | refine bK19 ?_ _)); exact BK196.out) hb); have n4_ := aM19 (blk_below (g := gb208) (o := .cells #[.int .i64 t199, .int .i64 t200, .int .i64 t201, .int .i64 t202, .int .i64 t203, .int .i64 t204, .int .i64 t205, .int .i64 t206] 38 (0, 0)) (by (with_reducible repeat (first | refine bN19 ?_ _ | refine bD19 ?_ | refine bK19 ?_ _)); exact BK208.out) hb); have n5_ := aM19 (below_step (by repeat (first | (with_reducible first | exact HB.out | apply below_alloc | apply pw_below_drewN | apply below_drew1 | refine below_set ?_ GE188.out | refine below_set ?_ GE195.out | refine below_set ?_ GE196.out | refine below_set ?_ GE208.out) | exact HB.out)) hb); have n6_ := aM19 (hbox); have n7_ := aM19 ((by rw [hg]; exact (below_size (by repeat (first | (with_reducible first | exact HB.out | apply below_alloc | apply pw_below_drewN | apply below_drew1 | refine below_set ?_ GE188.out | refine below_set ?_ GE195.out | refine below_set ?_ GE196.out | refine below_set ?_ GE208.out) | exact HB.out))) : w.heap.size ≤ gb218)); have n8_ := aM19 ((by rw [hg]; exact (below_size (by repeat (first | (with_reducible first | exact HB.out | apply below_alloc | apply pw_below_drewN | apply below_drew1 | refine below_set ?_ GE188.out | refine below_set ?_ GE195.out | refine below_set ?_ GE196.out | refine below_set ?_ GE208.out) | exact HB.out))) : w.heap.size ≤ gb218)); have n9_ := aM19 ((by rw [hg]; exact Nat.ne_of_lt (blk_lt (g := gb188) (o := .cells #[.int .i64 a0_0, .int .i64 a0_1, .int .i64 a0_2, .slice A0_3 l0_3.length c0_3, .int .i64 a0_4, .int .i64 a0_5, .int .i64 a0_6, .int .i64 a0_7, .int .i64 a0_8, .int .i64 a0_9, .int .i64 a0_10, .int .u8 a0_11] 36 (0, 0)) (by (with_reducible repeat (first | refine bN19 ?_ _ | refine bD19 ?_ | refine bK19 ?_ _)); exact BK188.out)) : gb188 ≠ gb218)); have n10_ := aM19 ((by rw [hg]; exact Nat.ne_of_gt (blk_lt (g := gb188) (o := .cells #[.int .i64 a0_0, .int .i64 a0_1, .int .i64 a0_2, .slice A0_3 l0_3.length c0_3, .int .i64 a0_4, .int .i64 a0_5, .int .i64 a0_6, .int .i64 a0_7, .int .i64 a0_8, .int .i64 a0_9, .int .i64 a0_10, .int .u8 a0_11] 36 (0, 0)) (by (with_reducible repeat (first | refine bN19 ?_ _ | refine bD19 ?_ | refine bK19 ?_ _)); exact BK188.out)) : gb218 ≠ gb188)); have n11_ := aM19 ((by rw [hg]; exact Nat.ne_of_lt (blk_lt (g := gb195) (o := .cells #[.int .i64 t189, .int .i64 t190, .int .i64 t191, .slice Ao112 t192.length co112] 25 (0, 0)) (by (with_reducible repeat (first | refine bN19 ?_ _ | refine bD19 ?_ | refine bK19 ?_ _)); exact BK195.out)) : gb195 ≠ gb218)); have n12_ := aM19 ((by rw [hg]; exact Nat.ne_of_gt (blk_lt (g := gb195) (o := .cells #[.int .i64 t189, .int .i64 t190, .int .i64 t191, .slice Ao112 t192.length co112] 25 (0, 0)) (by (with_reducible repeat (first | refine bN19 ?_ _ | refine bD19 ?_ | refine bK19 ?_ _)); exact BK195.out)) : gb218 ≠ gb195)); have n13_ := aM19 ((by rw [hg]; exact Nat.ne_of_lt (blk_lt (g := gb196) (o := .cells #[.int .i64 a0_4, .int .i64 a0_5, .int .i64 a0_6, .int .i64 a0_7, .int .i64 a0_8, .int .i64 a0_9] 27 (0, 0)) (by (with_reducible repeat (first | refine bN19 ?_ _ | refine bD19 ?_ | refine bK19 ?_ _)); exact BK196.out)) : gb196 ≠ gb218)); have n14_ := aM19 ((by rw [hg]; exact Nat.ne_of_gt (blk_lt (g := gb196) (o := .cells #[.int .i64 a0_4, .int .i64 a0_5, .int .i64 a0_6, .int .i64 a0_7, .int .i64 a0_8, .int .i64 a0_9] 27 (0, 0)) (by (with_reducible repeat (first | refine bN19 ?_ _ | refine bD19 ?_ | refine bK19 ?_ _)); exact BK196.out)) : gb218 ≠ gb196)); have n15_ := aM19 ((by rw [hg]; exact Nat.ne_of_lt (blk_lt (g := gb208) (o := .cells #[.int .i64 t199, .int .i64 t200, .int .i64 t201, .int .i64 t202, .int .i64 t203, .int .i64 t204, .int .i64 t205, .int .i64 t206] 38 (0, 0)) (by (with_reducible repeat (first | refine bN19 ?_ _ | refine bD19 ?_ | refine bK19 ?_ _)); exact BK208.out)) : gb208 ≠ gb218)); have n16_ := aM19 ((by rw [hg]; exact Nat.ne_of_gt (blk_lt (g := gb208) (o := .cells #[.int .i64 t199, .int .i64 t200, .int .i64 t201, .int .i64 t202, .int .i64 t203, .int .i64 t204, .int .i64 t205, .int .i64 t206] 38 (0, 0)) (by (with_reducible repeat (first | refine bN19 ?_ _ | refine bD19 ?_ | refine bK19 ?_ _)); exact BK208.out)) : gb218 ≠ gb208)); clear HO194; clear BK188; clear BK195; clear BK196; clear BK208; clear HB; have HO194 := n0_; have BK188 := n1_; have BK195 := n2_; have BK196 := n3_; have BK208 := n4_; have HB := n5_; have BK218 := n6_; have GW218 := n7_; have GE218 := n8_; have NB188_218 := n9_; have NB218_188 := n10_; have NB195_218 := n11_; have NB218_195 := n12_; have NB196_218 := n13_; have NB218_196 := n14_; have NB208_218 := n15_; have NB218_208 := n16_; clear n0_ n1_ n2_ n3_ n4_ n5_ n6_ n7_ n8_ n9_ n10_ n11_ n12_ n13_ n14_ n15_ n16_; clear hb hbox hg; have hnb137 := NB218_188.out; have hnc137 := NB188_218.out; have hnb138 := NB218_195.out; have hnc138 := NB195_218.out; have hnb139 := NB218_196.out; have hnc139 := NB196_218.out; have hnb140 := NB218_208.out; have hnc140 := NB208_218.out; have hcz141_0 : w136.cell? ⟨gb218, 0, none⟩ = some (.int .i64 0) := (bC19 BK218.out 0).trans rfl; have hcz141_1 : w136.cell? ⟨gb218, 1, none⟩ = some (.int .i64 0) := (bC19 BK218.out 1).trans rfl; have hcz141_2 : w136.cell? ⟨gb218, 2, none⟩ = some (.int .i64 0) := (bC19 BK218.out 2).trans rfl; have hcz141_3 : w136.cell? ⟨gb218, 3, none⟩ = some (.int .i64 0) := (bC19 BK218.out 3).trans rfl; have hcz141_4 : w136.cell? ⟨gb218, 4, none⟩ = some (.int .i64 0) := (bC19 BK218.out 4).trans rfl; have hcz141_5 : w136.cell? ⟨gb218, 5, none⟩ = some (.int .i64 0) := (bC19 BK218.out 5).trans rfl; have hcz141_6 : w136.cell? ⟨gb218, 6, none⟩ = some (.int .i64 0) := (bC19 BK218.out 6).trans rfl; have hcz141_7 : w136.cell? ⟨gb218, 7, none⟩ = some (.int .i64 0) := (bC19 BK218.out 7).trans rfl; have hfz141_0 := bF19 BK218.out 0; have hfz141_1 := bF19 BK218.out 1; have hfz141_2 := bF19 BK218.out 2; have hfz141_3 := bF19 BK218.out 3; have hfz141_4 := bF19 BK218.out 4; have hfz141_5 := bF19 BK218.out 5; have hfz141_6 := bF19 BK218.out 6; have hfz141_7 := bF19 BK218.out 7; have hcz142_0 : w136.cell? ⟨gb208, 0, none⟩ = some (.int .i64 t199) := (bC19 BK208.out 0).trans rfl; have hcz142_1 : w136.cell? ⟨gb208, 1, none⟩ = some (.int .i64 t200) := (bC19 BK208.out 1).trans rfl; have hcz142_2 : w136.cell? ⟨gb208, 2, none⟩ = some (.int .i64 t201) := (bC19 BK208.out 2).trans rfl; have hcz142_3 : w136.cell? ⟨gb208, 3, none⟩ = some (.int .i64 t202) := (bC19 BK208.out 3).trans rfl; have hcz142_4 : w136.cell? ⟨gb208, 4, none⟩ = some (.int .i64 t203) := (bC19 BK208.out 4).trans rfl; have hcz142_5 : w136.cell? ⟨gb208, 5, none⟩ = some (.int .i64 t204) := (bC19 BK208.out 5).trans rfl; have hcz142_6 : w136.cell? ⟨gb208, 6, none⟩ = some (.int .i64 t205) := (bC19 BK208.out 6).trans rfl; have hcz142_7 : w136.cell? ⟨gb208, 7, none⟩ = some (.int .i64 t206) := (bC19 BK208.out 7).trans rfl; have hfz142_0 := bF19 BK208.out 0; have hfz142_1 := bF19 BK208.out 1; have hfz142_2 := bF19 BK208.out 2; have hfz142_3 := bF19 BK208.out 3; have hfz142_4 := bF19 BK208.out 4; have hfz142_5 := bF19 BK208.out 5; have hfz142_6 := bF19 BK208.out 6; have hfz142_7 := bF19 BK208.out 7))
 have n0_ : Aside0 (Kd.V (Kd.int .u8) 5 ((((((((w136.setCell ⟨gb218, 0, none⟩ (.int .i64 t209)).setCell ⟨gb218, 1, none⟩ (.int .i64 t210)).setCell ⟨gb218, 2, none⟩ (.int .i64 t211)).setCell ⟨gb218, 3, none⟩ (.int .i64 t212)).setCell ⟨gb218, 4, none⟩ (.int .i64 t213)).setCell ⟨gb218, 5, none⟩ (.int .i64 t214)).setCell ⟨gb218, 6, none⟩ (.int .i64 t215)).setCell ⟨gb218, 7, none⟩ (.int .i64 t216)) w.heap.size (fun k_ => k_ ≠ gb188 ∧ k_ ≠ gb195 ∧ k_ ≠ gb196 ∧ k_ ≠ gb208 ∧ k_ ≠ gb218) (.slice Ao112 t192.length co112) t192) := ⟨by (with_reducible repeat (first | apply Kd.V_alloc | apply Kd.V_drewN | apply Kd.V_drew)); exact Kd.V_mono (Kd.V_far (p := ⟨gb218, 7, none⟩) (Kd.V_far (p := ⟨gb218, 6, none⟩) (Kd.V_far (p := ⟨gb218, 5, none⟩) (Kd.V_far (p := ⟨gb218, 4, none⟩) (Kd.V_far (p := ⟨gb218, 3, none⟩) (Kd.V_far (p := ⟨gb218, 2, none⟩) (Kd.V_far (p := ⟨gb218, 1, none⟩) (Kd.V_far (p := ⟨gb218, 0, none⟩) (Kd.V_mono HO194.out (fun k_ hk => (⟨hk, hk.2⟩ : _ ∧ k_ ≠ gb218))) (fun _ hk => hk.2) (.int .i64 t209)) (fun _ hk => hk.2) (.int .i64 t210)) (fun _ hk => hk.2) (.int .i64 t211)) (fun _ hk => hk.2) (.int .i64 t212)) (fun _ hk => hk.2) (.int .i64 t213)) (fun _ hk => hk.2) (.int .i64 t214)) (fun _ hk => hk.2) (.int .i64 t215)) (fun _ hk => hk.2) (.int .i64 t216)) (fun _ hk => ⟨hk.1.1.1.1, ⟨hk.1.1.1.2.1, ⟨hk.1.1.1.2.2, ⟨hk.1.1.2, hk.1.2⟩⟩⟩⟩)⟩
 have n1_ : Aside0 (((((((((w136.setCell ⟨gb218, 0, none⟩ (.int .i64 t209)).setCell ⟨gb218, 1, none⟩ (.int .i64 t210)).setCell ⟨gb218, 2, none⟩ (.int .i64 t211)).setCell ⟨gb218, 3, none⟩ (.int .i64 t212)).setCell ⟨gb218, 4, none⟩ (.int .i64 t213)).setCell ⟨gb218, 5, none⟩ (.int .i64 t214)).setCell ⟨gb218, 6, none⟩ (.int .i64 t215)).setCell ⟨gb218, 7, none⟩ (.int .i64 t216)).heap[gb188]? = some (.cells #[.int .i64 a0_0, .int .i64 a0_1, .int .i64 a0_2, .slice A0_3 l0_3.length c0_3, .int .i64 a0_4, .int .i64 a0_5, .int .i64 a0_6, .int .i64 a0_7, .int .i64 a0_8, .int .i64 a0_9, .int .i64 a0_10, .int .u8 a0_11] 36 (0, 0))) := ⟨by (with_reducible repeat (first | refine bN19 ?_ _ | refine bD19 ?_ | refine bK19 ?_ _)); refine blk_far ?_ NB188_218.out _; (with_reducible repeat (first | refine bN19 ?_ _ | refine bD19 ?_ | refine bK19 ?_ _)); refine blk_far ?_ NB188_218.out _; (with_reducible repeat (first | refine bN19 ?_ _ | refine bD19 ?_ | refine bK19 ?_ _)); refine blk_far ?_ NB188_218.out _; (with_reducible repeat (first | refine bN19 ?_ _ | refine bD19 ?_ | refine bK19 ?_ _)); refine blk_far ?_ NB188_218.out _; (with_reducible repeat (first | refine bN19 ?_ _ | refine bD19 ?_ | refine bK19 ?_ _)); refine blk_far ?_ NB188_218.out _; (with_reducible repeat (first | refine bN19 ?_ _ | refine bD19 ?_ | refine bK19 ?_ _)); refine blk_far ?_ NB188_218.out _; (with_reducible repeat (first | refine bN19 ?_ _ | refine bD19 ?_ | refine bK19 ?_ _)); refine blk_far ?_ NB188_218.out _; (with_reducible repeat (first | refine bN19 ?_ _ | refine bD19 ?_ | refine bK19 ?_ _)); refine blk_far ?_ NB188_218.out _; (with_reducible repeat (first | refine bN19 ?_ _ | refine bD19 ?_ | refine bK19 ?_ _)); exact BK188.out⟩
 have n2_ : Aside0 (((((((((w136.setCell ⟨gb218, 0, none⟩ (.int .i64 t209)).setCell ⟨gb218, 1, none⟩ (.int .i64 t210)).setCell ⟨gb218, 2, none⟩ (.int .i64 t211)).setCell ⟨gb218, 3, none⟩ (.int .i64 t212)).setCell ⟨gb218, 4, none⟩ (.int .i64 t213)).setCell ⟨gb218, 5, none⟩ (.int .i64 t214)).setCell ⟨gb218, 6, none⟩ (.int .i64 t215)).setCell ⟨gb218, 7, none⟩ (.int .i64 t216)).heap[gb195]? = some (.cells #[.int .i64 t189, .int .i64 t190, .int .i64 t191, .slice Ao112 t192.length co112] 25 (0, 0))) := ⟨by (with_reducible repeat (first | refine bN19 ?_ _ | refine bD19 ?_ | refine bK19 ?_ _)); refine blk_far ?_ NB195_218.out _; (with_reducible repeat (first | refine bN19 ?_ _ | refine bD19 ?_ | refine bK19 ?_ _)); refine blk_far ?_ NB195_218.out _; (with_reducible repeat (first | refine bN19 ?_ _ | refine bD19 ?_ | refine bK19 ?_ _)); refine blk_far ?_ NB195_218.out _; (with_reducible repeat (first | refine bN19 ?_ _ | refine bD19 ?_ | refine bK19 ?_ _)); refine blk_far ?_ NB195_218.out _; (with_reducible repeat (first | refine bN19 ?_ _ | refine bD19 ?_ | refine bK19 ?_ _)); refine blk_far ?_ NB195_218.out _; (with_reducible repeat (first | refine bN19 ?_ _ | refine bD19 ?_ | refine bK19 ?_ _)); refine blk_far ?_ NB195_218.out _; (with_reducible repeat (first | refine bN19 ?_ _ | refine bD19 ?_ | refine bK19 ?_ _)); refine blk_far ?_ NB195_218.out _; (with_reducible repeat (first | refine bN19 ?_ _ | refine bD19 ?_ | refine bK19 ?_ _)); refine blk_far ?_ NB195_218.out _; (with_reducible repeat (first | refine bN19 ?_ _ | refine bD19 ?_ | refine bK19 ?_ _)); exact BK195.out⟩
 have n3_ : Aside0 (((((((((w136.setCell ⟨gb218, 0, none⟩ (.int .i64 t209)).setCell ⟨gb218, 1, none⟩ (.int .i64 t210)).setCell ⟨gb218, 2, none⟩ (.int .i64 t211)).setCell ⟨gb218, 3, none⟩ (.int .i64 t212)).setCell ⟨gb218, 4, none⟩ (.int .i64 t213)).setCell ⟨gb218, 5, none⟩ (.int .i64 t214)).setCell ⟨gb218, 6, none⟩ (.int .i64 t215)).setCell ⟨gb218, 7, none⟩ (.int .i64 t216)).heap[gb196]? = some (.cells #[.int .i64 a0_4, .int .i64 a0_5, .int .i64 a0_6, .int .i64 a0_7, .int .i64 a0_8, .int .i64 a0_9] 27 (0, 0))) := ⟨by (with_reducible repeat (first | refine bN19 ?_ _ | refine bD19 ?_ | refine bK19 ?_ _)); refine blk_far ?_ NB196_218.out _; (with_reducible repeat (first | refine bN19 ?_ _ | refine bD19 ?_ | refine bK19 ?_ _)); refine blk_far ?_ NB196_218.out _; (with_reducible repeat (first | refine bN19 ?_ _ | refine bD19 ?_ | refine bK19 ?_ _)); refine blk_far ?_ NB196_218.out _; (with_reducible repeat (first | refine bN19 ?_ _ | refine bD19 ?_ | refine bK19 ?_ _)); refine blk_far ?_ NB196_218.out _; (with_reducible repeat (first | refine bN19 ?_ _ | refine bD19 ?_ | refine bK19 ?_ _)); refine blk_far ?_ NB196_218.out _; (with_reducible repeat (first | refine bN19 ?_ _ | refine bD19 ?_ | refine bK19 ?_ _)); refine blk_far ?_ NB196_218.out _; (with_reducible repeat (first | refine bN19 ?_ _ | refine bD19 ?_ | refine bK19 ?_ _)); refine blk_far ?_ NB196_218.out _; (with_reducible repeat (first | refine bN19 ?_ _ | refine bD19 ?_ | refine bK19 ?_ _)); refine blk_far ?_ NB196_218.out _; (with_reducible repeat (first | refine bN19 ?_ _ | refine bD19 ?_ | refine bK19 ?_ _)); exact BK196.out⟩
 have n4_ : Aside0 (((((((((w136.setCell ⟨gb218, 0, none⟩ (.int .i64 t209)).setCell ⟨gb218, 1, none⟩ (.int .i64 t210)).setCell ⟨gb218, 2, none⟩ (.int .i64 t211)).setCell ⟨gb218, 3, none⟩ (.int .i64 t212)).setCell ⟨gb218, 4, none⟩ (.int .i64 t213)).setCell ⟨gb218, 5, none⟩ (.int .i64 t214)).setCell ⟨gb218, 6, none⟩ (.int .i64 t215)).setCell ⟨gb218, 7, none⟩ (.int .i64 t216)).heap[gb208]? = some (.cells #[.int .i64 t199, .int .i64 t200, .int .i64 t201, .int .i64 t202, .int .i64 t203, .int .i64 t204, .int .i64 t205, .int .i64 t206] 38 (0, 0))) := ⟨by (with_reducible repeat (first | refine bN19 ?_ _ | refine bD19 ?_ | refine bK19 ?_ _)); refine blk_far ?_ NB208_218.out _; (with_reducible repeat (first | refine bN19 ?_ _ | refine bD19 ?_ | refine bK19 ?_ _)); refine blk_far ?_ NB208_218.out _; (with_reducible repeat (first | refine bN19 ?_ _ | refine bD19 ?_ | refine bK19 ?_ _)); refine blk_far ?_ NB208_218.out _; (with_reducible repeat (first | refine bN19 ?_ _ | refine bD19 ?_ | refine bK19 ?_ _)); refine blk_far ?_ NB208_218.out _; (with_reducible repeat (first | refine bN19 ?_ _ | refine bD19 ?_ | refine bK19 ?_ _)); refine blk_far ?_ NB208_218.out _; (with_reducible repeat (first | refine bN19 ?_ _ | refine bD19 ?_ | refine bK19 ?_ _)); refine blk_far ?_ NB208_218.out _; (with_reducible repeat (first | refine bN19 ?_ _ | refine bD19 ?_ | refine bK19 ?_ _)); refine blk_far ?_ NB208_218.out _; (with_reducible repeat (first | refine bN19 ?_ _ | refine bD19 ?_ | refine bK19 ?_ _)); refine blk_far ?_ NB208_218.out _; (with_reducible repeat (first | refine bN19 ?_ _ | refine bD19 ?_ | refine bK19 ?_ _)); exact BK208.out⟩
 have n5_ : Aside0 (((((((((w136.setCell ⟨gb218, 0, none⟩ (.int .i64 t209)).setCell ⟨gb218, 1, none⟩ (.int .i64 t210)).setCell ⟨gb218, 2, none⟩ (.int .i64 t211)).setCell ⟨gb218, 3, none⟩ (.int .i64 t212)).setCell ⟨gb218, 4, none⟩ (.int .i64 t213)).setCell ⟨gb218, 5, none⟩ (.int .i64 t214)).setCell ⟨gb218, 6, none⟩ (.int .i64 t215)).setCell ⟨gb218, 7, none⟩ (.int .i64 t216)).heap[gb218]? = some (.cells #[.int .i64 t209, .int .i64 t210, .int .i64 t211, .int .i64 t212, .int .i64 t213, .int .i64 t214, .int .i64 t215, .int .i64 t216] 38 (0, 0))) := ⟨by (with_reducible repeat (first | refine bN19 ?_ _ | refine bD19 ?_ | refine bK19 ?_ _)); refine blk_put (cs := #[.int .i64 t209, .int .i64 t210, .int .i64 t211, .int .i64 t212, .int .i64 t213, .int .i64 t214, .int .i64 t215, .int .i64 0]) ?_ 7 _ rfl; (with_reducible repeat (first | refine bN19 ?_ _ | refine bD19 ?_ | refine bK19 ?_ _)); refine blk_put (cs := #[.int .i64 t209, .int .i64 t210, .int .i64 t211, .int .i64 t212, .int .i64 t213, .int .i64 t214, .int .i64 0, .int .i64 0]) ?_ 6 _ rfl; (with_reducible repeat (first | refine bN19 ?_ _ | refine bD19 ?_ | refine bK19 ?_ _)); refine blk_put (cs := #[.int .i64 t209, .int .i64 t210, .int .i64 t211, .int .i64 t212, .int .i64 t213, .int .i64 0, .int .i64 0, .int .i64 0]) ?_ 5 _ rfl; (with_reducible repeat (first | refine bN19 ?_ _ | refine bD19 ?_ | refine bK19 ?_ _)); refine blk_put (cs := #[.int .i64 t209, .int .i64 t210, .int .i64 t211, .int .i64 t212, .int .i64 0, .int .i64 0, .int .i64 0, .int .i64 0]) ?_ 4 _ rfl; (with_reducible repeat (first | refine bN19 ?_ _ | refine bD19 ?_ | refine bK19 ?_ _)); refine blk_put (cs := #[.int .i64 t209, .int .i64 t210, .int .i64 t211, .int .i64 0, .int .i64 0, .int .i64 0, .int .i64 0, .int .i64 0]) ?_ 3 _ rfl; (with_reducible repeat (first | refine bN19 ?_ _ | refine bD19 ?_ | refine bK19 ?_ _)); refine blk_put (cs := #[.int .i64 t209, .int .i64 t210, .int .i64 0, .int .i64 0, .int .i64 0, .int .i64 0, .int .i64 0, .int .i64 0]) ?_ 2 _ rfl; (with_reducible repeat (first | refine bN19 ?_ _ | refine bD19 ?_ | refine bK19 ?_ _)); refine blk_put (cs := #[.int .i64 t209, .int .i64 0, .int .i64 0, .int .i64 0, .int .i64 0, .int .i64 0, .int .i64 0, .int .i64 0]) ?_ 1 _ rfl; (with_reducible repeat (first | refine bN19 ?_ _ | refine bD19 ?_ | refine bK19 ?_ _)); refine blk_put (cs := #[.int .i64 0, .int .i64 0, .int .i64 0, .int .i64 0, .int .i64 0, .int .i64 0, .int .i64 0, .int .i64 0]) ?_ 0 _ rfl; (with_reducible repeat (first | refine bN19 ?_ _ | refine bD19 ?_ | refine bK19 ?_ _)); exact BK218.out⟩
 have n6_ : Aside0 (Below w.heap.size w ((((((((w136.setCell ⟨gb218, 0, none⟩ (.int .i64 t209)).setCell ⟨gb218, 1, none⟩ (.int .i64 t210)).setCell ⟨gb218, 2, none⟩ (.int .i64 t211)).setCell ⟨gb218, 3, none⟩ (.int .i64 t212)).setCell ⟨gb218, 4, none⟩ (.int .i64 t213)).setCell ⟨gb218, 5, none⟩ (.int .i64 t214)).setCell ⟨gb218, 6, none⟩ (.int .i64 t215)).setCell ⟨gb218, 7, none⟩ (.int .i64 t216))) := ⟨by repeat (first | (with_reducible first | exact HB.out | apply below_alloc | apply pw_below_drewN | apply below_drew1 | refine below_set ?_ GE188.out | refine below_set ?_ GE195.out | refine below_set ?_ GE196.out | refine below_set ?_ GE208.out | refine below_set ?_ GE218.out) | exact HB.out)⟩
 (try clear HO194)
 (try clear BK188)
 (try clear BK195)
 (try clear BK196)
 (try clear BK208)
 (try clear BK218)
 (try clear HB)
 generalize ((((((((w136.setCell ⟨gb218, 0, none⟩ (.int .i64 t209)).setCell ⟨gb218, 1, none⟩ (.int .i64 t210)).setCell ⟨gb218, 2, none⟩ (.int .i64 t211)).setCell ⟨gb218, 3, none⟩ (.int .i64 t212)).setCell ⟨gb218, 4, none⟩ (.int .i64 t213)).setCell ⟨gb218, 5, none⟩ (.int .i64 t214)).setCell ⟨gb218, 6, none⟩ (.int .i64 t215)).setCell ⟨gb218, 7, none⟩ (.int .i64 t216)) = w143 at n0_ n1_ n2_ n3_ n4_ n5_ n6_ ⊢
 have HO194 := n0_
 have BK188 := n1_
 have BK195 := n2_
 have BK196 := n3_
 have BK208 := n4_
 have BK218 := n5_
 have HB := n6_
 clear n0_ n1_ n2_ n3_ n4_ n5_ n6_
 have n0_ := aM19 (Kd.V_drew HO194.out)
 have n1_ := aM19 (bD19 BK188.out)
 have n2_ := aM19 (bD19 BK195.out)
 have n3_ := aM19 (bD19 BK196.out)
 have n4_ := aM19 (bD19 BK208.out)
 have n5_ := aM19 (bD19 BK218.out)
 have n6_ := aM19 (below_drew1 HB.out)
 clear HO194
 clear BK188
 clear BK195
 clear BK196
 clear BK208
 clear BK218
 clear HB
 have HO194 := n0_
 have BK188 := n1_
 have BK195 := n2_
 have BK196 := n3_
 have BK208 := n4_
 have BK218 := n5_
 have HB := n6_
 clear n0_ n1_ n2_ n3_ n4_ n5_ n6_
 have w8_ : wrap64 (a0_10 % 256) = a0_10 % 256 := by unfold wrap64; omega
 refine start_ (n := 38) (S := fun w' => w'.cell? ⟨gb218, 0, none⟩ = some (.int .i64 t209) ∧ w'.cell? ⟨gb218, 1, none⟩ = some (.int .i64 t210) ∧ w'.cell? ⟨gb218, 2, none⟩ = some (.int .i64 t211) ∧ w'.cell? ⟨gb218, 3, none⟩ = some (.int .i64 t212) ∧ w'.cell? ⟨gb218, 4, none⟩ = some (.int .i64 t213) ∧ w'.cell? ⟨gb218, 5, none⟩ = some (.int .i64 t214) ∧ w'.cell? ⟨gb218, 6, none⟩ = some (.int .i64 t215) ∧ w'.cell? ⟨gb218, 7, none⟩ = some (.int .i64 t216) ∧ w'.cell? ⟨gb208, 0, none⟩ = some (.int .i64 t199) ∧ w'.cell? ⟨gb208, 1, none⟩ = some (.int .i64 t200) ∧ w'.cell? ⟨gb208, 2, none⟩ = some (.int .i64 t201) ∧ w'.cell? ⟨gb208, 3, none⟩ = some (.int .i64 t202) ∧ w'.cell? ⟨gb208, 4, none⟩ = some (.int .i64 t203) ∧ w'.cell? ⟨gb208, 5, none⟩ = some (.int .i64 t204) ∧ w'.cell? ⟨gb208, 6, none⟩ = some (.int .i64 t205) ∧ w'.cell? ⟨gb208, 7, none⟩ = some (.int .i64 t206) ∧ w'.cell? ⟨gb195, 0, none⟩ = some (.int .i64 t189) ∧ w'.cell? ⟨gb195, 1, none⟩ = some (.int .i64 t190) ∧ w'.cell? ⟨gb195, 2, none⟩ = some (.int .i64 t191) ∧ w'.cell? ⟨gb195, 3, none⟩ = some (.slice Ao112 t192.length co112)) (ds := []) (bA 38 0) (by kernel_rfl) rfl rfl ⟨(bC19 BK218.out 0).trans rfl, (bC19 BK218.out 1).trans rfl, (bC19 BK218.out 2).trans rfl, (bC19 BK218.out 3).trans rfl, (bC19 BK218.out 4).trans rfl, (bC19 BK218.out 5).trans rfl, (bC19 BK218.out 6).trans rfl, (bC19 BK218.out 7).trans rfl, (bC19 BK208.out 0).trans rfl, (bC19 BK208.out 1).trans rfl, (bC19 BK208.out 2).trans rfl, (bC19 BK208.out 3).trans rfl, (bC19 BK208.out 4).trans rfl, (bC19 BK208.out 5).trans rfl, (bC19 BK208.out 6).trans rfl, (bC19 BK208.out 7).trans rfl, (bC19 BK195.out 0).trans rfl, (bC19 BK195.out 1).trans rfl, (bC19 BK195.out 2).trans rfl, (bC19 BK195.out 3).trans rfl⟩ (fun hHeld => ?_); refine with_tabW bivouaclaw16_ShotAbove.tab9 bivouaclaw16_ShotAbove.bits9 (fun HT_ HW_ => ?_)
 generalize w143.drew = w144 at HO194 BK188 BK195 BK196 BK208 BK218 HB hHeld ⊢
 refine pure_ (i := 0) (N := some 55) (v := ?_) (a' := ?_) (bA 38 1) rfl rfl (any_of HT_.out (by kernel_rfl)) (fun _ _ _ h => h) (Or.inl ⟨by rfl, ?_⟩) ?_ ?_
 rotate_left
 ·
  intro w'
  go_simp
  with_reducible rfl
 rotate_left
 ·
  simp only [Act.put, sA, sB, sC, i64_w, i32_w]
  rfl
 refine pure_ (i := 1) (N := some 56) (v := ?_) (a' := ?_) (bA 38 3) rfl rfl (any_of HT_.out (by kernel_rfl)) (fun _ _ _ h => h) (Or.inl ⟨by rfl, ?_⟩) ?_ ?_
 rotate_left
 ·
  intro w'
  go_simp
  with_reducible rfl
 rotate_left
 ·
  simp only [Act.put, sA, sB, sC, i64_w, i32_w]
  rfl
 refine pure_ (i := 2) (N := some 57) (v := ?_) (a' := ?_) (bA 38 7) rfl rfl (any_of HT_.out (by kernel_rfl)) (fun _ _ _ h => h) (Or.inl ⟨by rfl, ?_⟩) ?_ ?_
 rotate_left
 ·
  intro w'
  go_simp
  with_reducible rfl
 rotate_left
 ·
  simp only [Act.put, sA, sB, sC, i64_w, i32_w]
  rfl
 refine take_ (i := 3) (N := some 58) (v := ?_) (a' := ?_) (bA 38 15) rfl rfl (take_ofW HT_.out HW_.out (by kernel_rfl)) (fun _ _ _ h => h) (Or.inl ⟨by rfl, ?_⟩) hHeld ?_ ?_
 rotate_left
 ·
  rintro w' ⟨s0, s1, s2, s3, s4, s5, s6, s7, s8, s9, s10, s11, s12, s13, s14, s15, s16, s17, s18, s19⟩
  go_simp
  with_reducible rfl
 rotate_left
 ·
  simp only [Act.put, sA, sB, sC, i64_w, i32_w]
  rfl
 refine take_ (i := 4) (N := some 59) (v := ?_) (a' := ?_) (bA 38 31) rfl rfl (take_ofW HT_.out HW_.out (by kernel_rfl)) (fun _ _ _ h => h) (Or.inl ⟨by rfl, ?_⟩) hHeld ?_ ?_
 rotate_left
 ·
  rintro w' ⟨s0, s1, s2, s3, s4, s5, s6, s7, s8, s9, s10, s11, s12, s13, s14, s15, s16, s17, s18, s19⟩
  go_simp
  with_reducible rfl
 rotate_left
 ·
  simp only [Act.put, sA, sB, sC, i64_w, i32_w]
  rfl
 refine pure_ (i := 5) (N := some 60) (v := ?_) (a' := ?_) (bA 38 63) rfl rfl (any_of HT_.out (by kernel_rfl)) (fun _ _ _ h => h) (Or.inl ⟨by rfl, ?_⟩) ?_ ?_
 rotate_left
 ·
  intro w'
  go_simp
  with_reducible rfl
 rotate_left
 ·
  simp only [Act.put, sA, sB, sC, i64_w, i32_w]
  rfl
 refine pure_ (i := 6) (N := some 61) (v := ?_) (a' := ?_) (bA 38 127) rfl rfl (any_of HT_.out (by kernel_rfl)) (fun _ _ _ h => h) (Or.inl ⟨by rfl, ?_⟩) ?_ ?_
 rotate_left
 ·
  intro w'
  go_simp
  with_reducible rfl
 rotate_left
 ·
  simp only [Act.put, sA, sB, sC, i64_w, i32_w]
  rfl
 refine pure_ (i := 7) (N := some 62) (v := ?_) (a' := ?_) (bA 38 255) rfl rfl (any_of HT_.out (by kernel_rfl)) (fun _ _ _ h => h) (Or.inl ⟨by rfl, ?_⟩) ?_ ?_
 rotate_left
 ·
  intro w'
  go_simp
  with_reducible rfl
 rotate_left
 ·
  simp only [Act.put, sA, sB, sC, i64_w, i32_w]
  rfl
 refine pure_ (i := 8) (N := some 63) (v := ?_) (a' := ?_) (bA 38 511) rfl rfl (any_of HT_.out (by kernel_rfl)) (fun _ _ _ h => h) (Or.inl ⟨by rfl, ?_⟩) ?_ ?_
 rotate_left
 ·
  intro w'
  go_simp
  with_reducible rfl
 rotate_left
 ·
  simp only [Act.put, sA, sB, sC, i64_w, i32_w]
  rfl
 refine take_ (i := 9) (N := some 64) (v := ?_) (a' := ?_) (bA 38 1023) rfl rfl (take_ofW HT_.out HW_.out (by kernel_rfl)) (fun _ _ _ h => h) (Or.inl ⟨by rfl, ?_⟩) hHeld ?_ ?_
 rotate_left
 ·
  rintro w' ⟨s0, s1, s2, s3, s4, s5, s6, s7, s8, s9, s10, s11, s12, s13, s14, s15, s16, s17, s18, s19⟩
  go_simp
  with_reducible rfl
 rotate_left
 ·
  simp only [Act.put, sA, sB, sC, i64_w, i32_w]
  rfl
 refine pure_ (i := 10) (N := some 65) (v := ?_) (a' := ?_) (bA 38 2047) rfl rfl (any_of HT_.out (by kernel_rfl)) (fun _ _ _ h => h) (Or.inl ⟨by rfl, ?_⟩) ?_ ?_
 rotate_left
 ·
  intro w'
  go_simp
  with_reducible rfl
 rotate_left
 ·
  simp only [Act.put, sA, sB, sC, i64_w, i32_w]
  rfl
 refine pure_ (i := 11) (N := some 66) (v := ?_) (a' := ?_) (bA 38 4095) rfl rfl (any_of HT_.out (by kernel_rfl)) (fun _ _ _ h => h) (Or.inl ⟨by rfl, ?_⟩) ?_ ?_
 rotate_left
 ·
  intro w'
  go_simp
  with_reducible rfl
 rotate_left
 ·
  simp only [Act.put, sA, sB, sC, i64_w, i32_w]
  rfl
 refine pure_ (i := 12) (N := some 67) (v := ?_) (a' := ?_) (bA 38 8191) rfl rfl (any_of HT_.out (by kernel_rfl)) (fun _ _ _ h => h) (Or.inl ⟨by rfl, ?_⟩) ?_ ?_
 rotate_left
 ·
  intro w'
  go_simp
  with_reducible rfl
 rotate_left
 ·
  simp only [Act.put, sA, sB, sC, i64_w, i32_w]
  rfl
 refine pure_ (i := 13) (N := some 68) (v := ?_) (a' := ?_) (bA 38 16383) rfl rfl (any_of HT_.out (by kernel_rfl)) (fun _ _ _ h => h) (Or.inl ⟨by rfl, ?_⟩) ?_ ?_
 rotate_left
 ·
  intro w'
  go_simp
  with_reducible rfl
 rotate_left
 ·
  simp only [Act.put, sA, sB, sC, i64_w, i32_w]
  rfl
 refine pure_ (i := 15) (N := some 70) (v := ?_) (a' := ?_) (bA 38 49151) rfl rfl (any_of HT_.out (by kernel_rfl)) (fun _ _ _ h => h) (Or.inl ⟨by rfl, ?_⟩) ?_ ?_
 rotate_left
 ·
  intro w'
  go_simp
  with_reducible rfl
 rotate_left
 ·
  simp only [Act.put, sA, sB, sC, i64_w, i32_w]
  rfl
 refine pure_ (i := 16) (N := some 71) (v := ?_) (a' := ?_) (bA 38 114687) rfl rfl (any_of HT_.out (by kernel_rfl)) (fun _ _ _ h => h) (Or.inl ⟨by rfl, ?_⟩) ?_ ?_
 rotate_left
 ·
  intro w'
  go_simp
  with_reducible rfl
 rotate_left
 ·
  simp only [Act.put, sA, sB, sC, i64_w, i32_w]
  rfl
 refine take_ (i := 14) (N := some 69) (v := ?_) (a' := ?_) (bA 38 131071) rfl rfl (take_ofW HT_.out HW_.out (by kernel_rfl)) (fun _ _ _ h => h) (Or.inl ⟨by rfl, ?_⟩) hHeld ?_ ?_
 rotate_left
 ·
  rintro w' ⟨s0, s1, s2, s3, s4, s5, s6, s7, s8, s9, s10, s11, s12, s13, s14, s15, s16, s17, s18, s19⟩
  go_simp
  with_reducible rfl
 rotate_left
 ·
  simp only [Act.put, sA, sB, sC, i64_w, i32_w]
  rfl
 refine pure_ (i := 17) (N := some 72) (v := ?_) (a' := ?_) (bA 38 262143) rfl rfl (any_of HT_.out (by kernel_rfl)) (fun _ _ _ h => h) (Or.inl ⟨by rfl, ?_⟩) ?_ ?_
 rotate_left
 ·
  intro w'
  go_simp
  with_reducible rfl
 rotate_left
 ·
  simp only [Act.put, sA, sB, sC, i64_w, i32_w]
  rfl
 refine pure_ (i := 18) (N := some 73) (v := ?_) (a' := ?_) (bA 38 524287) rfl rfl (any_of HT_.out (by kernel_rfl)) (fun _ _ _ h => h) (Or.inl ⟨by rfl, ?_⟩) ?_ ?_
 rotate_left
 ·
  intro w'
  go_simp
  with_reducible rfl
 rotate_left
 ·
  simp only [Act.put, sA, sB, sC, i64_w, i32_w]
  rfl
 refine pure_ (i := 19) (N := some 74) (v := ?_) (a' := ?_) (bA 38 1048575) rfl rfl (any_of HT_.out (by kernel_rfl)) (fun _ _ _ h => h) (Or.inl ⟨by rfl, ?_⟩) ?_ ?_
 rotate_left
 ·
  intro w'
  go_simp
  with_reducible rfl
 rotate_left
 ·
  simp only [Act.put, sA, sB, sC, i64_w, i32_w]
  rfl
 refine pure_ (i := 20) (N := some 75) (v := ?_) (a' := ?_) (bA 38 2097151) rfl rfl (any_of HT_.out (by kernel_rfl)) (fun _ _ _ h => h) (Or.inl ⟨by rfl, ?_⟩) ?_ ?_
 rotate_left
 ·
  intro w'
  go_simp
  with_reducible rfl
 rotate_left
 ·
  simp only [Act.put, sA, sB, sC, i64_w, i32_w]
  rfl
 refine pure_ (i := 24) (N := some 79) (v := ?_) (a' := ?_) (bA 38 18874367) rfl rfl (any_of HT_.out (by kernel_rfl)) (fun _ _ _ h => h) (Or.inl ⟨by rfl, ?_⟩) ?_ ?_
 rotate_left
 ·
  intro w'
  go_simp
  with_reducible rfl
 rotate_left
 ·
  simp only [Act.put, sA, sB, sC, i64_w, i32_w]
  rfl
 refine pure_ (i := 25) (N := some 80) (v := ?_) (a' := ?_) (bA 38 52428799) rfl rfl (any_of HT_.out (by kernel_rfl)) (fun _ _ _ h => h) (Or.inl ⟨by rfl, ?_⟩) ?_ ?_
 rotate_left
 ·
  intro w'
  go_simp
  with_reducible rfl
 rotate_left
 ·
  simp only [Act.put, sA, sB, sC, i64_w, i32_w]
  rfl
 refine pure_ (i := 27) (N := some 82) (v := ?_) (a' := ?_) (bA 38 186646527) rfl rfl (any_of HT_.out (by kernel_rfl)) (fun _ _ _ h => h) (Or.inl ⟨by rfl, ?_⟩) ?_ ?_
 rotate_left
 ·
  intro w'
  go_simp
  with_reducible rfl
 rotate_left
 ·
  simp only [Act.put, sA, sB, sC, i64_w, i32_w]
  rfl
 refine pure_ (i := 28) (N := some 83) (v := ?_) (a' := ?_) (bA 38 455081983) rfl rfl (any_of HT_.out (by kernel_rfl)) (fun _ _ _ h => h) (Or.inl ⟨by rfl, ?_⟩) ?_ ?_
 rotate_left
 ·
  intro w'
  go_simp
  with_reducible rfl
 rotate_left
 ·
  simp only [Act.put, sA, sB, sC, i64_w, i32_w]
  rfl
 refine take_ (i := 21) (N := some 76) (v := ?_) (a' := ?_) (bA 38 457179135) rfl rfl (take_ofW HT_.out HW_.out (by kernel_rfl)) (fun _ _ _ h => h) (Or.inl ⟨by rfl, ?_⟩) hHeld ?_ ?_
 rotate_left
 ·
  rintro w' ⟨s0, s1, s2, s3, s4, s5, s6, s7, s8, s9, s10, s11, s12, s13, s14, s15, s16, s17, s18, s19⟩
  go_simp
  with_reducible rfl
 rotate_left
 ·
  simp only [Act.put, sA, sB, sC, i64_w, i32_w]
  rfl
 refine pure_ (i := 22) (N := some 77) (v := ?_) (a' := ?_) (bA 38 461373439) rfl rfl (any_of HT_.out (by kernel_rfl)) (fun _ _ _ h => h) (Or.inl ⟨by rfl, ?_⟩) ?_ ?_
 rotate_left
 ·
  intro w'
  go_simp
  with_reducible rfl
 rotate_left
 ·
  simp only [Act.put, sA, sB, sC, i64_w, i32_w]
  rfl
 refine take_ (i := 23) (N := some 78) (v := ?_) (a' := ?_) (bA 38 469762047) rfl rfl (take_ofW HT_.out HW_.out (by kernel_rfl)) (fun _ _ _ h => h) (Or.inl ⟨by rfl, ?_⟩) hHeld ?_ ?_
 rotate_left
 ·
  rintro w' ⟨s0, s1, s2, s3, s4, s5, s6, s7, s8, s9, s10, s11, s12, s13, s14, s15, s16, s17, s18, s19⟩
  go_simp
  with_reducible rfl
 rotate_left
 ·
  simp only [Act.put, sA, sB, sC, i64_w, i32_w]
  rfl
 refine take_ (i := 26) (N := some 81) (v := ?_) (a' := ?_) (bA 38 536870911) rfl rfl (take_ofW HT_.out HW_.out (by kernel_rfl)) (fun _ _ _ h => h) (Or.inl ⟨by rfl, ?_⟩) hHeld ?_ ?_
 rotate_left
 ·
  rintro w' ⟨s0, s1, s2, s3, s4, s5, s6, s7, s8, s9, s10, s11, s12, s13, s14, s15, s16, s17, s18, s19⟩
  go_simp
  with_reducible rfl
 rotate_left
 ·
  simp only [Act.put, sA, sB, sC, i64_w, i32_w]
  rfl
 refine take_ (i := 29) (N := some 84) (v := ?_) (a' := ?_) (bA 38 1073741823) rfl rfl (take_ofW HT_.out HW_.out (by kernel_rfl)) (fun _ _ _ h => h) (Or.inl ⟨by rfl, ?_⟩) hHeld ?_ ?_
 rotate_left
 ·
  rintro w' ⟨s0, s1, s2, s3, s4, s5, s6, s7, s8, s9, s10, s11, s12, s13, s14, s15, s16, s17, s18, s19⟩
  go_simp
  with_reducible rfl
 rotate_left
 ·
  simp only [Act.put, sA, sB, sC, i64_w, i32_w]
  rfl
 refine one_ (i := 30) (N := some 85) (bA 38 2147483647) rfl rfl (one_of HT_.out (by kernel_rfl)) (by decide) (fun K hK => ?_)
 refine goes_ Try.func22 (by kernel_rfl) rfl #[.agg #[.int .i64 t189, .int .i64 t190, .int .i64 t191, .slice Ao112 t192.length co112], .int .i64 t201, .int .i64 t202] (by rfl) rfl rfl (by (try simp only [List.map_toArray, List.map_cons, List.map_nil]); first | done | rfl | (simp only [List.length_drop, List.length_take]; rfl)) ?_
 with_reducible refine (bivouacref06_On.calls t189 t190 t191 _ _ t192 t201 t202 t220 _ ?side1 ?side2 A100.out).mono ?_
 (case side1 => repeat (first | exact (Kd.V_reads' HO194.out).2.2 | (with_reducible refine Kd.C_alloc ?_ _) | (with_reducible refine Kd.C_drewN ?_ _) | (with_reducible refine Kd.C_drew ?_)))
 (case side2 => exact (Kd.V_reads' HO194.out).2.1)
 rintro e w145 ⟨rfl, hb⟩
 refine ⟨_, rfl, ?_⟩
 have n0_ := aM19 (Kd.V_below (by (with_reducible repeat (first | apply Kd.V_alloc | apply Kd.V_drewN | apply Kd.V_drew)); exact HO194.out) hb)
 have n1_ := aM19 (blk_below (g := gb188) (o := .cells #[.int .i64 a0_0, .int .i64 a0_1, .int .i64 a0_2, .slice A0_3 l0_3.length c0_3, .int .i64 a0_4, .int .i64 a0_5, .int .i64 a0_6, .int .i64 a0_7, .int .i64 a0_8, .int .i64 a0_9, .int .i64 a0_10, .int .u8 a0_11] 36 (0, 0)) (by (with_reducible repeat (first | refine bN19 ?_ _ | refine bD19 ?_ | refine bK19 ?_ _)); exact BK188.out) hb)
 have n2_ := aM19 (blk_below (g := gb195) (o := .cells #[.int .i64 t189, .int .i64 t190, .int .i64 t191, .slice Ao112 t192.length co112] 25 (0, 0)) (by (with_reducible repeat (first | refine bN19 ?_ _ | refine bD19 ?_ | refine bK19 ?_ _)); exact BK195.out) hb)
 have n3_ := aM19 (blk_below (g := gb196) (o := .cells #[.int .i64 a0_4, .int .i64 a0_5, .int .i64 a0_6, .int .i64 a0_7, .int .i64 a0_8, .int .i64 a0_9] 27 (0, 0)) (by (with_reducible repeat (first | refine bN19 ?_ _ | refine bD19 ?_ | refine bK19 ?_ _)); exact BK196.out) hb)
 have n4_ := aM19 (blk_below (g := gb208) (o := .cells #[.int .i64 t199, .int .i64 t200, .int .i64 t201, .int .i64 t202, .int .i64 t203, .int .i64 t204, .int .i64 t205, .int .i64 t206] 38 (0, 0)) (by (with_reducible repeat (first | refine bN19 ?_ _ | refine bD19 ?_ | refine bK19 ?_ _)); exact BK208.out) hb)
 have n5_ := aM19 (blk_below (g := gb218) (o := .cells #[.int .i64 t209, .int .i64 t210, .int .i64 t211, .int .i64 t212, .int .i64 t213, .int .i64 t214, .int .i64 t215, .int .i64 t216] 38 (0, 0)) (by (with_reducible repeat (first | refine bN19 ?_ _ | refine bD19 ?_ | refine bK19 ?_ _)); exact BK218.out) hb)
 have n6_ := aM19 (below_step (by repeat (first | (with_reducible first | exact HB.out | apply below_alloc | apply pw_below_drewN | apply below_drew1 | refine below_set ?_ GE188.out | refine below_set ?_ GE195.out | refine below_set ?_ GE196.out | refine below_set ?_ GE208.out | refine below_set ?_ GE218.out) | exact HB.out)) hb)
 clear HO194
 clear BK188
 clear BK195
 clear BK196
 clear BK208
 clear BK218
 clear HB
 have HO194 := n0_
 have BK188 := n1_
 have BK195 := n2_
 have BK196 := n3_
 have BK208 := n4_
 have BK218 := n5_
 have HB := n6_
 clear n0_ n1_ n2_ n3_ n4_ n5_ n6_
 (try clear hb)
 (try clear hb2)
 (try clear hk)
 (try clear hi)
 refine hK.out _ _ ⟨(bC19 BK218.out 0).trans rfl, (bC19 BK218.out 1).trans rfl, (bC19 BK218.out 2).trans rfl, (bC19 BK218.out 3).trans rfl, (bC19 BK218.out 4).trans rfl, (bC19 BK218.out 5).trans rfl, (bC19 BK218.out 6).trans rfl, (bC19 BK218.out 7).trans rfl, (bC19 BK208.out 0).trans rfl, (bC19 BK208.out 1).trans rfl, (bC19 BK208.out 2).trans rfl, (bC19 BK208.out 3).trans rfl, (bC19 BK208.out 4).trans rfl, (bC19 BK208.out 5).trans rfl, (bC19 BK208.out 6).trans rfl, (bC19 BK208.out 7).trans rfl, (bC19 BK195.out 0).trans rfl, (bC19 BK195.out 1).trans rfl, (bC19 BK195.out 2).trans rfl, (bC19 BK195.out 3).trans rfl⟩ (fun hHeld => ?_)
 clear hK K
 refine norm_ (a' := ?_) ?_ ?_
 rotate_left
 ·
  show Act.put _ (some 85) _ = _
  simp only [Act.put, sA, sB, sC, i64_w, i32_w]
  rfl
 refine pure_ (i := 31) (N := some 86) (v := ?_) (a' := ?_) (bA 38 4294967295) rfl rfl (any_of HT_.out (by kernel_rfl)) (fun _ _ _ h => h) (Or.inl ⟨by rfl, ?_⟩) ?_ ?_
 rotate_left
 ·
  intro w'
  go_simp
  with_reducible rfl
 rotate_left
 ·
  simp only [Act.put, sA, sB, sC, i64_w, i32_w]
  rfl
 refine pure_ (i := 32) (N := some 87) (v := ?_) (a' := ?_) (bA 38 8589934591) rfl rfl (any_of HT_.out (by kernel_rfl)) (fun _ _ _ h => h) (Or.inl ⟨by rfl, ?_⟩) ?_ ?_
 rotate_left
 ·
  intro w'
  go_simp
  with_reducible rfl
 rotate_left
 ·
  simp only [Act.put, sA, sB, sC, i64_w, i32_w]
  rfl
 refine pure_ (i := 33) (N := some 88) (v := ?_) (a' := ?_) (bA 38 17179869183) rfl rfl (any_of HT_.out (by kernel_rfl)) (fun _ _ _ h => h) (Or.inl ⟨by rfl, ?_⟩) ?_ ?_
 rotate_left
 ·
  intro w'
  go_simp
  with_reducible rfl
 rotate_left
 ·
  simp only [Act.put, sA, sB, sC, i64_w, i32_w]
  rfl
 refine pure_ (i := 34) (N := some 89) (v := ?_) (a' := ?_) (bA 38 34359738367) rfl rfl (any_of HT_.out (by kernel_rfl)) (fun _ _ _ h => h) (Or.inl ⟨by rfl, ?_⟩) ?_ ?_
 rotate_left
 ·
  intro w'
  go_simp
  with_reducible rfl
 rotate_left
 ·
  simp only [Act.put, sA, sB, sC, i64_w, i32_w]
  rfl
 refine one_ (i := 35) (N := some 90) (bA 38 68719476735) rfl rfl (one_of HT_.out (by kernel_rfl)) (by decide) (fun K hK => ?_)
 refine goes_ Try.func10 (by kernel_rfl) rfl #[] (by rfl) rfl rfl (by (try simp only [List.map_toArray, List.map_cons, List.map_nil]); first | done | rfl | (simp only [List.length_drop, List.length_take]; rfl)) ?_
 with_reducible refine (bivouaclaw16_awake.calls  t221 _ A102.out).mono ?_
 rintro e w146 ⟨rfl, hb⟩
 refine ⟨_, rfl, ?_⟩
 have n0_ := aM19 (Kd.V_below (by (with_reducible repeat (first | apply Kd.V_alloc | apply Kd.V_drewN | apply Kd.V_drew)); exact HO194.out) hb)
 have n1_ := aM19 (blk_below (g := gb188) (o := .cells #[.int .i64 a0_0, .int .i64 a0_1, .int .i64 a0_2, .slice A0_3 l0_3.length c0_3, .int .i64 a0_4, .int .i64 a0_5, .int .i64 a0_6, .int .i64 a0_7, .int .i64 a0_8, .int .i64 a0_9, .int .i64 a0_10, .int .u8 a0_11] 36 (0, 0)) (by (with_reducible repeat (first | refine bN19 ?_ _ | refine bD19 ?_ | refine bK19 ?_ _)); exact BK188.out) hb)
 have n2_ := aM19 (blk_below (g := gb195) (o := .cells #[.int .i64 t189, .int .i64 t190, .int .i64 t191, .slice Ao112 t192.length co112] 25 (0, 0)) (by (with_reducible repeat (first | refine bN19 ?_ _ | refine bD19 ?_ | refine bK19 ?_ _)); exact BK195.out) hb)
 have n3_ := aM19 (blk_below (g := gb196) (o := .cells #[.int .i64 a0_4, .int .i64 a0_5, .int .i64 a0_6, .int .i64 a0_7, .int .i64 a0_8, .int .i64 a0_9] 27 (0, 0)) (by (with_reducible repeat (first | refine bN19 ?_ _ | refine bD19 ?_ | refine bK19 ?_ _)); exact BK196.out) hb)
 have n4_ := aM19 (blk_below (g := gb208) (o := .cells #[.int .i64 t199, .int .i64 t200, .int .i64 t201, .int .i64 t202, .int .i64 t203, .int .i64 t204, .int .i64 t205, .int .i64 t206] 38 (0, 0)) (by (with_reducible repeat (first | refine bN19 ?_ _ | refine bD19 ?_ | refine bK19 ?_ _)); exact BK208.out) hb)
 have n5_ := aM19 (blk_below (g := gb218) (o := .cells #[.int .i64 t209, .int .i64 t210, .int .i64 t211, .int .i64 t212, .int .i64 t213, .int .i64 t214, .int .i64 t215, .int .i64 t216] 38 (0, 0)) (by (with_reducible repeat (first | refine bN19 ?_ _ | refine bD19 ?_ | refine bK19 ?_ _)); exact BK218.out) hb)
 have n6_ := aM19 (below_step (by repeat (first | (with_reducible first | exact HB.out | apply below_alloc | apply pw_below_drewN | apply below_drew1 | refine below_set ?_ GE188.out | refine below_set ?_ GE195.out | refine below_set ?_ GE196.out | refine below_set ?_ GE208.out | refine below_set ?_ GE218.out) | exact HB.out)) hb)
 clear HO194
 clear BK188
 clear BK195
 clear BK196
 clear BK208
 clear BK218
 clear HB
 have HO194 := n0_
 have BK188 := n1_
 have BK195 := n2_
 have BK196 := n3_
 have BK208 := n4_
 have BK218 := n5_
 have HB := n6_
 clear n0_ n1_ n2_ n3_ n4_ n5_ n6_
 (try clear hb)
 (try clear hb2)
 (try clear hk)
 (try clear hi)
 refine hK.out _ _ ⟨(bC19 BK218.out 0).trans rfl, (bC19 BK218.out 1).trans rfl, (bC19 BK218.out 2).trans rfl, (bC19 BK218.out 3).trans rfl, (bC19 BK218.out 4).trans rfl, (bC19 BK218.out 5).trans rfl, (bC19 BK218.out 6).trans rfl, (bC19 BK218.out 7).trans rfl, (bC19 BK208.out 0).trans rfl, (bC19 BK208.out 1).trans rfl, (bC19 BK208.out 2).trans rfl, (bC19 BK208.out 3).trans rfl, (bC19 BK208.out 4).trans rfl, (bC19 BK208.out 5).trans rfl, (bC19 BK208.out 6).trans rfl, (bC19 BK208.out 7).trans rfl, (bC19 BK195.out 0).trans rfl, (bC19 BK195.out 1).trans rfl, (bC19 BK195.out 2).trans rfl, (bC19 BK195.out 3).trans rfl⟩ (fun hHeld => ?_)
 clear hK K
 refine norm_ (a' := ?_) ?_ ?_
 rotate_left
 ·
  show Act.put _ (some 90) _ = _
  simp only [Act.put, sA, sB, sC, i64_w, i32_w]
  rfl
 refine pure_ (i := 36) (N := some 91) (v := ?_) (a' := ?_) (bA 38 137438953471) rfl rfl (any_of HT_.out (by kernel_rfl)) (fun _ _ _ h => h) (Or.inl ⟨by rfl, ?_⟩) ?_ ?_
 rotate_left
 ·
  intro w'
  go_simp
  with_reducible rfl
 rotate_left
 ·
  simp only [Act.put, sA, sB, sC, i64_w, i32_w]
  rfl
 refine pure_ (i := 37) (N := some 2) (v := ?_) (a' := ?_) (bA 38 274877906943) rfl rfl (any_of HT_.out (by kernel_rfl)) (fun _ _ _ h => h) (Or.inl ⟨by rfl, ?_⟩) ?_ ?_
 rotate_left
 ·
  intro w'
  go_simp
  with_reducible rfl
 rotate_left
 ·
  simp only [Act.put, sA, sB, sC, i64_w, i32_w]
  rfl
 refine done_ (done_of HT_.out (by kernel_rfl)) ?_
 try go_wp2
 go_ret
 exact ⟨by first | rfl | (simp [errW_none, errW_some] <;> rfl) | (simp [*, errW_none, errW_some] <;> rfl) | (rw [Int.tdiv_eq_ediv_of_nonneg (by assumption)]; rfl), by repeat (first | (with_reducible first | exact HB.out | apply below_alloc | apply pw_below_drewN | apply below_drew1 | refine below_set ?_ GE188.out | refine below_set ?_ GE195.out | refine below_set ?_ GE196.out | refine below_set ?_ GE208.out | refine below_set ?_ GE218.out) | exact HB.out)⟩
end Go.Proofs.Ytfcocbkfodmmbaa.PA
