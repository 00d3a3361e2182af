import Derived.Test.YtfcocbkfodmmbaaPAx19w0
namespace Go.Proofs.Ytfcocbkfodmmbaa.PA
open Go.RowKit Go.Proofs.YtfcocbkfodmmbaaW.PrintWords Go.Proofs.YtfcocbkfodmmbaaW.PrintLast Go.Proofs.YtfcocbkfodmmbaaW.PrintMore
attribute [local go_sem] max2_int min2_int max_two min_two max_three min_three max_four min_four   -- for this text's walks alone
set_option linter.unusedVariables false
set_option linter.unusedSimpArgs false
attribute [local go_sem high] eqA38
set_option maxHeartbeats 8000000 in
set_option maxRecDepth 100000 in
theorem bivouaclaw16_ShotAbove.way3 (k : Nat) (a0_0 : Int) (a0_1 : Int) (a0_2 : Int) (A0_3 : Option Addr) (c0_3 : Nat) (l0_3 : List Int) (a0_4 : Int) (a0_5 : Int) (a0_6 : Int) (a0_7 : Int) (a0_8 : Int) (a0_9 : Int) (a0_10 : Int) (a0_11 : Int) (r : Bool) (w : World) (hr0_3 : Kd.C (Kd.int .u8) w A0_3 l0_3.length l0_3) (hc0_3 : l0_3.length ≤ c0_3) {t189 t190 t191 t192 t197 t199 t200 t201 t202 t203 t204 t205 t206 t207 t209 t210 t211 t212 t213 t214 t215 t216 t217 t219 : _}  (A20 : (bivouaclaw16_few.f a0_0 a0_1 a0_2 l0_3) = some (t189, t190, t191, t192)) (A30 : (bivouacref06_Check.f k t189 t190 t191 t192) = some t197) (c4 : (t197 = 0)) (A50 : (shot_Fly.f k t189 t190 t191 t192 a0_4 a0_5 a0_6 a0_7 a0_8 a0_9 ((a0_10) % 256)) = some (t199, t200, t201, t202, t203, t204, t205, t206, t207)) (A60 : (shot_Fly.f k t189 t190 t191 t192 a0_4 a0_5 a0_6 a0_7 a0_8 a0_9 (wrap64 (((a0_10) % 256) + (wrap64 (a0_11))))) = some (t209, t210, t211, t212, t213, t214, t215, t216, t217)) (c7 : ¬(t207 = 0)) (c147 : (t217 = t207)) (A1480 : (bivouaclaw16_awake.f) = some t219) (H : (some t219) = some r):
  Calls Try.prog 9 #[.agg #[.int .i64 a0_0, .int .i64 a0_1, .int .i64 a0_2, .slice A0_3 l0_3.length c0_3, .int .i64 a0_4, .int .i64 a0_5, .int .i64 a0_6, .int .i64 a0_7, .int .i64 a0_8, .int .i64 a0_9, .int .i64 a0_10, .int .u8 a0_11]] w fun e w' => e = .returned (.bool r) ∧ Below w.heap.size w w' := by
 have hu36 := Try.underlying36
 have hu25 := Try.underlying25
 have hu27 := Try.underlying27
 have hu38 := Try.underlying38
 have HR0_3 := aM19 hr0_3
 have HC0_3 := aM19 hc0_3
 clear hr0_3 hc0_3
 have HB := aM19 (Below.refl w.heap.size w)
 have A2 := aM19 A20
 clear A20
 have A3 := aM19 A30
 clear A30
 have c4b0 : (t197 == 0) = true := beq_iff_eq.mpr c4
 have c4b1 : (t197 != 0) = false := bne_eq_false_iff_eq.mpr c4
 clear c4
 have A5 := aM19 A50
 clear A50
 have A6 := aM19 A60
 clear A60
 have c7b0 : (t207 == 0) = false := beq_eq_false_iff_ne.mpr c7
 have c7b1 : (t207 != 0) = true := bne_iff_ne.mpr c7
 have c147b0 : (t217 == t207) = true := beq_iff_eq.mpr c147
 have c147b1 : (t217 != t207) = false := bne_eq_false_iff_eq.mpr c147
 clear c147
 have A148 := aM19 A1480
 clear A1480
 obtain rfl := Option.some.inj H
 go_enter Try.func9, Try.ntmps9
 try go_wp2_with (first | ((with_reducible refine gate_dst (N := 1) rfl ?_); refine box_event ?hg (N := 1) ?hd (cs := #[.int .i64 a0_0, .int .i64 a0_1, .int .i64 a0_2, .slice A0_3 l0_3.length c0_3, .int .i64 a0_4, .int .i64 a0_5, .int .i64 a0_6, .int .i64 a0_7, .int .i64 a0_8, .int .i64 a0_9, .int .i64 a0_10, .int .u8 a0_11]) (t := 36) ?hr ?_; (case hd => rfl); (case hg => rfl); (case hr => first | (go_simp; done) | (go_simp; rfl)); intro gb188 hg w149 hbox hb; have n0_ := aM19 (below_step (by repeat (first | (with_reducible first | exact HB.out | apply below_alloc | apply pw_below_drewN | apply below_drew1) | exact HB.out)) hb); have n1_ := aM19 (hbox); have n2_ := aM19 ((by rw [hg]; exact (below_size (by repeat (first | (with_reducible first | exact HB.out | apply below_alloc | apply pw_below_drewN | apply below_drew1) | exact HB.out))) : w.heap.size ≤ gb188)); have n3_ := aM19 ((by rw [hg]; exact (below_size (by repeat (first | (with_reducible first | exact HB.out | apply below_alloc | apply pw_below_drewN | apply below_drew1) | exact HB.out))) : w.heap.size ≤ gb188)); clear HB; have HB := n0_; have BK188 := n1_; have GW188 := n2_; have GE188 := n3_; clear n0_ n1_ n2_ n3_; clear hb hbox hg))
 have n0_ := aM19 (bD19 BK188.out)
 have n1_ := aM19 (below_drew1 HB.out)
 clear BK188
 clear HB
 have BK188 := n0_
 have HB := n1_
 clear n0_ n1_
 refine start_ (n := 16) (S := fun w' => w'.cell? ⟨gb188, 0, none⟩ = some (.int .i64 a0_0) ∧ w'.cell? ⟨gb188, 1, none⟩ = some (.int .i64 a0_1) ∧ w'.cell? ⟨gb188, 2, none⟩ = some (.int .i64 a0_2) ∧ w'.cell? ⟨gb188, 3, none⟩ = some (.slice A0_3 l0_3.length c0_3) ∧ w'.cell? ⟨gb188, 4, none⟩ = some (.int .i64 a0_4) ∧ w'.cell? ⟨gb188, 5, none⟩ = some (.int .i64 a0_5) ∧ w'.cell? ⟨gb188, 6, none⟩ = some (.int .i64 a0_6) ∧ w'.cell? ⟨gb188, 7, none⟩ = some (.int .i64 a0_7) ∧ w'.cell? ⟨gb188, 8, none⟩ = some (.int .i64 a0_8) ∧ w'.cell? ⟨gb188, 9, none⟩ = some (.int .i64 a0_9) ∧ w'.cell? ⟨gb188, 10, none⟩ = some (.int .i64 a0_10) ∧ w'.cell? ⟨gb188, 11, none⟩ = some (.int .u8 a0_11)) (ds := []) (bA 16 0) (by kernel_rfl) rfl rfl ⟨(bC19 BK188.out 0).trans rfl, (bC19 BK188.out 1).trans rfl, (bC19 BK188.out 2).trans rfl, (bC19 BK188.out 3).trans rfl, (bC19 BK188.out 4).trans rfl, (bC19 BK188.out 5).trans rfl, (bC19 BK188.out 6).trans rfl, (bC19 BK188.out 7).trans rfl, (bC19 BK188.out 8).trans rfl, (bC19 BK188.out 9).trans rfl, (bC19 BK188.out 10).trans rfl, (bC19 BK188.out 11).trans rfl⟩ (fun hHeld => ?_); refine with_tabW bivouaclaw16_ShotAbove.tab1 bivouaclaw16_ShotAbove.bits1 (fun HT_ HW_ => ?_)
 generalize w149.drew = w150 at BK188 HB hHeld ⊢
 refine pure_ (i := 0) (N := some 11) (v := ?_) (a' := ?_) (bA 16 1) rfl rfl (any_of HT_.out (by kernel_rfl)) (fun _ _ _ h => h) (Or.inl ⟨by rfl, ?_⟩) ?_ ?_
 rotate_left
 ·
  intro w'
  go_simp
  with_reducible rfl
 rotate_left
 ·
  simp only [Act.put, sA, sB, sC, i64_w, i32_w]
  rfl
 refine pure_ (i := 3) (N := some 14) (v := ?_) (a' := ?_) (bA 16 9) rfl rfl (any_of HT_.out (by kernel_rfl)) (fun _ _ _ h => h) (Or.inl ⟨by rfl, ?_⟩) ?_ ?_
 rotate_left
 ·
  intro w'
  go_simp
  with_reducible rfl
 rotate_left
 ·
  simp only [Act.put, sA, sB, sC, i64_w, i32_w]
  rfl
 refine pure_ (i := 5) (N := some 16) (v := ?_) (a' := ?_) (bA 16 41) rfl rfl (any_of HT_.out (by kernel_rfl)) (fun _ _ _ h => h) (Or.inl ⟨by rfl, ?_⟩) ?_ ?_
 rotate_left
 ·
  intro w'
  go_simp
  with_reducible rfl
 rotate_left
 ·
  simp only [Act.put, sA, sB, sC, i64_w, i32_w]
  rfl
 refine pure_ (i := 8) (N := some 19) (v := ?_) (a' := ?_) (bA 16 297) rfl rfl (any_of HT_.out (by kernel_rfl)) (fun _ _ _ h => h) (Or.inl ⟨by rfl, ?_⟩) ?_ ?_
 rotate_left
 ·
  intro w'
  go_simp
  with_reducible rfl
 rotate_left
 ·
  simp only [Act.put, sA, sB, sC, i64_w, i32_w]
  rfl
 refine take_ (i := 1) (N := some 12) (v := ?_) (a' := ?_) (bA 16 299) rfl rfl (take_ofW HT_.out HW_.out (by kernel_rfl)) (fun _ _ _ h => h) (Or.inl ⟨by rfl, ?_⟩) hHeld ?_ ?_
 rotate_left
 ·
  rintro w' ⟨s0, s1, s2, s3, s4, s5, s6, s7, s8, s9, s10, s11⟩
  go_simp
  with_reducible rfl
 rotate_left
 ·
  simp only [Act.put, sA, sB, sC, i64_w, i32_w]
  rfl
 refine take_ (i := 4) (N := some 15) (v := ?_) (a' := ?_) (bA 16 315) rfl rfl (take_ofW HT_.out HW_.out (by kernel_rfl)) (fun _ _ _ h => h) (Or.inl ⟨by rfl, ?_⟩) hHeld ?_ ?_
 rotate_left
 ·
  rintro w' ⟨s0, s1, s2, s3, s4, s5, s6, s7, s8, s9, s10, s11⟩
  go_simp
  with_reducible rfl
 rotate_left
 ·
  simp only [Act.put, sA, sB, sC, i64_w, i32_w]
  rfl
 refine take_ (i := 6) (N := some 17) (v := ?_) (a' := ?_) (bA 16 379) rfl rfl (take_ofW HT_.out HW_.out (by kernel_rfl)) (fun _ _ _ h => h) (Or.inl ⟨by rfl, ?_⟩) hHeld ?_ ?_
 rotate_left
 ·
  rintro w' ⟨s0, s1, s2, s3, s4, s5, s6, s7, s8, s9, s10, s11⟩
  go_simp
  with_reducible rfl
 rotate_left
 ·
  simp only [Act.put, sA, sB, sC, i64_w, i32_w]
  rfl
 refine pure_ (i := 7) (N := some 18) (v := ?_) (a' := ?_) (bA 16 507) rfl rfl (any_of HT_.out (by kernel_rfl)) (fun _ _ _ h => h) (Or.inl ⟨by rfl, ?_⟩) ?_ ?_
 rotate_left
 ·
  intro w'
  go_simp
  with_reducible rfl
 rotate_left
 ·
  simp only [Act.put, sA, sB, sC, i64_w, i32_w]
  rfl
 refine take_ (i := 9) (N := some 20) (v := ?_) (a' := ?_) (bA 16 1019) rfl rfl (take_ofW HT_.out HW_.out (by kernel_rfl)) (fun _ _ _ h => h) (Or.inl ⟨by rfl, ?_⟩) hHeld ?_ ?_
 rotate_left
 ·
  rintro w' ⟨s0, s1, s2, s3, s4, s5, s6, s7, s8, s9, s10, s11⟩
  go_simp
  with_reducible rfl
 rotate_left
 ·
  simp only [Act.put, sA, sB, sC, i64_w, i32_w]
  rfl
 refine join_ (σ := Value × Nat × Nat) 4 #[true, true, true, true, true, true, true, true, true, true, true, true, false, false, false, false] (fun s_ => [(13, .agg #[.int .i64 t189, .int .i64 t190, .int .i64 t191, s_.1]), (3, .pointer (some ⟨s_.2.1, 0, none⟩)), (4, .pointer (some ⟨s_.2.2, 0, none⟩))]) (fun s_ w' => (w'.cell? ⟨gb188, 0, none⟩ = some (.int .i64 a0_0) ∧ w'.cell? ⟨gb188, 1, none⟩ = some (.int .i64 a0_1) ∧ w'.cell? ⟨gb188, 2, none⟩ = some (.int .i64 a0_2) ∧ w'.cell? ⟨gb188, 3, none⟩ = some (.slice A0_3 l0_3.length c0_3) ∧ w'.cell? ⟨gb188, 4, none⟩ = some (.int .i64 a0_4) ∧ w'.cell? ⟨gb188, 5, none⟩ = some (.int .i64 a0_5) ∧ w'.cell? ⟨gb188, 6, none⟩ = some (.int .i64 a0_6) ∧ w'.cell? ⟨gb188, 7, none⟩ = some (.int .i64 a0_7) ∧ w'.cell? ⟨gb188, 8, none⟩ = some (.int .i64 a0_8) ∧ w'.cell? ⟨gb188, 9, none⟩ = some (.int .i64 a0_9) ∧ w'.cell? ⟨gb188, 10, none⟩ = some (.int .i64 a0_10) ∧ w'.cell? ⟨gb188, 11, none⟩ = some (.int .u8 a0_11)) ∧ (Kd.V (Kd.int .u8) 5 w' w.heap.size (fun k_ => k_ ≠ gb188 ∧ k_ ≠ s_.2.1 ∧ k_ ≠ s_.2.2) s_.1 t192) ∧ (w'.heap[gb188]? = some (.cells #[.int .i64 a0_0, .int .i64 a0_1, .int .i64 a0_2, .slice A0_3 l0_3.length c0_3, .int .i64 a0_4, .int .i64 a0_5, .int .i64 a0_6, .int .i64 a0_7, .int .i64 a0_8, .int .i64 a0_9, .int .i64 a0_10, .int .u8 a0_11] 36 (0, 0))) ∧ (w'.heap[s_.2.1]? = some (.cells #[.int .i64 0, .int .i64 0, .int .i64 0, .slice none 0 0] 25 (0, 0))) ∧ (w'.heap[s_.2.2]? = some (.cells #[.int .i64 0, .int .i64 0, .int .i64 0, .int .i64 0, .int .i64 0, .int .i64 0] 27 (0, 0))) ∧ (w.heap.size ≤ s_.2.1) ∧ (w.heap.size ≤ s_.2.1) ∧ (gb188 ≠ s_.2.1) ∧ (s_.2.1 ≠ gb188) ∧ (s_.2.2 ≠ s_.2.1) ∧ (s_.2.1 ≠ s_.2.2) ∧ (w.heap.size ≤ s_.2.2) ∧ (w.heap.size ≤ s_.2.2) ∧ (gb188 ≠ s_.2.2) ∧ (s_.2.2 ≠ gb188) ∧ (Below w.heap.size w w')) ?_ ?_
 rotate_left
 ·
  intro hJ2_10_11
  refine join_ (σ := Value × Nat) 5 #[true, true, true, true, true, true, true, true, true, true, true, false, false, false, false, false] (fun s_ => [(13, .agg #[.int .i64 t189, .int .i64 t190, .int .i64 t191, s_.1]), (3, .pointer (some ⟨s_.2, 0, none⟩))]) (fun s_ w' => (w'.cell? ⟨gb188, 0, none⟩ = some (.int .i64 a0_0) ∧ w'.cell? ⟨gb188, 1, none⟩ = some (.int .i64 a0_1) ∧ w'.cell? ⟨gb188, 2, none⟩ = some (.int .i64 a0_2) ∧ w'.cell? ⟨gb188, 3, none⟩ = some (.slice A0_3 l0_3.length c0_3) ∧ w'.cell? ⟨gb188, 4, none⟩ = some (.int .i64 a0_4) ∧ w'.cell? ⟨gb188, 5, none⟩ = some (.int .i64 a0_5) ∧ w'.cell? ⟨gb188, 6, none⟩ = some (.int .i64 a0_6) ∧ w'.cell? ⟨gb188, 7, none⟩ = some (.int .i64 a0_7) ∧ w'.cell? ⟨gb188, 8, none⟩ = some (.int .i64 a0_8) ∧ w'.cell? ⟨gb188, 9, none⟩ = some (.int .i64 a0_9) ∧ w'.cell? ⟨gb188, 10, none⟩ = some (.int .i64 a0_10) ∧ w'.cell? ⟨gb188, 11, none⟩ = some (.int .u8 a0_11)) ∧ (Kd.V (Kd.int .u8) 5 w' w.heap.size (fun k_ => k_ ≠ gb188 ∧ k_ ≠ s_.2) s_.1 t192) ∧ (w'.heap[gb188]? = some (.cells #[.int .i64 a0_0, .int .i64 a0_1, .int .i64 a0_2, .slice A0_3 l0_3.length c0_3, .int .i64 a0_4, .int .i64 a0_5, .int .i64 a0_6, .int .i64 a0_7, .int .i64 a0_8, .int .i64 a0_9, .int .i64 a0_10, .int .u8 a0_11] 36 (0, 0))) ∧ (w'.heap[s_.2]? = some (.cells #[.int .i64 0, .int .i64 0, .int .i64 0, .slice none 0 0] 25 (0, 0))) ∧ (w.heap.size ≤ s_.2) ∧ (w.heap.size ≤ s_.2) ∧ (gb188 ≠ s_.2) ∧ (s_.2 ≠ gb188) ∧ (Below w.heap.size w w')) ?_ ?_
  rotate_left
  ·
   intro hJ2_10
   refine join_ (σ := Value × Nat) 5 #[true, true, true, true, true, true, true, true, true, true, false, true, false, false, false, false] (fun s_ => [(13, .agg #[.int .i64 t189, .int .i64 t190, .int .i64 t191, s_.1]), (4, .pointer (some ⟨s_.2, 0, none⟩))]) (fun s_ w' => (w'.cell? ⟨gb188, 0, none⟩ = some (.int .i64 a0_0) ∧ w'.cell? ⟨gb188, 1, none⟩ = some (.int .i64 a0_1) ∧ w'.cell? ⟨gb188, 2, none⟩ = some (.int .i64 a0_2) ∧ w'.cell? ⟨gb188, 3, none⟩ = some (.slice A0_3 l0_3.length c0_3) ∧ w'.cell? ⟨gb188, 4, none⟩ = some (.int .i64 a0_4) ∧ w'.cell? ⟨gb188, 5, none⟩ = some (.int .i64 a0_5) ∧ w'.cell? ⟨gb188, 6, none⟩ = some (.int .i64 a0_6) ∧ w'.cell? ⟨gb188, 7, none⟩ = some (.int .i64 a0_7) ∧ w'.cell? ⟨gb188, 8, none⟩ = some (.int .i64 a0_8) ∧ w'.cell? ⟨gb188, 9, none⟩ = some (.int .i64 a0_9) ∧ w'.cell? ⟨gb188, 10, none⟩ = some (.int .i64 a0_10) ∧ w'.cell? ⟨gb188, 11, none⟩ = some (.int .u8 a0_11)) ∧ (Kd.V (Kd.int .u8) 5 w' w.heap.size (fun k_ => k_ ≠ gb188 ∧ k_ ≠ s_.2) s_.1 t192) ∧ (w'.heap[gb188]? = some (.cells #[.int .i64 a0_0, .int .i64 a0_1, .int .i64 a0_2, .slice A0_3 l0_3.length c0_3, .int .i64 a0_4, .int .i64 a0_5, .int .i64 a0_6, .int .i64 a0_7, .int .i64 a0_8, .int .i64 a0_9, .int .i64 a0_10, .int .u8 a0_11] 36 (0, 0))) ∧ (w'.heap[s_.2]? = some (.cells #[.int .i64 0, .int .i64 0, .int .i64 0, .int .i64 0, .int .i64 0, .int .i64 0] 27 (0, 0))) ∧ (w.heap.size ≤ s_.2) ∧ (w.heap.size ≤ s_.2) ∧ (gb188 ≠ s_.2) ∧ (s_.2 ≠ gb188) ∧ (Below w.heap.size w w')) ?_ ?_
   rotate_left
   ·
    intro hJ2_11
    refine join_ (σ := Nat × Nat) 5 #[true, true, false, true, true, true, true, true, true, true, true, true, false, false, false, false] (fun s_ => [(3, .pointer (some ⟨s_.1, 0, none⟩)), (4, .pointer (some ⟨s_.2, 0, none⟩))]) (fun s_ w' => (w'.cell? ⟨gb188, 0, none⟩ = some (.int .i64 a0_0) ∧ w'.cell? ⟨gb188, 1, none⟩ = some (.int .i64 a0_1) ∧ w'.cell? ⟨gb188, 2, none⟩ = some (.int .i64 a0_2) ∧ w'.cell? ⟨gb188, 3, none⟩ = some (.slice A0_3 l0_3.length c0_3) ∧ w'.cell? ⟨gb188, 4, none⟩ = some (.int .i64 a0_4) ∧ w'.cell? ⟨gb188, 5, none⟩ = some (.int .i64 a0_5) ∧ w'.cell? ⟨gb188, 6, none⟩ = some (.int .i64 a0_6) ∧ w'.cell? ⟨gb188, 7, none⟩ = some (.int .i64 a0_7) ∧ w'.cell? ⟨gb188, 8, none⟩ = some (.int .i64 a0_8) ∧ w'.cell? ⟨gb188, 9, none⟩ = some (.int .i64 a0_9) ∧ w'.cell? ⟨gb188, 10, none⟩ = some (.int .i64 a0_10) ∧ w'.cell? ⟨gb188, 11, none⟩ = some (.int .u8 a0_11)) ∧ (w'.heap[gb188]? = some (.cells #[.int .i64 a0_0, .int .i64 a0_1, .int .i64 a0_2, .slice A0_3 l0_3.length c0_3, .int .i64 a0_4, .int .i64 a0_5, .int .i64 a0_6, .int .i64 a0_7, .int .i64 a0_8, .int .i64 a0_9, .int .i64 a0_10, .int .u8 a0_11] 36 (0, 0))) ∧ (w'.heap[s_.1]? = some (.cells #[.int .i64 0, .int .i64 0, .int .i64 0, .slice none 0 0] 25 (0, 0))) ∧ (w'.heap[s_.2]? = some (.cells #[.int .i64 0, .int .i64 0, .int .i64 0, .int .i64 0, .int .i64 0, .int .i64 0] 27 (0, 0))) ∧ (w.heap.size ≤ s_.1) ∧ (w.heap.size ≤ s_.1) ∧ (gb188 ≠ s_.1) ∧ (s_.1 ≠ gb188) ∧ (s_.2 ≠ s_.1) ∧ (s_.1 ≠ s_.2) ∧ (w.heap.size ≤ s_.2) ∧ (w.heap.size ≤ s_.2) ∧ (gb188 ≠ s_.2) ∧ (s_.2 ≠ gb188) ∧ (Below w.heap.size w w')) ?_ ?_
    rotate_left
    ·
     intro hJ10_11
     refine join_ (σ := Value) 6 #[true, true, true, true, true, true, true, true, true, true, false, false, false, false, false, false] (fun s_ => [(13, .agg #[.int .i64 t189, .int .i64 t190, .int .i64 t191, s_])]) (fun s_ w' => (w'.cell? ⟨gb188, 0, none⟩ = some (.int .i64 a0_0) ∧ w'.cell? ⟨gb188, 1, none⟩ = some (.int .i64 a0_1) ∧ w'.cell? ⟨gb188, 2, none⟩ = some (.int .i64 a0_2) ∧ w'.cell? ⟨gb188, 3, none⟩ = some (.slice A0_3 l0_3.length c0_3) ∧ w'.cell? ⟨gb188, 4, none⟩ = some (.int .i64 a0_4) ∧ w'.cell? ⟨gb188, 5, none⟩ = some (.int .i64 a0_5) ∧ w'.cell? ⟨gb188, 6, none⟩ = some (.int .i64 a0_6) ∧ w'.cell? ⟨gb188, 7, none⟩ = some (.int .i64 a0_7) ∧ w'.cell? ⟨gb188, 8, none⟩ = some (.int .i64 a0_8) ∧ w'.cell? ⟨gb188, 9, none⟩ = some (.int .i64 a0_9) ∧ w'.cell? ⟨gb188, 10, none⟩ = some (.int .i64 a0_10) ∧ w'.cell? ⟨gb188, 11, none⟩ = some (.int .u8 a0_11)) ∧ (Kd.V (Kd.int .u8) 5 w' w.heap.size (fun k_ => k_ ≠ gb188) s_ t192) ∧ (w'.heap[gb188]? = some (.cells #[.int .i64 a0_0, .int .i64 a0_1, .int .i64 a0_2, .slice A0_3 l0_3.length c0_3, .int .i64 a0_4, .int .i64 a0_5, .int .i64 a0_6, .int .i64 a0_7, .int .i64 a0_8, .int .i64 a0_9, .int .i64 a0_10, .int .u8 a0_11] 36 (0, 0))) ∧ (Below w.heap.size w w')) ?_ ?_
     rotate_left
     ·
      intro hJ2
      refine join_ (σ := Nat) 6 #[true, true, false, true, true, true, true, true, true, true, true, false, false, false, false, false] (fun s_ => [(3, .pointer (some ⟨s_, 0, none⟩))]) (fun s_ w' => (w'.cell? ⟨gb188, 0, none⟩ = some (.int .i64 a0_0) ∧ w'.cell? ⟨gb188, 1, none⟩ = some (.int .i64 a0_1) ∧ w'.cell? ⟨gb188, 2, none⟩ = some (.int .i64 a0_2) ∧ w'.cell? ⟨gb188, 3, none⟩ = some (.slice A0_3 l0_3.length c0_3) ∧ w'.cell? ⟨gb188, 4, none⟩ = some (.int .i64 a0_4) ∧ w'.cell? ⟨gb188, 5, none⟩ = some (.int .i64 a0_5) ∧ w'.cell? ⟨gb188, 6, none⟩ = some (.int .i64 a0_6) ∧ w'.cell? ⟨gb188, 7, none⟩ = some (.int .i64 a0_7) ∧ w'.cell? ⟨gb188, 8, none⟩ = some (.int .i64 a0_8) ∧ w'.cell? ⟨gb188, 9, none⟩ = some (.int .i64 a0_9) ∧ w'.cell? ⟨gb188, 10, none⟩ = some (.int .i64 a0_10) ∧ w'.cell? ⟨gb188, 11, none⟩ = some (.int .u8 a0_11)) ∧ (w'.heap[gb188]? = some (.cells #[.int .i64 a0_0, .int .i64 a0_1, .int .i64 a0_2, .slice A0_3 l0_3.length c0_3, .int .i64 a0_4, .int .i64 a0_5, .int .i64 a0_6, .int .i64 a0_7, .int .i64 a0_8, .int .i64 a0_9, .int .i64 a0_10, .int .u8 a0_11] 36 (0, 0))) ∧ (w'.heap[s_]? = some (.cells #[.int .i64 0, .int .i64 0, .int .i64 0, .slice none 0 0] 25 (0, 0))) ∧ (w.heap.size ≤ s_) ∧ (w.heap.size ≤ s_) ∧ (gb188 ≠ s_) ∧ (s_ ≠ gb188) ∧ (Below w.heap.size w w')) ?_ ?_
      rotate_left
      ·
       intro hJ10
       refine join_ (σ := Nat) 6 #[true, true, false, true, true, true, true, true, true, true, false, true, false, false, false, false] (fun s_ => [(4, .pointer (some ⟨s_, 0, none⟩))]) (fun s_ w' => (w'.cell? ⟨gb188, 0, none⟩ = some (.int .i64 a0_0) ∧ w'.cell? ⟨gb188, 1, none⟩ = some (.int .i64 a0_1) ∧ w'.cell? ⟨gb188, 2, none⟩ = some (.int .i64 a0_2) ∧ w'.cell? ⟨gb188, 3, none⟩ = some (.slice A0_3 l0_3.length c0_3) ∧ w'.cell? ⟨gb188, 4, none⟩ = some (.int .i64 a0_4) ∧ w'.cell? ⟨gb188, 5, none⟩ = some (.int .i64 a0_5) ∧ w'.cell? ⟨gb188, 6, none⟩ = some (.int .i64 a0_6) ∧ w'.cell? ⟨gb188, 7, none⟩ = some (.int .i64 a0_7) ∧ w'.cell? ⟨gb188, 8, none⟩ = some (.int .i64 a0_8) ∧ w'.cell? ⟨gb188, 9, none⟩ = some (.int .i64 a0_9) ∧ w'.cell? ⟨gb188, 10, none⟩ = some (.int .i64 a0_10) ∧ w'.cell? ⟨gb188, 11, none⟩ = some (.int .u8 a0_11)) ∧ (w'.heap[gb188]? = some (.cells #[.int .i64 a0_0, .int .i64 a0_1, .int .i64 a0_2, .slice A0_3 l0_3.length c0_3, .int .i64 a0_4, .int .i64 a0_5, .int .i64 a0_6, .int .i64 a0_7, .int .i64 a0_8, .int .i64 a0_9, .int .i64 a0_10, .int .u8 a0_11] 36 (0, 0))) ∧ (w'.heap[s_]? = some (.cells #[.int .i64 0, .int .i64 0, .int .i64 0, .int .i64 0, .int .i64 0, .int .i64 0] 27 (0, 0))) ∧ (w.heap.size ≤ s_) ∧ (w.heap.size ≤ s_) ∧ (gb188 ≠ s_) ∧ (s_ ≠ gb188) ∧ (Below w.heap.size w w')) ?_ ?_
       rotate_left
       ·
        intro hJ11
        refine three_ (i := 2) (j := 10) (k := 11) (Ni := some 13) (Nj := some 3) (Nk := some 4) (bA 16 1023) #[true, true, false, true, true, true, true, true, true, true, true, false, false, false, false, false] #[true, true, false, true, true, true, true, true, true, true, false, true, false, false, false, false] rfl rfl rfl rfl rfl rfl (three_of HT_.out (by kernel_rfl)) (by decide) (by decide) (by decide) (fun K hK => ?_) (fun K hK => ?_) (fun K hK => ?_)
        ·
         skip
         refine goes_ Try.func11 (by kernel_rfl) rfl #[.agg #[.int .i64 a0_0, .int .i64 a0_1, .int .i64 a0_2, .slice A0_3 l0_3.length c0_3]] (by rfl) rfl rfl (by (try simp only [List.map_toArray, List.map_cons, List.map_nil]); first | done | rfl | (simp only [List.length_drop, List.length_take]; rfl)) ?_
         with_reducible refine (bivouaclaw16_few.calls a0_0 a0_1 a0_2 (fun k_ => k_ < w.heap.size) _ _ l0_3 t189 t190 t191 t192 _ ?side1 A2.out).mono ?_
         (case side1 => exact Kd.V_mk HC0_3.out (Kd.F_below (Kd.C_F (Kd.heap_int .u8) HR0_3.out) (by repeat (first | (with_reducible first | exact HB.out | apply below_alloc | apply pw_below_drewN | apply below_drew1 | refine below_set ?_ GE188.out) | exact HB.out))))
         rintro e w151 ⟨v193, rfl, ho0, hb⟩
         refine ⟨_, rfl, ?_⟩
         have n0_ := aM19 (Kd.V_lower (Kd.V_mono (ok' := fun k_ => k_ ≠ gb188) ho0 (fun k_ hk_ => Or.elim hk_ (fun hs_ => fun e_ => Nat.not_le.2 hs_ (by rw [e_]; exact GW188.out)) (fun hn_ => (Kd.freshB (g := gb188) (o := .cells #[.int .i64 a0_0, .int .i64 a0_1, .int .i64 a0_2, .slice A0_3 l0_3.length c0_3, .int .i64 a0_4, .int .i64 a0_5, .int .i64 a0_6, .int .i64 a0_7, .int .i64 a0_8, .int .i64 a0_9, .int .i64 a0_10, .int .u8 a0_11] 36 (0, 0)) (by (with_reducible repeat (first | refine bN19 ?_ _ | refine bD19 ?_ | refine bK19 ?_ _)); exact BK188.out) k_ hn_)))) (below_size (by repeat (first | (with_reducible first | exact HB.out | apply below_alloc | apply pw_below_drewN | apply below_drew1 | refine below_set ?_ GE188.out) | exact HB.out))))
         have n1_ := aM19 (blk_below (g := gb188) (o := .cells #[.int .i64 a0_0, .int .i64 a0_1, .int .i64 a0_2, .slice A0_3 l0_3.length c0_3, .int .i64 a0_4, .int .i64 a0_5, .int .i64 a0_6, .int .i64 a0_7, .int .i64 a0_8, .int .i64 a0_9, .int .i64 a0_10, .int .u8 a0_11] 36 (0, 0)) (by (with_reducible repeat (first | refine bN19 ?_ _ | refine bD19 ?_ | refine bK19 ?_ _)); exact BK188.out) hb)
         have n2_ := aM19 (below_step (by repeat (first | (with_reducible first | exact HB.out | apply below_alloc | apply pw_below_drewN | apply below_drew1 | refine below_set ?_ GE188.out) | exact HB.out)) hb)
         clear BK188
         clear HB
         have HO194 := n0_
         have BK188 := n1_
         have HB := n2_
         clear n0_ n1_ n2_
         (try clear hb)
         (try clear hb2)
         (try clear hk)
         (try clear hi)
         (try clear ho0)
         refine hK.out _ _ ⟨(bC19 BK188.out 0).trans rfl, (bC19 BK188.out 1).trans rfl, (bC19 BK188.out 2).trans rfl, (bC19 BK188.out 3).trans rfl, (bC19 BK188.out 4).trans rfl, (bC19 BK188.out 5).trans rfl, (bC19 BK188.out 6).trans rfl, (bC19 BK188.out 7).trans rfl, (bC19 BK188.out 8).trans rfl, (bC19 BK188.out 9).trans rfl, (bC19 BK188.out 10).trans rfl, (bC19 BK188.out 11).trans rfl⟩ (fun hHeld => ?_)
         clear hK K
         refine norm_ (a' := ?_) ?_ ?_
         rotate_left
         ·
          show Act.put _ (some 13) _ = _
          simp only [Act.put, sA, sB, sC, i64_w, i32_w]
          rfl
         exact norm_ (by first | (simp only [putAll, Act.put, List.setIfInBounds_toArray, List.set_cons_zero, List.set_cons_succ]; done) | (simp only [putAll, Act.put, List.setIfInBounds_toArray, List.set_cons_zero, List.set_cons_succ]; rfl)) (hJ2 (v193) _ ⟨hHeld, (by (with_reducible repeat (first | apply Kd.V_alloc | apply Kd.V_drewN | apply Kd.V_drew)); exact HO194.out), (by (with_reducible repeat (first | refine bN19 ?_ _ | refine bD19 ?_ | refine bK19 ?_ _)); exact BK188.out), (by repeat (first | (with_reducible first | exact HB.out | apply below_alloc | apply pw_below_drewN | apply below_drew1 | refine below_set ?_ GE188.out) | exact HB.out))⟩)
        ·
         skip
         refine box_step ?hg (N := 3) ?hd (cs := #[.int .i64 0, .int .i64 0, .int .i64 0, .slice none 0 0]) (t := 25) ?hr ?_; (case hd => rfl); (case hg => rfl); (case hr => first | (go_simp; done) | (go_simp; rfl))
         intro gb195 hg w151 hbox hb
         have n0_ := aM19 (blk_below (g := gb188) (o := .cells #[.int .i64 a0_0, .int .i64 a0_1, .int .i64 a0_2, .slice A0_3 l0_3.length c0_3, .int .i64 a0_4, .int .i64 a0_5, .int .i64 a0_6, .int .i64 a0_7, .int .i64 a0_8, .int .i64 a0_9, .int .i64 a0_10, .int .u8 a0_11] 36 (0, 0)) (by (with_reducible repeat (first | refine bN19 ?_ _ | refine bD19 ?_ | refine bK19 ?_ _)); exact BK188.out) hb)
         have n1_ := aM19 (below_step (by repeat (first | (with_reducible first | exact HB.out | apply below_alloc | apply pw_below_drewN | apply below_drew1 | refine below_set ?_ GE188.out) | exact HB.out)) hb)
         have n2_ := aM19 (hbox)
         have n3_ := aM19 ((by rw [hg]; exact (below_size (by repeat (first | (with_reducible first | exact HB.out | apply below_alloc | apply pw_below_drewN | apply below_drew1 | refine below_set ?_ GE188.out) | exact HB.out))) : w.heap.size ≤ gb195))
         have n4_ := aM19 ((by rw [hg]; exact (below_size (by repeat (first | (with_reducible first | exact HB.out | apply below_alloc | apply pw_below_drewN | apply below_drew1 | refine below_set ?_ GE188.out) | exact HB.out))) : w.heap.size ≤ gb195))
         have n5_ := aM19 ((by rw [hg]; exact Nat.ne_of_lt (blk_lt (g := gb188) (o := .cells #[.int .i64 a0_0, .int .i64 a0_1, .int .i64 a0_2, .slice A0_3 l0_3.length c0_3, .int .i64 a0_4, .int .i64 a0_5, .int .i64 a0_6, .int .i64 a0_7, .int .i64 a0_8, .int .i64 a0_9, .int .i64 a0_10, .int .u8 a0_11] 36 (0, 0)) (by (with_reducible repeat (first | refine bN19 ?_ _ | refine bD19 ?_ | refine bK19 ?_ _)); exact BK188.out)) : gb188 ≠ gb195))
         have n6_ := aM19 ((by rw [hg]; exact Nat.ne_of_gt (blk_lt (g := gb188) (o := .cells #[.int .i64 a0_0, .int .i64 a0_1, .int .i64 a0_2, .slice A0_3 l0_3.length c0_3, .int .i64 a0_4, .int .i64 a0_5, .int .i64 a0_6, .int .i64 a0_7, .int .i64 a0_8, .int .i64 a0_9, .int .i64 a0_10, .int .u8 a0_11] 36 (0, 0)) (by (with_reducible repeat (first | refine bN19 ?_ _ | refine bD19 ?_ | refine bK19 ?_ _)); exact BK188.out)) : gb195 ≠ gb188))
         clear BK188
         clear HB
         have BK188 := n0_
         have HB := n1_
         have BK195 := n2_
         have GW195 := n3_
         have GE195 := n4_
         have NB188_195 := n5_
         have NB195_188 := n6_
         clear n0_ n1_ n2_ n3_ n4_ n5_ n6_
         clear hb hbox hg
         refine hK.out _ _ ⟨(bC19 BK188.out 0).trans rfl, (bC19 BK188.out 1).trans rfl, (bC19 BK188.out 2).trans rfl, (bC19 BK188.out 3).trans rfl, (bC19 BK188.out 4).trans rfl, (bC19 BK188.out 5).trans rfl, (bC19 BK188.out 6).trans rfl, (bC19 BK188.out 7).trans rfl, (bC19 BK188.out 8).trans rfl, (bC19 BK188.out 9).trans rfl, (bC19 BK188.out 10).trans rfl, (bC19 BK188.out 11).trans rfl⟩ (fun hHeld => ?_)
         clear hK K
         refine norm_ (a' := ?_) ?_ ?_
         rotate_left
         ·
          show Act.put _ (some 3) _ = _
          simp only [Act.put, sA, sB, sC, i64_w, i32_w]
          rfl
         exact norm_ (by first | (simp only [putAll, Act.put, List.setIfInBounds_toArray, List.set_cons_zero, List.set_cons_succ]; done) | (simp only [putAll, Act.put, List.setIfInBounds_toArray, List.set_cons_zero, List.set_cons_succ]; rfl)) (hJ10 (gb195) _ ⟨hHeld, (by (with_reducible repeat (first | refine bN19 ?_ _ | refine bD19 ?_ | refine bK19 ?_ _)); exact BK188.out), (by (with_reducible repeat (first | refine bN19 ?_ _ | refine bD19 ?_ | refine bK19 ?_ _)); exact BK195.out), GW195.out, GE195.out, NB188_195.out, NB195_188.out, (by repeat (first | (with_reducible first | exact HB.out | apply below_alloc | apply pw_below_drewN | apply below_drew1 | refine below_set ?_ GE188.out | refine below_set ?_ GE195.out) | exact HB.out))⟩)
        skip
        refine box_step ?hg (N := 4) ?hd (cs := #[.int .i64 0, .int .i64 0, .int .i64 0, .int .i64 0, .int .i64 0, .int .i64 0]) (t := 27) ?hr ?_; (case hd => rfl); (case hg => rfl); (case hr => first | (go_simp; done) | (go_simp; rfl))
        intro gb196 hg w151 hbox hb
        have n0_ := aM19 (blk_below (g := gb188) (o := .cells #[.int .i64 a0_0, .int .i64 a0_1, .int .i64 a0_2, .slice A0_3 l0_3.length c0_3, .int .i64 a0_4, .int .i64 a0_5, .int .i64 a0_6, .int .i64 a0_7, .int .i64 a0_8, .int .i64 a0_9, .int .i64 a0_10, .int .u8 a0_11] 36 (0, 0)) (by (with_reducible repeat (first | refine bN19 ?_ _ | refine bD19 ?_ | refine bK19 ?_ _)); exact BK188.out) hb)
        have n1_ := aM19 (below_step (by repeat (first | (with_reducible first | exact HB.out | apply below_alloc | apply pw_below_drewN | apply below_drew1 | refine below_set ?_ GE188.out) | exact HB.out)) hb)
        have n2_ := aM19 (hbox)
        have n3_ := aM19 ((by rw [hg]; exact (below_size (by repeat (first | (with_reducible first | exact HB.out | apply below_alloc | apply pw_below_drewN | apply below_drew1 | refine below_set ?_ GE188.out) | exact HB.out))) : w.heap.size ≤ gb196))
        have n4_ := aM19 ((by rw [hg]; exact (below_size (by repeat (first | (with_reducible first | exact HB.out | apply below_alloc | apply pw_below_drewN | apply below_drew1 | refine below_set ?_ GE188.out) | exact HB.out))) : w.heap.size ≤ gb196))
        have n5_ := aM19 ((by rw [hg]; exact Nat.ne_of_lt (blk_lt (g := gb188) (o := .cells #[.int .i64 a0_0, .int .i64 a0_1, .int .i64 a0_2, .slice A0_3 l0_3.length c0_3, .int .i64 a0_4, .int .i64 a0_5, .int .i64 a0_6, .int .i64 a0_7, .int .i64 a0_8, .int .i64 a0_9, .int .i64 a0_10, .int .u8 a0_11] 36 (0, 0)) (by (with_reducible repeat (first | refine bN19 ?_ _ | refine bD19 ?_ | refine bK19 ?_ _)); exact BK188.out)) : gb188 ≠ gb196))
        have n6_ := aM19 ((by rw [hg]; exact Nat.ne_of_gt (blk_lt (g := gb188) (o := .cells #[.int .i64 a0_0, .int .i64 a0_1, .int .i64 a0_2, .slice A0_3 l0_3.length c0_3, .int .i64 a0_4, .int .i64 a0_5, .int .i64 a0_6, .int .i64 a0_7, .int .i64 a0_8, .int .i64 a0_9, .int .i64 a0_10, .int .u8 a0_11] 36 (0, 0)) (by (with_reducible repeat (first | refine bN19 ?_ _ | refine bD19 ?_ | refine bK19 ?_ _)); exact BK188.out)) : gb196 ≠ gb188))
        clear BK188
        clear HB
        have BK188 := n0_
        have HB := n1_
        have BK196 := n2_
        have GW196 := n3_
        have GE196 := n4_
        have NB188_196 := n5_
        have NB196_188 := n6_
        clear n0_ n1_ n2_ n3_ n4_ n5_ n6_
        clear hb hbox hg
        refine hK.out _ _ ⟨(bC19 BK188.out 0).trans rfl, (bC19 BK188.out 1).trans rfl, (bC19 BK188.out 2).trans rfl, (bC19 BK188.out 3).trans rfl, (bC19 BK188.out 4).trans rfl, (bC19 BK188.out 5).trans rfl, (bC19 BK188.out 6).trans rfl, (bC19 BK188.out 7).trans rfl, (bC19 BK188.out 8).trans rfl, (bC19 BK188.out 9).trans rfl, (bC19 BK188.out 10).trans rfl, (bC19 BK188.out 11).trans rfl⟩ (fun hHeld => ?_)
        clear hK K
        refine norm_ (a' := ?_) ?_ ?_
        rotate_left
        ·
         show Act.put _ (some 4) _ = _
         simp only [Act.put, sA, sB, sC, i64_w, i32_w]
         rfl
        exact norm_ (by first | (simp only [putAll, Act.put, List.setIfInBounds_toArray, List.set_cons_zero, List.set_cons_succ]; done) | (simp only [putAll, Act.put, List.setIfInBounds_toArray, List.set_cons_zero, List.set_cons_succ]; rfl)) (hJ11 (gb196) _ ⟨hHeld, (by (with_reducible repeat (first | refine bN19 ?_ _ | refine bD19 ?_ | refine bK19 ?_ _)); exact BK188.out), (by (with_reducible repeat (first | refine bN19 ?_ _ | refine bD19 ?_ | refine bK19 ?_ _)); exact BK196.out), GW196.out, GE196.out, NB188_196.out, NB196_188.out, (by repeat (first | (with_reducible first | exact HB.out | apply below_alloc | apply pw_below_drewN | apply below_drew1 | refine below_set ?_ GE188.out | refine below_set ?_ GE196.out) | exact HB.out))⟩)
       skip
       rintro gb196 w152 ⟨hS_, h0_, h1_, h2_, h3_, h4_, h5_, h6_⟩
       have n0_ : Aside0 (w152.heap[gb188]? = some (.cells #[.int .i64 a0_0, .int .i64 a0_1, .int .i64 a0_2, .slice A0_3 l0_3.length c0_3, .int .i64 a0_4, .int .i64 a0_5, .int .i64 a0_6, .int .i64 a0_7, .int .i64 a0_8, .int .i64 a0_9, .int .i64 a0_10, .int .u8 a0_11] 36 (0, 0))) := ⟨h0_⟩
       have n1_ : Aside0 (w152.heap[gb196]? = some (.cells #[.int .i64 0, .int .i64 0, .int .i64 0, .int .i64 0, .int .i64 0, .int .i64 0] 27 (0, 0))) := ⟨h1_⟩
       have n2_ : Aside0 (w.heap.size ≤ gb196) := ⟨h2_⟩
       have n3_ : Aside0 (w.heap.size ≤ gb196) := ⟨h3_⟩
       have n4_ : Aside0 (gb188 ≠ gb196) := ⟨h4_⟩
       have n5_ : Aside0 (gb196 ≠ gb188) := ⟨h5_⟩
       have n6_ : Aside0 (Below w.heap.size w w152) := ⟨h6_⟩
       clear BK188
       clear HB
       clear h0_ h1_ h2_ h3_ h4_ h5_ h6_
       have BK188 := n0_
       have BK196 := n1_
       have GW196 := n2_
       have GE196 := n3_
       have NB188_196 := n4_
       have NB196_188 := n5_
       have HB := n6_
       clear n0_ n1_ n2_ n3_ n4_ n5_ n6_
       have hHeld : w152.cell? ⟨gb188, 0, none⟩ = some (.int .i64 a0_0) ∧ w152.cell? ⟨gb188, 1, none⟩ = some (.int .i64 a0_1) ∧ w152.cell? ⟨gb188, 2, none⟩ = some (.int .i64 a0_2) ∧ w152.cell? ⟨gb188, 3, none⟩ = some (.slice A0_3 l0_3.length c0_3) ∧ w152.cell? ⟨gb188, 4, none⟩ = some (.int .i64 a0_4) ∧ w152.cell? ⟨gb188, 5, none⟩ = some (.int .i64 a0_5) ∧ w152.cell? ⟨gb188, 6, none⟩ = some (.int .i64 a0_6) ∧ w152.cell? ⟨gb188, 7, none⟩ = some (.int .i64 a0_7) ∧ w152.cell? ⟨gb188, 8, none⟩ = some (.int .i64 a0_8) ∧ w152.cell? ⟨gb188, 9, none⟩ = some (.int .i64 a0_9) ∧ w152.cell? ⟨gb188, 10, none⟩ = some (.int .i64 a0_10) ∧ w152.cell? ⟨gb188, 11, none⟩ = some (.int .u8 a0_11) := hS_
       refine norm_ (a' := ?_) ?_ ?_
       rotate_left
       ·
        simp only [putAll, Act.put, List.setIfInBounds_toArray, List.set_cons_zero, List.set_cons_succ]
        rfl
       refine two_ (i := 2) (j := 10) (Ni := some 13) (Nj := some 3) (bA 16 3071) #[true, true, false, true, true, true, true, true, true, true, true, true, false, false, false, false] rfl rfl rfl rfl (two_of HT_.out (by kernel_rfl)) (by decide) (by decide) (fun K hK => ?_) (fun K hK => ?_)
       ·
        skip
        refine goes_ Try.func11 (by kernel_rfl) rfl #[.agg #[.int .i64 a0_0, .int .i64 a0_1, .int .i64 a0_2, .slice A0_3 l0_3.length c0_3]] (by rfl) rfl rfl (by (try simp only [List.map_toArray, List.map_cons, List.map_nil]); first | done | rfl | (simp only [List.length_drop, List.length_take]; rfl)) ?_
        with_reducible refine (bivouaclaw16_few.calls a0_0 a0_1 a0_2 (fun k_ => k_ < w.heap.size) _ _ l0_3 t189 t190 t191 t192 _ ?side1 A2.out).mono ?_
        (case side1 => exact Kd.V_mk HC0_3.out (Kd.F_below (Kd.C_F (Kd.heap_int .u8) HR0_3.out) (by repeat (first | (with_reducible first | exact HB.out | apply below_alloc | apply pw_below_drewN | apply below_drew1 | refine below_set ?_ GE188.out | refine below_set ?_ GE196.out) | exact HB.out))))
        rintro e w153 ⟨v193, rfl, ho0, hb⟩
        refine ⟨_, rfl, ?_⟩
        have n0_ := aM19 (Kd.V_lower (Kd.V_mono (ok' := fun k_ => k_ ≠ gb188 ∧ k_ ≠ gb196) ho0 (fun k_ hk_ => ⟨Or.elim hk_ (fun hs_ => fun e_ => Nat.not_le.2 hs_ (by rw [e_]; exact GW188.out)) (fun hn_ => (Kd.freshB (g := gb188) (o := .cells #[.int .i64 a0_0, .int .i64 a0_1, .int .i64 a0_2, .slice A0_3 l0_3.length c0_3, .int .i64 a0_4, .int .i64 a0_5, .int .i64 a0_6, .int .i64 a0_7, .int .i64 a0_8, .int .i64 a0_9, .int .i64 a0_10, .int .u8 a0_11] 36 (0, 0)) (by (with_reducible repeat (first | refine bN19 ?_ _ | refine bD19 ?_ | refine bK19 ?_ _)); exact BK188.out) k_ hn_)), Or.elim hk_ (fun hs_ => fun e_ => Nat.not_le.2 hs_ (by rw [e_]; exact GW196.out)) (fun hn_ => (Kd.freshB (g := gb196) (o := .cells #[.int .i64 0, .int .i64 0, .int .i64 0, .int .i64 0, .int .i64 0, .int .i64 0] 27 (0, 0)) (by (with_reducible repeat (first | refine bN19 ?_ _ | refine bD19 ?_ | refine bK19 ?_ _)); exact BK196.out) k_ hn_))⟩)) (below_size (by repeat (first | (with_reducible first | exact HB.out | apply below_alloc | apply pw_below_drewN | apply below_drew1 | refine below_set ?_ GE188.out | refine below_set ?_ GE196.out) | exact HB.out))))
        have n1_ := aM19 (blk_below (g := gb188) (o := .cells #[.int .i64 a0_0, .int .i64 a0_1, .int .i64 a0_2, .slice A0_3 l0_3.length c0_3, .int .i64 a0_4, .int .i64 a0_5, .int .i64 a0_6, .int .i64 a0_7, .int .i64 a0_8, .int .i64 a0_9, .int .i64 a0_10, .int .u8 a0_11] 36 (0, 0)) (by (with_reducible repeat (first | refine bN19 ?_ _ | refine bD19 ?_ | refine bK19 ?_ _)); exact BK188.out) hb)
        have n2_ := aM19 (blk_below (g := gb196) (o := .cells #[.int .i64 0, .int .i64 0, .int .i64 0, .int .i64 0, .int .i64 0, .int .i64 0] 27 (0, 0)) (by (with_reducible repeat (first | refine bN19 ?_ _ | refine bD19 ?_ | refine bK19 ?_ _)); exact BK196.out) hb)
        have n3_ := aM19 (below_step (by repeat (first | (with_reducible first | exact HB.out | apply below_alloc | apply pw_below_drewN | apply below_drew1 | refine below_set ?_ GE188.out | refine below_set ?_ GE196.out) | exact HB.out)) hb)
        clear BK188
        clear BK196
        clear HB
        have HO194 := n0_
        have BK188 := n1_
        have BK196 := n2_
        have HB := n3_
        clear n0_ n1_ n2_ n3_
        (try clear hb)
        (try clear hb2)
        (try clear hk)
        (try clear hi)
        (try clear ho0)
        refine hK.out _ _ ⟨(bC19 BK188.out 0).trans rfl, (bC19 BK188.out 1).trans rfl, (bC19 BK188.out 2).trans rfl, (bC19 BK188.out 3).trans rfl, (bC19 BK188.out 4).trans rfl, (bC19 BK188.out 5).trans rfl, (bC19 BK188.out 6).trans rfl, (bC19 BK188.out 7).trans rfl, (bC19 BK188.out 8).trans rfl, (bC19 BK188.out 9).trans rfl, (bC19 BK188.out 10).trans rfl, (bC19 BK188.out 11).trans rfl⟩ (fun hHeld => ?_)
        clear hK K
        refine norm_ (a' := ?_) ?_ ?_
        rotate_left
        ·
         show Act.put _ (some 13) _ = _
         simp only [Act.put, sA, sB, sC, i64_w, i32_w]
         rfl
        exact norm_ (by first | (simp only [putAll, Act.put, List.setIfInBounds_toArray, List.set_cons_zero, List.set_cons_succ]; done) | (simp only [putAll, Act.put, List.setIfInBounds_toArray, List.set_cons_zero, List.set_cons_succ]; rfl)) (hJ2_11 (v193, gb196) _ ⟨hHeld, (by (with_reducible repeat (first | apply Kd.V_alloc | apply Kd.V_drewN | apply Kd.V_drew)); exact HO194.out), (by (with_reducible repeat (first | refine bN19 ?_ _ | refine bD19 ?_ | refine bK19 ?_ _)); exact BK188.out), (by (with_reducible repeat (first | refine bN19 ?_ _ | refine bD19 ?_ | refine bK19 ?_ _)); exact BK196.out), GW196.out, GE196.out, NB188_196.out, NB196_188.out, (by repeat (first | (with_reducible first | exact HB.out | apply below_alloc | apply pw_below_drewN | apply below_drew1 | refine below_set ?_ GE188.out | refine below_set ?_ GE196.out) | exact HB.out))⟩)
       skip
       refine box_step ?hg (N := 3) ?hd (cs := #[.int .i64 0, .int .i64 0, .int .i64 0, .slice none 0 0]) (t := 25) ?hr ?_; (case hd => rfl); (case hg => rfl); (case hr => first | (go_simp; done) | (go_simp; rfl))
       intro gb195 hg w153 hbox hb
       have n0_ := aM19 (blk_below (g := gb188) (o := .cells #[.int .i64 a0_0, .int .i64 a0_1, .int .i64 a0_2, .slice A0_3 l0_3.length c0_3, .int .i64 a0_4, .int .i64 a0_5, .int .i64 a0_6, .int .i64 a0_7, .int .i64 a0_8, .int .i64 a0_9, .int .i64 a0_10, .int .u8 a0_11] 36 (0, 0)) (by (with_reducible repeat (first | refine bN19 ?_ _ | refine bD19 ?_ | refine bK19 ?_ _)); exact BK188.out) hb)
       have n1_ := aM19 (blk_below (g := gb196) (o := .cells #[.int .i64 0, .int .i64 0, .int .i64 0, .int .i64 0, .int .i64 0, .int .i64 0] 27 (0, 0)) (by (with_reducible repeat (first | refine bN19 ?_ _ | refine bD19 ?_ | refine bK19 ?_ _)); exact BK196.out) hb)
       have n2_ := aM19 (below_step (by repeat (first | (with_reducible first | exact HB.out | apply below_alloc | apply pw_below_drewN | apply below_drew1 | refine below_set ?_ GE188.out | refine below_set ?_ GE196.out) | exact HB.out)) hb)
       have n3_ := aM19 (hbox)
       have n4_ := aM19 ((by rw [hg]; exact (below_size (by repeat (first | (with_reducible first | exact HB.out | apply below_alloc | apply pw_below_drewN | apply below_drew1 | refine below_set ?_ GE188.out | refine below_set ?_ GE196.out) | exact HB.out))) : w.heap.size ≤ gb195))
       have n5_ := aM19 ((by rw [hg]; exact (below_size (by repeat (first | (with_reducible first | exact HB.out | apply below_alloc | apply pw_below_drewN | apply below_drew1 | refine below_set ?_ GE188.out | refine below_set ?_ GE196.out) | exact HB.out))) : w.heap.size ≤ gb195))
       have n6_ := aM19 ((by rw [hg]; exact Nat.ne_of_lt (blk_lt (g := gb188) (o := .cells #[.int .i64 a0_0, .int .i64 a0_1, .int .i64 a0_2, .slice A0_3 l0_3.length c0_3, .int .i64 a0_4, .int .i64 a0_5, .int .i64 a0_6, .int .i64 a0_7, .int .i64 a0_8, .int .i64 a0_9, .int .i64 a0_10, .int .u8 a0_11] 36 (0, 0)) (by (with_reducible repeat (first | refine bN19 ?_ _ | refine bD19 ?_ | refine bK19 ?_ _)); exact BK188.out)) : gb188 ≠ gb195))
       have n7_ := aM19 ((by rw [hg]; exact Nat.ne_of_gt (blk_lt (g := gb188) (o := .cells #[.int .i64 a0_0, .int .i64 a0_1, .int .i64 a0_2, .slice A0_3 l0_3.length c0_3, .int .i64 a0_4, .int .i64 a0_5, .int .i64 a0_6, .int .i64 a0_7, .int .i64 a0_8, .int .i64 a0_9, .int .i64 a0_10, .int .u8 a0_11] 36 (0, 0)) (by (with_reducible repeat (first | refine bN19 ?_ _ | refine bD19 ?_ | refine bK19 ?_ _)); exact BK188.out)) : gb195 ≠ gb188))
       have n8_ := aM19 ((by rw [hg]; exact Nat.ne_of_lt (blk_lt (g := gb196) (o := .cells #[.int .i64 0, .int .i64 0, .int .i64 0, .int .i64 0, .int .i64 0, .int .i64 0] 27 (0, 0)) (by (with_reducible repeat (first | refine bN19 ?_ _ | refine bD19 ?_ | refine bK19 ?_ _)); exact BK196.out)) : gb196 ≠ gb195))
       have n9_ := aM19 ((by rw [hg]; exact Nat.ne_of_gt (blk_lt (g := gb196) (o := .cells #[.int .i64 0, .int .i64 0, .int .i64 0, .int .i64 0, .int .i64 0, .int .i64 0] 27 (0, 0)) (by (with_reducible repeat (first | refine bN19 ?_ _ | refine bD19 ?_ | refine bK19 ?_ _)); exact BK196.out)) : gb195 ≠ gb196))
       clear BK188
       clear BK196
       clear HB
       have BK188 := n0_
       have BK196 := n1_
       have HB := n2_
       have BK195 := n3_
       have GW195 := n4_
       have GE195 := n5_
       have NB188_195 := n6_
       have NB195_188 := n7_
       have NB196_195 := n8_
       have NB195_196 := n9_
       clear n0_ n1_ n2_ n3_ n4_ n5_ n6_ n7_ n8_ n9_
       clear hb hbox hg
       refine hK.out _ _ ⟨(bC19 BK188.out 0).trans rfl, (bC19 BK188.out 1).trans rfl, (bC19 BK188.out 2).trans rfl, (bC19 BK188.out 3).trans rfl, (bC19 BK188.out 4).trans rfl, (bC19 BK188.out 5).trans rfl, (bC19 BK188.out 6).trans rfl, (bC19 BK188.out 7).trans rfl, (bC19 BK188.out 8).trans rfl, (bC19 BK188.out 9).trans rfl, (bC19 BK188.out 10).trans rfl, (bC19 BK188.out 11).trans rfl⟩ (fun hHeld => ?_)
       clear hK K
       refine norm_ (a' := ?_) ?_ ?_
       rotate_left
       ·
        show Act.put _ (some 3) _ = _
        simp only [Act.put, sA, sB, sC, i64_w, i32_w]
        rfl
       exact norm_ (by first | (simp only [putAll, Act.put, List.setIfInBounds_toArray, List.set_cons_zero, List.set_cons_succ]; done) | (simp only [putAll, Act.put, List.setIfInBounds_toArray, List.set_cons_zero, List.set_cons_succ]; rfl)) (hJ10_11 (gb195, gb196) _ ⟨hHeld, (by (with_reducible repeat (first | refine bN19 ?_ _ | refine bD19 ?_ | refine bK19 ?_ _)); exact BK188.out), (by (with_reducible repeat (first | refine bN19 ?_ _ | refine bD19 ?_ | refine bK19 ?_ _)); exact BK195.out), (by (with_reducible repeat (first | refine bN19 ?_ _ | refine bD19 ?_ | refine bK19 ?_ _)); exact BK196.out), GW195.out, GE195.out, NB188_195.out, NB195_188.out, NB196_195.out, NB195_196.out, GW196.out, GE196.out, NB188_196.out, NB196_188.out, (by repeat (first | (with_reducible first | exact HB.out | apply below_alloc | apply pw_below_drewN | apply below_drew1 | refine below_set ?_ GE188.out | refine below_set ?_ GE196.out | refine below_set ?_ GE195.out) | exact HB.out))⟩)
      skip
      rintro gb195 w152 ⟨hS_, h0_, h1_, h2_, h3_, h4_, h5_, h6_⟩
      have n0_ : Aside0 (w152.heap[gb188]? = some (.cells #[.int .i64 a0_0, .int .i64 a0_1, .int .i64 a0_2, .slice A0_3 l0_3.length c0_3, .int .i64 a0_4, .int .i64 a0_5, .int .i64 a0_6, .int .i64 a0_7, .int .i64 a0_8, .int .i64 a0_9, .int .i64 a0_10, .int .u8 a0_11] 36 (0, 0))) := ⟨h0_⟩
      have n1_ : Aside0 (w152.heap[gb195]? = some (.cells #[.int .i64 0, .int .i64 0, .int .i64 0, .slice none 0 0] 25 (0, 0))) := ⟨h1_⟩
      have n2_ : Aside0 (w.heap.size ≤ gb195) := ⟨h2_⟩
      have n3_ : Aside0 (w.heap.size ≤ gb195) := ⟨h3_⟩
      have n4_ : Aside0 (gb188 ≠ gb195) := ⟨h4_⟩
      have n5_ : Aside0 (gb195 ≠ gb188) := ⟨h5_⟩
      have n6_ : Aside0 (Below w.heap.size w w152) := ⟨h6_⟩
      clear BK188
      clear HB
      clear h0_ h1_ h2_ h3_ h4_ h5_ h6_
      have BK188 := n0_
      have BK195 := n1_
      have GW195 := n2_
      have GE195 := n3_
      have NB188_195 := n4_
      have NB195_188 := n5_
      have HB := n6_
      clear n0_ n1_ n2_ n3_ n4_ n5_ n6_
      have hHeld : w152.cell? ⟨gb188, 0, none⟩ = some (.int .i64 a0_0) ∧ w152.cell? ⟨gb188, 1, none⟩ = some (.int .i64 a0_1) ∧ w152.cell? ⟨gb188, 2, none⟩ = some (.int .i64 a0_2) ∧ w152.cell? ⟨gb188, 3, none⟩ = some (.slice A0_3 l0_3.length c0_3) ∧ w152.cell? ⟨gb188, 4, none⟩ = some (.int .i64 a0_4) ∧ w152.cell? ⟨gb188, 5, none⟩ = some (.int .i64 a0_5) ∧ w152.cell? ⟨gb188, 6, none⟩ = some (.int .i64 a0_6) ∧ w152.cell? ⟨gb188, 7, none⟩ = some (.int .i64 a0_7) ∧ w152.cell? ⟨gb188, 8, none⟩ = some (.int .i64 a0_8) ∧ w152.cell? ⟨gb188, 9, none⟩ = some (.int .i64 a0_9) ∧ w152.cell? ⟨gb188, 10, none⟩ = some (.int .i64 a0_10) ∧ w152.cell? ⟨gb188, 11, none⟩ = some (.int .u8 a0_11) := hS_
      refine norm_ (a' := ?_) ?_ ?_
      rotate_left
      ·
       simp only [putAll, Act.put, List.setIfInBounds_toArray, List.set_cons_zero, List.set_cons_succ]
       rfl
      refine two_ (i := 2) (j := 11) (Ni := some 13) (Nj := some 4) (bA 16 2047) #[true, true, false, true, true, true, true, true, true, true, true, true, false, false, false, false] rfl rfl rfl rfl (two_of HT_.out (by kernel_rfl)) (by decide) (by decide) (fun K hK => ?_) (fun K hK => ?_)
      ·
       skip
       refine goes_ Try.func11 (by kernel_rfl) rfl #[.agg #[.int .i64 a0_0, .int .i64 a0_1, .int .i64 a0_2, .slice A0_3 l0_3.length c0_3]] (by rfl) rfl rfl (by (try simp only [List.map_toArray, List.map_cons, List.map_nil]); first | done | rfl | (simp only [List.length_drop, List.length_take]; rfl)) ?_
       with_reducible refine (bivouaclaw16_few.calls a0_0 a0_1 a0_2 (fun k_ => k_ < w.heap.size) _ _ l0_3 t189 t190 t191 t192 _ ?side1 A2.out).mono ?_
       (case side1 => exact Kd.V_mk HC0_3.out (Kd.F_below (Kd.C_F (Kd.heap_int .u8) HR0_3.out) (by repeat (first | (with_reducible first | exact HB.out | apply below_alloc | apply pw_below_drewN | apply below_drew1 | refine below_set ?_ GE188.out | refine below_set ?_ GE195.out) | exact HB.out))))
       rintro e w153 ⟨v193, rfl, ho0, hb⟩
       refine ⟨_, rfl, ?_⟩
       have n0_ := aM19 (Kd.V_lower (Kd.V_mono (ok' := fun k_ => k_ ≠ gb188 ∧ k_ ≠ gb195) ho0 (fun k_ hk_ => ⟨Or.elim hk_ (fun hs_ => fun e_ => Nat.not_le.2 hs_ (by rw [e_]; exact GW188.out)) (fun hn_ => (Kd.freshB (g := gb188) (o := .cells #[.int .i64 a0_0, .int .i64 a0_1, .int .i64 a0_2, .slice A0_3 l0_3.length c0_3, .int .i64 a0_4, .int .i64 a0_5, .int .i64 a0_6, .int .i64 a0_7, .int .i64 a0_8, .int .i64 a0_9, .int .i64 a0_10, .int .u8 a0_11] 36 (0, 0)) (by (with_reducible repeat (first | refine bN19 ?_ _ | refine bD19 ?_ | refine bK19 ?_ _)); exact BK188.out) k_ hn_)), Or.elim hk_ (fun hs_ => fun e_ => Nat.not_le.2 hs_ (by rw [e_]; exact GW195.out)) (fun hn_ => (Kd.freshB (g := gb195) (o := .cells #[.int .i64 0, .int .i64 0, .int .i64 0, .slice none 0 0] 25 (0, 0)) (by (with_reducible repeat (first | refine bN19 ?_ _ | refine bD19 ?_ | refine bK19 ?_ _)); exact BK195.out) k_ hn_))⟩)) (below_size (by repeat (first | (with_reducible first | exact HB.out | apply below_alloc | apply pw_below_drewN | apply below_drew1 | refine below_set ?_ GE188.out | refine below_set ?_ GE195.out) | exact HB.out))))
       have n1_ := aM19 (blk_below (g := gb188) (o := .cells #[.int .i64 a0_0, .int .i64 a0_1, .int .i64 a0_2, .slice A0_3 l0_3.length c0_3, .int .i64 a0_4, .int .i64 a0_5, .int .i64 a0_6, .int .i64 a0_7, .int .i64 a0_8, .int .i64 a0_9, .int .i64 a0_10, .int .u8 a0_11] 36 (0, 0)) (by (with_reducible repeat (first | refine bN19 ?_ _ | refine bD19 ?_ | refine bK19 ?_ _)); exact BK188.out) hb)
       have n2_ := aM19 (blk_below (g := gb195) (o := .cells #[.int .i64 0, .int .i64 0, .int .i64 0, .slice none 0 0] 25 (0, 0)) (by (with_reducible repeat (first | refine bN19 ?_ _ | refine bD19 ?_ | refine bK19 ?_ _)); exact BK195.out) hb)
       have n3_ := aM19 (below_step (by repeat (first | (with_reducible first | exact HB.out | apply below_alloc | apply pw_below_drewN | apply below_drew1 | refine below_set ?_ GE188.out | refine below_set ?_ GE195.out) | exact HB.out)) hb)
       clear BK188
       clear BK195
       clear HB
       have HO194 := n0_
       have BK188 := n1_
       have BK195 := n2_
       have HB := n3_
       clear n0_ n1_ n2_ n3_
       (try clear hb)
       (try clear hb2)
       (try clear hk)
       (try clear hi)
       (try clear ho0)
       refine hK.out _ _ ⟨(bC19 BK188.out 0).trans rfl, (bC19 BK188.out 1).trans rfl, (bC19 BK188.out 2).trans rfl, (bC19 BK188.out 3).trans rfl, (bC19 BK188.out 4).trans rfl, (bC19 BK188.out 5).trans rfl, (bC19 BK188.out 6).trans rfl, (bC19 BK188.out 7).trans rfl, (bC19 BK188.out 8).trans rfl, (bC19 BK188.out 9).trans rfl, (bC19 BK188.out 10).trans rfl, (bC19 BK188.out 11).trans rfl⟩ (fun hHeld => ?_)
       clear hK K
       refine norm_ (a' := ?_) ?_ ?_
       rotate_left
       ·
        show Act.put _ (some 13) _ = _
        simp only [Act.put, sA, sB, sC, i64_w, i32_w]
        rfl
       exact norm_ (by first | (simp only [putAll, Act.put, List.setIfInBounds_toArray, List.set_cons_zero, List.set_cons_succ]; done) | (simp only [putAll, Act.put, List.setIfInBounds_toArray, List.set_cons_zero, List.set_cons_succ]; rfl)) (hJ2_10 (v193, gb195) _ ⟨hHeld, (by (with_reducible repeat (first | apply Kd.V_alloc | apply Kd.V_drewN | apply Kd.V_drew)); exact HO194.out), (by (with_reducible repeat (first | refine bN19 ?_ _ | refine bD19 ?_ | refine bK19 ?_ _)); exact BK188.out), (by (with_reducible repeat (first | refine bN19 ?_ _ | refine bD19 ?_ | refine bK19 ?_ _)); exact BK195.out), GW195.out, GE195.out, NB188_195.out, NB195_188.out, (by repeat (first | (with_reducible first | exact HB.out | apply below_alloc | apply pw_below_drewN | apply below_drew1 | refine below_set ?_ GE188.out | refine below_set ?_ GE195.out) | exact HB.out))⟩)
      skip
      refine box_step ?hg (N := 4) ?hd (cs := #[.int .i64 0, .int .i64 0, .int .i64 0, .int .i64 0, .int .i64 0, .int .i64 0]) (t := 27) ?hr ?_; (case hd => rfl); (case hg => rfl); (case hr => first | (go_simp; done) | (go_simp; rfl))
      intro gb196 hg w153 hbox hb
      have n0_ := aM19 (blk_below (g := gb188) (o := .cells #[.int .i64 a0_0, .int .i64 a0_1, .int .i64 a0_2, .slice A0_3 l0_3.length c0_3, .int .i64 a0_4, .int .i64 a0_5, .int .i64 a0_6, .int .i64 a0_7, .int .i64 a0_8, .int .i64 a0_9, .int .i64 a0_10, .int .u8 a0_11] 36 (0, 0)) (by (with_reducible repeat (first | refine bN19 ?_ _ | refine bD19 ?_ | refine bK19 ?_ _)); exact BK188.out) hb)
      have n1_ := aM19 (blk_below (g := gb195) (o := .cells #[.int .i64 0, .int .i64 0, .int .i64 0, .slice none 0 0] 25 (0, 0)) (by (with_reducible repeat (first | refine bN19 ?_ _ | refine bD19 ?_ | refine bK19 ?_ _)); exact BK195.out) hb)
      have n2_ := aM19 (below_step (by repeat (first | (with_reducible first | exact HB.out | apply below_alloc | apply pw_below_drewN | apply below_drew1 | refine below_set ?_ GE188.out | refine below_set ?_ GE195.out) | exact HB.out)) hb)
      have n3_ := aM19 (hbox)
      have n4_ := aM19 ((by rw [hg]; exact (below_size (by repeat (first | (with_reducible first | exact HB.out | apply below_alloc | apply pw_below_drewN | apply below_drew1 | refine below_set ?_ GE188.out | refine below_set ?_ GE195.out) | exact HB.out))) : w.heap.size ≤ gb196))
      have n5_ := aM19 ((by rw [hg]; exact (below_size (by repeat (first | (with_reducible first | exact HB.out | apply below_alloc | apply pw_below_drewN | apply below_drew1 | refine below_set ?_ GE188.out | refine below_set ?_ GE195.out) | exact HB.out))) : w.heap.size ≤ gb196))
      have n6_ := aM19 ((by rw [hg]; exact Nat.ne_of_lt (blk_lt (g := gb188) (o := .cells #[.int .i64 a0_0, .int .i64 a0_1, .int .i64 a0_2, .slice A0_3 l0_3.length c0_3, .int .i64 a0_4, .int .i64 a0_5, .int .i64 a0_6, .int .i64 a0_7, .int .i64 a0_8, .int .i64 a0_9, .int .i64 a0_10, .int .u8 a0_11] 36 (0, 0)) (by (with_reducible repeat (first | refine bN19 ?_ _ | refine bD19 ?_ | refine bK19 ?_ _)); exact BK188.out)) : gb188 ≠ gb196))
      have n7_ := aM19 ((by rw [hg]; exact Nat.ne_of_gt (blk_lt (g := gb188) (o := .cells #[.int .i64 a0_0, .int .i64 a0_1, .int .i64 a0_2, .slice A0_3 l0_3.length c0_3, .int .i64 a0_4, .int .i64 a0_5, .int .i64 a0_6, .int .i64 a0_7, .int .i64 a0_8, .int .i64 a0_9, .int .i64 a0_10, .int .u8 a0_11] 36 (0, 0)) (by (with_reducible repeat (first | refine bN19 ?_ _ | refine bD19 ?_ | refine bK19 ?_ _)); exact BK188.out)) : gb196 ≠ gb188))
      have n8_ := aM19 ((by rw [hg]; exact Nat.ne_of_lt (blk_lt (g := gb195) (o := .cells #[.int .i64 0, .int .i64 0, .int .i64 0, .slice none 0 0] 25 (0, 0)) (by (with_reducible repeat (first | refine bN19 ?_ _ | refine bD19 ?_ | refine bK19 ?_ _)); exact BK195.out)) : gb195 ≠ gb196))
      have n9_ := aM19 ((by rw [hg]; exact Nat.ne_of_gt (blk_lt (g := gb195) (o := .cells #[.int .i64 0, .int .i64 0, .int .i64 0, .slice none 0 0] 25 (0, 0)) (by (with_reducible repeat (first | refine bN19 ?_ _ | refine bD19 ?_ | refine bK19 ?_ _)); exact BK195.out)) : gb196 ≠ gb195))
      clear BK188
      clear BK195
      clear HB
      have BK188 := n0_
      have BK195 := n1_
      have HB := n2_
      have BK196 := n3_
      have GW196 := n4_
      have GE196 := n5_
      have NB188_196 := n6_
      have NB196_188 := n7_
      have NB195_196 := n8_
      have NB196_195 := n9_
      clear n0_ n1_ n2_ n3_ n4_ n5_ n6_ n7_ n8_ n9_
      clear hb hbox hg
      refine hK.out _ _ ⟨(bC19 BK188.out 0).trans rfl, (bC19 BK188.out 1).trans rfl, (bC19 BK188.out 2).trans rfl, (bC19 BK188.out 3).trans rfl, (bC19 BK188.out 4).trans rfl, (bC19 BK188.out 5).trans rfl, (bC19 BK188.out 6).trans rfl, (bC19 BK188.out 7).trans rfl, (bC19 BK188.out 8).trans rfl, (bC19 BK188.out 9).trans rfl, (bC19 BK188.out 10).trans rfl, (bC19 BK188.out 11).trans rfl⟩ (fun hHeld => ?_)
      clear hK K
      refine norm_ (a' := ?_) ?_ ?_
      rotate_left
      ·
       show Act.put _ (some 4) _ = _
       simp only [Act.put, sA, sB, sC, i64_w, i32_w]
       rfl
      exact norm_ (by first | (simp only [putAll, Act.put, List.setIfInBounds_toArray, List.set_cons_zero, List.set_cons_succ]; done) | (simp only [putAll, Act.put, List.setIfInBounds_toArray, List.set_cons_zero, List.set_cons_succ]; rfl)) (hJ10_11 (gb195, gb196) _ ⟨hHeld, (by (with_reducible repeat (first | refine bN19 ?_ _ | refine bD19 ?_ | refine bK19 ?_ _)); exact BK188.out), (by (with_reducible repeat (first | refine bN19 ?_ _ | refine bD19 ?_ | refine bK19 ?_ _)); exact BK195.out), (by (with_reducible repeat (first | refine bN19 ?_ _ | refine bD19 ?_ | refine bK19 ?_ _)); exact BK196.out), GW195.out, GE195.out, NB188_195.out, NB195_188.out, NB196_195.out, NB195_196.out, GW196.out, GE196.out, NB188_196.out, NB196_188.out, (by repeat (first | (with_reducible first | exact HB.out | apply below_alloc | apply pw_below_drewN | apply below_drew1 | refine below_set ?_ GE188.out | refine below_set ?_ GE195.out | refine below_set ?_ GE196.out) | exact HB.out))⟩)
     skip
     rintro v193 w152 ⟨hS_, h0_, h1_, h2_⟩
     have n0_ : Aside0 (Kd.V (Kd.int .u8) 5 w152 w.heap.size (fun k_ => k_ ≠ gb188) v193 t192) := ⟨h0_⟩
     have n1_ : Aside0 (w152.heap[gb188]? = some (.cells #[.int .i64 a0_0, .int .i64 a0_1, .int .i64 a0_2, .slice A0_3 l0_3.length c0_3, .int .i64 a0_4, .int .i64 a0_5, .int .i64 a0_6, .int .i64 a0_7, .int .i64 a0_8, .int .i64 a0_9, .int .i64 a0_10, .int .u8 a0_11] 36 (0, 0))) := ⟨h1_⟩
     have n2_ : Aside0 (Below w.heap.size w w152) := ⟨h2_⟩
     clear BK188
     clear HB
     clear h0_ h1_ h2_
     have HO194 := n0_
     have BK188 := n1_
     have HB := n2_
     clear n0_ n1_ n2_
     have hHeld : w152.cell? ⟨gb188, 0, none⟩ = some (.int .i64 a0_0) ∧ w152.cell? ⟨gb188, 1, none⟩ = some (.int .i64 a0_1) ∧ w152.cell? ⟨gb188, 2, none⟩ = some (.int .i64 a0_2) ∧ w152.cell? ⟨gb188, 3, none⟩ = some (.slice A0_3 l0_3.length c0_3) ∧ w152.cell? ⟨gb188, 4, none⟩ = some (.int .i64 a0_4) ∧ w152.cell? ⟨gb188, 5, none⟩ = some (.int .i64 a0_5) ∧ w152.cell? ⟨gb188, 6, none⟩ = some (.int .i64 a0_6) ∧ w152.cell? ⟨gb188, 7, none⟩ = some (.int .i64 a0_7) ∧ w152.cell? ⟨gb188, 8, none⟩ = some (.int .i64 a0_8) ∧ w152.cell? ⟨gb188, 9, none⟩ = some (.int .i64 a0_9) ∧ w152.cell? ⟨gb188, 10, none⟩ = some (.int .i64 a0_10) ∧ w152.cell? ⟨gb188, 11, none⟩ = some (.int .u8 a0_11) := hS_
     refine norm_ (a' := ?_) ?_ ?_
     rotate_left
     ·
      simp only [putAll, Act.put, List.setIfInBounds_toArray, List.set_cons_zero, List.set_cons_succ]
      rfl
     refine two_ (i := 10) (j := 11) (Ni := some 3) (Nj := some 4) (bA 16 2047) #[true, true, true, true, true, true, true, true, true, true, false, true, false, false, false, false] rfl rfl rfl rfl (two_of HT_.out (by kernel_rfl)) (by decide) (by decide) (fun K hK => ?_) (fun K hK => ?_)
     ·
      skip
      refine box_step ?hg (N := 3) ?hd (cs := #[.int .i64 0, .int .i64 0, .int .i64 0, .slice none 0 0]) (t := 25) ?hr ?_; (case hd => rfl); (case hg => rfl); (case hr => first | (go_simp; done) | (go_simp; rfl))
      intro gb195 hg w153 hbox hb
      have n0_ := aM19 (Kd.V_below (Kd.V_elderB (by (with_reducible repeat (first | apply Kd.V_alloc | apply Kd.V_drewN | apply Kd.V_drew)); exact HO194.out) gb195 (Nat.le_of_eq hg.symm)) hb)
      have n1_ := aM19 (blk_below (g := gb188) (o := .cells #[.int .i64 a0_0, .int .i64 a0_1, .int .i64 a0_2, .slice A0_3 l0_3.length c0_3, .int .i64 a0_4, .int .i64 a0_5, .int .i64 a0_6, .int .i64 a0_7, .int .i64 a0_8, .int .i64 a0_9, .int .i64 a0_10, .int .u8 a0_11] 36 (0, 0)) (by (with_reducible repeat (first | refine bN19 ?_ _ | refine bD19 ?_ | refine bK19 ?_ _)); exact BK188.out) hb)
      have n2_ := aM19 (below_step (by repeat (first | (with_reducible first | exact HB.out | apply below_alloc | apply pw_below_drewN | apply below_drew1 | refine below_set ?_ GE188.out) | exact HB.out)) hb)
      have n3_ := aM19 (hbox)
      have n4_ := aM19 ((by rw [hg]; exact (below_size (by repeat (first | (with_reducible first | exact HB.out | apply below_alloc | apply pw_below_drewN | apply below_drew1 | refine below_set ?_ GE188.out) | exact HB.out))) : w.heap.size ≤ gb195))
      have n5_ := aM19 ((by rw [hg]; exact (below_size (by repeat (first | (with_reducible first | exact HB.out | apply below_alloc | apply pw_below_drewN | apply below_drew1 | refine below_set ?_ GE188.out) | exact HB.out))) : w.heap.size ≤ gb195))
      have n6_ := aM19 ((by rw [hg]; exact Nat.ne_of_lt (blk_lt (g := gb188) (o := .cells #[.int .i64 a0_0, .int .i64 a0_1, .int .i64 a0_2, .slice A0_3 l0_3.length c0_3, .int .i64 a0_4, .int .i64 a0_5, .int .i64 a0_6, .int .i64 a0_7, .int .i64 a0_8, .int .i64 a0_9, .int .i64 a0_10, .int .u8 a0_11] 36 (0, 0)) (by (with_reducible repeat (first | refine bN19 ?_ _ | refine bD19 ?_ | refine bK19 ?_ _)); exact BK188.out)) : gb188 ≠ gb195))
      have n7_ := aM19 ((by rw [hg]; exact Nat.ne_of_gt (blk_lt (g := gb188) (o := .cells #[.int .i64 a0_0, .int .i64 a0_1, .int .i64 a0_2, .slice A0_3 l0_3.length c0_3, .int .i64 a0_4, .int .i64 a0_5, .int .i64 a0_6, .int .i64 a0_7, .int .i64 a0_8, .int .i64 a0_9, .int .i64 a0_10, .int .u8 a0_11] 36 (0, 0)) (by (with_reducible repeat (first | refine bN19 ?_ _ | refine bD19 ?_ | refine bK19 ?_ _)); exact BK188.out)) : gb195 ≠ gb188))
      clear HO194
      clear BK188
      clear HB
      have HO194 := n0_
      have BK188 := n1_
      have HB := n2_
      have BK195 := n3_
      have GW195 := n4_
      have GE195 := n5_
      have NB188_195 := n6_
      have NB195_188 := n7_
      clear n0_ n1_ n2_ n3_ n4_ n5_ n6_ n7_
      clear hb hbox hg
      refine hK.out _ _ ⟨(bC19 BK188.out 0).trans rfl, (bC19 BK188.out 1).trans rfl, (bC19 BK188.out 2).trans rfl, (bC19 BK188.out 3).trans rfl, (bC19 BK188.out 4).trans rfl, (bC19 BK188.out 5).trans rfl, (bC19 BK188.out 6).trans rfl, (bC19 BK188.out 7).trans rfl, (bC19 BK188.out 8).trans rfl, (bC19 BK188.out 9).trans rfl, (bC19 BK188.out 10).trans rfl, (bC19 BK188.out 11).trans rfl⟩ (fun hHeld => ?_)
      clear hK K
      refine norm_ (a' := ?_) ?_ ?_
      rotate_left
      ·
       show Act.put _ (some 3) _ = _
       simp only [Act.put, sA, sB, sC, i64_w, i32_w]
       rfl
      exact norm_ (by first | (simp only [putAll, Act.put, List.setIfInBounds_toArray, List.set_cons_zero, List.set_cons_succ]; done) | (simp only [putAll, Act.put, List.setIfInBounds_toArray, List.set_cons_zero, List.set_cons_succ]; rfl)) (hJ2_10 (v193, gb195) _ ⟨hHeld, (by (with_reducible repeat (first | apply Kd.V_alloc | apply Kd.V_drewN | apply Kd.V_drew)); exact HO194.out), (by (with_reducible repeat (first | refine bN19 ?_ _ | refine bD19 ?_ | refine bK19 ?_ _)); exact BK188.out), (by (with_reducible repeat (first | refine bN19 ?_ _ | refine bD19 ?_ | refine bK19 ?_ _)); exact BK195.out), GW195.out, GE195.out, NB188_195.out, NB195_188.out, (by repeat (first | (with_reducible first | exact HB.out | apply below_alloc | apply pw_below_drewN | apply below_drew1 | refine below_set ?_ GE188.out | refine below_set ?_ GE195.out) | exact HB.out))⟩)
     skip
     refine box_step ?hg (N := 4) ?hd (cs := #[.int .i64 0, .int .i64 0, .int .i64 0, .int .i64 0, .int .i64 0, .int .i64 0]) (t := 27) ?hr ?_; (case hd => rfl); (case hg => rfl); (case hr => first | (go_simp; done) | (go_simp; rfl))
     intro gb196 hg w153 hbox hb
     have n0_ := aM19 (Kd.V_below (Kd.V_elderB (by (with_reducible repeat (first | apply Kd.V_alloc | apply Kd.V_drewN | apply Kd.V_drew)); exact HO194.out) gb196 (Nat.le_of_eq hg.symm)) hb)
     have n1_ := aM19 (blk_below (g := gb188) (o := .cells #[.int .i64 a0_0, .int .i64 a0_1, .int .i64 a0_2, .slice A0_3 l0_3.length c0_3, .int .i64 a0_4, .int .i64 a0_5, .int .i64 a0_6, .int .i64 a0_7, .int .i64 a0_8, .int .i64 a0_9, .int .i64 a0_10, .int .u8 a0_11] 36 (0, 0)) (by (with_reducible repeat (first | refine bN19 ?_ _ | refine bD19 ?_ | refine bK19 ?_ _)); exact BK188.out) hb)
     have n2_ := aM19 (below_step (by repeat (first | (with_reducible first | exact HB.out | apply below_alloc | apply pw_below_drewN | apply below_drew1 | refine below_set ?_ GE188.out) | exact HB.out)) hb)
     have n3_ := aM19 (hbox)
     have n4_ := aM19 ((by rw [hg]; exact (below_size (by repeat (first | (with_reducible first | exact HB.out | apply below_alloc | apply pw_below_drewN | apply below_drew1 | refine below_set ?_ GE188.out) | exact HB.out))) : w.heap.size ≤ gb196))
     have n5_ := aM19 ((by rw [hg]; exact (below_size (by repeat (first | (with_reducible first | exact HB.out | apply below_alloc | apply pw_below_drewN | apply below_drew1 | refine below_set ?_ GE188.out) | exact HB.out))) : w.heap.size ≤ gb196))
     have n6_ := aM19 ((by rw [hg]; exact Nat.ne_of_lt (blk_lt (g := gb188) (o := .cells #[.int .i64 a0_0, .int .i64 a0_1, .int .i64 a0_2, .slice A0_3 l0_3.length c0_3, .int .i64 a0_4, .int .i64 a0_5, .int .i64 a0_6, .int .i64 a0_7, .int .i64 a0_8, .int .i64 a0_9, .int .i64 a0_10, .int .u8 a0_11] 36 (0, 0)) (by (with_reducible repeat (first | refine bN19 ?_ _ | refine bD19 ?_ | refine bK19 ?_ _)); exact BK188.out)) : gb188 ≠ gb196))
     have n7_ := aM19 ((by rw [hg]; exact Nat.ne_of_gt (blk_lt (g := gb188) (o := .cells #[.int .i64 a0_0, .int .i64 a0_1, .int .i64 a0_2, .slice A0_3 l0_3.length c0_3, .int .i64 a0_4, .int .i64 a0_5, .int .i64 a0_6, .int .i64 a0_7, .int .i64 a0_8, .int .i64 a0_9, .int .i64 a0_10, .int .u8 a0_11] 36 (0, 0)) (by (with_reducible repeat (first | refine bN19 ?_ _ | refine bD19 ?_ | refine bK19 ?_ _)); exact BK188.out)) : gb196 ≠ gb188))
     clear HO194
     clear BK188
     clear HB
     have HO194 := n0_
     have BK188 := n1_
     have HB := n2_
     have BK196 := n3_
     have GW196 := n4_
     have GE196 := n5_
     have NB188_196 := n6_
     have NB196_188 := n7_
     clear n0_ n1_ n2_ n3_ n4_ n5_ n6_ n7_
     clear hb hbox hg
     refine hK.out _ _ ⟨(bC19 BK188.out 0).trans rfl, (bC19 BK188.out 1).trans rfl, (bC19 BK188.out 2).trans rfl, (bC19 BK188.out 3).trans rfl, (bC19 BK188.out 4).trans rfl, (bC19 BK188.out 5).trans rfl, (bC19 BK188.out 6).trans rfl, (bC19 BK188.out 7).trans rfl, (bC19 BK188.out 8).trans rfl, (bC19 BK188.out 9).trans rfl, (bC19 BK188.out 10).trans rfl, (bC19 BK188.out 11).trans rfl⟩ (fun hHeld => ?_)
     clear hK K
     refine norm_ (a' := ?_) ?_ ?_
     rotate_left
     ·
      show Act.put _ (some 4) _ = _
      simp only [Act.put, sA, sB, sC, i64_w, i32_w]
      rfl
     exact norm_ (by first | (simp only [putAll, Act.put, List.setIfInBounds_toArray, List.set_cons_zero, List.set_cons_succ]; done) | (simp only [putAll, Act.put, List.setIfInBounds_toArray, List.set_cons_zero, List.set_cons_succ]; rfl)) (hJ2_11 (v193, gb196) _ ⟨hHeld, (by (with_reducible repeat (first | apply Kd.V_alloc | apply Kd.V_drewN | apply Kd.V_drew)); exact HO194.out), (by (with_reducible repeat (first | refine bN19 ?_ _ | refine bD19 ?_ | refine bK19 ?_ _)); exact BK188.out), (by (with_reducible repeat (first | refine bN19 ?_ _ | refine bD19 ?_ | refine bK19 ?_ _)); exact BK196.out), GW196.out, GE196.out, NB188_196.out, NB196_188.out, (by repeat (first | (with_reducible first | exact HB.out | apply below_alloc | apply pw_below_drewN | apply below_drew1 | refine below_set ?_ GE188.out | refine below_set ?_ GE196.out) | exact HB.out))⟩)
    skip
    rintro ⟨gb195, gb196⟩ w153 ⟨hS_, h0_, h1_, h2_, h3_, h4_, h5_, h6_, h7_, h8_, h9_, h10_, h11_, h12_, h13_⟩
    have n0_ : Aside0 (w153.heap[gb188]? = some (.cells #[.int .i64 a0_0, .int .i64 a0_1, .int .i64 a0_2, .slice A0_3 l0_3.length c0_3, .int .i64 a0_4, .int .i64 a0_5, .int .i64 a0_6, .int .i64 a0_7, .int .i64 a0_8, .int .i64 a0_9, .int .i64 a0_10, .int .u8 a0_11] 36 (0, 0))) := ⟨h0_⟩
    have n1_ : Aside0 (w153.heap[gb195]? = some (.cells #[.int .i64 0, .int .i64 0, .int .i64 0, .slice none 0 0] 25 (0, 0))) := ⟨h1_⟩
    have n2_ : Aside0 (w153.heap[gb196]? = some (.cells #[.int .i64 0, .int .i64 0, .int .i64 0, .int .i64 0, .int .i64 0, .int .i64 0] 27 (0, 0))) := ⟨h2_⟩
    have n3_ : Aside0 (w.heap.size ≤ gb195) := ⟨h3_⟩
    have n4_ : Aside0 (w.heap.size ≤ gb195) := ⟨h4_⟩
    have n5_ : Aside0 (gb188 ≠ gb195) := ⟨h5_⟩
    have n6_ : Aside0 (gb195 ≠ gb188) := ⟨h6_⟩
    have n7_ : Aside0 (gb196 ≠ gb195) := ⟨h7_⟩
    have n8_ : Aside0 (gb195 ≠ gb196) := ⟨h8_⟩
    have n9_ : Aside0 (w.heap.size ≤ gb196) := ⟨h9_⟩
    have n10_ : Aside0 (w.heap.size ≤ gb196) := ⟨h10_⟩
    have n11_ : Aside0 (gb188 ≠ gb196) := ⟨h11_⟩
    have n12_ : Aside0 (gb196 ≠ gb188) := ⟨h12_⟩
    have n13_ : Aside0 (Below w.heap.size w w153) := ⟨h13_⟩
    clear BK188
    clear HB
    clear h0_ h1_ h2_ h3_ h4_ h5_ h6_ h7_ h8_ h9_ h10_ h11_ h12_ h13_
    have BK188 := n0_
    have BK195 := n1_
    have BK196 := n2_
    have GW195 := n3_
    have GE195 := n4_
    have NB188_195 := n5_
    have NB195_188 := n6_
    have NB196_195 := n7_
    have NB195_196 := n8_
    have GW196 := n9_
    have GE196 := n10_
    have NB188_196 := n11_
    have NB196_188 := n12_
    have HB := n13_
    clear n0_ n1_ n2_ n3_ n4_ n5_ n6_ n7_ n8_ n9_ n10_ n11_ n12_ n13_
    have hHeld : w153.cell? ⟨gb188, 0, none⟩ = some (.int .i64 a0_0) ∧ w153.cell? ⟨gb188, 1, none⟩ = some (.int .i64 a0_1) ∧ w153.cell? ⟨gb188, 2, none⟩ = some (.int .i64 a0_2) ∧ w153.cell? ⟨gb188, 3, none⟩ = some (.slice A0_3 l0_3.length c0_3) ∧ w153.cell? ⟨gb188, 4, none⟩ = some (.int .i64 a0_4) ∧ w153.cell? ⟨gb188, 5, none⟩ = some (.int .i64 a0_5) ∧ w153.cell? ⟨gb188, 6, none⟩ = some (.int .i64 a0_6) ∧ w153.cell? ⟨gb188, 7, none⟩ = some (.int .i64 a0_7) ∧ w153.cell? ⟨gb188, 8, none⟩ = some (.int .i64 a0_8) ∧ w153.cell? ⟨gb188, 9, none⟩ = some (.int .i64 a0_9) ∧ w153.cell? ⟨gb188, 10, none⟩ = some (.int .i64 a0_10) ∧ w153.cell? ⟨gb188, 11, none⟩ = some (.int .u8 a0_11) := hS_
    refine norm_ (a' := ?_) ?_ ?_
    rotate_left
    ·
     simp only [putAll, Act.put, List.setIfInBounds_toArray, List.set_cons_zero, List.set_cons_succ]
     rfl
    refine one_ (i := 2) (N := some 13) (bA 16 4095) rfl rfl (one_of HT_.out (by kernel_rfl)) (by decide) (fun K hK => ?_)
    refine goes_ Try.func11 (by kernel_rfl) rfl #[.agg #[.int .i64 a0_0, .int .i64 a0_1, .int .i64 a0_2, .slice A0_3 l0_3.length c0_3]] (by rfl) rfl rfl (by (try simp only [List.map_toArray, List.map_cons, List.map_nil]); first | done | rfl | (simp only [List.length_drop, List.length_take]; rfl)) ?_
    with_reducible refine (bivouaclaw16_few.calls a0_0 a0_1 a0_2 (fun k_ => k_ < w.heap.size) _ _ l0_3 t189 t190 t191 t192 _ ?side1 A2.out).mono ?_
    (case side1 => exact Kd.V_mk HC0_3.out (Kd.F_below (Kd.C_F (Kd.heap_int .u8) HR0_3.out) (by repeat (first | (with_reducible first | exact HB.out | apply below_alloc | apply pw_below_drewN | apply below_drew1 | refine below_set ?_ GE188.out | refine below_set ?_ GE195.out | refine below_set ?_ GE196.out) | exact HB.out))))
    rintro e w154 ⟨v193, rfl, ho0, hb⟩
    refine ⟨_, rfl, ?_⟩
    have n0_ := aM19 (Kd.V_lower (Kd.V_mono (ok' := fun k_ => k_ ≠ gb188 ∧ k_ ≠ gb195 ∧ k_ ≠ gb196) ho0 (fun k_ hk_ => ⟨Or.elim hk_ (fun hs_ => fun e_ => Nat.not_le.2 hs_ (by rw [e_]; exact GW188.out)) (fun hn_ => (Kd.freshB (g := gb188) (o := .cells #[.int .i64 a0_0, .int .i64 a0_1, .int .i64 a0_2, .slice A0_3 l0_3.length c0_3, .int .i64 a0_4, .int .i64 a0_5, .int .i64 a0_6, .int .i64 a0_7, .int .i64 a0_8, .int .i64 a0_9, .int .i64 a0_10, .int .u8 a0_11] 36 (0, 0)) (by (with_reducible repeat (first | refine bN19 ?_ _ | refine bD19 ?_ | refine bK19 ?_ _)); exact BK188.out) k_ hn_)), Or.elim hk_ (fun hs_ => fun e_ => Nat.not_le.2 hs_ (by rw [e_]; exact GW195.out)) (fun hn_ => (Kd.freshB (g := gb195) (o := .cells #[.int .i64 0, .int .i64 0, .int .i64 0, .slice none 0 0] 25 (0, 0)) (by (with_reducible repeat (first | refine bN19 ?_ _ | refine bD19 ?_ | refine bK19 ?_ _)); exact BK195.out) k_ hn_)), Or.elim hk_ (fun hs_ => fun e_ => Nat.not_le.2 hs_ (by rw [e_]; exact GW196.out)) (fun hn_ => (Kd.freshB (g := gb196) (o := .cells #[.int .i64 0, .int .i64 0, .int .i64 0, .int .i64 0, .int .i64 0, .int .i64 0] 27 (0, 0)) (by (with_reducible repeat (first | refine bN19 ?_ _ | refine bD19 ?_ | refine bK19 ?_ _)); exact BK196.out) k_ hn_))⟩)) (below_size (by repeat (first | (with_reducible first | exact HB.out | apply below_alloc | apply pw_below_drewN | apply below_drew1 | refine below_set ?_ GE188.out | refine below_set ?_ GE195.out | refine below_set ?_ GE196.out) | exact HB.out))))
    have n1_ := aM19 (blk_below (g := gb188) (o := .cells #[.int .i64 a0_0, .int .i64 a0_1, .int .i64 a0_2, .slice A0_3 l0_3.length c0_3, .int .i64 a0_4, .int .i64 a0_5, .int .i64 a0_6, .int .i64 a0_7, .int .i64 a0_8, .int .i64 a0_9, .int .i64 a0_10, .int .u8 a0_11] 36 (0, 0)) (by (with_reducible repeat (first | refine bN19 ?_ _ | refine bD19 ?_ | refine bK19 ?_ _)); exact BK188.out) hb)
    have n2_ := aM19 (blk_below (g := gb195) (o := .cells #[.int .i64 0, .int .i64 0, .int .i64 0, .slice none 0 0] 25 (0, 0)) (by (with_reducible repeat (first | refine bN19 ?_ _ | refine bD19 ?_ | refine bK19 ?_ _)); exact BK195.out) hb)
    have n3_ := aM19 (blk_below (g := gb196) (o := .cells #[.int .i64 0, .int .i64 0, .int .i64 0, .int .i64 0, .int .i64 0, .int .i64 0] 27 (0, 0)) (by (with_reducible repeat (first | refine bN19 ?_ _ | refine bD19 ?_ | refine bK19 ?_ _)); exact BK196.out) hb)
    have n4_ := aM19 (below_step (by repeat (first | (with_reducible first | exact HB.out | apply below_alloc | apply pw_below_drewN | apply below_drew1 | refine below_set ?_ GE188.out | refine below_set ?_ GE195.out | refine below_set ?_ GE196.out) | exact HB.out)) hb)
    clear BK188
    clear BK195
    clear BK196
    clear HB
    have HO194 := n0_
    have BK188 := n1_
    have BK195 := n2_
    have BK196 := n3_
    have HB := n4_
    clear n0_ n1_ n2_ n3_ n4_
    (try clear hb)
    (try clear hb2)
    (try clear hk)
    (try clear hi)
    (try clear ho0)
    refine hK.out _ _ ⟨(bC19 BK188.out 0).trans rfl, (bC19 BK188.out 1).trans rfl, (bC19 BK188.out 2).trans rfl, (bC19 BK188.out 3).trans rfl, (bC19 BK188.out 4).trans rfl, (bC19 BK188.out 5).trans rfl, (bC19 BK188.out 6).trans rfl, (bC19 BK188.out 7).trans rfl, (bC19 BK188.out 8).trans rfl, (bC19 BK188.out 9).trans rfl, (bC19 BK188.out 10).trans rfl, (bC19 BK188.out 11).trans rfl⟩ (fun hHeld => ?_)
    clear hK K
    refine norm_ (a' := ?_) ?_ ?_
    rotate_left
    ·
     show Act.put _ (some 13) _ = _
     simp only [Act.put, sA, sB, sC, i64_w, i32_w]
     rfl
    exact norm_ (by first | (simp only [putAll, Act.put, List.setIfInBounds_toArray, List.set_cons_zero, List.set_cons_succ]; done) | (simp only [putAll, Act.put, List.setIfInBounds_toArray, List.set_cons_zero, List.set_cons_succ]; rfl)) (hJ2_10_11 (v193, gb195, gb196) _ ⟨hHeld, (by (with_reducible repeat (first | apply Kd.V_alloc | apply Kd.V_drewN | apply Kd.V_drew)); exact HO194.out), (by (with_reducible repeat (first | refine bN19 ?_ _ | refine bD19 ?_ | refine bK19 ?_ _)); exact BK188.out), (by (with_reducible repeat (first | refine bN19 ?_ _ | refine bD19 ?_ | refine bK19 ?_ _)); exact BK195.out), (by (with_reducible repeat (first | refine bN19 ?_ _ | refine bD19 ?_ | refine bK19 ?_ _)); exact BK196.out), GW195.out, GE195.out, NB188_195.out, NB195_188.out, NB196_195.out, NB195_196.out, GW196.out, GE196.out, NB188_196.out, NB196_188.out, (by repeat (first | (with_reducible first | exact HB.out | apply below_alloc | apply pw_below_drewN | apply below_drew1 | refine below_set ?_ GE188.out | refine below_set ?_ GE195.out | refine below_set ?_ GE196.out) | exact HB.out))⟩)
   skip
   rintro ⟨v193, gb196⟩ w153 ⟨hS_, h0_, h1_, h2_, h3_, h4_, h5_, h6_, h7_⟩
   have n0_ : Aside0 (Kd.V (Kd.int .u8) 5 w153 w.heap.size (fun k_ => k_ ≠ gb188 ∧ k_ ≠ gb196) v193 t192) := ⟨h0_⟩
   have n1_ : Aside0 (w153.heap[gb188]? = some (.cells #[.int .i64 a0_0, .int .i64 a0_1, .int .i64 a0_2, .slice A0_3 l0_3.length c0_3, .int .i64 a0_4, .int .i64 a0_5, .int .i64 a0_6, .int .i64 a0_7, .int .i64 a0_8, .int .i64 a0_9, .int .i64 a0_10, .int .u8 a0_11] 36 (0, 0))) := ⟨h1_⟩
   have n2_ : Aside0 (w153.heap[gb196]? = some (.cells #[.int .i64 0, .int .i64 0, .int .i64 0, .int .i64 0, .int .i64 0, .int .i64 0] 27 (0, 0))) := ⟨h2_⟩
   have n3_ : Aside0 (w.heap.size ≤ gb196) := ⟨h3_⟩
   have n4_ : Aside0 (w.heap.size ≤ gb196) := ⟨h4_⟩
   have n5_ : Aside0 (gb188 ≠ gb196) := ⟨h5_⟩
   have n6_ : Aside0 (gb196 ≠ gb188) := ⟨h6_⟩
   have n7_ : Aside0 (Below w.heap.size w w153) := ⟨h7_⟩
   clear BK188
   clear HB
   clear h0_ h1_ h2_ h3_ h4_ h5_ h6_ h7_
   have HO194 := n0_
   have BK188 := n1_
   have BK196 := n2_
   have GW196 := n3_
   have GE196 := n4_
   have NB188_196 := n5_
   have NB196_188 := n6_
   have HB := n7_
   clear n0_ n1_ n2_ n3_ n4_ n5_ n6_ n7_
   have hHeld : w153.cell? ⟨gb188, 0, none⟩ = some (.int .i64 a0_0) ∧ w153.cell? ⟨gb188, 1, none⟩ = some (.int .i64 a0_1) ∧ w153.cell? ⟨gb188, 2, none⟩ = some (.int .i64 a0_2) ∧ w153.cell? ⟨gb188, 3, none⟩ = some (.slice A0_3 l0_3.length c0_3) ∧ w153.cell? ⟨gb188, 4, none⟩ = some (.int .i64 a0_4) ∧ w153.cell? ⟨gb188, 5, none⟩ = some (.int .i64 a0_5) ∧ w153.cell? ⟨gb188, 6, none⟩ = some (.int .i64 a0_6) ∧ w153.cell? ⟨gb188, 7, none⟩ = some (.int .i64 a0_7) ∧ w153.cell? ⟨gb188, 8, none⟩ = some (.int .i64 a0_8) ∧ w153.cell? ⟨gb188, 9, none⟩ = some (.int .i64 a0_9) ∧ w153.cell? ⟨gb188, 10, none⟩ = some (.int .i64 a0_10) ∧ w153.cell? ⟨gb188, 11, none⟩ = some (.int .u8 a0_11) := hS_
   refine norm_ (a' := ?_) ?_ ?_
   rotate_left
   ·
    simp only [putAll, Act.put, List.setIfInBounds_toArray, List.set_cons_zero, List.set_cons_succ]
    rfl
   refine one_ (i := 10) (N := some 3) (bA 16 4095) rfl rfl (one_of HT_.out (by kernel_rfl)) (by decide) (fun K hK => ?_)
   refine box_step ?hg (N := 3) ?hd (cs := #[.int .i64 0, .int .i64 0, .int .i64 0, .slice none 0 0]) (t := 25) ?hr ?_; (case hd => rfl); (case hg => rfl); (case hr => first | (go_simp; done) | (go_simp; rfl))
   intro gb195 hg w154 hbox hb
   have n0_ := aM19 (Kd.V_below (Kd.V_elderB (by (with_reducible repeat (first | apply Kd.V_alloc | apply Kd.V_drewN | apply Kd.V_drew)); exact HO194.out) gb195 (Nat.le_of_eq hg.symm)) hb)
   have n1_ := aM19 (blk_below (g := gb188) (o := .cells #[.int .i64 a0_0, .int .i64 a0_1, .int .i64 a0_2, .slice A0_3 l0_3.length c0_3, .int .i64 a0_4, .int .i64 a0_5, .int .i64 a0_6, .int .i64 a0_7, .int .i64 a0_8, .int .i64 a0_9, .int .i64 a0_10, .int .u8 a0_11] 36 (0, 0)) (by (with_reducible repeat (first | refine bN19 ?_ _ | refine bD19 ?_ | refine bK19 ?_ _)); exact BK188.out) hb)
   have n2_ := aM19 (blk_below (g := gb196) (o := .cells #[.int .i64 0, .int .i64 0, .int .i64 0, .int .i64 0, .int .i64 0, .int .i64 0] 27 (0, 0)) (by (with_reducible repeat (first | refine bN19 ?_ _ | refine bD19 ?_ | refine bK19 ?_ _)); exact BK196.out) hb)
   have n3_ := aM19 (below_step (by repeat (first | (with_reducible first | exact HB.out | apply below_alloc | apply pw_below_drewN | apply below_drew1 | refine below_set ?_ GE188.out | refine below_set ?_ GE196.out) | exact HB.out)) hb)
   have n4_ := aM19 (hbox)
   have n5_ := aM19 ((by rw [hg]; exact (below_size (by repeat (first | (with_reducible first | exact HB.out | apply below_alloc | apply pw_below_drewN | apply below_drew1 | refine below_set ?_ GE188.out | refine below_set ?_ GE196.out) | exact HB.out))) : w.heap.size ≤ gb195))
   have n6_ := aM19 ((by rw [hg]; exact (below_size (by repeat (first | (with_reducible first | exact HB.out | apply below_alloc | apply pw_below_drewN | apply below_drew1 | refine below_set ?_ GE188.out | refine below_set ?_ GE196.out) | exact HB.out))) : w.heap.size ≤ gb195))
   have n7_ := aM19 ((by rw [hg]; exact Nat.ne_of_lt (blk_lt (g := gb188) (o := .cells #[.int .i64 a0_0, .int .i64 a0_1, .int .i64 a0_2, .slice A0_3 l0_3.length c0_3, .int .i64 a0_4, .int .i64 a0_5, .int .i64 a0_6, .int .i64 a0_7, .int .i64 a0_8, .int .i64 a0_9, .int .i64 a0_10, .int .u8 a0_11] 36 (0, 0)) (by (with_reducible repeat (first | refine bN19 ?_ _ | refine bD19 ?_ | refine bK19 ?_ _)); exact BK188.out)) : gb188 ≠ gb195))
   have n8_ := aM19 ((by rw [hg]; exact Nat.ne_of_gt (blk_lt (g := gb188) (o := .cells #[.int .i64 a0_0, .int .i64 a0_1, .int .i64 a0_2, .slice A0_3 l0_3.length c0_3, .int .i64 a0_4, .int .i64 a0_5, .int .i64 a0_6, .int .i64 a0_7, .int .i64 a0_8, .int .i64 a0_9, .int .i64 a0_10, .int .u8 a0_11] 36 (0, 0)) (by (with_reducible repeat (first | refine bN19 ?_ _ | refine bD19 ?_ | refine bK19 ?_ _)); exact BK188.out)) : gb195 ≠ gb188))
   have n9_ := aM19 ((by rw [hg]; exact Nat.ne_of_lt (blk_lt (g := gb196) (o := .cells #[.int .i64 0, .int .i64 0, .int .i64 0, .int .i64 0, .int .i64 0, .int .i64 0] 27 (0, 0)) (by (with_reducible repeat (first | refine bN19 ?_ _ | refine bD19 ?_ | refine bK19 ?_ _)); exact BK196.out)) : gb196 ≠ gb195))
   have n10_ := aM19 ((by rw [hg]; exact Nat.ne_of_gt (blk_lt (g := gb196) (o := .cells #[.int .i64 0, .int .i64 0, .int .i64 0, .int .i64 0, .int .i64 0, .int .i64 0] 27 (0, 0)) (by (with_reducible repeat (first | refine bN19 ?_ _ | refine bD19 ?_ | refine bK19 ?_ _)); exact BK196.out)) : gb195 ≠ gb196))
   clear HO194
   clear BK188
   clear BK196
   clear HB
   have HO194 := n0_
   have BK188 := n1_
   have BK196 := n2_
   have HB := n3_
   have BK195 := n4_
   have GW195 := n5_
   have GE195 := n6_
   have NB188_195 := n7_
   have NB195_188 := n8_
   have NB196_195 := n9_
   have NB195_196 := n10_
   clear n0_ n1_ n2_ n3_ n4_ n5_ n6_ n7_ n8_ n9_ n10_
   clear hb hbox hg
   refine hK.out _ _ ⟨(bC19 BK188.out 0).trans rfl, (bC19 BK188.out 1).trans rfl, (bC19 BK188.out 2).trans rfl, (bC19 BK188.out 3).trans rfl, (bC19 BK188.out 4).trans rfl, (bC19 BK188.out 5).trans rfl, (bC19 BK188.out 6).trans rfl, (bC19 BK188.out 7).trans rfl, (bC19 BK188.out 8).trans rfl, (bC19 BK188.out 9).trans rfl, (bC19 BK188.out 10).trans rfl, (bC19 BK188.out 11).trans rfl⟩ (fun hHeld => ?_)
   clear hK K
   refine norm_ (a' := ?_) ?_ ?_
   rotate_left
   ·
    show Act.put _ (some 3) _ = _
    simp only [Act.put, sA, sB, sC, i64_w, i32_w]
    rfl
   exact norm_ (by first | (simp only [putAll, Act.put, List.setIfInBounds_toArray, List.set_cons_zero, List.set_cons_succ]; done) | (simp only [putAll, Act.put, List.setIfInBounds_toArray, List.set_cons_zero, List.set_cons_succ]; rfl)) (hJ2_10_11 (v193, gb195, gb196) _ ⟨hHeld, (by (with_reducible repeat (first | apply Kd.V_alloc | apply Kd.V_drewN | apply Kd.V_drew)); exact Kd.V_mono HO194.out (fun _ hk => ⟨hk.1.1, ⟨hk.2, hk.1.2⟩⟩)), (by (with_reducible repeat (first | refine bN19 ?_ _ | refine bD19 ?_ | refine bK19 ?_ _)); exact BK188.out), (by (with_reducible repeat (first | refine bN19 ?_ _ | refine bD19 ?_ | refine bK19 ?_ _)); exact BK195.out), (by (with_reducible repeat (first | refine bN19 ?_ _ | refine bD19 ?_ | refine bK19 ?_ _)); exact BK196.out), GW195.out, GE195.out, NB188_195.out, NB195_188.out, NB196_195.out, NB195_196.out, GW196.out, GE196.out, NB188_196.out, NB196_188.out, (by repeat (first | (with_reducible first | exact HB.out | apply below_alloc | apply pw_below_drewN | apply below_drew1 | refine below_set ?_ GE188.out | refine below_set ?_ GE196.out | refine below_set ?_ GE195.out) | exact HB.out))⟩)
  skip
  rintro ⟨v193, gb195⟩ w153 ⟨hS_, h0_, h1_, h2_, h3_, h4_, h5_, h6_, h7_⟩
  have n0_ : Aside0 (Kd.V (Kd.int .u8) 5 w153 w.heap.size (fun k_ => k_ ≠ gb188 ∧ k_ ≠ gb195) v193 t192) := ⟨h0_⟩
  have n1_ : Aside0 (w153.heap[gb188]? = some (.cells #[.int .i64 a0_0, .int .i64 a0_1, .int .i64 a0_2, .slice A0_3 l0_3.length c0_3, .int .i64 a0_4, .int .i64 a0_5, .int .i64 a0_6, .int .i64 a0_7, .int .i64 a0_8, .int .i64 a0_9, .int .i64 a0_10, .int .u8 a0_11] 36 (0, 0))) := ⟨h1_⟩
  have n2_ : Aside0 (w153.heap[gb195]? = some (.cells #[.int .i64 0, .int .i64 0, .int .i64 0, .slice none 0 0] 25 (0, 0))) := ⟨h2_⟩
  have n3_ : Aside0 (w.heap.size ≤ gb195) := ⟨h3_⟩
  have n4_ : Aside0 (w.heap.size ≤ gb195) := ⟨h4_⟩
  have n5_ : Aside0 (gb188 ≠ gb195) := ⟨h5_⟩
  have n6_ : Aside0 (gb195 ≠ gb188) := ⟨h6_⟩
  have n7_ : Aside0 (Below w.heap.size w w153) := ⟨h7_⟩
  clear BK188
  clear HB
  clear h0_ h1_ h2_ h3_ h4_ h5_ h6_ h7_
  have HO194 := n0_
  have BK188 := n1_
  have BK195 := n2_
  have GW195 := n3_
  have GE195 := n4_
  have NB188_195 := n5_
  have NB195_188 := n6_
  have HB := n7_
  clear n0_ n1_ n2_ n3_ n4_ n5_ n6_ n7_
  have hHeld : w153.cell? ⟨gb188, 0, none⟩ = some (.int .i64 a0_0) ∧ w153.cell? ⟨gb188, 1, none⟩ = some (.int .i64 a0_1) ∧ w153.cell? ⟨gb188, 2, none⟩ = some (.int .i64 a0_2) ∧ w153.cell? ⟨gb188, 3, none⟩ = some (.slice A0_3 l0_3.length c0_3) ∧ w153.cell? ⟨gb188, 4, none⟩ = some (.int .i64 a0_4) ∧ w153.cell? ⟨gb188, 5, none⟩ = some (.int .i64 a0_5) ∧ w153.cell? ⟨gb188, 6, none⟩ = some (.int .i64 a0_6) ∧ w153.cell? ⟨gb188, 7, none⟩ = some (.int .i64 a0_7) ∧ w153.cell? ⟨gb188, 8, none⟩ = some (.int .i64 a0_8) ∧ w153.cell? ⟨gb188, 9, none⟩ = some (.int .i64 a0_9) ∧ w153.cell? ⟨gb188, 10, none⟩ = some (.int .i64 a0_10) ∧ w153.cell? ⟨gb188, 11, none⟩ = some (.int .u8 a0_11) := hS_
  refine norm_ (a' := ?_) ?_ ?_
  rotate_left
  ·
   simp only [putAll, Act.put, List.setIfInBounds_toArray, List.set_cons_zero, List.set_cons_succ]
   rfl
  refine one_ (i := 11) (N := some 4) (bA 16 4095) rfl rfl (one_of HT_.out (by kernel_rfl)) (by decide) (fun K hK => ?_)
  refine box_step ?hg (N := 4) ?hd (cs := #[.int .i64 0, .int .i64 0, .int .i64 0, .int .i64 0, .int .i64 0, .int .i64 0]) (t := 27) ?hr ?_; (case hd => rfl); (case hg => rfl); (case hr => first | (go_simp; done) | (go_simp; rfl))
  intro gb196 hg w154 hbox hb
  have n0_ := aM19 (Kd.V_below (Kd.V_elderB (by (with_reducible repeat (first | apply Kd.V_alloc | apply Kd.V_drewN | apply Kd.V_drew)); exact HO194.out) gb196 (Nat.le_of_eq hg.symm)) hb)
  have n1_ := aM19 (blk_below (g := gb188) (o := .cells #[.int .i64 a0_0, .int .i64 a0_1, .int .i64 a0_2, .slice A0_3 l0_3.length c0_3, .int .i64 a0_4, .int .i64 a0_5, .int .i64 a0_6, .int .i64 a0_7, .int .i64 a0_8, .int .i64 a0_9, .int .i64 a0_10, .int .u8 a0_11] 36 (0, 0)) (by (with_reducible repeat (first | refine bN19 ?_ _ | refine bD19 ?_ | refine bK19 ?_ _)); exact BK188.out) hb)
  have n2_ := aM19 (blk_below (g := gb195) (o := .cells #[.int .i64 0, .int .i64 0, .int .i64 0, .slice none 0 0] 25 (0, 0)) (by (with_reducible repeat (first | refine bN19 ?_ _ | refine bD19 ?_ | refine bK19 ?_ _)); exact BK195.out) hb)
  have n3_ := aM19 (below_step (by repeat (first | (with_reducible first | exact HB.out | apply below_alloc | apply pw_below_drewN | apply below_drew1 | refine below_set ?_ GE188.out | refine below_set ?_ GE195.out) | exact HB.out)) hb)
  have n4_ := aM19 (hbox)
  have n5_ := aM19 ((by rw [hg]; exact (below_size (by repeat (first | (with_reducible first | exact HB.out | apply below_alloc | apply pw_below_drewN | apply below_drew1 | refine below_set ?_ GE188.out | refine below_set ?_ GE195.out) | exact HB.out))) : w.heap.size ≤ gb196))
  have n6_ := aM19 ((by rw [hg]; exact (below_size (by repeat (first | (with_reducible first | exact HB.out | apply below_alloc | apply pw_below_drewN | apply below_drew1 | refine below_set ?_ GE188.out | refine below_set ?_ GE195.out) | exact HB.out))) : w.heap.size ≤ gb196))
  have n7_ := aM19 ((by rw [hg]; exact Nat.ne_of_lt (blk_lt (g := gb188) (o := .cells #[.int .i64 a0_0, .int .i64 a0_1, .int .i64 a0_2, .slice A0_3 l0_3.length c0_3, .int .i64 a0_4, .int .i64 a0_5, .int .i64 a0_6, .int .i64 a0_7, .int .i64 a0_8, .int .i64 a0_9, .int .i64 a0_10, .int .u8 a0_11] 36 (0, 0)) (by (with_reducible repeat (first | refine bN19 ?_ _ | refine bD19 ?_ | refine bK19 ?_ _)); exact BK188.out)) : gb188 ≠ gb196))
  have n8_ := aM19 ((by rw [hg]; exact Nat.ne_of_gt (blk_lt (g := gb188) (o := .cells #[.int .i64 a0_0, .int .i64 a0_1, .int .i64 a0_2, .slice A0_3 l0_3.length c0_3, .int .i64 a0_4, .int .i64 a0_5, .int .i64 a0_6, .int .i64 a0_7, .int .i64 a0_8, .int .i64 a0_9, .int .i64 a0_10, .int .u8 a0_11] 36 (0, 0)) (by (with_reducible repeat (first | refine bN19 ?_ _ | refine bD19 ?_ | refine bK19 ?_ _)); exact BK188.out)) : gb196 ≠ gb188))
  have n9_ := aM19 ((by rw [hg]; exact Nat.ne_of_lt (blk_lt (g := gb195) (o := .cells #[.int .i64 0, .int .i64 0, .int .i64 0, .slice none 0 0] 25 (0, 0)) (by (with_reducible repeat (first | refine bN19 ?_ _ | refine bD19 ?_ | refine bK19 ?_ _)); exact BK195.out)) : gb195 ≠ gb196))
  have n10_ := aM19 ((by rw [hg]; exact Nat.ne_of_gt (blk_lt (g := gb195) (o := .cells #[.int .i64 0, .int .i64 0, .int .i64 0, .slice none 0 0] 25 (0, 0)) (by (with_reducible repeat (first | refine bN19 ?_ _ | refine bD19 ?_ | refine bK19 ?_ _)); exact BK195.out)) : gb196 ≠ gb195))
  clear HO194
  clear BK188
  clear BK195
  clear HB
  have HO194 := n0_
  have BK188 := n1_
  have BK195 := n2_
  have HB := n3_
  have BK196 := n4_
  have GW196 := n5_
  have GE196 := n6_
  have NB188_196 := n7_
  have NB196_188 := n8_
  have NB195_196 := n9_
  have NB196_195 := n10_
  clear n0_ n1_ n2_ n3_ n4_ n5_ n6_ n7_ n8_ n9_ n10_
  clear hb hbox hg
  refine hK.out _ _ ⟨(bC19 BK188.out 0).trans rfl, (bC19 BK188.out 1).trans rfl, (bC19 BK188.out 2).trans rfl, (bC19 BK188.out 3).trans rfl, (bC19 BK188.out 4).trans rfl, (bC19 BK188.out 5).trans rfl, (bC19 BK188.out 6).trans rfl, (bC19 BK188.out 7).trans rfl, (bC19 BK188.out 8).trans rfl, (bC19 BK188.out 9).trans rfl, (bC19 BK188.out 10).trans rfl, (bC19 BK188.out 11).trans rfl⟩ (fun hHeld => ?_)
  clear hK K
  refine norm_ (a' := ?_) ?_ ?_
  rotate_left
  ·
   show Act.put _ (some 4) _ = _
   simp only [Act.put, sA, sB, sC, i64_w, i32_w]
   rfl
  exact norm_ (by first | (simp only [putAll, Act.put, List.setIfInBounds_toArray, List.set_cons_zero, List.set_cons_succ]; done) | (simp only [putAll, Act.put, List.setIfInBounds_toArray, List.set_cons_zero, List.set_cons_succ]; rfl)) (hJ2_10_11 (v193, gb195, gb196) _ ⟨hHeld, (by (with_reducible repeat (first | apply Kd.V_alloc | apply Kd.V_drewN | apply Kd.V_drew)); exact Kd.V_mono HO194.out (fun _ hk => ⟨hk.1.1, ⟨hk.1.2, hk.2⟩⟩)), (by (with_reducible repeat (first | refine bN19 ?_ _ | refine bD19 ?_ | refine bK19 ?_ _)); exact BK188.out), (by (with_reducible repeat (first | refine bN19 ?_ _ | refine bD19 ?_ | refine bK19 ?_ _)); exact BK195.out), (by (with_reducible repeat (first | refine bN19 ?_ _ | refine bD19 ?_ | refine bK19 ?_ _)); exact BK196.out), GW195.out, GE195.out, NB188_195.out, NB195_188.out, NB196_195.out, NB195_196.out, GW196.out, GE196.out, NB188_196.out, NB196_188.out, (by repeat (first | (with_reducible first | exact HB.out | apply below_alloc | apply pw_below_drewN | apply below_drew1 | refine below_set ?_ GE188.out | refine below_set ?_ GE195.out | refine below_set ?_ GE196.out) | exact HB.out))⟩)
 rintro ⟨v193, gb195, gb196⟩ w154 ⟨hS_, h0_, h1_, h2_, h3_, h4_, h5_, h6_, h7_, h8_, h9_, h10_, h11_, h12_, h13_, h14_⟩
 have n0_ : Aside0 (Kd.V (Kd.int .u8) 5 w154 w.heap.size (fun k_ => k_ ≠ gb188 ∧ k_ ≠ gb195 ∧ k_ ≠ gb196) v193 t192) := ⟨h0_⟩
 have n1_ : Aside0 (w154.heap[gb188]? = some (.cells #[.int .i64 a0_0, .int .i64 a0_1, .int .i64 a0_2, .slice A0_3 l0_3.length c0_3, .int .i64 a0_4, .int .i64 a0_5, .int .i64 a0_6, .int .i64 a0_7, .int .i64 a0_8, .int .i64 a0_9, .int .i64 a0_10, .int .u8 a0_11] 36 (0, 0))) := ⟨h1_⟩
 have n2_ : Aside0 (w154.heap[gb195]? = some (.cells #[.int .i64 0, .int .i64 0, .int .i64 0, .slice none 0 0] 25 (0, 0))) := ⟨h2_⟩
 have n3_ : Aside0 (w154.heap[gb196]? = some (.cells #[.int .i64 0, .int .i64 0, .int .i64 0, .int .i64 0, .int .i64 0, .int .i64 0] 27 (0, 0))) := ⟨h3_⟩
 have n4_ : Aside0 (w.heap.size ≤ gb195) := ⟨h4_⟩
 have n5_ : Aside0 (w.heap.size ≤ gb195) := ⟨h5_⟩
 have n6_ : Aside0 (gb188 ≠ gb195) := ⟨h6_⟩
 have n7_ : Aside0 (gb195 ≠ gb188) := ⟨h7_⟩
 have n8_ : Aside0 (gb196 ≠ gb195) := ⟨h8_⟩
 have n9_ : Aside0 (gb195 ≠ gb196) := ⟨h9_⟩
 have n10_ : Aside0 (w.heap.size ≤ gb196) := ⟨h10_⟩
 have n11_ : Aside0 (w.heap.size ≤ gb196) := ⟨h11_⟩
 have n12_ : Aside0 (gb188 ≠ gb196) := ⟨h12_⟩
 have n13_ : Aside0 (gb196 ≠ gb188) := ⟨h13_⟩
 have n14_ : Aside0 (Below w.heap.size w w154) := ⟨h14_⟩
 clear BK188
 clear HB
 clear h0_ h1_ h2_ h3_ h4_ h5_ h6_ h7_ h8_ h9_ h10_ h11_ h12_ h13_ h14_
 have HO194 := n0_
 have BK188 := n1_
 have BK195 := n2_
 have BK196 := n3_
 have GW195 := n4_
 have GE195 := n5_
 have NB188_195 := n6_
 have NB195_188 := n7_
 have NB196_195 := n8_
 have NB195_196 := n9_
 have GW196 := n10_
 have GE196 := n11_
 have NB188_196 := n12_
 have NB196_188 := n13_
 have HB := n14_
 clear n0_ n1_ n2_ n3_ n4_ n5_ n6_ n7_ n8_ n9_ n10_ n11_ n12_ n13_ n14_
 have hHeld : w154.cell? ⟨gb188, 0, none⟩ = some (.int .i64 a0_0) ∧ w154.cell? ⟨gb188, 1, none⟩ = some (.int .i64 a0_1) ∧ w154.cell? ⟨gb188, 2, none⟩ = some (.int .i64 a0_2) ∧ w154.cell? ⟨gb188, 3, none⟩ = some (.slice A0_3 l0_3.length c0_3) ∧ w154.cell? ⟨gb188, 4, none⟩ = some (.int .i64 a0_4) ∧ w154.cell? ⟨gb188, 5, none⟩ = some (.int .i64 a0_5) ∧ w154.cell? ⟨gb188, 6, none⟩ = some (.int .i64 a0_6) ∧ w154.cell? ⟨gb188, 7, none⟩ = some (.int .i64 a0_7) ∧ w154.cell? ⟨gb188, 8, none⟩ = some (.int .i64 a0_8) ∧ w154.cell? ⟨gb188, 9, none⟩ = some (.int .i64 a0_9) ∧ w154.cell? ⟨gb188, 10, none⟩ = some (.int .i64 a0_10) ∧ w154.cell? ⟨gb188, 11, none⟩ = some (.int .u8 a0_11) := hS_
 obtain ⟨Ao158, co158, eo158⟩ := Kd.V_slice HO194.out
 (first | subst eo158 | (injection eo158 with f1_ f2_ f3_; have f4_ := f1_.symm; have f5_ := f3_.symm; clear f1_ f2_ f3_; subst f4_; subst f5_))
 refine norm_ (a' := ?_) ?_ ?_
 rotate_left
 ·
  simp only [putAll, Act.put, List.setIfInBounds_toArray, List.set_cons_zero, List.set_cons_succ]
  rfl
 refine one_ (i := 12) (N := none) (bA 16 8191) rfl rfl (one_of HT_.out (by kernel_rfl)) (by decide) (fun K hK => ?_)
 have hs155 : w154.cell? ⟨gb195, 0, none⟩ = some (.int .i64 0) := (bC19 BK195.out 0).trans rfl
 have hfs155 := bF19 BK195.out 0
 have hns155_0 := NB188_195.out
 have hns155_2 := NB196_195.out
 have hms155_0 := NB195_188.out
 have hms155_2 := NB195_196.out
 have hs156 : w154.cell? ⟨gb195, 1, none⟩ = some (.int .i64 0) := (bC19 BK195.out 1).trans rfl
 have hfs156 := bF19 BK195.out 1
 have hns156_0 := NB188_195.out
 have hns156_2 := NB196_195.out
 have hms156_0 := NB195_188.out
 have hms156_2 := NB195_196.out
 have hs157 : w154.cell? ⟨gb195, 2, none⟩ = some (.int .i64 0) := (bC19 BK195.out 2).trans rfl
 have hfs157 := bF19 BK195.out 2
 have hns157_0 := NB188_195.out
 have hns157_2 := NB196_195.out
 have hms157_0 := NB195_188.out
 have hms157_2 := NB195_196.out
 have hs159 : w154.cell? ⟨gb195, 3, none⟩ = some (.slice none 0 0) := (bC19 BK195.out 3).trans rfl
 have hfs159 := bF19 BK195.out 3
 have hns159_0 := NB188_195.out
 have hns159_2 := NB196_195.out
 have hms159_0 := NB195_188.out
 have hms159_2 := NB195_196.out
 refine skip_ (w1 := ?_) (by rfl) rfl ?_ ?_
 rotate_left
 ·
  go_simp
  rfl
 refine hK.out _ _ ⟨((cell_far (p := ⟨gb195, _, none⟩) NB188_195.out _).trans (((cell_far (p := ⟨gb195, _, none⟩) NB188_195.out _).trans (((cell_far (p := ⟨gb195, _, none⟩) NB188_195.out _).trans (((cell_far (p := ⟨gb195, _, none⟩) NB188_195.out _).trans (hHeld.1)))))))), ((cell_far (p := ⟨gb195, _, none⟩) NB188_195.out _).trans (((cell_far (p := ⟨gb195, _, none⟩) NB188_195.out _).trans (((cell_far (p := ⟨gb195, _, none⟩) NB188_195.out _).trans (((cell_far (p := ⟨gb195, _, none⟩) NB188_195.out _).trans (hHeld.2.1)))))))), ((cell_far (p := ⟨gb195, _, none⟩) NB188_195.out _).trans (((cell_far (p := ⟨gb195, _, none⟩) NB188_195.out _).trans (((cell_far (p := ⟨gb195, _, none⟩) NB188_195.out _).trans (((cell_far (p := ⟨gb195, _, none⟩) NB188_195.out _).trans (hHeld.2.2.1)))))))), ((cell_far (p := ⟨gb195, _, none⟩) NB188_195.out _).trans (((cell_far (p := ⟨gb195, _, none⟩) NB188_195.out _).trans (((cell_far (p := ⟨gb195, _, none⟩) NB188_195.out _).trans (((cell_far (p := ⟨gb195, _, none⟩) NB188_195.out _).trans (hHeld.2.2.2.1)))))))), ((cell_far (p := ⟨gb195, _, none⟩) NB188_195.out _).trans (((cell_far (p := ⟨gb195, _, none⟩) NB188_195.out _).trans (((cell_far (p := ⟨gb195, _, none⟩) NB188_195.out _).trans (((cell_far (p := ⟨gb195, _, none⟩) NB188_195.out _).trans (hHeld.2.2.2.2.1)))))))), ((cell_far (p := ⟨gb195, _, none⟩) NB188_195.out _).trans (((cell_far (p := ⟨gb195, _, none⟩) NB188_195.out _).trans (((cell_far (p := ⟨gb195, _, none⟩) NB188_195.out _).trans (((cell_far (p := ⟨gb195, _, none⟩) NB188_195.out _).trans (hHeld.2.2.2.2.2.1)))))))), ((cell_far (p := ⟨gb195, _, none⟩) NB188_195.out _).trans (((cell_far (p := ⟨gb195, _, none⟩) NB188_195.out _).trans (((cell_far (p := ⟨gb195, _, none⟩) NB188_195.out _).trans (((cell_far (p := ⟨gb195, _, none⟩) NB188_195.out _).trans (hHeld.2.2.2.2.2.2.1)))))))), ((cell_far (p := ⟨gb195, _, none⟩) NB188_195.out _).trans (((cell_far (p := ⟨gb195, _, none⟩) NB188_195.out _).trans (((cell_far (p := ⟨gb195, _, none⟩) NB188_195.out _).trans (((cell_far (p := ⟨gb195, _, none⟩) NB188_195.out _).trans (hHeld.2.2.2.2.2.2.2.1)))))))), ((cell_far (p := ⟨gb195, _, none⟩) NB188_195.out _).trans (((cell_far (p := ⟨gb195, _, none⟩) NB188_195.out _).trans (((cell_far (p := ⟨gb195, _, none⟩) NB188_195.out _).trans (((cell_far (p := ⟨gb195, _, none⟩) NB188_195.out _).trans (hHeld.2.2.2.2.2.2.2.2.1)))))))), ((cell_far (p := ⟨gb195, _, none⟩) NB188_195.out _).trans (((cell_far (p := ⟨gb195, _, none⟩) NB188_195.out _).trans (((cell_far (p := ⟨gb195, _, none⟩) NB188_195.out _).trans (((cell_far (p := ⟨gb195, _, none⟩) NB188_195.out _).trans (hHeld.2.2.2.2.2.2.2.2.2.1)))))))), ((cell_far (p := ⟨gb195, _, none⟩) NB188_195.out _).trans (((cell_far (p := ⟨gb195, _, none⟩) NB188_195.out _).trans (((cell_far (p := ⟨gb195, _, none⟩) NB188_195.out _).trans (((cell_far (p := ⟨gb195, _, none⟩) NB188_195.out _).trans (hHeld.2.2.2.2.2.2.2.2.2.2.1)))))))), ((cell_far (p := ⟨gb195, _, none⟩) NB188_195.out _).trans (((cell_far (p := ⟨gb195, _, none⟩) NB188_195.out _).trans (((cell_far (p := ⟨gb195, _, none⟩) NB188_195.out _).trans (((cell_far (p := ⟨gb195, _, none⟩) NB188_195.out _).trans (hHeld.2.2.2.2.2.2.2.2.2.2.2))))))))⟩ (fun hHeld => ?_)
 clear hK K
 refine one_ (i := 13) (N := none) (bA 16 16383) rfl rfl (one_of HT_.out (by kernel_rfl)) (by decide) (fun K hK => ?_)
 have hs160 : w154.cell? ⟨gb196, 0, none⟩ = some (.int .i64 0) := (bC19 BK196.out 0).trans rfl
 have hfs160 := bF19 BK196.out 0
 have hns160_0 := NB188_196.out
 have hns160_1 := NB195_196.out
 have hms160_0 := NB196_188.out
 have hms160_1 := NB196_195.out
 have hs161 : w154.cell? ⟨gb196, 1, none⟩ = some (.int .i64 0) := (bC19 BK196.out 1).trans rfl
 have hfs161 := bF19 BK196.out 1
 have hns161_0 := NB188_196.out
 have hns161_1 := NB195_196.out
 have hms161_0 := NB196_188.out
 have hms161_1 := NB196_195.out
 have hs162 : w154.cell? ⟨gb196, 2, none⟩ = some (.int .i64 0) := (bC19 BK196.out 2).trans rfl
 have hfs162 := bF19 BK196.out 2
 have hns162_0 := NB188_196.out
 have hns162_1 := NB195_196.out
 have hms162_0 := NB196_188.out
 have hms162_1 := NB196_195.out
 have hs163 : w154.cell? ⟨gb196, 3, none⟩ = some (.int .i64 0) := (bC19 BK196.out 3).trans rfl
 have hfs163 := bF19 BK196.out 3
 have hns163_0 := NB188_196.out
 have hns163_1 := NB195_196.out
 have hms163_0 := NB196_188.out
 have hms163_1 := NB196_195.out
 have hs164 : w154.cell? ⟨gb196, 4, none⟩ = some (.int .i64 0) := (bC19 BK196.out 4).trans rfl
 have hfs164 := bF19 BK196.out 4
 have hns164_0 := NB188_196.out
 have hns164_1 := NB195_196.out
 have hms164_0 := NB196_188.out
 have hms164_1 := NB196_195.out
 have hs165 : w154.cell? ⟨gb196, 5, none⟩ = some (.int .i64 0) := (bC19 BK196.out 5).trans rfl
 have hfs165 := bF19 BK196.out 5
 have hns165_0 := NB188_196.out
 have hns165_1 := NB195_196.out
 have hms165_0 := NB196_188.out
 have hms165_1 := NB196_195.out
 refine skip_ (w1 := ?_) (by rfl) rfl ?_ ?_
 rotate_left
 ·
  go_simp
  rfl
 refine hK.out _ _ ⟨((cell_far (p := ⟨gb196, _, none⟩) NB188_196.out _).trans (((cell_far (p := ⟨gb196, _, none⟩) NB188_196.out _).trans (((cell_far (p := ⟨gb196, _, none⟩) NB188_196.out _).trans (((cell_far (p := ⟨gb196, _, none⟩) NB188_196.out _).trans (((cell_far (p := ⟨gb196, _, none⟩) NB188_196.out _).trans (((cell_far (p := ⟨gb196, _, none⟩) NB188_196.out _).trans (hHeld.1)))))))))))), ((cell_far (p := ⟨gb196, _, none⟩) NB188_196.out _).trans (((cell_far (p := ⟨gb196, _, none⟩) NB188_196.out _).trans (((cell_far (p := ⟨gb196, _, none⟩) NB188_196.out _).trans (((cell_far (p := ⟨gb196, _, none⟩) NB188_196.out _).trans (((cell_far (p := ⟨gb196, _, none⟩) NB188_196.out _).trans (((cell_far (p := ⟨gb196, _, none⟩) NB188_196.out _).trans (hHeld.2.1)))))))))))), ((cell_far (p := ⟨gb196, _, none⟩) NB188_196.out _).trans (((cell_far (p := ⟨gb196, _, none⟩) NB188_196.out _).trans (((cell_far (p := ⟨gb196, _, none⟩) NB188_196.out _).trans (((cell_far (p := ⟨gb196, _, none⟩) NB188_196.out _).trans (((cell_far (p := ⟨gb196, _, none⟩) NB188_196.out _).trans (((cell_far (p := ⟨gb196, _, none⟩) NB188_196.out _).trans (hHeld.2.2.1)))))))))))), ((cell_far (p := ⟨gb196, _, none⟩) NB188_196.out _).trans (((cell_far (p := ⟨gb196, _, none⟩) NB188_196.out _).trans (((cell_far (p := ⟨gb196, _, none⟩) NB188_196.out _).trans (((cell_far (p := ⟨gb196, _, none⟩) NB188_196.out _).trans (((cell_far (p := ⟨gb196, _, none⟩) NB188_196.out _).trans (((cell_far (p := ⟨gb196, _, none⟩) NB188_196.out _).trans (hHeld.2.2.2.1)))))))))))), ((cell_far (p := ⟨gb196, _, none⟩) NB188_196.out _).trans (((cell_far (p := ⟨gb196, _, none⟩) NB188_196.out _).trans (((cell_far (p := ⟨gb196, _, none⟩) NB188_196.out _).trans (((cell_far (p := ⟨gb196, _, none⟩) NB188_196.out _).trans (((cell_far (p := ⟨gb196, _, none⟩) NB188_196.out _).trans (((cell_far (p := ⟨gb196, _, none⟩) NB188_196.out _).trans (hHeld.2.2.2.2.1)))))))))))), ((cell_far (p := ⟨gb196, _, none⟩) NB188_196.out _).trans (((cell_far (p := ⟨gb196, _, none⟩) NB188_196.out _).trans (((cell_far (p := ⟨gb196, _, none⟩) NB188_196.out _).trans (((cell_far (p := ⟨gb196, _, none⟩) NB188_196.out _).trans (((cell_far (p := ⟨gb196, _, none⟩) NB188_196.out _).trans (((cell_far (p := ⟨gb196, _, none⟩) NB188_196.out _).trans (hHeld.2.2.2.2.2.1)))))))))))), ((cell_far (p := ⟨gb196, _, none⟩) NB188_196.out _).trans (((cell_far (p := ⟨gb196, _, none⟩) NB188_196.out _).trans (((cell_far (p := ⟨gb196, _, none⟩) NB188_196.out _).trans (((cell_far (p := ⟨gb196, _, none⟩) NB188_196.out _).trans (((cell_far (p := ⟨gb196, _, none⟩) NB188_196.out _).trans (((cell_far (p := ⟨gb196, _, none⟩) NB188_196.out _).trans (hHeld.2.2.2.2.2.2.1)))))))))))), ((cell_far (p := ⟨gb196, _, none⟩) NB188_196.out _).trans (((cell_far (p := ⟨gb196, _, none⟩) NB188_196.out _).trans (((cell_far (p := ⟨gb196, _, none⟩) NB188_196.out _).trans (((cell_far (p := ⟨gb196, _, none⟩) NB188_196.out _).trans (((cell_far (p := ⟨gb196, _, none⟩) NB188_196.out _).trans (((cell_far (p := ⟨gb196, _, none⟩) NB188_196.out _).trans (hHeld.2.2.2.2.2.2.2.1)))))))))))), ((cell_far (p := ⟨gb196, _, none⟩) NB188_196.out _).trans (((cell_far (p := ⟨gb196, _, none⟩) NB188_196.out _).trans (((cell_far (p := ⟨gb196, _, none⟩) NB188_196.out _).trans (((cell_far (p := ⟨gb196, _, none⟩) NB188_196.out _).trans (((cell_far (p := ⟨gb196, _, none⟩) NB188_196.out _).trans (((cell_far (p := ⟨gb196, _, none⟩) NB188_196.out _).trans (hHeld.2.2.2.2.2.2.2.2.1)))))))))))), ((cell_far (p := ⟨gb196, _, none⟩) NB188_196.out _).trans (((cell_far (p := ⟨gb196, _, none⟩) NB188_196.out _).trans (((cell_far (p := ⟨gb196, _, none⟩) NB188_196.out _).trans (((cell_far (p := ⟨gb196, _, none⟩) NB188_196.out _).trans (((cell_far (p := ⟨gb196, _, none⟩) NB188_196.out _).trans (((cell_far (p := ⟨gb196, _, none⟩) NB188_196.out _).trans (hHeld.2.2.2.2.2.2.2.2.2.1)))))))))))), ((cell_far (p := ⟨gb196, _, none⟩) NB188_196.out _).trans (((cell_far (p := ⟨gb196, _, none⟩) NB188_196.out _).trans (((cell_far (p := ⟨gb196, _, none⟩) NB188_196.out _).trans (((cell_far (p := ⟨gb196, _, none⟩) NB188_196.out _).trans (((cell_far (p := ⟨gb196, _, none⟩) NB188_196.out _).trans (((cell_far (p := ⟨gb196, _, none⟩) NB188_196.out _).trans (hHeld.2.2.2.2.2.2.2.2.2.2.1)))))))))))), ((cell_far (p := ⟨gb196, _, none⟩) NB188_196.out _).trans (((cell_far (p := ⟨gb196, _, none⟩) NB188_196.out _).trans (((cell_far (p := ⟨gb196, _, none⟩) NB188_196.out _).trans (((cell_far (p := ⟨gb196, _, none⟩) NB188_196.out _).trans (((cell_far (p := ⟨gb196, _, none⟩) NB188_196.out _).trans (((cell_far (p := ⟨gb196, _, none⟩) NB188_196.out _).trans (hHeld.2.2.2.2.2.2.2.2.2.2.2))))))))))))⟩ (fun hHeld => ?_)
 clear hK K
 refine pure_ (i := 14) (N := some 5) (v := ?_) (a' := ?_) (bA 16 32767) rfl rfl (any_of HT_.out (by kernel_rfl)) (fun _ _ _ h => h) (Or.inl ⟨by rfl, ?_⟩) ?_ ?_
 rotate_left
 ·
  intro w'
  go_simp
  with_reducible rfl
 rotate_left
 ·
  simp only [Act.put, sA, sB, sC, i64_w, i32_w]
  rfl
 refine pure_ (i := 15) (N := some 6) (v := ?_) (a' := ?_) (bA 16 65535) rfl rfl (any_of HT_.out (by kernel_rfl)) (fun _ _ _ h => h) (Or.inl ⟨by rfl, ?_⟩) ?_ ?_
 rotate_left
 ·
  intro w'
  go_simp
  with_reducible rfl
 rotate_left
 ·
  simp only [Act.put, sA, sB, sC, i64_w, i32_w]
  rfl
 refine done_ (done_of HT_.out (by kernel_rfl)) ?_
 have hnb166 := NB195_188.out
 have hnc166 := NB188_195.out
 have hnb167 := NB195_196.out
 have hnc167 := NB196_195.out
 have hcz168_0 : w154.cell? ⟨gb195, 0, none⟩ = some (.int .i64 0) := (bC19 BK195.out 0).trans rfl
 have hcz168_1 : w154.cell? ⟨gb195, 1, none⟩ = some (.int .i64 0) := (bC19 BK195.out 1).trans rfl
 have hcz168_2 : w154.cell? ⟨gb195, 2, none⟩ = some (.int .i64 0) := (bC19 BK195.out 2).trans rfl
 have hcz168_3 : w154.cell? ⟨gb195, 3, none⟩ = some (.slice none 0 0) := (bC19 BK195.out 3).trans rfl
 have hfz168_0 := bF19 BK195.out 0
 have hfz168_1 := bF19 BK195.out 1
 have hfz168_2 := bF19 BK195.out 2
 have hfz168_3 := bF19 BK195.out 3
 try go_wp2_with (first | ((with_reducible refine gate_callee (f := 20) rfl ?_); refine goesL_ (some 22) rfl rfl Try.func20 (by kernel_rfl) rfl #[.agg #[.int .i64 t189, .int .i64 t190, .int .i64 t191, .slice Ao158 t192.length co158]] rfl (by (try simp only [List.map_toArray, List.map_cons, List.map_nil]); first | done | rfl | (simp only [List.length_drop, List.length_take]; rfl)) ?_; (with_reducible refine (bivouacref06_Check.calls k t189 t190 t191 _ _ t192 t197 _ ?side1 ?side2 A3.out).mono ?_); (case side1 => refine (Kd.V_reads' (e := 5) (base := w.heap.size) (ok := fun k_ => (k_ ≠ gb188 ∧ (k_ ≠ gb195 ∧ k_ ≠ gb196))) (n := t192.length) (c := co158) ?_).2.2; exact (by (with_reducible repeat (first | apply Kd.V_alloc | apply Kd.V_drewN | apply Kd.V_drew)); exact (Kd.V_mono (Kd.V_mono (Kd.V_far (p := ⟨gb196, 5, none⟩) (Kd.V_far (p := ⟨gb196, 4, none⟩) (Kd.V_far (p := ⟨gb196, 3, none⟩) (Kd.V_far (p := ⟨gb196, 2, none⟩) (Kd.V_far (p := ⟨gb196, 1, none⟩) (Kd.V_far (p := ⟨gb196, 0, none⟩) (Kd.V_far (p := ⟨gb195, 3, none⟩) (Kd.V_far (p := ⟨gb195, 2, none⟩) (Kd.V_far (p := ⟨gb195, 1, none⟩) (Kd.V_far (p := ⟨gb195, 0, none⟩) (Kd.V_mono (Kd.V_mono HO194.out (fun k_ hk => (⟨hk, hk.2.1⟩ : _ ∧ k_ ≠ gb195))) (fun k_ hk => (⟨hk, hk.1.2.2⟩ : _ ∧ k_ ≠ gb196))) (fun _ hk => hk.1.2) (.int .i64 t189)) (fun _ hk => hk.1.2) (.int .i64 t190)) (fun _ hk => hk.1.2) (.int .i64 t191)) (fun _ hk => hk.1.2) (.slice Ao158 t192.length co158)) (fun _ hk => hk.2) (.int .i64 a0_4)) (fun _ hk => hk.2) (.int .i64 a0_5)) (fun _ hk => hk.2) (.int .i64 a0_6)) (fun _ hk => hk.2) (.int .i64 a0_7)) (fun _ hk => hk.2) (.int .i64 a0_8)) (fun _ hk => hk.2) (.int .i64 a0_9)) (fun _ h_ => h_.1)) (fun _ h_ => h_.1)))); (case side2 => exact (Kd.V_reads' HO194.out).2.1); rintro e w169 ⟨rfl, hb⟩; refine ⟨_, rfl, ?_⟩; have n0_ := aM19 (Kd.V_below (by (with_reducible repeat (first | apply Kd.V_alloc | apply Kd.V_drewN | apply Kd.V_drew)); exact (Kd.V_mono (Kd.V_mono (Kd.V_far (p := ⟨gb196, 5, none⟩) (Kd.V_far (p := ⟨gb196, 4, none⟩) (Kd.V_far (p := ⟨gb196, 3, none⟩) (Kd.V_far (p := ⟨gb196, 2, none⟩) (Kd.V_far (p := ⟨gb196, 1, none⟩) (Kd.V_far (p := ⟨gb196, 0, none⟩) (Kd.V_far (p := ⟨gb195, 3, none⟩) (Kd.V_far (p := ⟨gb195, 2, none⟩) (Kd.V_far (p := ⟨gb195, 1, none⟩) (Kd.V_far (p := ⟨gb195, 0, none⟩) (Kd.V_mono (Kd.V_mono HO194.out (fun k_ hk => (⟨hk, hk.2.1⟩ : _ ∧ k_ ≠ gb195))) (fun k_ hk => (⟨hk, hk.1.2.2⟩ : _ ∧ k_ ≠ gb196))) (fun _ hk => hk.1.2) (.int .i64 t189)) (fun _ hk => hk.1.2) (.int .i64 t190)) (fun _ hk => hk.1.2) (.int .i64 t191)) (fun _ hk => hk.1.2) (.slice Ao158 t192.length co158)) (fun _ hk => hk.2) (.int .i64 a0_4)) (fun _ hk => hk.2) (.int .i64 a0_5)) (fun _ hk => hk.2) (.int .i64 a0_6)) (fun _ hk => hk.2) (.int .i64 a0_7)) (fun _ hk => hk.2) (.int .i64 a0_8)) (fun _ hk => hk.2) (.int .i64 a0_9)) (fun _ h_ => h_.1)) (fun _ h_ => h_.1))) hb); have n1_ := aM19 (blk_below (g := gb188) (o := .cells #[.int .i64 a0_0, .int .i64 a0_1, .int .i64 a0_2, .slice A0_3 l0_3.length c0_3, .int .i64 a0_4, .int .i64 a0_5, .int .i64 a0_6, .int .i64 a0_7, .int .i64 a0_8, .int .i64 a0_9, .int .i64 a0_10, .int .u8 a0_11] 36 (0, 0)) (by (with_reducible repeat (first | refine bN19 ?_ _ | refine bD19 ?_ | refine bK19 ?_ _)); refine blk_far ?_ NB188_196.out _; (with_reducible repeat (first | refine bN19 ?_ _ | refine bD19 ?_ | refine bK19 ?_ _)); refine blk_far ?_ NB188_196.out _; (with_reducible repeat (first | refine bN19 ?_ _ | refine bD19 ?_ | refine bK19 ?_ _)); refine blk_far ?_ NB188_196.out _; (with_reducible repeat (first | refine bN19 ?_ _ | refine bD19 ?_ | refine bK19 ?_ _)); refine blk_far ?_ NB188_196.out _; (with_reducible repeat (first | refine bN19 ?_ _ | refine bD19 ?_ | refine bK19 ?_ _)); refine blk_far ?_ NB188_196.out _; (with_reducible repeat (first | refine bN19 ?_ _ | refine bD19 ?_ | refine bK19 ?_ _)); refine blk_far ?_ NB188_196.out _; (with_reducible repeat (first | refine bN19 ?_ _ | refine bD19 ?_ | refine bK19 ?_ _)); refine blk_far ?_ NB188_195.out _; (with_reducible repeat (first | refine bN19 ?_ _ | refine bD19 ?_ | refine bK19 ?_ _)); refine blk_far ?_ NB188_195.out _; (with_reducible repeat (first | refine bN19 ?_ _ | refine bD19 ?_ | refine bK19 ?_ _)); refine blk_far ?_ NB188_195.out _; (with_reducible repeat (first | refine bN19 ?_ _ | refine bD19 ?_ | refine bK19 ?_ _)); refine blk_far ?_ NB188_195.out _; (with_reducible repeat (first | refine bN19 ?_ _ | refine bD19 ?_ | refine bK19 ?_ _)); exact BK188.out) hb); have n2_ := aM19 (blk_below (g := gb195) (o := .cells #[.int .i64 t189, .int .i64 t190, .int .i64 t191, .slice Ao158 t192.length co158] 25 (0, 0)) (by (with_reducible repeat (first | refine bN19 ?_ _ | refine bD19 ?_ | refine bK19 ?_ _)); refine blk_far ?_ NB195_196.out _; (with_reducible repeat (first | refine bN19 ?_ _ | refine bD19 ?_ | refine bK19 ?_ _)); refine blk_far ?_ NB195_196.out _; (with_reducible repeat (first | refine bN19 ?_ _ | refine bD19 ?_ | refine bK19 ?_ _)); refine blk_far ?_ NB195_196.out _; (with_reducible repeat (first | refine bN19 ?_ _ | refine bD19 ?_ | refine bK19 ?_ _)); refine blk_far ?_ NB195_196.out _; (with_reducible repeat (first | refine bN19 ?_ _ | refine bD19 ?_ | refine bK19 ?_ _)); refine blk_far ?_ NB195_196.out _; (with_reducible repeat (first | refine bN19 ?_ _ | refine bD19 ?_ | refine bK19 ?_ _)); refine blk_far ?_ NB195_196.out _; (with_reducible repeat (first | refine bN19 ?_ _ | refine bD19 ?_ | refine bK19 ?_ _)); refine blk_put (cs := #[.int .i64 t189, .int .i64 t190, .int .i64 t191, .slice none 0 0]) ?_ 3 _ rfl; (with_reducible repeat (first | refine bN19 ?_ _ | refine bD19 ?_ | refine bK19 ?_ _)); refine blk_put (cs := #[.int .i64 t189, .int .i64 t190, .int .i64 0, .slice none 0 0]) ?_ 2 _ rfl; (with_reducible repeat (first | refine bN19 ?_ _ | refine bD19 ?_ | refine bK19 ?_ _)); refine blk_put (cs := #[.int .i64 t189, .int .i64 0, .int .i64 0, .slice none 0 0]) ?_ 1 _ rfl; (with_reducible repeat (first | refine bN19 ?_ _ | refine bD19 ?_ | refine bK19 ?_ _)); refine blk_put (cs := #[.int .i64 0, .int .i64 0, .int .i64 0, .slice none 0 0]) ?_ 0 _ rfl; (with_reducible repeat (first | refine bN19 ?_ _ | refine bD19 ?_ | refine bK19 ?_ _)); exact BK195.out) hb); have n3_ := aM19 (blk_below (g := gb196) (o := .cells #[.int .i64 a0_4, .int .i64 a0_5, .int .i64 a0_6, .int .i64 a0_7, .int .i64 a0_8, .int .i64 a0_9] 27 (0, 0)) (by (with_reducible repeat (first | refine bN19 ?_ _ | refine bD19 ?_ | refine bK19 ?_ _)); refine blk_put (cs := #[.int .i64 a0_4, .int .i64 a0_5, .int .i64 a0_6, .int .i64 a0_7, .int .i64 a0_8, .int .i64 0]) ?_ 5 _ rfl; (with_reducible repeat (first | refine bN19 ?_ _ | refine bD19 ?_ | refine bK19 ?_ _)); refine blk_put (cs := #[.int .i64 a0_4, .int .i64 a0_5, .int .i64 a0_6, .int .i64 a0_7, .int .i64 0, .int .i64 0]) ?_ 4 _ rfl; (with_reducible repeat (first | refine bN19 ?_ _ | refine bD19 ?_ | refine bK19 ?_ _)); refine blk_put (cs := #[.int .i64 a0_4, .int .i64 a0_5, .int .i64 a0_6, .int .i64 0, .int .i64 0, .int .i64 0]) ?_ 3 _ rfl; (with_reducible repeat (first | refine bN19 ?_ _ | refine bD19 ?_ | refine bK19 ?_ _)); refine blk_put (cs := #[.int .i64 a0_4, .int .i64 a0_5, .int .i64 0, .int .i64 0, .int .i64 0, .int .i64 0]) ?_ 2 _ rfl; (with_reducible repeat (first | refine bN19 ?_ _ | refine bD19 ?_ | refine bK19 ?_ _)); refine blk_put (cs := #[.int .i64 a0_4, .int .i64 0, .int .i64 0, .int .i64 0, .int .i64 0, .int .i64 0]) ?_ 1 _ rfl; (with_reducible repeat (first | refine bN19 ?_ _ | refine bD19 ?_ | refine bK19 ?_ _)); refine blk_put (cs := #[.int .i64 0, .int .i64 0, .int .i64 0, .int .i64 0, .int .i64 0, .int .i64 0]) ?_ 0 _ rfl; (with_reducible repeat (first | refine bN19 ?_ _ | refine bD19 ?_ | refine bK19 ?_ _)); refine blk_far ?_ NB196_195.out _; (with_reducible repeat (first | refine bN19 ?_ _ | refine bD19 ?_ | refine bK19 ?_ _)); refine blk_far ?_ NB196_195.out _; (with_reducible repeat (first | refine bN19 ?_ _ | refine bD19 ?_ | refine bK19 ?_ _)); refine blk_far ?_ NB196_195.out _; (with_reducible repeat (first | refine bN19 ?_ _ | refine bD19 ?_ | refine bK19 ?_ _)); refine blk_far ?_ NB196_195.out _; (with_reducible repeat (first | refine bN19 ?_ _ | refine bD19 ?_ | refine bK19 ?_ _)); exact BK196.out) hb); have n4_ := aM19 (below_step (by repeat (first | (with_reducible first | exact HB.out | apply below_alloc | apply pw_below_drewN | apply below_drew1 | refine below_set ?_ GE188.out | refine below_set ?_ GE195.out | refine below_set ?_ GE196.out) | exact HB.out)) hb); clear HO194; clear BK188; clear BK195; clear BK196; clear HB; have HO194 := n0_; have BK188 := n1_; have BK195 := n2_; have BK196 := n3_; have HB := n4_; clear n0_ n1_ n2_ n3_ n4_; (try clear hb); (try clear hb2); (try clear hk); (try clear hi); have hcz170_0 : w169.cell? ⟨gb195, 0, none⟩ = some (.int .i64 t189) := (bC19 BK195.out 0).trans rfl; have hcz170_1 : w169.cell? ⟨gb195, 1, none⟩ = some (.int .i64 t190) := (bC19 BK195.out 1).trans rfl; have hcz170_2 : w169.cell? ⟨gb195, 2, none⟩ = some (.int .i64 t191) := (bC19 BK195.out 2).trans rfl; have hcz170_3 : w169.cell? ⟨gb195, 3, none⟩ = some (.slice Ao158 t192.length co158) := (bC19 BK195.out 3).trans rfl; have hfz170_0 := bF19 BK195.out 0; have hfz170_1 := bF19 BK195.out 1; have hfz170_2 := bF19 BK195.out 2; have hfz170_3 := bF19 BK195.out 3; have hnb171 := NB196_188.out; have hnc171 := NB188_196.out; have hcz172_0 : w169.cell? ⟨gb196, 0, none⟩ = some (.int .i64 a0_4) := (bC19 BK196.out 0).trans rfl; have hcz172_1 : w169.cell? ⟨gb196, 1, none⟩ = some (.int .i64 a0_5) := (bC19 BK196.out 1).trans rfl; have hcz172_2 : w169.cell? ⟨gb196, 2, none⟩ = some (.int .i64 a0_6) := (bC19 BK196.out 2).trans rfl; have hcz172_3 : w169.cell? ⟨gb196, 3, none⟩ = some (.int .i64 a0_7) := (bC19 BK196.out 3).trans rfl; have hcz172_4 : w169.cell? ⟨gb196, 4, none⟩ = some (.int .i64 a0_8) := (bC19 BK196.out 4).trans rfl; have hcz172_5 : w169.cell? ⟨gb196, 5, none⟩ = some (.int .i64 a0_9) := (bC19 BK196.out 5).trans rfl; have hfz172_0 := bF19 BK196.out 0; have hfz172_1 := bF19 BK196.out 1; have hfz172_2 := bF19 BK196.out 2; have hfz172_3 := bF19 BK196.out 3; have hfz172_4 := bF19 BK196.out 4; have hfz172_5 := bF19 BK196.out 5) | ((with_reducible refine gate_callee (f := 17) rfl ?_); refine goesL_ (some 30) rfl rfl Try.func17 (by kernel_rfl) rfl #[.agg #[.int .i64 t189, .int .i64 t190, .int .i64 t191, .slice Ao158 t192.length co158], .agg #[.int .i64 a0_4, .int .i64 a0_5, .int .i64 a0_6, .int .i64 a0_7, .int .i64 a0_8, .int .i64 a0_9], .int .i64 ((a0_10) % 256)] rfl (by (try simp only [List.map_toArray, List.map_cons, List.map_nil]); first | done | rfl | (simp only [List.length_drop, List.length_take]; rfl)) ?_; (with_reducible refine (shot_Fly.calls k t189 t190 t191 _ _ t192 a0_4 a0_5 a0_6 a0_7 a0_8 a0_9 ((a0_10) % 256) t199 t200 t201 t202 t203 t204 t205 t206 t207 _ ?side1 ?side2 A5.out).mono ?_); (case side1 => repeat (first | exact (Kd.V_reads' HO194.out).2.2 | (with_reducible refine Kd.C_alloc ?_ _) | (with_reducible refine Kd.C_drewN ?_ _) | (with_reducible refine Kd.C_drew ?_))); (case side2 => exact (Kd.V_reads' HO194.out).2.1); rintro e w173 ⟨rfl, hb⟩; refine ⟨_, rfl, ?_⟩; have n0_ := aM19 (Kd.V_below (by (with_reducible repeat (first | apply Kd.V_alloc | apply Kd.V_drewN | apply Kd.V_drew)); exact HO194.out) hb); have n1_ := aM19 (blk_below (g := gb188) (o := .cells #[.int .i64 a0_0, .int .i64 a0_1, .int .i64 a0_2, .slice A0_3 l0_3.length c0_3, .int .i64 a0_4, .int .i64 a0_5, .int .i64 a0_6, .int .i64 a0_7, .int .i64 a0_8, .int .i64 a0_9, .int .i64 a0_10, .int .u8 a0_11] 36 (0, 0)) (by (with_reducible repeat (first | refine bN19 ?_ _ | refine bD19 ?_ | refine bK19 ?_ _)); exact BK188.out) hb); have n2_ := aM19 (blk_below (g := gb195) (o := .cells #[.int .i64 t189, .int .i64 t190, .int .i64 t191, .slice Ao158 t192.length co158] 25 (0, 0)) (by (with_reducible repeat (first | refine bN19 ?_ _ | refine bD19 ?_ | refine bK19 ?_ _)); exact BK195.out) hb); have n3_ := aM19 (blk_below (g := gb196) (o := .cells #[.int .i64 a0_4, .int .i64 a0_5, .int .i64 a0_6, .int .i64 a0_7, .int .i64 a0_8, .int .i64 a0_9] 27 (0, 0)) (by (with_reducible repeat (first | refine bN19 ?_ _ | refine bD19 ?_ | refine bK19 ?_ _)); exact BK196.out) hb); have n4_ := aM19 (below_step (by repeat (first | (with_reducible first | exact HB.out | apply below_alloc | apply pw_below_drewN | apply below_drew1 | refine below_set ?_ GE188.out | refine below_set ?_ GE195.out | refine below_set ?_ GE196.out) | exact HB.out)) hb); clear HO194; clear BK188; clear BK195; clear BK196; clear HB; have HO194 := n0_; have BK188 := n1_; have BK195 := n2_; have BK196 := n3_; have HB := n4_; clear n0_ n1_ n2_ n3_ n4_; (try clear hb); (try clear hb2); (try clear hk); (try clear hi)) | ((with_reducible refine gate_dst (N := 7) rfl ?_); refine box_event ?hg (N := 7) ?hd (cs := #[.int .i64 0, .int .i64 0, .int .i64 0, .int .i64 0, .int .i64 0, .int .i64 0, .int .i64 0, .int .i64 0]) (t := 38) ?hr ?_; (case hd => rfl); (case hg => rfl); (case hr => first | (go_simp; done) | (go_simp; rfl)); intro gb208 hg w174 hbox hb; have n0_ := aM19 (Kd.V_below (Kd.V_elderB (by (with_reducible repeat (first | apply Kd.V_alloc | apply Kd.V_drewN | apply Kd.V_drew)); exact HO194.out) gb208 (Nat.le_of_eq hg.symm)) hb); have n1_ := aM19 (blk_below (g := gb188) (o := .cells #[.int .i64 a0_0, .int .i64 a0_1, .int .i64 a0_2, .slice A0_3 l0_3.length c0_3, .int .i64 a0_4, .int .i64 a0_5, .int .i64 a0_6, .int .i64 a0_7, .int .i64 a0_8, .int .i64 a0_9, .int .i64 a0_10, .int .u8 a0_11] 36 (0, 0)) (by (with_reducible repeat (first | refine bN19 ?_ _ | refine bD19 ?_ | refine bK19 ?_ _)); exact BK188.out) hb); have n2_ := aM19 (blk_below (g := gb195) (o := .cells #[.int .i64 t189, .int .i64 t190, .int .i64 t191, .slice Ao158 t192.length co158] 25 (0, 0)) (by (with_reducible repeat (first | refine bN19 ?_ _ | refine bD19 ?_ | refine bK19 ?_ _)); exact BK195.out) hb); have n3_ := aM19 (blk_below (g := gb196) (o := .cells #[.int .i64 a0_4, .int .i64 a0_5, .int .i64 a0_6, .int .i64 a0_7, .int .i64 a0_8, .int .i64 a0_9] 27 (0, 0)) (by (with_reducible repeat (first | refine bN19 ?_ _ | refine bD19 ?_ | refine bK19 ?_ _)); exact BK196.out) hb); have n4_ := aM19 (below_step (by repeat (first | (with_reducible first | exact HB.out | apply below_alloc | apply pw_below_drewN | apply below_drew1 | refine below_set ?_ GE188.out | refine below_set ?_ GE195.out | refine below_set ?_ GE196.out) | exact HB.out)) hb); have n5_ := aM19 (hbox); have n6_ := aM19 ((by rw [hg]; exact (below_size (by repeat (first | (with_reducible first | exact HB.out | apply below_alloc | apply pw_below_drewN | apply below_drew1 | refine below_set ?_ GE188.out | refine below_set ?_ GE195.out | refine below_set ?_ GE196.out) | exact HB.out))) : w.heap.size ≤ gb208)); have n7_ := aM19 ((by rw [hg]; exact (below_size (by repeat (first | (with_reducible first | exact HB.out | apply below_alloc | apply pw_below_drewN | apply below_drew1 | refine below_set ?_ GE188.out | refine below_set ?_ GE195.out | refine below_set ?_ GE196.out) | exact HB.out))) : w.heap.size ≤ gb208)); have n8_ := aM19 ((by rw [hg]; exact Nat.ne_of_lt (blk_lt (g := gb188) (o := .cells #[.int .i64 a0_0, .int .i64 a0_1, .int .i64 a0_2, .slice A0_3 l0_3.length c0_3, .int .i64 a0_4, .int .i64 a0_5, .int .i64 a0_6, .int .i64 a0_7, .int .i64 a0_8, .int .i64 a0_9, .int .i64 a0_10, .int .u8 a0_11] 36 (0, 0)) (by (with_reducible repeat (first | refine bN19 ?_ _ | refine bD19 ?_ | refine bK19 ?_ _)); exact BK188.out)) : gb188 ≠ gb208)); have n9_ := aM19 ((by rw [hg]; exact Nat.ne_of_gt (blk_lt (g := gb188) (o := .cells #[.int .i64 a0_0, .int .i64 a0_1, .int .i64 a0_2, .slice A0_3 l0_3.length c0_3, .int .i64 a0_4, .int .i64 a0_5, .int .i64 a0_6, .int .i64 a0_7, .int .i64 a0_8, .int .i64 a0_9, .int .i64 a0_10, .int .u8 a0_11] 36 (0, 0)) (by (with_reducible repeat (first | refine bN19 ?_ _ | refine bD19 ?_ | refine bK19 ?_ _)); exact BK188.out)) : gb208 ≠ gb188)); have n10_ := aM19 ((by rw [hg]; exact Nat.ne_of_lt (blk_lt (g := gb195) (o := .cells #[.int .i64 t189, .int .i64 t190, .int .i64 t191, .slice Ao158 t192.length co158] 25 (0, 0)) (by (with_reducible repeat (first | refine bN19 ?_ _ | refine bD19 ?_ | refine bK19 ?_ _)); exact BK195.out)) : gb195 ≠ gb208)); have n11_ := aM19 ((by rw [hg]; exact Nat.ne_of_gt (blk_lt (g := gb195) (o := .cells #[.int .i64 t189, .int .i64 t190, .int .i64 t191, .slice Ao158 t192.length co158] 25 (0, 0)) (by (with_reducible repeat (first | refine bN19 ?_ _ | refine bD19 ?_ | refine bK19 ?_ _)); exact BK195.out)) : gb208 ≠ gb195)); have n12_ := aM19 ((by rw [hg]; exact Nat.ne_of_lt (blk_lt (g := gb196) (o := .cells #[.int .i64 a0_4, .int .i64 a0_5, .int .i64 a0_6, .int .i64 a0_7, .int .i64 a0_8, .int .i64 a0_9] 27 (0, 0)) (by (with_reducible repeat (first | refine bN19 ?_ _ | refine bD19 ?_ | refine bK19 ?_ _)); exact BK196.out)) : gb196 ≠ gb208)); have n13_ := aM19 ((by rw [hg]; exact Nat.ne_of_gt (blk_lt (g := gb196) (o := .cells #[.int .i64 a0_4, .int .i64 a0_5, .int .i64 a0_6, .int .i64 a0_7, .int .i64 a0_8, .int .i64 a0_9] 27 (0, 0)) (by (with_reducible repeat (first | refine bN19 ?_ _ | refine bD19 ?_ | refine bK19 ?_ _)); exact BK196.out)) : gb208 ≠ gb196)); clear HO194; clear BK188; clear BK195; clear BK196; clear HB; have HO194 := n0_; have BK188 := n1_; have BK195 := n2_; have BK196 := n3_; have HB := n4_; have BK208 := n5_; have GW208 := n6_; have GE208 := n7_; have NB188_208 := n8_; have NB208_188 := n9_; have NB195_208 := n10_; have NB208_195 := n11_; have NB196_208 := n12_; have NB208_196 := n13_; clear n0_ n1_ n2_ n3_ n4_ n5_ n6_ n7_ n8_ n9_ n10_ n11_ n12_ n13_; clear hb hbox hg; have hnb175 := NB208_188.out; have hnc175 := NB188_208.out; have hnb176 := NB208_195.out; have hnc176 := NB195_208.out; have hnb177 := NB208_196.out; have hnc177 := NB196_208.out; have hcz178_0 : w174.cell? ⟨gb208, 0, none⟩ = some (.int .i64 0) := (bC19 BK208.out 0).trans rfl; have hcz178_1 : w174.cell? ⟨gb208, 1, none⟩ = some (.int .i64 0) := (bC19 BK208.out 1).trans rfl; have hcz178_2 : w174.cell? ⟨gb208, 2, none⟩ = some (.int .i64 0) := (bC19 BK208.out 2).trans rfl; have hcz178_3 : w174.cell? ⟨gb208, 3, none⟩ = some (.int .i64 0) := (bC19 BK208.out 3).trans rfl; have hcz178_4 : w174.cell? ⟨gb208, 4, none⟩ = some (.int .i64 0) := (bC19 BK208.out 4).trans rfl; have hcz178_5 : w174.cell? ⟨gb208, 5, none⟩ = some (.int .i64 0) := (bC19 BK208.out 5).trans rfl; have hcz178_6 : w174.cell? ⟨gb208, 6, none⟩ = some (.int .i64 0) := (bC19 BK208.out 6).trans rfl; have hcz178_7 : w174.cell? ⟨gb208, 7, none⟩ = some (.int .i64 0) := (bC19 BK208.out 7).trans rfl; have hfz178_0 := bF19 BK208.out 0; have hfz178_1 := bF19 BK208.out 1; have hfz178_2 := bF19 BK208.out 2; have hfz178_3 := bF19 BK208.out 3; have hfz178_4 := bF19 BK208.out 4; have hfz178_5 := bF19 BK208.out 5; have hfz178_6 := bF19 BK208.out 6; have hfz178_7 := bF19 BK208.out 7; have hcz179_0 : w174.cell? ⟨gb195, 0, none⟩ = some (.int .i64 t189) := (bC19 BK195.out 0).trans rfl; have hcz179_1 : w174.cell? ⟨gb195, 1, none⟩ = some (.int .i64 t190) := (bC19 BK195.out 1).trans rfl; have hcz179_2 : w174.cell? ⟨gb195, 2, none⟩ = some (.int .i64 t191) := (bC19 BK195.out 2).trans rfl; have hcz179_3 : w174.cell? ⟨gb195, 3, none⟩ = some (.slice Ao158 t192.length co158) := (bC19 BK195.out 3).trans rfl; have hfz179_0 := bF19 BK195.out 0; have hfz179_1 := bF19 BK195.out 1; have hfz179_2 := bF19 BK195.out 2; have hfz179_3 := bF19 BK195.out 3; have hcz180_0 : w174.cell? ⟨gb196, 0, none⟩ = some (.int .i64 a0_4) := (bC19 BK196.out 0).trans rfl; have hcz180_1 : w174.cell? ⟨gb196, 1, none⟩ = some (.int .i64 a0_5) := (bC19 BK196.out 1).trans rfl; have hcz180_2 : w174.cell? ⟨gb196, 2, none⟩ = some (.int .i64 a0_6) := (bC19 BK196.out 2).trans rfl; have hcz180_3 : w174.cell? ⟨gb196, 3, none⟩ = some (.int .i64 a0_7) := (bC19 BK196.out 3).trans rfl; have hcz180_4 : w174.cell? ⟨gb196, 4, none⟩ = some (.int .i64 a0_8) := (bC19 BK196.out 4).trans rfl; have hcz180_5 : w174.cell? ⟨gb196, 5, none⟩ = some (.int .i64 a0_9) := (bC19 BK196.out 5).trans rfl; have hfz180_0 := bF19 BK196.out 0; have hfz180_1 := bF19 BK196.out 1; have hfz180_2 := bF19 BK196.out 2; have hfz180_3 := bF19 BK196.out 3; have hfz180_4 := bF19 BK196.out 4; have hfz180_5 := bF19 BK196.out 5) | ((with_reducible refine gate_callee (f := 17) rfl ?_); refine goesL_ (some 41) rfl rfl Try.func17 (by kernel_rfl) rfl #[.agg #[.int .i64 t189, .int .i64 t190, .int .i64 t191, .slice Ao158 t192.length co158], .agg #[.int .i64 a0_4, .int .i64 a0_5, .int .i64 a0_6, .int .i64 a0_7, .int .i64 a0_8, .int .i64 a0_9], .int .i64 (wrap64 (((a0_10) % 256) + (wrap64 (a0_11))))] rfl (by (try simp only [List.map_toArray, List.map_cons, List.map_nil]); first | done | rfl | (simp only [List.length_drop, List.length_take]; rfl)) ?_; (with_reducible refine (shot_Fly.calls k t189 t190 t191 _ _ t192 a0_4 a0_5 a0_6 a0_7 a0_8 a0_9 (wrap64 (((a0_10) % 256) + (wrap64 (a0_11)))) t209 t210 t211 t212 t213 t214 t215 t216 t217 _ ?side1 ?side2 A6.out).mono ?_); (case side1 => refine (Kd.V_reads' (e := 5) (base := w.heap.size) (ok := fun k_ => ((k_ ≠ gb188 ∧ (k_ ≠ gb195 ∧ k_ ≠ gb196)) ∧ k_ ≠ gb208)) (n := t192.length) (c := co158) ?_).2.2; exact (by (with_reducible repeat (first | apply Kd.V_alloc | apply Kd.V_drewN | apply Kd.V_drew)); exact (Kd.V_mono (Kd.V_far (p := ⟨gb208, 7, none⟩) (Kd.V_far (p := ⟨gb208, 6, none⟩) (Kd.V_far (p := ⟨gb208, 5, none⟩) (Kd.V_far (p := ⟨gb208, 4, none⟩) (Kd.V_far (p := ⟨gb208, 3, none⟩) (Kd.V_far (p := ⟨gb208, 2, none⟩) (Kd.V_far (p := ⟨gb208, 1, none⟩) (Kd.V_far (p := ⟨gb208, 0, none⟩) (Kd.V_mono HO194.out (fun k_ hk => (⟨hk, hk.2⟩ : _ ∧ k_ ≠ gb208))) (fun _ hk => hk.2) (.int .i64 t199)) (fun _ hk => hk.2) (.int .i64 t200)) (fun _ hk => hk.2) (.int .i64 t201)) (fun _ hk => hk.2) (.int .i64 t202)) (fun _ hk => hk.2) (.int .i64 t203)) (fun _ hk => hk.2) (.int .i64 t204)) (fun _ hk => hk.2) (.int .i64 t205)) (fun _ hk => hk.2) (.int .i64 t206)) (fun _ h_ => h_.1)))); (case side2 => exact (Kd.V_reads' HO194.out).2.1); rintro e w181 ⟨rfl, hb⟩; refine ⟨_, rfl, ?_⟩; have n0_ := aM19 (Kd.V_below (by (with_reducible repeat (first | apply Kd.V_alloc | apply Kd.V_drewN | apply Kd.V_drew)); exact (Kd.V_mono (Kd.V_far (p := ⟨gb208, 7, none⟩) (Kd.V_far (p := ⟨gb208, 6, none⟩) (Kd.V_far (p := ⟨gb208, 5, none⟩) (Kd.V_far (p := ⟨gb208, 4, none⟩) (Kd.V_far (p := ⟨gb208, 3, none⟩) (Kd.V_far (p := ⟨gb208, 2, none⟩) (Kd.V_far (p := ⟨gb208, 1, none⟩) (Kd.V_far (p := ⟨gb208, 0, none⟩) (Kd.V_mono HO194.out (fun k_ hk => (⟨hk, hk.2⟩ : _ ∧ k_ ≠ gb208))) (fun _ hk => hk.2) (.int .i64 t199)) (fun _ hk => hk.2) (.int .i64 t200)) (fun _ hk => hk.2) (.int .i64 t201)) (fun _ hk => hk.2) (.int .i64 t202)) (fun _ hk => hk.2) (.int .i64 t203)) (fun _ hk => hk.2) (.int .i64 t204)) (fun _ hk => hk.2) (.int .i64 t205)) (fun _ hk => hk.2) (.int .i64 t206)) (fun _ h_ => h_.1))) hb); have n1_ := aM19 (blk_below (g := gb188) (o := .cells #[.int .i64 a0_0, .int .i64 a0_1, .int .i64 a0_2, .slice A0_3 l0_3.length c0_3, .int .i64 a0_4, .int .i64 a0_5, .int .i64 a0_6, .int .i64 a0_7, .int .i64 a0_8, .int .i64 a0_9, .int .i64 a0_10, .int .u8 a0_11] 36 (0, 0)) (by (with_reducible repeat (first | refine bN19 ?_ _ | refine bD19 ?_ | refine bK19 ?_ _)); refine blk_far ?_ NB188_208.out _; (with_reducible repeat (first | refine bN19 ?_ _ | refine bD19 ?_ | refine bK19 ?_ _)); refine blk_far ?_ NB188_208.out _; (with_reducible repeat (first | refine bN19 ?_ _ | refine bD19 ?_ | refine bK19 ?_ _)); refine blk_far ?_ NB188_208.out _; (with_reducible repeat (first | refine bN19 ?_ _ | refine bD19 ?_ | refine bK19 ?_ _)); refine blk_far ?_ NB188_208.out _; (with_reducible repeat (first | refine bN19 ?_ _ | refine bD19 ?_ | refine bK19 ?_ _)); refine blk_far ?_ NB188_208.out _; (with_reducible repeat (first | refine bN19 ?_ _ | refine bD19 ?_ | refine bK19 ?_ _)); refine blk_far ?_ NB188_208.out _; (with_reducible repeat (first | refine bN19 ?_ _ | refine bD19 ?_ | refine bK19 ?_ _)); refine blk_far ?_ NB188_208.out _; (with_reducible repeat (first | refine bN19 ?_ _ | refine bD19 ?_ | refine bK19 ?_ _)); refine blk_far ?_ NB188_208.out _; (with_reducible repeat (first | refine bN19 ?_ _ | refine bD19 ?_ | refine bK19 ?_ _)); exact BK188.out) hb); have n2_ := aM19 (blk_below (g := gb195) (o := .cells #[.int .i64 t189, .int .i64 t190, .int .i64 t191, .slice Ao158 t192.length co158] 25 (0, 0)) (by (with_reducible repeat (first | refine bN19 ?_ _ | refine bD19 ?_ | refine bK19 ?_ _)); refine blk_far ?_ NB195_208.out _; (with_reducible repeat (first | refine bN19 ?_ _ | refine bD19 ?_ | refine bK19 ?_ _)); refine blk_far ?_ NB195_208.out _; (with_reducible repeat (first | refine bN19 ?_ _ | refine bD19 ?_ | refine bK19 ?_ _)); refine blk_far ?_ NB195_208.out _; (with_reducible repeat (first | refine bN19 ?_ _ | refine bD19 ?_ | refine bK19 ?_ _)); refine blk_far ?_ NB195_208.out _; (with_reducible repeat (first | refine bN19 ?_ _ | refine bD19 ?_ | refine bK19 ?_ _)); refine blk_far ?_ NB195_208.out _; (with_reducible repeat (first | refine bN19 ?_ _ | refine bD19 ?_ | refine bK19 ?_ _)); refine blk_far ?_ NB195_208.out _; (with_reducible repeat (first | refine bN19 ?_ _ | refine bD19 ?_ | refine bK19 ?_ _)); refine blk_far ?_ NB195_208.out _; (with_reducible repeat (first | refine bN19 ?_ _ | refine bD19 ?_ | refine bK19 ?_ _)); refine blk_far ?_ NB195_208.out _; (with_reducible repeat (first | refine bN19 ?_ _ | refine bD19 ?_ | refine bK19 ?_ _)); exact BK195.out) hb); have n3_ := aM19 (blk_below (g := gb196) (o := .cells #[.int .i64 a0_4, .int .i64 a0_5, .int .i64 a0_6, .int .i64 a0_7, .int .i64 a0_8, .int .i64 a0_9] 27 (0, 0)) (by (with_reducible repeat (first | refine bN19 ?_ _ | refine bD19 ?_ | refine bK19 ?_ _)); refine blk_far ?_ NB196_208.out _; (with_reducible repeat (first | refine bN19 ?_ _ | refine bD19 ?_ | refine bK19 ?_ _)); refine blk_far ?_ NB196_208.out _; (with_reducible repeat (first | refine bN19 ?_ _ | refine bD19 ?_ | refine bK19 ?_ _)); refine blk_far ?_ NB196_208.out _; (with_reducible repeat (first | refine bN19 ?_ _ | refine bD19 ?_ | refine bK19 ?_ _)); refine blk_far ?_ NB196_208.out _; (with_reducible repeat (first | refine bN19 ?_ _ | refine bD19 ?_ | refine bK19 ?_ _)); refine blk_far ?_ NB196_208.out _; (with_reducible repeat (first | refine bN19 ?_ _ | refine bD19 ?_ | refine bK19 ?_ _)); refine blk_far ?_ NB196_208.out _; (with_reducible repeat (first | refine bN19 ?_ _ | refine bD19 ?_ | refine bK19 ?_ _)); refine blk_far ?_ NB196_208.out _; (with_reducible repeat (first | refine bN19 ?_ _ | refine bD19 ?_ | refine bK19 ?_ _)); refine blk_far ?_ NB196_208.out _; (with_reducible repeat (first | refine bN19 ?_ _ | refine bD19 ?_ | refine bK19 ?_ _)); exact BK196.out) hb); have n4_ := aM19 (blk_below (g := gb208) (o := .cells #[.int .i64 t199, .int .i64 t200, .int .i64 t201, .int .i64 t202, .int .i64 t203, .int .i64 t204, .int .i64 t205, .int .i64 t206] 38 (0, 0)) (by (with_reducible repeat (first | refine bN19 ?_ _ | refine bD19 ?_ | refine bK19 ?_ _)); refine blk_put (cs := #[.int .i64 t199, .int .i64 t200, .int .i64 t201, .int .i64 t202, .int .i64 t203, .int .i64 t204, .int .i64 t205, .int .i64 0]) ?_ 7 _ rfl; (with_reducible repeat (first | refine bN19 ?_ _ | refine bD19 ?_ | refine bK19 ?_ _)); refine blk_put (cs := #[.int .i64 t199, .int .i64 t200, .int .i64 t201, .int .i64 t202, .int .i64 t203, .int .i64 t204, .int .i64 0, .int .i64 0]) ?_ 6 _ rfl; (with_reducible repeat (first | refine bN19 ?_ _ | refine bD19 ?_ | refine bK19 ?_ _)); refine blk_put (cs := #[.int .i64 t199, .int .i64 t200, .int .i64 t201, .int .i64 t202, .int .i64 t203, .int .i64 0, .int .i64 0, .int .i64 0]) ?_ 5 _ rfl; (with_reducible repeat (first | refine bN19 ?_ _ | refine bD19 ?_ | refine bK19 ?_ _)); refine blk_put (cs := #[.int .i64 t199, .int .i64 t200, .int .i64 t201, .int .i64 t202, .int .i64 0, .int .i64 0, .int .i64 0, .int .i64 0]) ?_ 4 _ rfl; (with_reducible repeat (first | refine bN19 ?_ _ | refine bD19 ?_ | refine bK19 ?_ _)); refine blk_put (cs := #[.int .i64 t199, .int .i64 t200, .int .i64 t201, .int .i64 0, .int .i64 0, .int .i64 0, .int .i64 0, .int .i64 0]) ?_ 3 _ rfl; (with_reducible repeat (first | refine bN19 ?_ _ | refine bD19 ?_ | refine bK19 ?_ _)); refine blk_put (cs := #[.int .i64 t199, .int .i64 t200, .int .i64 0, .int .i64 0, .int .i64 0, .int .i64 0, .int .i64 0, .int .i64 0]) ?_ 2 _ rfl; (with_reducible repeat (first | refine bN19 ?_ _ | refine bD19 ?_ | refine bK19 ?_ _)); refine blk_put (cs := #[.int .i64 t199, .int .i64 0, .int .i64 0, .int .i64 0, .int .i64 0, .int .i64 0, .int .i64 0, .int .i64 0]) ?_ 1 _ rfl; (with_reducible repeat (first | refine bN19 ?_ _ | refine bD19 ?_ | refine bK19 ?_ _)); refine blk_put (cs := #[.int .i64 0, .int .i64 0, .int .i64 0, .int .i64 0, .int .i64 0, .int .i64 0, .int .i64 0, .int .i64 0]) ?_ 0 _ rfl; (with_reducible repeat (first | refine bN19 ?_ _ | refine bD19 ?_ | refine bK19 ?_ _)); exact BK208.out) hb); have n5_ := aM19 (below_step (by repeat (first | (with_reducible first | exact HB.out | apply below_alloc | apply pw_below_drewN | apply below_drew1 | refine below_set ?_ GE188.out | refine below_set ?_ GE195.out | refine below_set ?_ GE196.out | refine below_set ?_ GE208.out) | exact HB.out)) hb); clear HO194; clear BK188; clear BK195; clear BK196; clear BK208; clear HB; have HO194 := n0_; have BK188 := n1_; have BK195 := n2_; have BK196 := n3_; have BK208 := n4_; have HB := n5_; clear n0_ n1_ n2_ n3_ n4_ n5_; (try clear hb); (try clear hb2); (try clear hk); (try clear hi)) | ((with_reducible refine gate_dst (N := 9) rfl ?_); refine box_event ?hg (N := 9) ?hd (cs := #[.int .i64 0, .int .i64 0, .int .i64 0, .int .i64 0, .int .i64 0, .int .i64 0, .int .i64 0, .int .i64 0]) (t := 38) ?hr ?_; (case hd => rfl); (case hg => rfl); (case hr => first | (go_simp; done) | (go_simp; rfl)); intro gb218 hg w182 hbox hb; have n0_ := aM19 (Kd.V_below (Kd.V_elderB (by (with_reducible repeat (first | apply Kd.V_alloc | apply Kd.V_drewN | apply Kd.V_drew)); exact HO194.out) gb218 (Nat.le_of_eq hg.symm)) hb); have n1_ := aM19 (blk_below (g := gb188) (o := .cells #[.int .i64 a0_0, .int .i64 a0_1, .int .i64 a0_2, .slice A0_3 l0_3.length c0_3, .int .i64 a0_4, .int .i64 a0_5, .int .i64 a0_6, .int .i64 a0_7, .int .i64 a0_8, .int .i64 a0_9, .int .i64 a0_10, .int .u8 a0_11] 36 (0, 0)) (by (with_reducible repeat (first | refine bN19 ?_ _ | refine bD19 ?_ | refine bK19 ?_ _)); exact BK188.out) hb); have n2_ := aM19 (blk_below (g := gb195) (o := .cells #[.int .i64 t189, .int .i64 t190, .int .i64 t191, .slice Ao158 t192.length co158] 25 (0, 0)) (by (with_reducible repeat (first | refine bN19 ?_ _ | refine bD19 ?_ | refine bK19 ?_ _)); exact BK195.out) hb); have n3_ := aM19 (blk_below (g := gb196) (o := .cells #[.int .i64 a0_4, .int .i64 a0_5, .int .i64 a0_6, .int .i64 a0_7, .int .i64 a0_8, .int .i64 a0_9] 27 (0, 0)) (by (with_reducible repeat (first | refine bN19 ?_ _ | refine bD19 ?_ | refine bK19 ?_ _)); exact BK196.out) hb); have n4_ := aM19 (blk_below (g := gb208) (o := .cells #[.int .i64 t199, .int .i64 t200, .int .i64 t201, .int .i64 t202, .int .i64 t203, .int .i64 t204, .int .i64 t205, .int .i64 t206] 38 (0, 0)) (by (with_reducible repeat (first | refine bN19 ?_ _ | refine bD19 ?_ | refine bK19 ?_ _)); exact BK208.out) hb); have n5_ := aM19 (below_step (by repeat (first | (with_reducible first | exact HB.out | apply below_alloc | apply pw_below_drewN | apply below_drew1 | refine below_set ?_ GE188.out | refine below_set ?_ GE195.out | refine below_set ?_ GE196.out | refine below_set ?_ GE208.out) | exact HB.out)) hb); have n6_ := aM19 (hbox); have n7_ := aM19 ((by rw [hg]; exact (below_size (by repeat (first | (with_reducible first | exact HB.out | apply below_alloc | apply pw_below_drewN | apply below_drew1 | refine below_set ?_ GE188.out | refine below_set ?_ GE195.out | refine below_set ?_ GE196.out | refine below_set ?_ GE208.out) | exact HB.out))) : w.heap.size ≤ gb218)); have n8_ := aM19 ((by rw [hg]; exact (below_size (by repeat (first | (with_reducible first | exact HB.out | apply below_alloc | apply pw_below_drewN | apply below_drew1 | refine below_set ?_ GE188.out | refine below_set ?_ GE195.out | refine below_set ?_ GE196.out | refine below_set ?_ GE208.out) | exact HB.out))) : w.heap.size ≤ gb218)); have n9_ := aM19 ((by rw [hg]; exact Nat.ne_of_lt (blk_lt (g := gb188) (o := .cells #[.int .i64 a0_0, .int .i64 a0_1, .int .i64 a0_2, .slice A0_3 l0_3.length c0_3, .int .i64 a0_4, .int .i64 a0_5, .int .i64 a0_6, .int .i64 a0_7, .int .i64 a0_8, .int .i64 a0_9, .int .i64 a0_10, .int .u8 a0_11] 36 (0, 0)) (by (with_reducible repeat (first | refine bN19 ?_ _ | refine bD19 ?_ | refine bK19 ?_ _)); exact BK188.out)) : gb188 ≠ gb218)); have n10_ := aM19 ((by rw [hg]; exact Nat.ne_of_gt (blk_lt (g := gb188) (o := .cells #[.int .i64 a0_0, .int .i64 a0_1, .int .i64 a0_2, .slice A0_3 l0_3.length c0_3, .int .i64 a0_4, .int .i64 a0_5, .int .i64 a0_6, .int .i64 a0_7, .int .i64 a0_8, .int .i64 a0_9, .int .i64 a0_10, .int .u8 a0_11] 36 (0, 0)) (by (with_reducible repeat (first | refine bN19 ?_ _ | refine bD19 ?_ | refine bK19 ?_ _)); exact BK188.out)) : gb218 ≠ gb188)); have n11_ := aM19 ((by rw [hg]; exact Nat.ne_of_lt (blk_lt (g := gb195) (o := .cells #[.int .i64 t189, .int .i64 t190, .int .i64 t191, .slice Ao158 t192.length co158] 25 (0, 0)) (by (with_reducible repeat (first | refine bN19 ?_ _ | refine bD19 ?_ | refine bK19 ?_ _)); exact BK195.out)) : gb195 ≠ gb218)); have n12_ := aM19 ((by rw [hg]; exact Nat.ne_of_gt (blk_lt (g := gb195) (o := .cells #[.int .i64 t189, .int .i64 t190, .int .i64 t191, .slice Ao158 t192.length co158] 25 (0, 0)) (by (with_reducible repeat (first | refine bN19 ?_ _ | refine bD19 ?_ | refine bK19 ?_ _)); exact BK195.out)) : gb218 ≠ gb195)); have n13_ := aM19 ((by rw [hg]; exact Nat.ne_of_lt (blk_lt (g := gb196) (o := .cells #[.int .i64 a0_4, .int .i64 a0_5, .int .i64 a0_6, .int .i64 a0_7, .int .i64 a0_8, .int .i64 a0_9] 27 (0, 0)) (by (with_reducible repeat (first | refine bN19 ?_ _ | refine bD19 ?_ | refine bK19 ?_ _)); exact BK196.out)) : gb196 ≠ gb218)); have n14_ := aM19 ((by rw [hg]; exact Nat.ne_of_gt (blk_lt (g := gb196) (o := .cells #[.int .i64 a0_4, .int .i64 a0_5, .int .i64 a0_6, .int .i64 a0_7, .int .i64 a0_8, .int .i64 a0_9] 27 (0, 0)) (by (with_reducible repeat (first | refine bN19 ?_ _ | refine bD19 ?_ | refine bK19 ?_ _)); exact BK196.out)) : gb218 ≠ gb196)); have n15_ := aM19 ((by rw [hg]; exact Nat.ne_of_lt (blk_lt (g := gb208) (o := .cells #[.int .i64 t199, .int .i64 t200, .int .i64 t201, .int .i64 t202, .int .i64 t203, .int .i64 t204, .int .i64 t205, .int .i64 t206] 38 (0, 0)) (by (with_reducible repeat (first | refine bN19 ?_ _ | refine bD19 ?_ | refine bK19 ?_ _)); exact BK208.out)) : gb208 ≠ gb218)); have n16_ := aM19 ((by rw [hg]; exact Nat.ne_of_gt (blk_lt (g := gb208) (o := .cells #[.int .i64 t199, .int .i64 t200, .int .i64 t201, .int .i64 t202, .int .i64 t203, .int .i64 t204, .int .i64 t205, .int .i64 t206] 38 (0, 0)) (by (with_reducible repeat (first | refine bN19 ?_ _ | refine bD19 ?_ | refine bK19 ?_ _)); exact BK208.out)) : gb218 ≠ gb208)); clear HO194; clear BK188; clear BK195; clear BK196; clear BK208; clear HB; have HO194 := n0_; have BK188 := n1_; have BK195 := n2_; have BK196 := n3_; have BK208 := n4_; have HB := n5_; have BK218 := n6_; have GW218 := n7_; have GE218 := n8_; have NB188_218 := n9_; have NB218_188 := n10_; have NB195_218 := n11_; have NB218_195 := n12_; have NB196_218 := n13_; have NB218_196 := n14_; have NB208_218 := n15_; have NB218_208 := n16_; clear n0_ n1_ n2_ n3_ n4_ n5_ n6_ n7_ n8_ n9_ n10_ n11_ n12_ n13_ n14_ n15_ n16_; clear hb hbox hg; have hnb183 := NB218_188.out; have hnc183 := NB188_218.out; have hnb184 := NB218_195.out; have hnc184 := NB195_218.out; have hnb185 := NB218_196.out; have hnc185 := NB196_218.out; have hnb186 := NB218_208.out; have hnc186 := NB208_218.out; have hcz187_0 : w182.cell? ⟨gb218, 0, none⟩ = some (.int .i64 0) := (bC19 BK218.out 0).trans rfl; have hcz187_1 : w182.cell? ⟨gb218, 1, none⟩ = some (.int .i64 0) := (bC19 BK218.out 1).trans rfl; have hcz187_2 : w182.cell? ⟨gb218, 2, none⟩ = some (.int .i64 0) := (bC19 BK218.out 2).trans rfl; have hcz187_3 : w182.cell? ⟨gb218, 3, none⟩ = some (.int .i64 0) := (bC19 BK218.out 3).trans rfl; have hcz187_4 : w182.cell? ⟨gb218, 4, none⟩ = some (.int .i64 0) := (bC19 BK218.out 4).trans rfl; have hcz187_5 : w182.cell? ⟨gb218, 5, none⟩ = some (.int .i64 0) := (bC19 BK218.out 5).trans rfl; have hcz187_6 : w182.cell? ⟨gb218, 6, none⟩ = some (.int .i64 0) := (bC19 BK218.out 6).trans rfl; have hcz187_7 : w182.cell? ⟨gb218, 7, none⟩ = some (.int .i64 0) := (bC19 BK218.out 7).trans rfl; have hfz187_0 := bF19 BK218.out 0; have hfz187_1 := bF19 BK218.out 1; have hfz187_2 := bF19 BK218.out 2; have hfz187_3 := bF19 BK218.out 3; have hfz187_4 := bF19 BK218.out 4; have hfz187_5 := bF19 BK218.out 5; have hfz187_6 := bF19 BK218.out 6; have hfz187_7 := bF19 BK218.out 7) | (go_at_call 10; (with_reducible refine (bivouaclaw16_awake.calls  t219 _ A148.out).mono ?_); rintro e w188 ⟨rfl, hb⟩; have n0_ := aM19 (Kd.V_below (by (with_reducible repeat (first | apply Kd.V_alloc | apply Kd.V_drewN | apply Kd.V_drew)); exact (Kd.V_mono (Kd.V_far (p := ⟨gb218, 7, none⟩) (Kd.V_far (p := ⟨gb218, 6, none⟩) (Kd.V_far (p := ⟨gb218, 5, none⟩) (Kd.V_far (p := ⟨gb218, 4, none⟩) (Kd.V_far (p := ⟨gb218, 3, none⟩) (Kd.V_far (p := ⟨gb218, 2, none⟩) (Kd.V_far (p := ⟨gb218, 1, none⟩) (Kd.V_far (p := ⟨gb218, 0, none⟩) (Kd.V_mono HO194.out (fun k_ hk => (⟨hk, hk.2⟩ : _ ∧ k_ ≠ gb218))) (fun _ hk => hk.2) (.int .i64 t209)) (fun _ hk => hk.2) (.int .i64 t210)) (fun _ hk => hk.2) (.int .i64 t211)) (fun _ hk => hk.2) (.int .i64 t212)) (fun _ hk => hk.2) (.int .i64 t213)) (fun _ hk => hk.2) (.int .i64 t214)) (fun _ hk => hk.2) (.int .i64 t215)) (fun _ hk => hk.2) (.int .i64 t216)) (fun _ h_ => h_.1))) hb); have n1_ := aM19 (blk_below (g := gb188) (o := .cells #[.int .i64 a0_0, .int .i64 a0_1, .int .i64 a0_2, .slice A0_3 l0_3.length c0_3, .int .i64 a0_4, .int .i64 a0_5, .int .i64 a0_6, .int .i64 a0_7, .int .i64 a0_8, .int .i64 a0_9, .int .i64 a0_10, .int .u8 a0_11] 36 (0, 0)) (by (with_reducible repeat (first | refine bN19 ?_ _ | refine bD19 ?_ | refine bK19 ?_ _)); refine blk_far ?_ NB188_218.out _; (with_reducible repeat (first | refine bN19 ?_ _ | refine bD19 ?_ | refine bK19 ?_ _)); refine blk_far ?_ NB188_218.out _; (with_reducible repeat (first | refine bN19 ?_ _ | refine bD19 ?_ | refine bK19 ?_ _)); refine blk_far ?_ NB188_218.out _; (with_reducible repeat (first | refine bN19 ?_ _ | refine bD19 ?_ | refine bK19 ?_ _)); refine blk_far ?_ NB188_218.out _; (with_reducible repeat (first | refine bN19 ?_ _ | refine bD19 ?_ | refine bK19 ?_ _)); refine blk_far ?_ NB188_218.out _; (with_reducible repeat (first | refine bN19 ?_ _ | refine bD19 ?_ | refine bK19 ?_ _)); refine blk_far ?_ NB188_218.out _; (with_reducible repeat (first | refine bN19 ?_ _ | refine bD19 ?_ | refine bK19 ?_ _)); refine blk_far ?_ NB188_218.out _; (with_reducible repeat (first | refine bN19 ?_ _ | refine bD19 ?_ | refine bK19 ?_ _)); refine blk_far ?_ NB188_218.out _; (with_reducible repeat (first | refine bN19 ?_ _ | refine bD19 ?_ | refine bK19 ?_ _)); exact BK188.out) hb); have n2_ := aM19 (blk_below (g := gb195) (o := .cells #[.int .i64 t189, .int .i64 t190, .int .i64 t191, .slice Ao158 t192.length co158] 25 (0, 0)) (by (with_reducible repeat (first | refine bN19 ?_ _ | refine bD19 ?_ | refine bK19 ?_ _)); refine blk_far ?_ NB195_218.out _; (with_reducible repeat (first | refine bN19 ?_ _ | refine bD19 ?_ | refine bK19 ?_ _)); refine blk_far ?_ NB195_218.out _; (with_reducible repeat (first | refine bN19 ?_ _ | refine bD19 ?_ | refine bK19 ?_ _)); refine blk_far ?_ NB195_218.out _; (with_reducible repeat (first | refine bN19 ?_ _ | refine bD19 ?_ | refine bK19 ?_ _)); refine blk_far ?_ NB195_218.out _; (with_reducible repeat (first | refine bN19 ?_ _ | refine bD19 ?_ | refine bK19 ?_ _)); refine blk_far ?_ NB195_218.out _; (with_reducible repeat (first | refine bN19 ?_ _ | refine bD19 ?_ | refine bK19 ?_ _)); refine blk_far ?_ NB195_218.out _; (with_reducible repeat (first | refine bN19 ?_ _ | refine bD19 ?_ | refine bK19 ?_ _)); refine blk_far ?_ NB195_218.out _; (with_reducible repeat (first | refine bN19 ?_ _ | refine bD19 ?_ | refine bK19 ?_ _)); refine blk_far ?_ NB195_218.out _; (with_reducible repeat (first | refine bN19 ?_ _ | refine bD19 ?_ | refine bK19 ?_ _)); exact BK195.out) hb); have n3_ := aM19 (blk_below (g := gb196) (o := .cells #[.int .i64 a0_4, .int .i64 a0_5, .int .i64 a0_6, .int .i64 a0_7, .int .i64 a0_8, .int .i64 a0_9] 27 (0, 0)) (by (with_reducible repeat (first | refine bN19 ?_ _ | refine bD19 ?_ | refine bK19 ?_ _)); refine blk_far ?_ NB196_218.out _; (with_reducible repeat (first | refine bN19 ?_ _ | refine bD19 ?_ | refine bK19 ?_ _)); refine blk_far ?_ NB196_218.out _; (with_reducible repeat (first | refine bN19 ?_ _ | refine bD19 ?_ | refine bK19 ?_ _)); refine blk_far ?_ NB196_218.out _; (with_reducible repeat (first | refine bN19 ?_ _ | refine bD19 ?_ | refine bK19 ?_ _)); refine blk_far ?_ NB196_218.out _; (with_reducible repeat (first | refine bN19 ?_ _ | refine bD19 ?_ | refine bK19 ?_ _)); refine blk_far ?_ NB196_218.out _; (with_reducible repeat (first | refine bN19 ?_ _ | refine bD19 ?_ | refine bK19 ?_ _)); refine blk_far ?_ NB196_218.out _; (with_reducible repeat (first | refine bN19 ?_ _ | refine bD19 ?_ | refine bK19 ?_ _)); refine blk_far ?_ NB196_218.out _; (with_reducible repeat (first | refine bN19 ?_ _ | refine bD19 ?_ | refine bK19 ?_ _)); refine blk_far ?_ NB196_218.out _; (with_reducible repeat (first | refine bN19 ?_ _ | refine bD19 ?_ | refine bK19 ?_ _)); exact BK196.out) hb); have n4_ := aM19 (blk_below (g := gb208) (o := .cells #[.int .i64 t199, .int .i64 t200, .int .i64 t201, .int .i64 t202, .int .i64 t203, .int .i64 t204, .int .i64 t205, .int .i64 t206] 38 (0, 0)) (by (with_reducible repeat (first | refine bN19 ?_ _ | refine bD19 ?_ | refine bK19 ?_ _)); refine blk_far ?_ NB208_218.out _; (with_reducible repeat (first | refine bN19 ?_ _ | refine bD19 ?_ | refine bK19 ?_ _)); refine blk_far ?_ NB208_218.out _; (with_reducible repeat (first | refine bN19 ?_ _ | refine bD19 ?_ | refine bK19 ?_ _)); refine blk_far ?_ NB208_218.out _; (with_reducible repeat (first | refine bN19 ?_ _ | refine bD19 ?_ | refine bK19 ?_ _)); refine blk_far ?_ NB208_218.out _; (with_reducible repeat (first | refine bN19 ?_ _ | refine bD19 ?_ | refine bK19 ?_ _)); refine blk_far ?_ NB208_218.out _; (with_reducible repeat (first | refine bN19 ?_ _ | refine bD19 ?_ | refine bK19 ?_ _)); refine blk_far ?_ NB208_218.out _; (with_reducible repeat (first | refine bN19 ?_ _ | refine bD19 ?_ | refine bK19 ?_ _)); refine blk_far ?_ NB208_218.out _; (with_reducible repeat (first | refine bN19 ?_ _ | refine bD19 ?_ | refine bK19 ?_ _)); refine blk_far ?_ NB208_218.out _; (with_reducible repeat (first | refine bN19 ?_ _ | refine bD19 ?_ | refine bK19 ?_ _)); exact BK208.out) hb); have n5_ := aM19 (blk_below (g := gb218) (o := .cells #[.int .i64 t209, .int .i64 t210, .int .i64 t211, .int .i64 t212, .int .i64 t213, .int .i64 t214, .int .i64 t215, .int .i64 t216] 38 (0, 0)) (by (with_reducible repeat (first | refine bN19 ?_ _ | refine bD19 ?_ | refine bK19 ?_ _)); refine blk_put (cs := #[.int .i64 t209, .int .i64 t210, .int .i64 t211, .int .i64 t212, .int .i64 t213, .int .i64 t214, .int .i64 t215, .int .i64 0]) ?_ 7 _ rfl; (with_reducible repeat (first | refine bN19 ?_ _ | refine bD19 ?_ | refine bK19 ?_ _)); refine blk_put (cs := #[.int .i64 t209, .int .i64 t210, .int .i64 t211, .int .i64 t212, .int .i64 t213, .int .i64 t214, .int .i64 0, .int .i64 0]) ?_ 6 _ rfl; (with_reducible repeat (first | refine bN19 ?_ _ | refine bD19 ?_ | refine bK19 ?_ _)); refine blk_put (cs := #[.int .i64 t209, .int .i64 t210, .int .i64 t211, .int .i64 t212, .int .i64 t213, .int .i64 0, .int .i64 0, .int .i64 0]) ?_ 5 _ rfl; (with_reducible repeat (first | refine bN19 ?_ _ | refine bD19 ?_ | refine bK19 ?_ _)); refine blk_put (cs := #[.int .i64 t209, .int .i64 t210, .int .i64 t211, .int .i64 t212, .int .i64 0, .int .i64 0, .int .i64 0, .int .i64 0]) ?_ 4 _ rfl; (with_reducible repeat (first | refine bN19 ?_ _ | refine bD19 ?_ | refine bK19 ?_ _)); refine blk_put (cs := #[.int .i64 t209, .int .i64 t210, .int .i64 t211, .int .i64 0, .int .i64 0, .int .i64 0, .int .i64 0, .int .i64 0]) ?_ 3 _ rfl; (with_reducible repeat (first | refine bN19 ?_ _ | refine bD19 ?_ | refine bK19 ?_ _)); refine blk_put (cs := #[.int .i64 t209, .int .i64 t210, .int .i64 0, .int .i64 0, .int .i64 0, .int .i64 0, .int .i64 0, .int .i64 0]) ?_ 2 _ rfl; (with_reducible repeat (first | refine bN19 ?_ _ | refine bD19 ?_ | refine bK19 ?_ _)); refine blk_put (cs := #[.int .i64 t209, .int .i64 0, .int .i64 0, .int .i64 0, .int .i64 0, .int .i64 0, .int .i64 0, .int .i64 0]) ?_ 1 _ rfl; (with_reducible repeat (first | refine bN19 ?_ _ | refine bD19 ?_ | refine bK19 ?_ _)); refine blk_put (cs := #[.int .i64 0, .int .i64 0, .int .i64 0, .int .i64 0, .int .i64 0, .int .i64 0, .int .i64 0, .int .i64 0]) ?_ 0 _ rfl; (with_reducible repeat (first | refine bN19 ?_ _ | refine bD19 ?_ | refine bK19 ?_ _)); exact BK218.out) hb); have n6_ := aM19 (below_step (by repeat (first | (with_reducible first | exact HB.out | apply below_alloc | apply pw_below_drewN | apply below_drew1 | refine below_set ?_ GE188.out | refine below_set ?_ GE195.out | refine below_set ?_ GE196.out | refine below_set ?_ GE208.out | refine below_set ?_ GE218.out) | exact HB.out)) hb); clear HO194; clear BK188; clear BK195; clear BK196; clear BK208; clear BK218; clear HB; have HO194 := n0_; have BK188 := n1_; have BK195 := n2_; have BK196 := n3_; have BK208 := n4_; have BK218 := n5_; have HB := n6_; clear n0_ n1_ n2_ n3_ n4_ n5_ n6_; (try clear hb); (try clear hb2); (try clear hk); (try clear hi)))
 go_ret
 exact ⟨by first | rfl | (simp [errW_none, errW_some] <;> rfl) | (simp [*, errW_none, errW_some] <;> rfl) | (rw [Int.tdiv_eq_ediv_of_nonneg (by assumption)]; rfl), by repeat (first | (with_reducible first | exact HB.out | apply below_alloc | apply pw_below_drewN | apply below_drew1 | refine below_set ?_ GE188.out | refine below_set ?_ GE195.out | refine below_set ?_ GE196.out | refine below_set ?_ GE208.out | refine below_set ?_ GE218.out) | exact HB.out)⟩
end Go.Proofs.Ytfcocbkfodmmbaa.PA
