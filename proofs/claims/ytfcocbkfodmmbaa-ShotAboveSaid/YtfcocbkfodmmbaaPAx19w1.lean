import Derived.Test.YtfcocbkfodmmbaaPAx19w0
namespace Go.Proofs.Ytfcocbkfodmmbaa.PA
open Go.RowKit Go.Proofs.YtfcocbkfodmmbaaW.PrintWords Go.Proofs.YtfcocbkfodmmbaaW.PrintLast Go.Proofs.YtfcocbkfodmmbaaW.PrintMore
attribute [local go_sem] max2_int min2_int max_two min_two max_three min_three max_four min_four   -- for this text's walks alone
set_option linter.unusedVariables false
set_option linter.unusedSimpArgs false
attribute [local go_sem high] eqA38
set_option maxHeartbeats 32000000 in
set_option maxRecDepth 100000 in
theorem bivouaclaw16_ShotAbove.way1 (k : Nat) (a0_0 : Int) (a0_1 : Int) (a0_2 : Int) (A0_3 : Option Addr) (c0_3 : Nat) (l0_3 : List Int) (a0_4 : Int) (a0_5 : Int) (a0_6 : Int) (a0_7 : Int) (a0_8 : Int) (a0_9 : Int) (a0_10 : Int) (a0_11 : Int) (r : Bool) (w : World) (hr0_3 : Kd.C (Kd.int .u8) w A0_3 l0_3.length l0_3) (hc0_3 : l0_3.length ≤ c0_3) {t189 t190 t191 t192 t197 t199 t200 t201 t202 t203 t204 t205 t206 t207 t209 t210 t211 t212 t213 t214 t215 t216 t217 : _}  (A20 : (bivouaclaw16_few.f a0_0 a0_1 a0_2 l0_3) = some (t189, t190, t191, t192)) (A30 : (bivouacref06_Check.f k t189 t190 t191 t192) = some t197) (c4 : (t197 = 0)) (A50 : (shot_Fly.f k t189 t190 t191 t192 a0_4 a0_5 a0_6 a0_7 a0_8 a0_9 ((a0_10) % 256)) = some (t199, t200, t201, t202, t203, t204, t205, t206, t207)) (A60 : (shot_Fly.f k t189 t190 t191 t192 a0_4 a0_5 a0_6 a0_7 a0_8 a0_9 (wrap64 (((a0_10) % 256) + (wrap64 (a0_11))))) = some (t209, t210, t211, t212, t213, t214, t215, t216, t217)) (c7 : (t207 = 0)) (c8 : (t200 = 0)) (H : (if ((a0_10) % 256) > 0 then ((bivouacref06_On.f t189 t190 t191 t192 t201 t202).bind fun t222 => (if t222 = true then ((bivouacref06_Height.f t189 t190 t191 t192 t201 t202).bind fun t223 => (if t203 ≤ t223 then (bivouaclaw16_ShotAbove.j0 k ((a0_10) % 256) a0_11 t217 true t199 t200 t201 t202 t203 t204 t205 t206 t209 t210 t211 t212 t213 t214 t215 t216) else (bivouaclaw16_ShotAbove.j0 k ((a0_10) % 256) a0_11 t217 (decide (t203 ≤ (wrap64 (t191 * 65536)))) t199 t200 t201 t202 t203 t204 t205 t206 t209 t210 t211 t212 t213 t214 t215 t216))) else (bivouaclaw16_ShotAbove.j0 k ((a0_10) % 256) a0_11 t217 true t199 t200 t201 t202 t203 t204 t205 t206 t209 t210 t211 t212 t213 t214 t215 t216))) else (bivouaclaw16_ShotAbove.j0 k ((a0_10) % 256) a0_11 t217 false t199 t200 t201 t202 t203 t204 t205 t206 t209 t210 t211 t212 t213 t214 t215 t216)) = some r):
  Calls Try.prog 9 #[.agg #[.int .i64 a0_0, .int .i64 a0_1, .int .i64 a0_2, .slice A0_3 l0_3.length c0_3, .int .i64 a0_4, .int .i64 a0_5, .int .i64 a0_6, .int .i64 a0_7, .int .i64 a0_8, .int .i64 a0_9, .int .i64 a0_10, .int .u8 a0_11]] w fun e w' => e = .returned (.bool r) ∧ Below w.heap.size w w' := by
 have hu36 := Try.underlying36
 have hu25 := Try.underlying25
 have hu27 := Try.underlying27
 have hu38 := Try.underlying38
 have HR0_3 := aM19 hr0_3
 have HC0_3 := aM19 hc0_3
 clear hr0_3 hc0_3
 have HB := aM19 (Below.refl w.heap.size w)
 have A2 := aM19 A20
 clear A20
 have A3 := aM19 A30
 clear A30
 have c4b0 : (t197 == 0) = true := beq_iff_eq.mpr c4
 have c4b1 : (t197 != 0) = false := bne_eq_false_iff_eq.mpr c4
 clear c4
 have A5 := aM19 A50
 clear A50
 have A6 := aM19 A60
 clear A60
 have c7b0 : (t207 == 0) = true := beq_iff_eq.mpr c7
 have c7b1 : (t207 != 0) = false := bne_eq_false_iff_eq.mpr c7
 clear c7
 have c8b0 : (t200 == 0) = true := beq_iff_eq.mpr c8
 have c8b1 : (t200 != 0) = false := bne_eq_false_iff_eq.mpr c8
 clear c8
 have HC9 := aM19 H
 clear H
 go_enter Try.func9, Try.ntmps9
 try go_wp2_with (first | ((with_reducible refine gate_dst (N := 1) rfl ?_); refine box_event ?hg (N := 1) ?hd (cs := #[.int .i64 a0_0, .int .i64 a0_1, .int .i64 a0_2, .slice A0_3 l0_3.length c0_3, .int .i64 a0_4, .int .i64 a0_5, .int .i64 a0_6, .int .i64 a0_7, .int .i64 a0_8, .int .i64 a0_9, .int .i64 a0_10, .int .u8 a0_11]) (t := 36) ?hr ?_; (case hd => rfl); (case hg => rfl); (case hr => first | (go_simp; done) | (go_simp; rfl)); intro gb188 hg w10 hbox hb; have n0_ := aM19 (below_step (by repeat (first | (with_reducible first | exact HB.out | apply below_alloc | apply pw_below_drewN | apply below_drew1) | exact HB.out)) hb); have n1_ := aM19 (hbox); have n2_ := aM19 ((by rw [hg]; exact (below_size (by repeat (first | (with_reducible first | exact HB.out | apply below_alloc | apply pw_below_drewN | apply below_drew1) | exact HB.out))) : w.heap.size ≤ gb188)); have n3_ := aM19 ((by rw [hg]; exact (below_size (by repeat (first | (with_reducible first | exact HB.out | apply below_alloc | apply pw_below_drewN | apply below_drew1) | exact HB.out))) : w.heap.size ≤ gb188)); clear HB; have HB := n0_; have BK188 := n1_; have GW188 := n2_; have GE188 := n3_; clear n0_ n1_ n2_ n3_; clear hb hbox hg))
 have n0_ := aM19 (bD19 BK188.out)
 have n1_ := aM19 (below_drew1 HB.out)
 clear BK188
 clear HB
 have BK188 := n0_
 have HB := n1_
 clear n0_ n1_
 refine start_ (n := 16) (S := fun w' => w'.cell? ⟨gb188, 0, none⟩ = some (.int .i64 a0_0) ∧ w'.cell? ⟨gb188, 1, none⟩ = some (.int .i64 a0_1) ∧ w'.cell? ⟨gb188, 2, none⟩ = some (.int .i64 a0_2) ∧ w'.cell? ⟨gb188, 3, none⟩ = some (.slice A0_3 l0_3.length c0_3) ∧ w'.cell? ⟨gb188, 4, none⟩ = some (.int .i64 a0_4) ∧ w'.cell? ⟨gb188, 5, none⟩ = some (.int .i64 a0_5) ∧ w'.cell? ⟨gb188, 6, none⟩ = some (.int .i64 a0_6) ∧ w'.cell? ⟨gb188, 7, none⟩ = some (.int .i64 a0_7) ∧ w'.cell? ⟨gb188, 8, none⟩ = some (.int .i64 a0_8) ∧ w'.cell? ⟨gb188, 9, none⟩ = some (.int .i64 a0_9) ∧ w'.cell? ⟨gb188, 10, none⟩ = some (.int .i64 a0_10) ∧ w'.cell? ⟨gb188, 11, none⟩ = some (.int .u8 a0_11)) (ds := []) (bA 16 0) (by kernel_rfl) rfl rfl ⟨(bC19 BK188.out 0).trans rfl, (bC19 BK188.out 1).trans rfl, (bC19 BK188.out 2).trans rfl, (bC19 BK188.out 3).trans rfl, (bC19 BK188.out 4).trans rfl, (bC19 BK188.out 5).trans rfl, (bC19 BK188.out 6).trans rfl, (bC19 BK188.out 7).trans rfl, (bC19 BK188.out 8).trans rfl, (bC19 BK188.out 9).trans rfl, (bC19 BK188.out 10).trans rfl, (bC19 BK188.out 11).trans rfl⟩ (fun hHeld => ?_); refine with_tabW bivouaclaw16_ShotAbove.tab1 bivouaclaw16_ShotAbove.bits1 (fun HT_ HW_ => ?_)
 generalize w10.drew = w11 at BK188 HB hHeld ⊢
 refine pure_ (i := 0) (N := some 11) (v := ?_) (a' := ?_) (bA 16 1) rfl rfl (any_of HT_.out (by kernel_rfl)) (fun _ _ _ h => h) (Or.inl ⟨by rfl, ?_⟩) ?_ ?_
 rotate_left
 ·
  intro w'
  go_simp
  with_reducible rfl
 rotate_left
 ·
  simp only [Act.put, sA, sB, sC, i64_w, i32_w]
  rfl
 refine pure_ (i := 3) (N := some 14) (v := ?_) (a' := ?_) (bA 16 9) rfl rfl (any_of HT_.out (by kernel_rfl)) (fun _ _ _ h => h) (Or.inl ⟨by rfl, ?_⟩) ?_ ?_
 rotate_left
 ·
  intro w'
  go_simp
  with_reducible rfl
 rotate_left
 ·
  simp only [Act.put, sA, sB, sC, i64_w, i32_w]
  rfl
 refine pure_ (i := 5) (N := some 16) (v := ?_) (a' := ?_) (bA 16 41) rfl rfl (any_of HT_.out (by kernel_rfl)) (fun _ _ _ h => h) (Or.inl ⟨by rfl, ?_⟩) ?_ ?_
 rotate_left
 ·
  intro w'
  go_simp
  with_reducible rfl
 rotate_left
 ·
  simp only [Act.put, sA, sB, sC, i64_w, i32_w]
  rfl
 refine pure_ (i := 8) (N := some 19) (v := ?_) (a' := ?_) (bA 16 297) rfl rfl (any_of HT_.out (by kernel_rfl)) (fun _ _ _ h => h) (Or.inl ⟨by rfl, ?_⟩) ?_ ?_
 rotate_left
 ·
  intro w'
  go_simp
  with_reducible rfl
 rotate_left
 ·
  simp only [Act.put, sA, sB, sC, i64_w, i32_w]
  rfl
 refine take_ (i := 1) (N := some 12) (v := ?_) (a' := ?_) (bA 16 299) rfl rfl (take_ofW HT_.out HW_.out (by kernel_rfl)) (fun _ _ _ h => h) (Or.inl ⟨by rfl, ?_⟩) hHeld ?_ ?_
 rotate_left
 ·
  rintro w' ⟨s0, s1, s2, s3, s4, s5, s6, s7, s8, s9, s10, s11⟩
  go_simp
  with_reducible rfl
 rotate_left
 ·
  simp only [Act.put, sA, sB, sC, i64_w, i32_w]
  rfl
 refine take_ (i := 4) (N := some 15) (v := ?_) (a' := ?_) (bA 16 315) rfl rfl (take_ofW HT_.out HW_.out (by kernel_rfl)) (fun _ _ _ h => h) (Or.inl ⟨by rfl, ?_⟩) hHeld ?_ ?_
 rotate_left
 ·
  rintro w' ⟨s0, s1, s2, s3, s4, s5, s6, s7, s8, s9, s10, s11⟩
  go_simp
  with_reducible rfl
 rotate_left
 ·
  simp only [Act.put, sA, sB, sC, i64_w, i32_w]
  rfl
 refine take_ (i := 6) (N := some 17) (v := ?_) (a' := ?_) (bA 16 379) rfl rfl (take_ofW HT_.out HW_.out (by kernel_rfl)) (fun _ _ _ h => h) (Or.inl ⟨by rfl, ?_⟩) hHeld ?_ ?_
 rotate_left
 ·
  rintro w' ⟨s0, s1, s2, s3, s4, s5, s6, s7, s8, s9, s10, s11⟩
  go_simp
  with_reducible rfl
 rotate_left
 ·
  simp only [Act.put, sA, sB, sC, i64_w, i32_w]
  rfl
 refine pure_ (i := 7) (N := some 18) (v := ?_) (a' := ?_) (bA 16 507) rfl rfl (any_of HT_.out (by kernel_rfl)) (fun _ _ _ h => h) (Or.inl ⟨by rfl, ?_⟩) ?_ ?_
 rotate_left
 ·
  intro w'
  go_simp
  with_reducible rfl
 rotate_left
 ·
  simp only [Act.put, sA, sB, sC, i64_w, i32_w]
  rfl
 refine take_ (i := 9) (N := some 20) (v := ?_) (a' := ?_) (bA 16 1019) rfl rfl (take_ofW HT_.out HW_.out (by kernel_rfl)) (fun _ _ _ h => h) (Or.inl ⟨by rfl, ?_⟩) hHeld ?_ ?_
 rotate_left
 ·
  rintro w' ⟨s0, s1, s2, s3, s4, s5, s6, s7, s8, s9, s10, s11⟩
  go_simp
  with_reducible rfl
 rotate_left
 ·
  simp only [Act.put, sA, sB, sC, i64_w, i32_w]
  rfl
 refine join_ (σ := Value × Nat × Nat) 4 #[true, true, true, true, true, true, true, true, true, true, true, true, false, false, false, false] (fun s_ => [(13, .agg #[.int .i64 t189, .int .i64 t190, .int .i64 t191, s_.1]), (3, .pointer (some ⟨s_.2.1, 0, none⟩)), (4, .pointer (some ⟨s_.2.2, 0, none⟩))]) (fun s_ w' => (w'.cell? ⟨gb188, 0, none⟩ = some (.int .i64 a0_0) ∧ w'.cell? ⟨gb188, 1, none⟩ = some (.int .i64 a0_1) ∧ w'.cell? ⟨gb188, 2, none⟩ = some (.int .i64 a0_2) ∧ w'.cell? ⟨gb188, 3, none⟩ = some (.slice A0_3 l0_3.length c0_3) ∧ w'.cell? ⟨gb188, 4, none⟩ = some (.int .i64 a0_4) ∧ w'.cell? ⟨gb188, 5, none⟩ = some (.int .i64 a0_5) ∧ w'.cell? ⟨gb188, 6, none⟩ = some (.int .i64 a0_6) ∧ w'.cell? ⟨gb188, 7, none⟩ = some (.int .i64 a0_7) ∧ w'.cell? ⟨gb188, 8, none⟩ = some (.int .i64 a0_8) ∧ w'.cell? ⟨gb188, 9, none⟩ = some (.int .i64 a0_9) ∧ w'.cell? ⟨gb188, 10, none⟩ = some (.int .i64 a0_10) ∧ w'.cell? ⟨gb188, 11, none⟩ = some (.int .u8 a0_11)) ∧ (Kd.V (Kd.int .u8) 5 w' w.heap.size (fun k_ => k_ ≠ gb188 ∧ k_ ≠ s_.2.1 ∧ k_ ≠ s_.2.2) s_.1 t192) ∧ (w'.heap[gb188]? = some (.cells #[.int .i64 a0_0, .int .i64 a0_1, .int .i64 a0_2, .slice A0_3 l0_3.length c0_3, .int .i64 a0_4, .int .i64 a0_5, .int .i64 a0_6, .int .i64 a0_7, .int .i64 a0_8, .int .i64 a0_9, .int .i64 a0_10, .int .u8 a0_11] 36 (0, 0))) ∧ (w'.heap[s_.2.1]? = some (.cells #[.int .i64 0, .int .i64 0, .int .i64 0, .slice none 0 0] 25 (0, 0))) ∧ (w'.heap[s_.2.2]? = some (.cells #[.int .i64 0, .int .i64 0, .int .i64 0, .int .i64 0, .int .i64 0, .int .i64 0] 27 (0, 0))) ∧ (w.heap.size ≤ s_.2.1) ∧ (w.heap.size ≤ s_.2.1) ∧ (gb188 ≠ s_.2.1) ∧ (s_.2.1 ≠ gb188) ∧ (s_.2.2 ≠ s_.2.1) ∧ (s_.2.1 ≠ s_.2.2) ∧ (w.heap.size ≤ s_.2.2) ∧ (w.heap.size ≤ s_.2.2) ∧ (gb188 ≠ s_.2.2) ∧ (s_.2.2 ≠ gb188) ∧ (Below w.heap.size w w')) ?_ ?_
 rotate_left
 ·
  intro hJ2_10_11
  refine join_ (σ := Value × Nat) 5 #[true, true, true, true, true, true, true, true, true, true, true, false, false, false, false, false] (fun s_ => [(13, .agg #[.int .i64 t189, .int .i64 t190, .int .i64 t191, s_.1]), (3, .pointer (some ⟨s_.2, 0, none⟩))]) (fun s_ w' => (w'.cell? ⟨gb188, 0, none⟩ = some (.int .i64 a0_0) ∧ w'.cell? ⟨gb188, 1, none⟩ = some (.int .i64 a0_1) ∧ w'.cell? ⟨gb188, 2, none⟩ = some (.int .i64 a0_2) ∧ w'.cell? ⟨gb188, 3, none⟩ = some (.slice A0_3 l0_3.length c0_3) ∧ w'.cell? ⟨gb188, 4, none⟩ = some (.int .i64 a0_4) ∧ w'.cell? ⟨gb188, 5, none⟩ = some (.int .i64 a0_5) ∧ w'.cell? ⟨gb188, 6, none⟩ = some (.int .i64 a0_6) ∧ w'.cell? ⟨gb188, 7, none⟩ = some (.int .i64 a0_7) ∧ w'.cell? ⟨gb188, 8, none⟩ = some (.int .i64 a0_8) ∧ w'.cell? ⟨gb188, 9, none⟩ = some (.int .i64 a0_9) ∧ w'.cell? ⟨gb188, 10, none⟩ = some (.int .i64 a0_10) ∧ w'.cell? ⟨gb188, 11, none⟩ = some (.int .u8 a0_11)) ∧ (Kd.V (Kd.int .u8) 5 w' w.heap.size (fun k_ => k_ ≠ gb188 ∧ k_ ≠ s_.2) s_.1 t192) ∧ (w'.heap[gb188]? = some (.cells #[.int .i64 a0_0, .int .i64 a0_1, .int .i64 a0_2, .slice A0_3 l0_3.length c0_3, .int .i64 a0_4, .int .i64 a0_5, .int .i64 a0_6, .int .i64 a0_7, .int .i64 a0_8, .int .i64 a0_9, .int .i64 a0_10, .int .u8 a0_11] 36 (0, 0))) ∧ (w'.heap[s_.2]? = some (.cells #[.int .i64 0, .int .i64 0, .int .i64 0, .slice none 0 0] 25 (0, 0))) ∧ (w.heap.size ≤ s_.2) ∧ (w.heap.size ≤ s_.2) ∧ (gb188 ≠ s_.2) ∧ (s_.2 ≠ gb188) ∧ (Below w.heap.size w w')) ?_ ?_
  rotate_left
  ·
   intro hJ2_10
   refine join_ (σ := Value × Nat) 5 #[true, true, true, true, true, true, true, true, true, true, false, true, false, false, false, false] (fun s_ => [(13, .agg #[.int .i64 t189, .int .i64 t190, .int .i64 t191, s_.1]), (4, .pointer (some ⟨s_.2, 0, none⟩))]) (fun s_ w' => (w'.cell? ⟨gb188, 0, none⟩ = some (.int .i64 a0_0) ∧ w'.cell? ⟨gb188, 1, none⟩ = some (.int .i64 a0_1) ∧ w'.cell? ⟨gb188, 2, none⟩ = some (.int .i64 a0_2) ∧ w'.cell? ⟨gb188, 3, none⟩ = some (.slice A0_3 l0_3.length c0_3) ∧ w'.cell? ⟨gb188, 4, none⟩ = some (.int .i64 a0_4) ∧ w'.cell? ⟨gb188, 5, none⟩ = some (.int .i64 a0_5) ∧ w'.cell? ⟨gb188, 6, none⟩ = some (.int .i64 a0_6) ∧ w'.cell? ⟨gb188, 7, none⟩ = some (.int .i64 a0_7) ∧ w'.cell? ⟨gb188, 8, none⟩ = some (.int .i64 a0_8) ∧ w'.cell? ⟨gb188, 9, none⟩ = some (.int .i64 a0_9) ∧ w'.cell? ⟨gb188, 10, none⟩ = some (.int .i64 a0_10) ∧ w'.cell? ⟨gb188, 11, none⟩ = some (.int .u8 a0_11)) ∧ (Kd.V (Kd.int .u8) 5 w' w.heap.size (fun k_ => k_ ≠ gb188 ∧ k_ ≠ s_.2) s_.1 t192) ∧ (w'.heap[gb188]? = some (.cells #[.int .i64 a0_0, .int .i64 a0_1, .int .i64 a0_2, .slice A0_3 l0_3.length c0_3, .int .i64 a0_4, .int .i64 a0_5, .int .i64 a0_6, .int .i64 a0_7, .int .i64 a0_8, .int .i64 a0_9, .int .i64 a0_10, .int .u8 a0_11] 36 (0, 0))) ∧ (w'.heap[s_.2]? = some (.cells #[.int .i64 0, .int .i64 0, .int .i64 0, .int .i64 0, .int .i64 0, .int .i64 0] 27 (0, 0))) ∧ (w.heap.size ≤ s_.2) ∧ (w.heap.size ≤ s_.2) ∧ (gb188 ≠ s_.2) ∧ (s_.2 ≠ gb188) ∧ (Below w.heap.size w w')) ?_ ?_
   rotate_left
   ·
    intro hJ2_11
    refine join_ (σ := Nat × Nat) 5 #[true, true, false, true, true, true, true, true, true, true, true, true, false, false, false, false] (fun s_ => [(3, .pointer (some ⟨s_.1, 0, none⟩)), (4, .pointer (some ⟨s_.2, 0, none⟩))]) (fun s_ w' => (w'.cell? ⟨gb188, 0, none⟩ = some (.int .i64 a0_0) ∧ w'.cell? ⟨gb188, 1, none⟩ = some (.int .i64 a0_1) ∧ w'.cell? ⟨gb188, 2, none⟩ = some (.int .i64 a0_2) ∧ w'.cell? ⟨gb188, 3, none⟩ = some (.slice A0_3 l0_3.length c0_3) ∧ w'.cell? ⟨gb188, 4, none⟩ = some (.int .i64 a0_4) ∧ w'.cell? ⟨gb188, 5, none⟩ = some (.int .i64 a0_5) ∧ w'.cell? ⟨gb188, 6, none⟩ = some (.int .i64 a0_6) ∧ w'.cell? ⟨gb188, 7, none⟩ = some (.int .i64 a0_7) ∧ w'.cell? ⟨gb188, 8, none⟩ = some (.int .i64 a0_8) ∧ w'.cell? ⟨gb188, 9, none⟩ = some (.int .i64 a0_9) ∧ w'.cell? ⟨gb188, 10, none⟩ = some (.int .i64 a0_10) ∧ w'.cell? ⟨gb188, 11, none⟩ = some (.int .u8 a0_11)) ∧ (w'.heap[gb188]? = some (.cells #[.int .i64 a0_0, .int .i64 a0_1, .int .i64 a0_2, .slice A0_3 l0_3.length c0_3, .int .i64 a0_4, .int .i64 a0_5, .int .i64 a0_6, .int .i64 a0_7, .int .i64 a0_8, .int .i64 a0_9, .int .i64 a0_10, .int .u8 a0_11] 36 (0, 0))) ∧ (w'.heap[s_.1]? = some (.cells #[.int .i64 0, .int .i64 0, .int .i64 0, .slice none 0 0] 25 (0, 0))) ∧ (w'.heap[s_.2]? = some (.cells #[.int .i64 0, .int .i64 0, .int .i64 0, .int .i64 0, .int .i64 0, .int .i64 0] 27 (0, 0))) ∧ (w.heap.size ≤ s_.1) ∧ (w.heap.size ≤ s_.1) ∧ (gb188 ≠ s_.1) ∧ (s_.1 ≠ gb188) ∧ (s_.2 ≠ s_.1) ∧ (s_.1 ≠ s_.2) ∧ (w.heap.size ≤ s_.2) ∧ (w.heap.size ≤ s_.2) ∧ (gb188 ≠ s_.2) ∧ (s_.2 ≠ gb188) ∧ (Below w.heap.size w w')) ?_ ?_
    rotate_left
    ·
     intro hJ10_11
     refine join_ (σ := Value) 6 #[true, true, true, true, true, true, true, true, true, true, false, false, false, false, false, false] (fun s_ => [(13, .agg #[.int .i64 t189, .int .i64 t190, .int .i64 t191, s_])]) (fun s_ w' => (w'.cell? ⟨gb188, 0, none⟩ = some (.int .i64 a0_0) ∧ w'.cell? ⟨gb188, 1, none⟩ = some (.int .i64 a0_1) ∧ w'.cell? ⟨gb188, 2, none⟩ = some (.int .i64 a0_2) ∧ w'.cell? ⟨gb188, 3, none⟩ = some (.slice A0_3 l0_3.length c0_3) ∧ w'.cell? ⟨gb188, 4, none⟩ = some (.int .i64 a0_4) ∧ w'.cell? ⟨gb188, 5, none⟩ = some (.int .i64 a0_5) ∧ w'.cell? ⟨gb188, 6, none⟩ = some (.int .i64 a0_6) ∧ w'.cell? ⟨gb188, 7, none⟩ = some (.int .i64 a0_7) ∧ w'.cell? ⟨gb188, 8, none⟩ = some (.int .i64 a0_8) ∧ w'.cell? ⟨gb188, 9, none⟩ = some (.int .i64 a0_9) ∧ w'.cell? ⟨gb188, 10, none⟩ = some (.int .i64 a0_10) ∧ w'.cell? ⟨gb188, 11, none⟩ = some (.int .u8 a0_11)) ∧ (Kd.V (Kd.int .u8) 5 w' w.heap.size (fun k_ => k_ ≠ gb188) s_ t192) ∧ (w'.heap[gb188]? = some (.cells #[.int .i64 a0_0, .int .i64 a0_1, .int .i64 a0_2, .slice A0_3 l0_3.length c0_3, .int .i64 a0_4, .int .i64 a0_5, .int .i64 a0_6, .int .i64 a0_7, .int .i64 a0_8, .int .i64 a0_9, .int .i64 a0_10, .int .u8 a0_11] 36 (0, 0))) ∧ (Below w.heap.size w w')) ?_ ?_
     rotate_left
     ·
      intro hJ2
      refine join_ (σ := Nat) 6 #[true, true, false, true, true, true, true, true, true, true, true, false, false, false, false, false] (fun s_ => [(3, .pointer (some ⟨s_, 0, none⟩))]) (fun s_ w' => (w'.cell? ⟨gb188, 0, none⟩ = some (.int .i64 a0_0) ∧ w'.cell? ⟨gb188, 1, none⟩ = some (.int .i64 a0_1) ∧ w'.cell? ⟨gb188, 2, none⟩ = some (.int .i64 a0_2) ∧ w'.cell? ⟨gb188, 3, none⟩ = some (.slice A0_3 l0_3.length c0_3) ∧ w'.cell? ⟨gb188, 4, none⟩ = some (.int .i64 a0_4) ∧ w'.cell? ⟨gb188, 5, none⟩ = some (.int .i64 a0_5) ∧ w'.cell? ⟨gb188, 6, none⟩ = some (.int .i64 a0_6) ∧ w'.cell? ⟨gb188, 7, none⟩ = some (.int .i64 a0_7) ∧ w'.cell? ⟨gb188, 8, none⟩ = some (.int .i64 a0_8) ∧ w'.cell? ⟨gb188, 9, none⟩ = some (.int .i64 a0_9) ∧ w'.cell? ⟨gb188, 10, none⟩ = some (.int .i64 a0_10) ∧ w'.cell? ⟨gb188, 11, none⟩ = some (.int .u8 a0_11)) ∧ (w'.heap[gb188]? = some (.cells #[.int .i64 a0_0, .int .i64 a0_1, .int .i64 a0_2, .slice A0_3 l0_3.length c0_3, .int .i64 a0_4, .int .i64 a0_5, .int .i64 a0_6, .int .i64 a0_7, .int .i64 a0_8, .int .i64 a0_9, .int .i64 a0_10, .int .u8 a0_11] 36 (0, 0))) ∧ (w'.heap[s_]? = some (.cells #[.int .i64 0, .int .i64 0, .int .i64 0, .slice none 0 0] 25 (0, 0))) ∧ (w.heap.size ≤ s_) ∧ (w.heap.size ≤ s_) ∧ (gb188 ≠ s_) ∧ (s_ ≠ gb188) ∧ (Below w.heap.size w w')) ?_ ?_
      rotate_left
      ·
       intro hJ10
       refine join_ (σ := Nat) 6 #[true, true, false, true, true, true, true, true, true, true, false, true, false, false, false, false] (fun s_ => [(4, .pointer (some ⟨s_, 0, none⟩))]) (fun s_ w' => (w'.cell? ⟨gb188, 0, none⟩ = some (.int .i64 a0_0) ∧ w'.cell? ⟨gb188, 1, none⟩ = some (.int .i64 a0_1) ∧ w'.cell? ⟨gb188, 2, none⟩ = some (.int .i64 a0_2) ∧ w'.cell? ⟨gb188, 3, none⟩ = some (.slice A0_3 l0_3.length c0_3) ∧ w'.cell? ⟨gb188, 4, none⟩ = some (.int .i64 a0_4) ∧ w'.cell? ⟨gb188, 5, none⟩ = some (.int .i64 a0_5) ∧ w'.cell? ⟨gb188, 6, none⟩ = some (.int .i64 a0_6) ∧ w'.cell? ⟨gb188, 7, none⟩ = some (.int .i64 a0_7) ∧ w'.cell? ⟨gb188, 8, none⟩ = some (.int .i64 a0_8) ∧ w'.cell? ⟨gb188, 9, none⟩ = some (.int .i64 a0_9) ∧ w'.cell? ⟨gb188, 10, none⟩ = some (.int .i64 a0_10) ∧ w'.cell? ⟨gb188, 11, none⟩ = some (.int .u8 a0_11)) ∧ (w'.heap[gb188]? = some (.cells #[.int .i64 a0_0, .int .i64 a0_1, .int .i64 a0_2, .slice A0_3 l0_3.length c0_3, .int .i64 a0_4, .int .i64 a0_5, .int .i64 a0_6, .int .i64 a0_7, .int .i64 a0_8, .int .i64 a0_9, .int .i64 a0_10, .int .u8 a0_11] 36 (0, 0))) ∧ (w'.heap[s_]? = some (.cells #[.int .i64 0, .int .i64 0, .int .i64 0, .int .i64 0, .int .i64 0, .int .i64 0] 27 (0, 0))) ∧ (w.heap.size ≤ s_) ∧ (w.heap.size ≤ s_) ∧ (gb188 ≠ s_) ∧ (s_ ≠ gb188) ∧ (Below w.heap.size w w')) ?_ ?_
       rotate_left
       ·
        intro hJ11
        refine three_ (i := 2) (j := 10) (k := 11) (Ni := some 13) (Nj := some 3) (Nk := some 4) (bA 16 1023) #[true, true, false, true, true, true, true, true, true, true, true, false, false, false, false, false] #[true, true, false, true, true, true, true, true, true, true, false, true, false, false, false, false] rfl rfl rfl rfl rfl rfl (three_of HT_.out (by kernel_rfl)) (by decide) (by decide) (by decide) (fun K hK => ?_) (fun K hK => ?_) (fun K hK => ?_)
        ·
         skip
         refine goes_ Try.func11 (by kernel_rfl) rfl #[.agg #[.int .i64 a0_0, .int .i64 a0_1, .int .i64 a0_2, .slice A0_3 l0_3.length c0_3]] (by rfl) rfl rfl (by (try simp only [List.map_toArray, List.map_cons, List.map_nil]); first | done | rfl | (simp only [List.length_drop, List.length_take]; rfl)) ?_
         with_reducible refine (bivouaclaw16_few.calls a0_0 a0_1 a0_2 (fun k_ => k_ < w.heap.size) _ _ l0_3 t189 t190 t191 t192 _ ?side1 A2.out).mono ?_
         (case side1 => exact Kd.V_mk HC0_3.out (Kd.F_below (Kd.C_F (Kd.heap_int .u8) HR0_3.out) (by repeat (first | (with_reducible first | exact HB.out | apply below_alloc | apply pw_below_drewN | apply below_drew1 | refine below_set ?_ GE188.out) | exact HB.out))))
         rintro e w12 ⟨v193, rfl, ho0, hb⟩
         refine ⟨_, rfl, ?_⟩
         have n0_ := aM19 (Kd.V_lower (Kd.V_mono (ok' := fun k_ => k_ ≠ gb188) ho0 (fun k_ hk_ => Or.elim hk_ (fun hs_ => fun e_ => Nat.not_le.2 hs_ (by rw [e_]; exact GW188.out)) (fun hn_ => (Kd.freshB (g := gb188) (o := .cells #[.int .i64 a0_0, .int .i64 a0_1, .int .i64 a0_2, .slice A0_3 l0_3.length c0_3, .int .i64 a0_4, .int .i64 a0_5, .int .i64 a0_6, .int .i64 a0_7, .int .i64 a0_8, .int .i64 a0_9, .int .i64 a0_10, .int .u8 a0_11] 36 (0, 0)) (by (with_reducible repeat (first | refine bN19 ?_ _ | refine bD19 ?_ | refine bK19 ?_ _)); exact BK188.out) k_ hn_)))) (below_size (by repeat (first | (with_reducible first | exact HB.out | apply below_alloc | apply pw_below_drewN | apply below_drew1 | refine below_set ?_ GE188.out) | exact HB.out))))
         have n1_ := aM19 (blk_below (g := gb188) (o := .cells #[.int .i64 a0_0, .int .i64 a0_1, .int .i64 a0_2, .slice A0_3 l0_3.length c0_3, .int .i64 a0_4, .int .i64 a0_5, .int .i64 a0_6, .int .i64 a0_7, .int .i64 a0_8, .int .i64 a0_9, .int .i64 a0_10, .int .u8 a0_11] 36 (0, 0)) (by (with_reducible repeat (first | refine bN19 ?_ _ | refine bD19 ?_ | refine bK19 ?_ _)); exact BK188.out) hb)
         have n2_ := aM19 (below_step (by repeat (first | (with_reducible first | exact HB.out | apply below_alloc | apply pw_below_drewN | apply below_drew1 | refine below_set ?_ GE188.out) | exact HB.out)) hb)
         clear BK188
         clear HB
         have HO194 := n0_
         have BK188 := n1_
         have HB := n2_
         clear n0_ n1_ n2_
         (try clear hb)
         (try clear hb2)
         (try clear hk)
         (try clear hi)
         (try clear ho0)
         refine hK.out _ _ ⟨(bC19 BK188.out 0).trans rfl, (bC19 BK188.out 1).trans rfl, (bC19 BK188.out 2).trans rfl, (bC19 BK188.out 3).trans rfl, (bC19 BK188.out 4).trans rfl, (bC19 BK188.out 5).trans rfl, (bC19 BK188.out 6).trans rfl, (bC19 BK188.out 7).trans rfl, (bC19 BK188.out 8).trans rfl, (bC19 BK188.out 9).trans rfl, (bC19 BK188.out 10).trans rfl, (bC19 BK188.out 11).trans rfl⟩ (fun hHeld => ?_)
         clear hK K
         refine norm_ (a' := ?_) ?_ ?_
         rotate_left
         ·
          show Act.put _ (some 13) _ = _
          simp only [Act.put, sA, sB, sC, i64_w, i32_w]
          rfl
         exact norm_ (by first | (simp only [putAll, Act.put, List.setIfInBounds_toArray, List.set_cons_zero, List.set_cons_succ]; done) | (simp only [putAll, Act.put, List.setIfInBounds_toArray, List.set_cons_zero, List.set_cons_succ]; rfl)) (hJ2 (v193) _ ⟨hHeld, (by (with_reducible repeat (first | apply Kd.V_alloc | apply Kd.V_drewN | apply Kd.V_drew)); exact HO194.out), (by (with_reducible repeat (first | refine bN19 ?_ _ | refine bD19 ?_ | refine bK19 ?_ _)); exact BK188.out), (by repeat (first | (with_reducible first | exact HB.out | apply below_alloc | apply pw_below_drewN | apply below_drew1 | refine below_set ?_ GE188.out) | exact HB.out))⟩)
        ·
         skip
         refine box_step ?hg (N := 3) ?hd (cs := #[.int .i64 0, .int .i64 0, .int .i64 0, .slice none 0 0]) (t := 25) ?hr ?_; (case hd => rfl); (case hg => rfl); (case hr => first | (go_simp; done) | (go_simp; rfl))
         intro gb195 hg w12 hbox hb
         have n0_ := aM19 (blk_below (g := gb188) (o := .cells #[.int .i64 a0_0, .int .i64 a0_1, .int .i64 a0_2, .slice A0_3 l0_3.length c0_3, .int .i64 a0_4, .int .i64 a0_5, .int .i64 a0_6, .int .i64 a0_7, .int .i64 a0_8, .int .i64 a0_9, .int .i64 a0_10, .int .u8 a0_11] 36 (0, 0)) (by (with_reducible repeat (first | refine bN19 ?_ _ | refine bD19 ?_ | refine bK19 ?_ _)); exact BK188.out) hb)
         have n1_ := aM19 (below_step (by repeat (first | (with_reducible first | exact HB.out | apply below_alloc | apply pw_below_drewN | apply below_drew1 | refine below_set ?_ GE188.out) | exact HB.out)) hb)
         have n2_ := aM19 (hbox)
         have n3_ := aM19 ((by rw [hg]; exact (below_size (by repeat (first | (with_reducible first | exact HB.out | apply below_alloc | apply pw_below_drewN | apply below_drew1 | refine below_set ?_ GE188.out) | exact HB.out))) : w.heap.size ≤ gb195))
         have n4_ := aM19 ((by rw [hg]; exact (below_size (by repeat (first | (with_reducible first | exact HB.out | apply below_alloc | apply pw_below_drewN | apply below_drew1 | refine below_set ?_ GE188.out) | exact HB.out))) : w.heap.size ≤ gb195))
         have n5_ := aM19 ((by rw [hg]; exact Nat.ne_of_lt (blk_lt (g := gb188) (o := .cells #[.int .i64 a0_0, .int .i64 a0_1, .int .i64 a0_2, .slice A0_3 l0_3.length c0_3, .int .i64 a0_4, .int .i64 a0_5, .int .i64 a0_6, .int .i64 a0_7, .int .i64 a0_8, .int .i64 a0_9, .int .i64 a0_10, .int .u8 a0_11] 36 (0, 0)) (by (with_reducible repeat (first | refine bN19 ?_ _ | refine bD19 ?_ | refine bK19 ?_ _)); exact BK188.out)) : gb188 ≠ gb195))
         have n6_ := aM19 ((by rw [hg]; exact Nat.ne_of_gt (blk_lt (g := gb188) (o := .cells #[.int .i64 a0_0, .int .i64 a0_1, .int .i64 a0_2, .slice A0_3 l0_3.length c0_3, .int .i64 a0_4, .int .i64 a0_5, .int .i64 a0_6, .int .i64 a0_7, .int .i64 a0_8, .int .i64 a0_9, .int .i64 a0_10, .int .u8 a0_11] 36 (0, 0)) (by (with_reducible repeat (first | refine bN19 ?_ _ | refine bD19 ?_ | refine bK19 ?_ _)); exact BK188.out)) : gb195 ≠ gb188))
         clear BK188
         clear HB
         have BK188 := n0_
         have HB := n1_
         have BK195 := n2_
         have GW195 := n3_
         have GE195 := n4_
         have NB188_195 := n5_
         have NB195_188 := n6_
         clear n0_ n1_ n2_ n3_ n4_ n5_ n6_
         clear hb hbox hg
         refine hK.out _ _ ⟨(bC19 BK188.out 0).trans rfl, (bC19 BK188.out 1).trans rfl, (bC19 BK188.out 2).trans rfl, (bC19 BK188.out 3).trans rfl, (bC19 BK188.out 4).trans rfl, (bC19 BK188.out 5).trans rfl, (bC19 BK188.out 6).trans rfl, (bC19 BK188.out 7).trans rfl, (bC19 BK188.out 8).trans rfl, (bC19 BK188.out 9).trans rfl, (bC19 BK188.out 10).trans rfl, (bC19 BK188.out 11).trans rfl⟩ (fun hHeld => ?_)
         clear hK K
         refine norm_ (a' := ?_) ?_ ?_
         rotate_left
         ·
          show Act.put _ (some 3) _ = _
          simp only [Act.put, sA, sB, sC, i64_w, i32_w]
          rfl
         exact norm_ (by first | (simp only [putAll, Act.put, List.setIfInBounds_toArray, List.set_cons_zero, List.set_cons_succ]; done) | (simp only [putAll, Act.put, List.setIfInBounds_toArray, List.set_cons_zero, List.set_cons_succ]; rfl)) (hJ10 (gb195) _ ⟨hHeld, (by (with_reducible repeat (first | refine bN19 ?_ _ | refine bD19 ?_ | refine bK19 ?_ _)); exact BK188.out), (by (with_reducible repeat (first | refine bN19 ?_ _ | refine bD19 ?_ | refine bK19 ?_ _)); exact BK195.out), GW195.out, GE195.out, NB188_195.out, NB195_188.out, (by repeat (first | (with_reducible first | exact HB.out | apply below_alloc | apply pw_below_drewN | apply below_drew1 | refine below_set ?_ GE188.out | refine below_set ?_ GE195.out) | exact HB.out))⟩)
        skip
        refine box_step ?hg (N := 4) ?hd (cs := #[.int .i64 0, .int .i64 0, .int .i64 0, .int .i64 0, .int .i64 0, .int .i64 0]) (t := 27) ?hr ?_; (case hd => rfl); (case hg => rfl); (case hr => first | (go_simp; done) | (go_simp; rfl))
        intro gb196 hg w12 hbox hb
        have n0_ := aM19 (blk_below (g := gb188) (o := .cells #[.int .i64 a0_0, .int .i64 a0_1, .int .i64 a0_2, .slice A0_3 l0_3.length c0_3, .int .i64 a0_4, .int .i64 a0_5, .int .i64 a0_6, .int .i64 a0_7, .int .i64 a0_8, .int .i64 a0_9, .int .i64 a0_10, .int .u8 a0_11] 36 (0, 0)) (by (with_reducible repeat (first | refine bN19 ?_ _ | refine bD19 ?_ | refine bK19 ?_ _)); exact BK188.out) hb)
        have n1_ := aM19 (below_step (by repeat (first | (with_reducible first | exact HB.out | apply below_alloc | apply pw_below_drewN | apply below_drew1 | refine below_set ?_ GE188.out) | exact HB.out)) hb)
        have n2_ := aM19 (hbox)
        have n3_ := aM19 ((by rw [hg]; exact (below_size (by repeat (first | (with_reducible first | exact HB.out | apply below_alloc | apply pw_below_drewN | apply below_drew1 | refine below_set ?_ GE188.out) | exact HB.out))) : w.heap.size ≤ gb196))
        have n4_ := aM19 ((by rw [hg]; exact (below_size (by repeat (first | (with_reducible first | exact HB.out | apply below_alloc | apply pw_below_drewN | apply below_drew1 | refine below_set ?_ GE188.out) | exact HB.out))) : w.heap.size ≤ gb196))
        have n5_ := aM19 ((by rw [hg]; exact Nat.ne_of_lt (blk_lt (g := gb188) (o := .cells #[.int .i64 a0_0, .int .i64 a0_1, .int .i64 a0_2, .slice A0_3 l0_3.length c0_3, .int .i64 a0_4, .int .i64 a0_5, .int .i64 a0_6, .int .i64 a0_7, .int .i64 a0_8, .int .i64 a0_9, .int .i64 a0_10, .int .u8 a0_11] 36 (0, 0)) (by (with_reducible repeat (first | refine bN19 ?_ _ | refine bD19 ?_ | refine bK19 ?_ _)); exact BK188.out)) : gb188 ≠ gb196))
        have n6_ := aM19 ((by rw [hg]; exact Nat.ne_of_gt (blk_lt (g := gb188) (o := .cells #[.int .i64 a0_0, .int .i64 a0_1, .int .i64 a0_2, .slice A0_3 l0_3.length c0_3, .int .i64 a0_4, .int .i64 a0_5, .int .i64 a0_6, .int .i64 a0_7, .int .i64 a0_8, .int .i64 a0_9, .int .i64 a0_10, .int .u8 a0_11] 36 (0, 0)) (by (with_reducible repeat (first | refine bN19 ?_ _ | refine bD19 ?_ | refine bK19 ?_ _)); exact BK188.out)) : gb196 ≠ gb188))
        clear BK188
        clear HB
        have BK188 := n0_
        have HB := n1_
        have BK196 := n2_
        have GW196 := n3_
        have GE196 := n4_
        have NB188_196 := n5_
        have NB196_188 := n6_
        clear n0_ n1_ n2_ n3_ n4_ n5_ n6_
        clear hb hbox hg
        refine hK.out _ _ ⟨(bC19 BK188.out 0).trans rfl, (bC19 BK188.out 1).trans rfl, (bC19 BK188.out 2).trans rfl, (bC19 BK188.out 3).trans rfl, (bC19 BK188.out 4).trans rfl, (bC19 BK188.out 5).trans rfl, (bC19 BK188.out 6).trans rfl, (bC19 BK188.out 7).trans rfl, (bC19 BK188.out 8).trans rfl, (bC19 BK188.out 9).trans rfl, (bC19 BK188.out 10).trans rfl, (bC19 BK188.out 11).trans rfl⟩ (fun hHeld => ?_)
        clear hK K
        refine norm_ (a' := ?_) ?_ ?_
        rotate_left
        ·
         show Act.put _ (some 4) _ = _
         simp only [Act.put, sA, sB, sC, i64_w, i32_w]
         rfl
        exact norm_ (by first | (simp only [putAll, Act.put, List.setIfInBounds_toArray, List.set_cons_zero, List.set_cons_succ]; done) | (simp only [putAll, Act.put, List.setIfInBounds_toArray, List.set_cons_zero, List.set_cons_succ]; rfl)) (hJ11 (gb196) _ ⟨hHeld, (by (with_reducible repeat (first | refine bN19 ?_ _ | refine bD19 ?_ | refine bK19 ?_ _)); exact BK188.out), (by (with_reducible repeat (first | refine bN19 ?_ _ | refine bD19 ?_ | refine bK19 ?_ _)); exact BK196.out), GW196.out, GE196.out, NB188_196.out, NB196_188.out, (by repeat (first | (with_reducible first | exact HB.out | apply below_alloc | apply pw_below_drewN | apply below_drew1 | refine below_set ?_ GE188.out | refine below_set ?_ GE196.out) | exact HB.out))⟩)
       skip
       rintro gb196 w13 ⟨hS_, h0_, h1_, h2_, h3_, h4_, h5_, h6_⟩
       have n0_ : Aside0 (w13.heap[gb188]? = some (.cells #[.int .i64 a0_0, .int .i64 a0_1, .int .i64 a0_2, .slice A0_3 l0_3.length c0_3, .int .i64 a0_4, .int .i64 a0_5, .int .i64 a0_6, .int .i64 a0_7, .int .i64 a0_8, .int .i64 a0_9, .int .i64 a0_10, .int .u8 a0_11] 36 (0, 0))) := ⟨h0_⟩
       have n1_ : Aside0 (w13.heap[gb196]? = some (.cells #[.int .i64 0, .int .i64 0, .int .i64 0, .int .i64 0, .int .i64 0, .int .i64 0] 27 (0, 0))) := ⟨h1_⟩
       have n2_ : Aside0 (w.heap.size ≤ gb196) := ⟨h2_⟩
       have n3_ : Aside0 (w.heap.size ≤ gb196) := ⟨h3_⟩
       have n4_ : Aside0 (gb188 ≠ gb196) := ⟨h4_⟩
       have n5_ : Aside0 (gb196 ≠ gb188) := ⟨h5_⟩
       have n6_ : Aside0 (Below w.heap.size w w13) := ⟨h6_⟩
       clear BK188
       clear HB
       clear h0_ h1_ h2_ h3_ h4_ h5_ h6_
       have BK188 := n0_
       have BK196 := n1_
       have GW196 := n2_
       have GE196 := n3_
       have NB188_196 := n4_
       have NB196_188 := n5_
       have HB := n6_
       clear n0_ n1_ n2_ n3_ n4_ n5_ n6_
       have hHeld : w13.cell? ⟨gb188, 0, none⟩ = some (.int .i64 a0_0) ∧ w13.cell? ⟨gb188, 1, none⟩ = some (.int .i64 a0_1) ∧ w13.cell? ⟨gb188, 2, none⟩ = some (.int .i64 a0_2) ∧ w13.cell? ⟨gb188, 3, none⟩ = some (.slice A0_3 l0_3.length c0_3) ∧ w13.cell? ⟨gb188, 4, none⟩ = some (.int .i64 a0_4) ∧ w13.cell? ⟨gb188, 5, none⟩ = some (.int .i64 a0_5) ∧ w13.cell? ⟨gb188, 6, none⟩ = some (.int .i64 a0_6) ∧ w13.cell? ⟨gb188, 7, none⟩ = some (.int .i64 a0_7) ∧ w13.cell? ⟨gb188, 8, none⟩ = some (.int .i64 a0_8) ∧ w13.cell? ⟨gb188, 9, none⟩ = some (.int .i64 a0_9) ∧ w13.cell? ⟨gb188, 10, none⟩ = some (.int .i64 a0_10) ∧ w13.cell? ⟨gb188, 11, none⟩ = some (.int .u8 a0_11) := hS_
       refine norm_ (a' := ?_) ?_ ?_
       rotate_left
       ·
        simp only [putAll, Act.put, List.setIfInBounds_toArray, List.set_cons_zero, List.set_cons_succ]
        rfl
       refine two_ (i := 2) (j := 10) (Ni := some 13) (Nj := some 3) (bA 16 3071) #[true, true, false, true, true, true, true, true, true, true, true, true, false, false, false, false] rfl rfl rfl rfl (two_of HT_.out (by kernel_rfl)) (by decide) (by decide) (fun K hK => ?_) (fun K hK => ?_)
       ·
        skip
        refine goes_ Try.func11 (by kernel_rfl) rfl #[.agg #[.int .i64 a0_0, .int .i64 a0_1, .int .i64 a0_2, .slice A0_3 l0_3.length c0_3]] (by rfl) rfl rfl (by (try simp only [List.map_toArray, List.map_cons, List.map_nil]); first | done | rfl | (simp only [List.length_drop, List.length_take]; rfl)) ?_
        with_reducible refine (bivouaclaw16_few.calls a0_0 a0_1 a0_2 (fun k_ => k_ < w.heap.size) _ _ l0_3 t189 t190 t191 t192 _ ?side1 A2.out).mono ?_
        (case side1 => exact Kd.V_mk HC0_3.out (Kd.F_below (Kd.C_F (Kd.heap_int .u8) HR0_3.out) (by repeat (first | (with_reducible first | exact HB.out | apply below_alloc | apply pw_below_drewN | apply below_drew1 | refine below_set ?_ GE188.out | refine below_set ?_ GE196.out) | exact HB.out))))
        rintro e w14 ⟨v193, rfl, ho0, hb⟩
        refine ⟨_, rfl, ?_⟩
        have n0_ := aM19 (Kd.V_lower (Kd.V_mono (ok' := fun k_ => k_ ≠ gb188 ∧ k_ ≠ gb196) ho0 (fun k_ hk_ => ⟨Or.elim hk_ (fun hs_ => fun e_ => Nat.not_le.2 hs_ (by rw [e_]; exact GW188.out)) (fun hn_ => (Kd.freshB (g := gb188) (o := .cells #[.int .i64 a0_0, .int .i64 a0_1, .int .i64 a0_2, .slice A0_3 l0_3.length c0_3, .int .i64 a0_4, .int .i64 a0_5, .int .i64 a0_6, .int .i64 a0_7, .int .i64 a0_8, .int .i64 a0_9, .int .i64 a0_10, .int .u8 a0_11] 36 (0, 0)) (by (with_reducible repeat (first | refine bN19 ?_ _ | refine bD19 ?_ | refine bK19 ?_ _)); exact BK188.out) k_ hn_)), Or.elim hk_ (fun hs_ => fun e_ => Nat.not_le.2 hs_ (by rw [e_]; exact GW196.out)) (fun hn_ => (Kd.freshB (g := gb196) (o := .cells #[.int .i64 0, .int .i64 0, .int .i64 0, .int .i64 0, .int .i64 0, .int .i64 0] 27 (0, 0)) (by (with_reducible repeat (first | refine bN19 ?_ _ | refine bD19 ?_ | refine bK19 ?_ _)); exact BK196.out) k_ hn_))⟩)) (below_size (by repeat (first | (with_reducible first | exact HB.out | apply below_alloc | apply pw_below_drewN | apply below_drew1 | refine below_set ?_ GE188.out | refine below_set ?_ GE196.out) | exact HB.out))))
        have n1_ := aM19 (blk_below (g := gb188) (o := .cells #[.int .i64 a0_0, .int .i64 a0_1, .int .i64 a0_2, .slice A0_3 l0_3.length c0_3, .int .i64 a0_4, .int .i64 a0_5, .int .i64 a0_6, .int .i64 a0_7, .int .i64 a0_8, .int .i64 a0_9, .int .i64 a0_10, .int .u8 a0_11] 36 (0, 0)) (by (with_reducible repeat (first | refine bN19 ?_ _ | refine bD19 ?_ | refine bK19 ?_ _)); exact BK188.out) hb)
        have n2_ := aM19 (blk_below (g := gb196) (o := .cells #[.int .i64 0, .int .i64 0, .int .i64 0, .int .i64 0, .int .i64 0, .int .i64 0] 27 (0, 0)) (by (with_reducible repeat (first | refine bN19 ?_ _ | refine bD19 ?_ | refine bK19 ?_ _)); exact BK196.out) hb)
        have n3_ := aM19 (below_step (by repeat (first | (with_reducible first | exact HB.out | apply below_alloc | apply pw_below_drewN | apply below_drew1 | refine below_set ?_ GE188.out | refine below_set ?_ GE196.out) | exact HB.out)) hb)
        clear BK188
        clear BK196
        clear HB
        have HO194 := n0_
        have BK188 := n1_
        have BK196 := n2_
        have HB := n3_
        clear n0_ n1_ n2_ n3_
        (try clear hb)
        (try clear hb2)
        (try clear hk)
        (try clear hi)
        (try clear ho0)
        refine hK.out _ _ ⟨(bC19 BK188.out 0).trans rfl, (bC19 BK188.out 1).trans rfl, (bC19 BK188.out 2).trans rfl, (bC19 BK188.out 3).trans rfl, (bC19 BK188.out 4).trans rfl, (bC19 BK188.out 5).trans rfl, (bC19 BK188.out 6).trans rfl, (bC19 BK188.out 7).trans rfl, (bC19 BK188.out 8).trans rfl, (bC19 BK188.out 9).trans rfl, (bC19 BK188.out 10).trans rfl, (bC19 BK188.out 11).trans rfl⟩ (fun hHeld => ?_)
        clear hK K
        refine norm_ (a' := ?_) ?_ ?_
        rotate_left
        ·
         show Act.put _ (some 13) _ = _
         simp only [Act.put, sA, sB, sC, i64_w, i32_w]
         rfl
        exact norm_ (by first | (simp only [putAll, Act.put, List.setIfInBounds_toArray, List.set_cons_zero, List.set_cons_succ]; done) | (simp only [putAll, Act.put, List.setIfInBounds_toArray, List.set_cons_zero, List.set_cons_succ]; rfl)) (hJ2_11 (v193, gb196) _ ⟨hHeld, (by (with_reducible repeat (first | apply Kd.V_alloc | apply Kd.V_drewN | apply Kd.V_drew)); exact HO194.out), (by (with_reducible repeat (first | refine bN19 ?_ _ | refine bD19 ?_ | refine bK19 ?_ _)); exact BK188.out), (by (with_reducible repeat (first | refine bN19 ?_ _ | refine bD19 ?_ | refine bK19 ?_ _)); exact BK196.out), GW196.out, GE196.out, NB188_196.out, NB196_188.out, (by repeat (first | (with_reducible first | exact HB.out | apply below_alloc | apply pw_below_drewN | apply below_drew1 | refine below_set ?_ GE188.out | refine below_set ?_ GE196.out) | exact HB.out))⟩)
       skip
       refine box_step ?hg (N := 3) ?hd (cs := #[.int .i64 0, .int .i64 0, .int .i64 0, .slice none 0 0]) (t := 25) ?hr ?_; (case hd => rfl); (case hg => rfl); (case hr => first | (go_simp; done) | (go_simp; rfl))
       intro gb195 hg w14 hbox hb
       have n0_ := aM19 (blk_below (g := gb188) (o := .cells #[.int .i64 a0_0, .int .i64 a0_1, .int .i64 a0_2, .slice A0_3 l0_3.length c0_3, .int .i64 a0_4, .int .i64 a0_5, .int .i64 a0_6, .int .i64 a0_7, .int .i64 a0_8, .int .i64 a0_9, .int .i64 a0_10, .int .u8 a0_11] 36 (0, 0)) (by (with_reducible repeat (first | refine bN19 ?_ _ | refine bD19 ?_ | refine bK19 ?_ _)); exact BK188.out) hb)
       have n1_ := aM19 (blk_below (g := gb196) (o := .cells #[.int .i64 0, .int .i64 0, .int .i64 0, .int .i64 0, .int .i64 0, .int .i64 0] 27 (0, 0)) (by (with_reducible repeat (first | refine bN19 ?_ _ | refine bD19 ?_ | refine bK19 ?_ _)); exact BK196.out) hb)
       have n2_ := aM19 (below_step (by repeat (first | (with_reducible first | exact HB.out | apply below_alloc | apply pw_below_drewN | apply below_drew1 | refine below_set ?_ GE188.out | refine below_set ?_ GE196.out) | exact HB.out)) hb)
       have n3_ := aM19 (hbox)
       have n4_ := aM19 ((by rw [hg]; exact (below_size (by repeat (first | (with_reducible first | exact HB.out | apply below_alloc | apply pw_below_drewN | apply below_drew1 | refine below_set ?_ GE188.out | refine below_set ?_ GE196.out) | exact HB.out))) : w.heap.size ≤ gb195))
       have n5_ := aM19 ((by rw [hg]; exact (below_size (by repeat (first | (with_reducible first | exact HB.out | apply below_alloc | apply pw_below_drewN | apply below_drew1 | refine below_set ?_ GE188.out | refine below_set ?_ GE196.out) | exact HB.out))) : w.heap.size ≤ gb195))
       have n6_ := aM19 ((by rw [hg]; exact Nat.ne_of_lt (blk_lt (g := gb188) (o := .cells #[.int .i64 a0_0, .int .i64 a0_1, .int .i64 a0_2, .slice A0_3 l0_3.length c0_3, .int .i64 a0_4, .int .i64 a0_5, .int .i64 a0_6, .int .i64 a0_7, .int .i64 a0_8, .int .i64 a0_9, .int .i64 a0_10, .int .u8 a0_11] 36 (0, 0)) (by (with_reducible repeat (first | refine bN19 ?_ _ | refine bD19 ?_ | refine bK19 ?_ _)); exact BK188.out)) : gb188 ≠ gb195))
       have n7_ := aM19 ((by rw [hg]; exact Nat.ne_of_gt (blk_lt (g := gb188) (o := .cells #[.int .i64 a0_0, .int .i64 a0_1, .int .i64 a0_2, .slice A0_3 l0_3.length c0_3, .int .i64 a0_4, .int .i64 a0_5, .int .i64 a0_6, .int .i64 a0_7, .int .i64 a0_8, .int .i64 a0_9, .int .i64 a0_10, .int .u8 a0_11] 36 (0, 0)) (by (with_reducible repeat (first | refine bN19 ?_ _ | refine bD19 ?_ | refine bK19 ?_ _)); exact BK188.out)) : gb195 ≠ gb188))
       have n8_ := aM19 ((by rw [hg]; exact Nat.ne_of_lt (blk_lt (g := gb196) (o := .cells #[.int .i64 0, .int .i64 0, .int .i64 0, .int .i64 0, .int .i64 0, .int .i64 0] 27 (0, 0)) (by (with_reducible repeat (first | refine bN19 ?_ _ | refine bD19 ?_ | refine bK19 ?_ _)); exact BK196.out)) : gb196 ≠ gb195))
       have n9_ := aM19 ((by rw [hg]; exact Nat.ne_of_gt (blk_lt (g := gb196) (o := .cells #[.int .i64 0, .int .i64 0, .int .i64 0, .int .i64 0, .int .i64 0, .int .i64 0] 27 (0, 0)) (by (with_reducible repeat (first | refine bN19 ?_ _ | refine bD19 ?_ | refine bK19 ?_ _)); exact BK196.out)) : gb195 ≠ gb196))
       clear BK188
       clear BK196
       clear HB
       have BK188 := n0_
       have BK196 := n1_
       have HB := n2_
       have BK195 := n3_
       have GW195 := n4_
       have GE195 := n5_
       have NB188_195 := n6_
       have NB195_188 := n7_
       have NB196_195 := n8_
       have NB195_196 := n9_
       clear n0_ n1_ n2_ n3_ n4_ n5_ n6_ n7_ n8_ n9_
       clear hb hbox hg
       refine hK.out _ _ ⟨(bC19 BK188.out 0).trans rfl, (bC19 BK188.out 1).trans rfl, (bC19 BK188.out 2).trans rfl, (bC19 BK188.out 3).trans rfl, (bC19 BK188.out 4).trans rfl, (bC19 BK188.out 5).trans rfl, (bC19 BK188.out 6).trans rfl, (bC19 BK188.out 7).trans rfl, (bC19 BK188.out 8).trans rfl, (bC19 BK188.out 9).trans rfl, (bC19 BK188.out 10).trans rfl, (bC19 BK188.out 11).trans rfl⟩ (fun hHeld => ?_)
       clear hK K
       refine norm_ (a' := ?_) ?_ ?_
       rotate_left
       ·
        show Act.put _ (some 3) _ = _
        simp only [Act.put, sA, sB, sC, i64_w, i32_w]
        rfl
       exact norm_ (by first | (simp only [putAll, Act.put, List.setIfInBounds_toArray, List.set_cons_zero, List.set_cons_succ]; done) | (simp only [putAll, Act.put, List.setIfInBounds_toArray, List.set_cons_zero, List.set_cons_succ]; rfl)) (hJ10_11 (gb195, gb196) _ ⟨hHeld, (by (with_reducible repeat (first | refine bN19 ?_ _ | refine bD19 ?_ | refine bK19 ?_ _)); exact BK188.out), (by (with_reducible repeat (first | refine bN19 ?_ _ | refine bD19 ?_ | refine bK19 ?_ _)); exact BK195.out), (by (with_reducible repeat (first | refine bN19 ?_ _ | refine bD19 ?_ | refine bK19 ?_ _)); exact BK196.out), GW195.out, GE195.out, NB188_195.out, NB195_188.out, NB196_195.out, NB195_196.out, GW196.out, GE196.out, NB188_196.out, NB196_188.out, (by repeat (first | (with_reducible first | exact HB.out | apply below_alloc | apply pw_below_drewN | apply below_drew1 | refine below_set ?_ GE188.out | refine below_set ?_ GE196.out | refine below_set ?_ GE195.out) | exact HB.out))⟩)
      skip
      rintro gb195 w13 ⟨hS_, h0_, h1_, h2_, h3_, h4_, h5_, h6_⟩
      have n0_ : Aside0 (w13.heap[gb188]? = some (.cells #[.int .i64 a0_0, .int .i64 a0_1, .int .i64 a0_2, .slice A0_3 l0_3.length c0_3, .int .i64 a0_4, .int .i64 a0_5, .int .i64 a0_6, .int .i64 a0_7, .int .i64 a0_8, .int .i64 a0_9, .int .i64 a0_10, .int .u8 a0_11] 36 (0, 0))) := ⟨h0_⟩
      have n1_ : Aside0 (w13.heap[gb195]? = some (.cells #[.int .i64 0, .int .i64 0, .int .i64 0, .slice none 0 0] 25 (0, 0))) := ⟨h1_⟩
      have n2_ : Aside0 (w.heap.size ≤ gb195) := ⟨h2_⟩
      have n3_ : Aside0 (w.heap.size ≤ gb195) := ⟨h3_⟩
      have n4_ : Aside0 (gb188 ≠ gb195) := ⟨h4_⟩
      have n5_ : Aside0 (gb195 ≠ gb188) := ⟨h5_⟩
      have n6_ : Aside0 (Below w.heap.size w w13) := ⟨h6_⟩
      clear BK188
      clear HB
      clear h0_ h1_ h2_ h3_ h4_ h5_ h6_
      have BK188 := n0_
      have BK195 := n1_
      have GW195 := n2_
      have GE195 := n3_
      have NB188_195 := n4_
      have NB195_188 := n5_
      have HB := n6_
      clear n0_ n1_ n2_ n3_ n4_ n5_ n6_
      have hHeld : w13.cell? ⟨gb188, 0, none⟩ = some (.int .i64 a0_0) ∧ w13.cell? ⟨gb188, 1, none⟩ = some (.int .i64 a0_1) ∧ w13.cell? ⟨gb188, 2, none⟩ = some (.int .i64 a0_2) ∧ w13.cell? ⟨gb188, 3, none⟩ = some (.slice A0_3 l0_3.length c0_3) ∧ w13.cell? ⟨gb188, 4, none⟩ = some (.int .i64 a0_4) ∧ w13.cell? ⟨gb188, 5, none⟩ = some (.int .i64 a0_5) ∧ w13.cell? ⟨gb188, 6, none⟩ = some (.int .i64 a0_6) ∧ w13.cell? ⟨gb188, 7, none⟩ = some (.int .i64 a0_7) ∧ w13.cell? ⟨gb188, 8, none⟩ = some (.int .i64 a0_8) ∧ w13.cell? ⟨gb188, 9, none⟩ = some (.int .i64 a0_9) ∧ w13.cell? ⟨gb188, 10, none⟩ = some (.int .i64 a0_10) ∧ w13.cell? ⟨gb188, 11, none⟩ = some (.int .u8 a0_11) := hS_
      refine norm_ (a' := ?_) ?_ ?_
      rotate_left
      ·
       simp only [putAll, Act.put, List.setIfInBounds_toArray, List.set_cons_zero, List.set_cons_succ]
       rfl
      refine two_ (i := 2) (j := 11) (Ni := some 13) (Nj := some 4) (bA 16 2047) #[true, true, false, true, true, true, true, true, true, true, true, true, false, false, false, false] rfl rfl rfl rfl (two_of HT_.out (by kernel_rfl)) (by decide) (by decide) (fun K hK => ?_) (fun K hK => ?_)
      ·
       skip
       refine goes_ Try.func11 (by kernel_rfl) rfl #[.agg #[.int .i64 a0_0, .int .i64 a0_1, .int .i64 a0_2, .slice A0_3 l0_3.length c0_3]] (by rfl) rfl rfl (by (try simp only [List.map_toArray, List.map_cons, List.map_nil]); first | done | rfl | (simp only [List.length_drop, List.length_take]; rfl)) ?_
       with_reducible refine (bivouaclaw16_few.calls a0_0 a0_1 a0_2 (fun k_ => k_ < w.heap.size) _ _ l0_3 t189 t190 t191 t192 _ ?side1 A2.out).mono ?_
       (case side1 => exact Kd.V_mk HC0_3.out (Kd.F_below (Kd.C_F (Kd.heap_int .u8) HR0_3.out) (by repeat (first | (with_reducible first | exact HB.out | apply below_alloc | apply pw_below_drewN | apply below_drew1 | refine below_set ?_ GE188.out | refine below_set ?_ GE195.out) | exact HB.out))))
       rintro e w14 ⟨v193, rfl, ho0, hb⟩
       refine ⟨_, rfl, ?_⟩
       have n0_ := aM19 (Kd.V_lower (Kd.V_mono (ok' := fun k_ => k_ ≠ gb188 ∧ k_ ≠ gb195) ho0 (fun k_ hk_ => ⟨Or.elim hk_ (fun hs_ => fun e_ => Nat.not_le.2 hs_ (by rw [e_]; exact GW188.out)) (fun hn_ => (Kd.freshB (g := gb188) (o := .cells #[.int .i64 a0_0, .int .i64 a0_1, .int .i64 a0_2, .slice A0_3 l0_3.length c0_3, .int .i64 a0_4, .int .i64 a0_5, .int .i64 a0_6, .int .i64 a0_7, .int .i64 a0_8, .int .i64 a0_9, .int .i64 a0_10, .int .u8 a0_11] 36 (0, 0)) (by (with_reducible repeat (first | refine bN19 ?_ _ | refine bD19 ?_ | refine bK19 ?_ _)); exact BK188.out) k_ hn_)), Or.elim hk_ (fun hs_ => fun e_ => Nat.not_le.2 hs_ (by rw [e_]; exact GW195.out)) (fun hn_ => (Kd.freshB (g := gb195) (o := .cells #[.int .i64 0, .int .i64 0, .int .i64 0, .slice none 0 0] 25 (0, 0)) (by (with_reducible repeat (first | refine bN19 ?_ _ | refine bD19 ?_ | refine bK19 ?_ _)); exact BK195.out) k_ hn_))⟩)) (below_size (by repeat (first | (with_reducible first | exact HB.out | apply below_alloc | apply pw_below_drewN | apply below_drew1 | refine below_set ?_ GE188.out | refine below_set ?_ GE195.out) | exact HB.out))))
       have n1_ := aM19 (blk_below (g := gb188) (o := .cells #[.int .i64 a0_0, .int .i64 a0_1, .int .i64 a0_2, .slice A0_3 l0_3.length c0_3, .int .i64 a0_4, .int .i64 a0_5, .int .i64 a0_6, .int .i64 a0_7, .int .i64 a0_8, .int .i64 a0_9, .int .i64 a0_10, .int .u8 a0_11] 36 (0, 0)) (by (with_reducible repeat (first | refine bN19 ?_ _ | refine bD19 ?_ | refine bK19 ?_ _)); exact BK188.out) hb)
       have n2_ := aM19 (blk_below (g := gb195) (o := .cells #[.int .i64 0, .int .i64 0, .int .i64 0, .slice none 0 0] 25 (0, 0)) (by (with_reducible repeat (first | refine bN19 ?_ _ | refine bD19 ?_ | refine bK19 ?_ _)); exact BK195.out) hb)
       have n3_ := aM19 (below_step (by repeat (first | (with_reducible first | exact HB.out | apply below_alloc | apply pw_below_drewN | apply below_drew1 | refine below_set ?_ GE188.out | refine below_set ?_ GE195.out) | exact HB.out)) hb)
       clear BK188
       clear BK195
       clear HB
       have HO194 := n0_
       have BK188 := n1_
       have BK195 := n2_
       have HB := n3_
       clear n0_ n1_ n2_ n3_
       (try clear hb)
       (try clear hb2)
       (try clear hk)
       (try clear hi)
       (try clear ho0)
       refine hK.out _ _ ⟨(bC19 BK188.out 0).trans rfl, (bC19 BK188.out 1).trans rfl, (bC19 BK188.out 2).trans rfl, (bC19 BK188.out 3).trans rfl, (bC19 BK188.out 4).trans rfl, (bC19 BK188.out 5).trans rfl, (bC19 BK188.out 6).trans rfl, (bC19 BK188.out 7).trans rfl, (bC19 BK188.out 8).trans rfl, (bC19 BK188.out 9).trans rfl, (bC19 BK188.out 10).trans rfl, (bC19 BK188.out 11).trans rfl⟩ (fun hHeld => ?_)
       clear hK K
       refine norm_ (a' := ?_) ?_ ?_
       rotate_left
       ·
        show Act.put _ (some 13) _ = _
        simp only [Act.put, sA, sB, sC, i64_w, i32_w]
        rfl
       exact norm_ (by first | (simp only [putAll, Act.put, List.setIfInBounds_toArray, List.set_cons_zero, List.set_cons_succ]; done) | (simp only [putAll, Act.put, List.setIfInBounds_toArray, List.set_cons_zero, List.set_cons_succ]; rfl)) (hJ2_10 (v193, gb195) _ ⟨hHeld, (by (with_reducible repeat (first | apply Kd.V_alloc | apply Kd.V_drewN | apply Kd.V_drew)); exact HO194.out), (by (with_reducible repeat (first | refine bN19 ?_ _ | refine bD19 ?_ | refine bK19 ?_ _)); exact BK188.out), (by (with_reducible repeat (first | refine bN19 ?_ _ | refine bD19 ?_ | refine bK19 ?_ _)); exact BK195.out), GW195.out, GE195.out, NB188_195.out, NB195_188.out, (by repeat (first | (with_reducible first | exact HB.out | apply below_alloc | apply pw_below_drewN | apply below_drew1 | refine below_set ?_ GE188.out | refine below_set ?_ GE195.out) | exact HB.out))⟩)
      skip
      refine box_step ?hg (N := 4) ?hd (cs := #[.int .i64 0, .int .i64 0, .int .i64 0, .int .i64 0, .int .i64 0, .int .i64 0]) (t := 27) ?hr ?_; (case hd => rfl); (case hg => rfl); (case hr => first | (go_simp; done) | (go_simp; rfl))
      intro gb196 hg w14 hbox hb
      have n0_ := aM19 (blk_below (g := gb188) (o := .cells #[.int .i64 a0_0, .int .i64 a0_1, .int .i64 a0_2, .slice A0_3 l0_3.length c0_3, .int .i64 a0_4, .int .i64 a0_5, .int .i64 a0_6, .int .i64 a0_7, .int .i64 a0_8, .int .i64 a0_9, .int .i64 a0_10, .int .u8 a0_11] 36 (0, 0)) (by (with_reducible repeat (first | refine bN19 ?_ _ | refine bD19 ?_ | refine bK19 ?_ _)); exact BK188.out) hb)
      have n1_ := aM19 (blk_below (g := gb195) (o := .cells #[.int .i64 0, .int .i64 0, .int .i64 0, .slice none 0 0] 25 (0, 0)) (by (with_reducible repeat (first | refine bN19 ?_ _ | refine bD19 ?_ | refine bK19 ?_ _)); exact BK195.out) hb)
      have n2_ := aM19 (below_step (by repeat (first | (with_reducible first | exact HB.out | apply below_alloc | apply pw_below_drewN | apply below_drew1 | refine below_set ?_ GE188.out | refine below_set ?_ GE195.out) | exact HB.out)) hb)
      have n3_ := aM19 (hbox)
      have n4_ := aM19 ((by rw [hg]; exact (below_size (by repeat (first | (with_reducible first | exact HB.out | apply below_alloc | apply pw_below_drewN | apply below_drew1 | refine below_set ?_ GE188.out | refine below_set ?_ GE195.out) | exact HB.out))) : w.heap.size ≤ gb196))
      have n5_ := aM19 ((by rw [hg]; exact (below_size (by repeat (first | (with_reducible first | exact HB.out | apply below_alloc | apply pw_below_drewN | apply below_drew1 | refine below_set ?_ GE188.out | refine below_set ?_ GE195.out) | exact HB.out))) : w.heap.size ≤ gb196))
      have n6_ := aM19 ((by rw [hg]; exact Nat.ne_of_lt (blk_lt (g := gb188) (o := .cells #[.int .i64 a0_0, .int .i64 a0_1, .int .i64 a0_2, .slice A0_3 l0_3.length c0_3, .int .i64 a0_4, .int .i64 a0_5, .int .i64 a0_6, .int .i64 a0_7, .int .i64 a0_8, .int .i64 a0_9, .int .i64 a0_10, .int .u8 a0_11] 36 (0, 0)) (by (with_reducible repeat (first | refine bN19 ?_ _ | refine bD19 ?_ | refine bK19 ?_ _)); exact BK188.out)) : gb188 ≠ gb196))
      have n7_ := aM19 ((by rw [hg]; exact Nat.ne_of_gt (blk_lt (g := gb188) (o := .cells #[.int .i64 a0_0, .int .i64 a0_1, .int .i64 a0_2, .slice A0_3 l0_3.length c0_3, .int .i64 a0_4, .int .i64 a0_5, .int .i64 a0_6, .int .i64 a0_7, .int .i64 a0_8, .int .i64 a0_9, .int .i64 a0_10, .int .u8 a0_11] 36 (0, 0)) (by (with_reducible repeat (first | refine bN19 ?_ _ | refine bD19 ?_ | refine bK19 ?_ _)); exact BK188.out)) : gb196 ≠ gb188))
      have n8_ := aM19 ((by rw [hg]; exact Nat.ne_of_lt (blk_lt (g := gb195) (o := .cells #[.int .i64 0, .int .i64 0, .int .i64 0, .slice none 0 0] 25 (0, 0)) (by (with_reducible repeat (first | refine bN19 ?_ _ | refine bD19 ?_ | refine bK19 ?_ _)); exact BK195.out)) : gb195 ≠ gb196))
      have n9_ := aM19 ((by rw [hg]; exact Nat.ne_of_gt (blk_lt (g := gb195) (o := .cells #[.int .i64 0, .int .i64 0, .int .i64 0, .slice none 0 0] 25 (0, 0)) (by (with_reducible repeat (first | refine bN19 ?_ _ | refine bD19 ?_ | refine bK19 ?_ _)); exact BK195.out)) : gb196 ≠ gb195))
      clear BK188
      clear BK195
      clear HB
      have BK188 := n0_
      have BK195 := n1_
      have HB := n2_
      have BK196 := n3_
      have GW196 := n4_
      have GE196 := n5_
      have NB188_196 := n6_
      have NB196_188 := n7_
      have NB195_196 := n8_
      have NB196_195 := n9_
      clear n0_ n1_ n2_ n3_ n4_ n5_ n6_ n7_ n8_ n9_
      clear hb hbox hg
      refine hK.out _ _ ⟨(bC19 BK188.out 0).trans rfl, (bC19 BK188.out 1).trans rfl, (bC19 BK188.out 2).trans rfl, (bC19 BK188.out 3).trans rfl, (bC19 BK188.out 4).trans rfl, (bC19 BK188.out 5).trans rfl, (bC19 BK188.out 6).trans rfl, (bC19 BK188.out 7).trans rfl, (bC19 BK188.out 8).trans rfl, (bC19 BK188.out 9).trans rfl, (bC19 BK188.out 10).trans rfl, (bC19 BK188.out 11).trans rfl⟩ (fun hHeld => ?_)
      clear hK K
      refine norm_ (a' := ?_) ?_ ?_
      rotate_left
      ·
       show Act.put _ (some 4) _ = _
       simp only [Act.put, sA, sB, sC, i64_w, i32_w]
       rfl
      exact norm_ (by first | (simp only [putAll, Act.put, List.setIfInBounds_toArray, List.set_cons_zero, List.set_cons_succ]; done) | (simp only [putAll, Act.put, List.setIfInBounds_toArray, List.set_cons_zero, List.set_cons_succ]; rfl)) (hJ10_11 (gb195, gb196) _ ⟨hHeld, (by (with_reducible repeat (first | refine bN19 ?_ _ | refine bD19 ?_ | refine bK19 ?_ _)); exact BK188.out), (by (with_reducible repeat (first | refine bN19 ?_ _ | refine bD19 ?_ | refine bK19 ?_ _)); exact BK195.out), (by (with_reducible repeat (first | refine bN19 ?_ _ | refine bD19 ?_ | refine bK19 ?_ _)); exact BK196.out), GW195.out, GE195.out, NB188_195.out, NB195_188.out, NB196_195.out, NB195_196.out, GW196.out, GE196.out, NB188_196.out, NB196_188.out, (by repeat (first | (with_reducible first | exact HB.out | apply below_alloc | apply pw_below_drewN | apply below_drew1 | refine below_set ?_ GE188.out | refine below_set ?_ GE195.out | refine below_set ?_ GE196.out) | exact HB.out))⟩)
     skip
     rintro v193 w13 ⟨hS_, h0_, h1_, h2_⟩
     have n0_ : Aside0 (Kd.V (Kd.int .u8) 5 w13 w.heap.size (fun k_ => k_ ≠ gb188) v193 t192) := ⟨h0_⟩
     have n1_ : Aside0 (w13.heap[gb188]? = some (.cells #[.int .i64 a0_0, .int .i64 a0_1, .int .i64 a0_2, .slice A0_3 l0_3.length c0_3, .int .i64 a0_4, .int .i64 a0_5, .int .i64 a0_6, .int .i64 a0_7, .int .i64 a0_8, .int .i64 a0_9, .int .i64 a0_10, .int .u8 a0_11] 36 (0, 0))) := ⟨h1_⟩
     have n2_ : Aside0 (Below w.heap.size w w13) := ⟨h2_⟩
     clear BK188
     clear HB
     clear h0_ h1_ h2_
     have HO194 := n0_
     have BK188 := n1_
     have HB := n2_
     clear n0_ n1_ n2_
     have hHeld : w13.cell? ⟨gb188, 0, none⟩ = some (.int .i64 a0_0) ∧ w13.cell? ⟨gb188, 1, none⟩ = some (.int .i64 a0_1) ∧ w13.cell? ⟨gb188, 2, none⟩ = some (.int .i64 a0_2) ∧ w13.cell? ⟨gb188, 3, none⟩ = some (.slice A0_3 l0_3.length c0_3) ∧ w13.cell? ⟨gb188, 4, none⟩ = some (.int .i64 a0_4) ∧ w13.cell? ⟨gb188, 5, none⟩ = some (.int .i64 a0_5) ∧ w13.cell? ⟨gb188, 6, none⟩ = some (.int .i64 a0_6) ∧ w13.cell? ⟨gb188, 7, none⟩ = some (.int .i64 a0_7) ∧ w13.cell? ⟨gb188, 8, none⟩ = some (.int .i64 a0_8) ∧ w13.cell? ⟨gb188, 9, none⟩ = some (.int .i64 a0_9) ∧ w13.cell? ⟨gb188, 10, none⟩ = some (.int .i64 a0_10) ∧ w13.cell? ⟨gb188, 11, none⟩ = some (.int .u8 a0_11) := hS_
     refine norm_ (a' := ?_) ?_ ?_
     rotate_left
     ·
      simp only [putAll, Act.put, List.setIfInBounds_toArray, List.set_cons_zero, List.set_cons_succ]
      rfl
     refine two_ (i := 10) (j := 11) (Ni := some 3) (Nj := some 4) (bA 16 2047) #[true, true, true, true, true, true, true, true, true, true, false, true, false, false, false, false] rfl rfl rfl rfl (two_of HT_.out (by kernel_rfl)) (by decide) (by decide) (fun K hK => ?_) (fun K hK => ?_)
     ·
      skip
      refine box_step ?hg (N := 3) ?hd (cs := #[.int .i64 0, .int .i64 0, .int .i64 0, .slice none 0 0]) (t := 25) ?hr ?_; (case hd => rfl); (case hg => rfl); (case hr => first | (go_simp; done) | (go_simp; rfl))
      intro gb195 hg w14 hbox hb
      have n0_ := aM19 (Kd.V_below (Kd.V_elderB (by (with_reducible repeat (first | apply Kd.V_alloc | apply Kd.V_drewN | apply Kd.V_drew)); exact HO194.out) gb195 (Nat.le_of_eq hg.symm)) hb)
      have n1_ := aM19 (blk_below (g := gb188) (o := .cells #[.int .i64 a0_0, .int .i64 a0_1, .int .i64 a0_2, .slice A0_3 l0_3.length c0_3, .int .i64 a0_4, .int .i64 a0_5, .int .i64 a0_6, .int .i64 a0_7, .int .i64 a0_8, .int .i64 a0_9, .int .i64 a0_10, .int .u8 a0_11] 36 (0, 0)) (by (with_reducible repeat (first | refine bN19 ?_ _ | refine bD19 ?_ | refine bK19 ?_ _)); exact BK188.out) hb)
      have n2_ := aM19 (below_step (by repeat (first | (with_reducible first | exact HB.out | apply below_alloc | apply pw_below_drewN | apply below_drew1 | refine below_set ?_ GE188.out) | exact HB.out)) hb)
      have n3_ := aM19 (hbox)
      have n4_ := aM19 ((by rw [hg]; exact (below_size (by repeat (first | (with_reducible first | exact HB.out | apply below_alloc | apply pw_below_drewN | apply below_drew1 | refine below_set ?_ GE188.out) | exact HB.out))) : w.heap.size ≤ gb195))
      have n5_ := aM19 ((by rw [hg]; exact (below_size (by repeat (first | (with_reducible first | exact HB.out | apply below_alloc | apply pw_below_drewN | apply below_drew1 | refine below_set ?_ GE188.out) | exact HB.out))) : w.heap.size ≤ gb195))
      have n6_ := aM19 ((by rw [hg]; exact Nat.ne_of_lt (blk_lt (g := gb188) (o := .cells #[.int .i64 a0_0, .int .i64 a0_1, .int .i64 a0_2, .slice A0_3 l0_3.length c0_3, .int .i64 a0_4, .int .i64 a0_5, .int .i64 a0_6, .int .i64 a0_7, .int .i64 a0_8, .int .i64 a0_9, .int .i64 a0_10, .int .u8 a0_11] 36 (0, 0)) (by (with_reducible repeat (first | refine bN19 ?_ _ | refine bD19 ?_ | refine bK19 ?_ _)); exact BK188.out)) : gb188 ≠ gb195))
      have n7_ := aM19 ((by rw [hg]; exact Nat.ne_of_gt (blk_lt (g := gb188) (o := .cells #[.int .i64 a0_0, .int .i64 a0_1, .int .i64 a0_2, .slice A0_3 l0_3.length c0_3, .int .i64 a0_4, .int .i64 a0_5, .int .i64 a0_6, .int .i64 a0_7, .int .i64 a0_8, .int .i64 a0_9, .int .i64 a0_10, .int .u8 a0_11] 36 (0, 0)) (by (with_reducible repeat (first | refine bN19 ?_ _ | refine bD19 ?_ | refine bK19 ?_ _)); exact BK188.out)) : gb195 ≠ gb188))
      clear HO194
      clear BK188
      clear HB
      have HO194 := n0_
      have BK188 := n1_
      have HB := n2_
      have BK195 := n3_
      have GW195 := n4_
      have GE195 := n5_
      have NB188_195 := n6_
      have NB195_188 := n7_
      clear n0_ n1_ n2_ n3_ n4_ n5_ n6_ n7_
      clear hb hbox hg
      refine hK.out _ _ ⟨(bC19 BK188.out 0).trans rfl, (bC19 BK188.out 1).trans rfl, (bC19 BK188.out 2).trans rfl, (bC19 BK188.out 3).trans rfl, (bC19 BK188.out 4).trans rfl, (bC19 BK188.out 5).trans rfl, (bC19 BK188.out 6).trans rfl, (bC19 BK188.out 7).trans rfl, (bC19 BK188.out 8).trans rfl, (bC19 BK188.out 9).trans rfl, (bC19 BK188.out 10).trans rfl, (bC19 BK188.out 11).trans rfl⟩ (fun hHeld => ?_)
      clear hK K
      refine norm_ (a' := ?_) ?_ ?_
      rotate_left
      ·
       show Act.put _ (some 3) _ = _
       simp only [Act.put, sA, sB, sC, i64_w, i32_w]
       rfl
      exact norm_ (by first | (simp only [putAll, Act.put, List.setIfInBounds_toArray, List.set_cons_zero, List.set_cons_succ]; done) | (simp only [putAll, Act.put, List.setIfInBounds_toArray, List.set_cons_zero, List.set_cons_succ]; rfl)) (hJ2_10 (v193, gb195) _ ⟨hHeld, (by (with_reducible repeat (first | apply Kd.V_alloc | apply Kd.V_drewN | apply Kd.V_drew)); exact HO194.out), (by (with_reducible repeat (first | refine bN19 ?_ _ | refine bD19 ?_ | refine bK19 ?_ _)); exact BK188.out), (by (with_reducible repeat (first | refine bN19 ?_ _ | refine bD19 ?_ | refine bK19 ?_ _)); exact BK195.out), GW195.out, GE195.out, NB188_195.out, NB195_188.out, (by repeat (first | (with_reducible first | exact HB.out | apply below_alloc | apply pw_below_drewN | apply below_drew1 | refine below_set ?_ GE188.out | refine below_set ?_ GE195.out) | exact HB.out))⟩)
     skip
     refine box_step ?hg (N := 4) ?hd (cs := #[.int .i64 0, .int .i64 0, .int .i64 0, .int .i64 0, .int .i64 0, .int .i64 0]) (t := 27) ?hr ?_; (case hd => rfl); (case hg => rfl); (case hr => first | (go_simp; done) | (go_simp; rfl))
     intro gb196 hg w14 hbox hb
     have n0_ := aM19 (Kd.V_below (Kd.V_elderB (by (with_reducible repeat (first | apply Kd.V_alloc | apply Kd.V_drewN | apply Kd.V_drew)); exact HO194.out) gb196 (Nat.le_of_eq hg.symm)) hb)
     have n1_ := aM19 (blk_below (g := gb188) (o := .cells #[.int .i64 a0_0, .int .i64 a0_1, .int .i64 a0_2, .slice A0_3 l0_3.length c0_3, .int .i64 a0_4, .int .i64 a0_5, .int .i64 a0_6, .int .i64 a0_7, .int .i64 a0_8, .int .i64 a0_9, .int .i64 a0_10, .int .u8 a0_11] 36 (0, 0)) (by (with_reducible repeat (first | refine bN19 ?_ _ | refine bD19 ?_ | refine bK19 ?_ _)); exact BK188.out) hb)
     have n2_ := aM19 (below_step (by repeat (first | (with_reducible first | exact HB.out | apply below_alloc | apply pw_below_drewN | apply below_drew1 | refine below_set ?_ GE188.out) | exact HB.out)) hb)
     have n3_ := aM19 (hbox)
     have n4_ := aM19 ((by rw [hg]; exact (below_size (by repeat (first | (with_reducible first | exact HB.out | apply below_alloc | apply pw_below_drewN | apply below_drew1 | refine below_set ?_ GE188.out) | exact HB.out))) : w.heap.size ≤ gb196))
     have n5_ := aM19 ((by rw [hg]; exact (below_size (by repeat (first | (with_reducible first | exact HB.out | apply below_alloc | apply pw_below_drewN | apply below_drew1 | refine below_set ?_ GE188.out) | exact HB.out))) : w.heap.size ≤ gb196))
     have n6_ := aM19 ((by rw [hg]; exact Nat.ne_of_lt (blk_lt (g := gb188) (o := .cells #[.int .i64 a0_0, .int .i64 a0_1, .int .i64 a0_2, .slice A0_3 l0_3.length c0_3, .int .i64 a0_4, .int .i64 a0_5, .int .i64 a0_6, .int .i64 a0_7, .int .i64 a0_8, .int .i64 a0_9, .int .i64 a0_10, .int .u8 a0_11] 36 (0, 0)) (by (with_reducible repeat (first | refine bN19 ?_ _ | refine bD19 ?_ | refine bK19 ?_ _)); exact BK188.out)) : gb188 ≠ gb196))
     have n7_ := aM19 ((by rw [hg]; exact Nat.ne_of_gt (blk_lt (g := gb188) (o := .cells #[.int .i64 a0_0, .int .i64 a0_1, .int .i64 a0_2, .slice A0_3 l0_3.length c0_3, .int .i64 a0_4, .int .i64 a0_5, .int .i64 a0_6, .int .i64 a0_7, .int .i64 a0_8, .int .i64 a0_9, .int .i64 a0_10, .int .u8 a0_11] 36 (0, 0)) (by (with_reducible repeat (first | refine bN19 ?_ _ | refine bD19 ?_ | refine bK19 ?_ _)); exact BK188.out)) : gb196 ≠ gb188))
     clear HO194
     clear BK188
     clear HB
     have HO194 := n0_
     have BK188 := n1_
     have HB := n2_
     have BK196 := n3_
     have GW196 := n4_
     have GE196 := n5_
     have NB188_196 := n6_
     have NB196_188 := n7_
     clear n0_ n1_ n2_ n3_ n4_ n5_ n6_ n7_
     clear hb hbox hg
     refine hK.out _ _ ⟨(bC19 BK188.out 0).trans rfl, (bC19 BK188.out 1).trans rfl, (bC19 BK188.out 2).trans rfl, (bC19 BK188.out 3).trans rfl, (bC19 BK188.out 4).trans rfl, (bC19 BK188.out 5).trans rfl, (bC19 BK188.out 6).trans rfl, (bC19 BK188.out 7).trans rfl, (bC19 BK188.out 8).trans rfl, (bC19 BK188.out 9).trans rfl, (bC19 BK188.out 10).trans rfl, (bC19 BK188.out 11).trans rfl⟩ (fun hHeld => ?_)
     clear hK K
     refine norm_ (a' := ?_) ?_ ?_
     rotate_left
     ·
      show Act.put _ (some 4) _ = _
      simp only [Act.put, sA, sB, sC, i64_w, i32_w]
      rfl
     exact norm_ (by first | (simp only [putAll, Act.put, List.setIfInBounds_toArray, List.set_cons_zero, List.set_cons_succ]; done) | (simp only [putAll, Act.put, List.setIfInBounds_toArray, List.set_cons_zero, List.set_cons_succ]; rfl)) (hJ2_11 (v193, gb196) _ ⟨hHeld, (by (with_reducible repeat (first | apply Kd.V_alloc | apply Kd.V_drewN | apply Kd.V_drew)); exact HO194.out), (by (with_reducible repeat (first | refine bN19 ?_ _ | refine bD19 ?_ | refine bK19 ?_ _)); exact BK188.out), (by (with_reducible repeat (first | refine bN19 ?_ _ | refine bD19 ?_ | refine bK19 ?_ _)); exact BK196.out), GW196.out, GE196.out, NB188_196.out, NB196_188.out, (by repeat (first | (with_reducible first | exact HB.out | apply below_alloc | apply pw_below_drewN | apply below_drew1 | refine below_set ?_ GE188.out | refine below_set ?_ GE196.out) | exact HB.out))⟩)
    skip
    rintro ⟨gb195, gb196⟩ w14 ⟨hS_, h0_, h1_, h2_, h3_, h4_, h5_, h6_, h7_, h8_, h9_, h10_, h11_, h12_, h13_⟩
    have n0_ : Aside0 (w14.heap[gb188]? = some (.cells #[.int .i64 a0_0, .int .i64 a0_1, .int .i64 a0_2, .slice A0_3 l0_3.length c0_3, .int .i64 a0_4, .int .i64 a0_5, .int .i64 a0_6, .int .i64 a0_7, .int .i64 a0_8, .int .i64 a0_9, .int .i64 a0_10, .int .u8 a0_11] 36 (0, 0))) := ⟨h0_⟩
    have n1_ : Aside0 (w14.heap[gb195]? = some (.cells #[.int .i64 0, .int .i64 0, .int .i64 0, .slice none 0 0] 25 (0, 0))) := ⟨h1_⟩
    have n2_ : Aside0 (w14.heap[gb196]? = some (.cells #[.int .i64 0, .int .i64 0, .int .i64 0, .int .i64 0, .int .i64 0, .int .i64 0] 27 (0, 0))) := ⟨h2_⟩
    have n3_ : Aside0 (w.heap.size ≤ gb195) := ⟨h3_⟩
    have n4_ : Aside0 (w.heap.size ≤ gb195) := ⟨h4_⟩
    have n5_ : Aside0 (gb188 ≠ gb195) := ⟨h5_⟩
    have n6_ : Aside0 (gb195 ≠ gb188) := ⟨h6_⟩
    have n7_ : Aside0 (gb196 ≠ gb195) := ⟨h7_⟩
    have n8_ : Aside0 (gb195 ≠ gb196) := ⟨h8_⟩
    have n9_ : Aside0 (w.heap.size ≤ gb196) := ⟨h9_⟩
    have n10_ : Aside0 (w.heap.size ≤ gb196) := ⟨h10_⟩
    have n11_ : Aside0 (gb188 ≠ gb196) := ⟨h11_⟩
    have n12_ : Aside0 (gb196 ≠ gb188) := ⟨h12_⟩
    have n13_ : Aside0 (Below w.heap.size w w14) := ⟨h13_⟩
    clear BK188
    clear HB
    clear h0_ h1_ h2_ h3_ h4_ h5_ h6_ h7_ h8_ h9_ h10_ h11_ h12_ h13_
    have BK188 := n0_
    have BK195 := n1_
    have BK196 := n2_
    have GW195 := n3_
    have GE195 := n4_
    have NB188_195 := n5_
    have NB195_188 := n6_
    have NB196_195 := n7_
    have NB195_196 := n8_
    have GW196 := n9_
    have GE196 := n10_
    have NB188_196 := n11_
    have NB196_188 := n12_
    have HB := n13_
    clear n0_ n1_ n2_ n3_ n4_ n5_ n6_ n7_ n8_ n9_ n10_ n11_ n12_ n13_
    have hHeld : w14.cell? ⟨gb188, 0, none⟩ = some (.int .i64 a0_0) ∧ w14.cell? ⟨gb188, 1, none⟩ = some (.int .i64 a0_1) ∧ w14.cell? ⟨gb188, 2, none⟩ = some (.int .i64 a0_2) ∧ w14.cell? ⟨gb188, 3, none⟩ = some (.slice A0_3 l0_3.length c0_3) ∧ w14.cell? ⟨gb188, 4, none⟩ = some (.int .i64 a0_4) ∧ w14.cell? ⟨gb188, 5, none⟩ = some (.int .i64 a0_5) ∧ w14.cell? ⟨gb188, 6, none⟩ = some (.int .i64 a0_6) ∧ w14.cell? ⟨gb188, 7, none⟩ = some (.int .i64 a0_7) ∧ w14.cell? ⟨gb188, 8, none⟩ = some (.int .i64 a0_8) ∧ w14.cell? ⟨gb188, 9, none⟩ = some (.int .i64 a0_9) ∧ w14.cell? ⟨gb188, 10, none⟩ = some (.int .i64 a0_10) ∧ w14.cell? ⟨gb188, 11, none⟩ = some (.int .u8 a0_11) := hS_
    refine norm_ (a' := ?_) ?_ ?_
    rotate_left
    ·
     simp only [putAll, Act.put, List.setIfInBounds_toArray, List.set_cons_zero, List.set_cons_succ]
     rfl
    refine one_ (i := 2) (N := some 13) (bA 16 4095) rfl rfl (one_of HT_.out (by kernel_rfl)) (by decide) (fun K hK => ?_)
    refine goes_ Try.func11 (by kernel_rfl) rfl #[.agg #[.int .i64 a0_0, .int .i64 a0_1, .int .i64 a0_2, .slice A0_3 l0_3.length c0_3]] (by rfl) rfl rfl (by (try simp only [List.map_toArray, List.map_cons, List.map_nil]); first | done | rfl | (simp only [List.length_drop, List.length_take]; rfl)) ?_
    with_reducible refine (bivouaclaw16_few.calls a0_0 a0_1 a0_2 (fun k_ => k_ < w.heap.size) _ _ l0_3 t189 t190 t191 t192 _ ?side1 A2.out).mono ?_
    (case side1 => exact Kd.V_mk HC0_3.out (Kd.F_below (Kd.C_F (Kd.heap_int .u8) HR0_3.out) (by repeat (first | (with_reducible first | exact HB.out | apply below_alloc | apply pw_below_drewN | apply below_drew1 | refine below_set ?_ GE188.out | refine below_set ?_ GE195.out | refine below_set ?_ GE196.out) | exact HB.out))))
    rintro e w15 ⟨v193, rfl, ho0, hb⟩
    refine ⟨_, rfl, ?_⟩
    have n0_ := aM19 (Kd.V_lower (Kd.V_mono (ok' := fun k_ => k_ ≠ gb188 ∧ k_ ≠ gb195 ∧ k_ ≠ gb196) ho0 (fun k_ hk_ => ⟨Or.elim hk_ (fun hs_ => fun e_ => Nat.not_le.2 hs_ (by rw [e_]; exact GW188.out)) (fun hn_ => (Kd.freshB (g := gb188) (o := .cells #[.int .i64 a0_0, .int .i64 a0_1, .int .i64 a0_2, .slice A0_3 l0_3.length c0_3, .int .i64 a0_4, .int .i64 a0_5, .int .i64 a0_6, .int .i64 a0_7, .int .i64 a0_8, .int .i64 a0_9, .int .i64 a0_10, .int .u8 a0_11] 36 (0, 0)) (by (with_reducible repeat (first | refine bN19 ?_ _ | refine bD19 ?_ | refine bK19 ?_ _)); exact BK188.out) k_ hn_)), Or.elim hk_ (fun hs_ => fun e_ => Nat.not_le.2 hs_ (by rw [e_]; exact GW195.out)) (fun hn_ => (Kd.freshB (g := gb195) (o := .cells #[.int .i64 0, .int .i64 0, .int .i64 0, .slice none 0 0] 25 (0, 0)) (by (with_reducible repeat (first | refine bN19 ?_ _ | refine bD19 ?_ | refine bK19 ?_ _)); exact BK195.out) k_ hn_)), Or.elim hk_ (fun hs_ => fun e_ => Nat.not_le.2 hs_ (by rw [e_]; exact GW196.out)) (fun hn_ => (Kd.freshB (g := gb196) (o := .cells #[.int .i64 0, .int .i64 0, .int .i64 0, .int .i64 0, .int .i64 0, .int .i64 0] 27 (0, 0)) (by (with_reducible repeat (first | refine bN19 ?_ _ | refine bD19 ?_ | refine bK19 ?_ _)); exact BK196.out) k_ hn_))⟩)) (below_size (by repeat (first | (with_reducible first | exact HB.out | apply below_alloc | apply pw_below_drewN | apply below_drew1 | refine below_set ?_ GE188.out | refine below_set ?_ GE195.out | refine below_set ?_ GE196.out) | exact HB.out))))
    have n1_ := aM19 (blk_below (g := gb188) (o := .cells #[.int .i64 a0_0, .int .i64 a0_1, .int .i64 a0_2, .slice A0_3 l0_3.length c0_3, .int .i64 a0_4, .int .i64 a0_5, .int .i64 a0_6, .int .i64 a0_7, .int .i64 a0_8, .int .i64 a0_9, .int .i64 a0_10, .int .u8 a0_11] 36 (0, 0)) (by (with_reducible repeat (first | refine bN19 ?_ _ | refine bD19 ?_ | refine bK19 ?_ _)); exact BK188.out) hb)
    have n2_ := aM19 (blk_below (g := gb195) (o := .cells #[.int .i64 0, .int .i64 0, .int .i64 0, .slice none 0 0] 25 (0, 0)) (by (with_reducible repeat (first | refine bN19 ?_ _ | refine bD19 ?_ | refine bK19 ?_ _)); exact BK195.out) hb)
    have n3_ := aM19 (blk_below (g := gb196) (o := .cells #[.int .i64 0, .int .i64 0, .int .i64 0, .int .i64 0, .int .i64 0, .int .i64 0] 27 (0, 0)) (by (with_reducible repeat (first | refine bN19 ?_ _ | refine bD19 ?_ | refine bK19 ?_ _)); exact BK196.out) hb)
    have n4_ := aM19 (below_step (by repeat (first | (with_reducible first | exact HB.out | apply below_alloc | apply pw_below_drewN | apply below_drew1 | refine below_set ?_ GE188.out | refine below_set ?_ GE195.out | refine below_set ?_ GE196.out) | exact HB.out)) hb)
    clear BK188
    clear BK195
    clear BK196
    clear HB
    have HO194 := n0_
    have BK188 := n1_
    have BK195 := n2_
    have BK196 := n3_
    have HB := n4_
    clear n0_ n1_ n2_ n3_ n4_
    (try clear hb)
    (try clear hb2)
    (try clear hk)
    (try clear hi)
    (try clear ho0)
    refine hK.out _ _ ⟨(bC19 BK188.out 0).trans rfl, (bC19 BK188.out 1).trans rfl, (bC19 BK188.out 2).trans rfl, (bC19 BK188.out 3).trans rfl, (bC19 BK188.out 4).trans rfl, (bC19 BK188.out 5).trans rfl, (bC19 BK188.out 6).trans rfl, (bC19 BK188.out 7).trans rfl, (bC19 BK188.out 8).trans rfl, (bC19 BK188.out 9).trans rfl, (bC19 BK188.out 10).trans rfl, (bC19 BK188.out 11).trans rfl⟩ (fun hHeld => ?_)
    clear hK K
    refine norm_ (a' := ?_) ?_ ?_
    rotate_left
    ·
     show Act.put _ (some 13) _ = _
     simp only [Act.put, sA, sB, sC, i64_w, i32_w]
     rfl
    exact norm_ (by first | (simp only [putAll, Act.put, List.setIfInBounds_toArray, List.set_cons_zero, List.set_cons_succ]; done) | (simp only [putAll, Act.put, List.setIfInBounds_toArray, List.set_cons_zero, List.set_cons_succ]; rfl)) (hJ2_10_11 (v193, gb195, gb196) _ ⟨hHeld, (by (with_reducible repeat (first | apply Kd.V_alloc | apply Kd.V_drewN | apply Kd.V_drew)); exact HO194.out), (by (with_reducible repeat (first | refine bN19 ?_ _ | refine bD19 ?_ | refine bK19 ?_ _)); exact BK188.out), (by (with_reducible repeat (first | refine bN19 ?_ _ | refine bD19 ?_ | refine bK19 ?_ _)); exact BK195.out), (by (with_reducible repeat (first | refine bN19 ?_ _ | refine bD19 ?_ | refine bK19 ?_ _)); exact BK196.out), GW195.out, GE195.out, NB188_195.out, NB195_188.out, NB196_195.out, NB195_196.out, GW196.out, GE196.out, NB188_196.out, NB196_188.out, (by repeat (first | (with_reducible first | exact HB.out | apply below_alloc | apply pw_below_drewN | apply below_drew1 | refine below_set ?_ GE188.out | refine below_set ?_ GE195.out | refine below_set ?_ GE196.out) | exact HB.out))⟩)
   skip
   rintro ⟨v193, gb196⟩ w14 ⟨hS_, h0_, h1_, h2_, h3_, h4_, h5_, h6_, h7_⟩
   have n0_ : Aside0 (Kd.V (Kd.int .u8) 5 w14 w.heap.size (fun k_ => k_ ≠ gb188 ∧ k_ ≠ gb196) v193 t192) := ⟨h0_⟩
   have n1_ : Aside0 (w14.heap[gb188]? = some (.cells #[.int .i64 a0_0, .int .i64 a0_1, .int .i64 a0_2, .slice A0_3 l0_3.length c0_3, .int .i64 a0_4, .int .i64 a0_5, .int .i64 a0_6, .int .i64 a0_7, .int .i64 a0_8, .int .i64 a0_9, .int .i64 a0_10, .int .u8 a0_11] 36 (0, 0))) := ⟨h1_⟩
   have n2_ : Aside0 (w14.heap[gb196]? = some (.cells #[.int .i64 0, .int .i64 0, .int .i64 0, .int .i64 0, .int .i64 0, .int .i64 0] 27 (0, 0))) := ⟨h2_⟩
   have n3_ : Aside0 (w.heap.size ≤ gb196) := ⟨h3_⟩
   have n4_ : Aside0 (w.heap.size ≤ gb196) := ⟨h4_⟩
   have n5_ : Aside0 (gb188 ≠ gb196) := ⟨h5_⟩
   have n6_ : Aside0 (gb196 ≠ gb188) := ⟨h6_⟩
   have n7_ : Aside0 (Below w.heap.size w w14) := ⟨h7_⟩
   clear BK188
   clear HB
   clear h0_ h1_ h2_ h3_ h4_ h5_ h6_ h7_
   have HO194 := n0_
   have BK188 := n1_
   have BK196 := n2_
   have GW196 := n3_
   have GE196 := n4_
   have NB188_196 := n5_
   have NB196_188 := n6_
   have HB := n7_
   clear n0_ n1_ n2_ n3_ n4_ n5_ n6_ n7_
   have hHeld : w14.cell? ⟨gb188, 0, none⟩ = some (.int .i64 a0_0) ∧ w14.cell? ⟨gb188, 1, none⟩ = some (.int .i64 a0_1) ∧ w14.cell? ⟨gb188, 2, none⟩ = some (.int .i64 a0_2) ∧ w14.cell? ⟨gb188, 3, none⟩ = some (.slice A0_3 l0_3.length c0_3) ∧ w14.cell? ⟨gb188, 4, none⟩ = some (.int .i64 a0_4) ∧ w14.cell? ⟨gb188, 5, none⟩ = some (.int .i64 a0_5) ∧ w14.cell? ⟨gb188, 6, none⟩ = some (.int .i64 a0_6) ∧ w14.cell? ⟨gb188, 7, none⟩ = some (.int .i64 a0_7) ∧ w14.cell? ⟨gb188, 8, none⟩ = some (.int .i64 a0_8) ∧ w14.cell? ⟨gb188, 9, none⟩ = some (.int .i64 a0_9) ∧ w14.cell? ⟨gb188, 10, none⟩ = some (.int .i64 a0_10) ∧ w14.cell? ⟨gb188, 11, none⟩ = some (.int .u8 a0_11) := hS_
   refine norm_ (a' := ?_) ?_ ?_
   rotate_left
   ·
    simp only [putAll, Act.put, List.setIfInBounds_toArray, List.set_cons_zero, List.set_cons_succ]
    rfl
   refine one_ (i := 10) (N := some 3) (bA 16 4095) rfl rfl (one_of HT_.out (by kernel_rfl)) (by decide) (fun K hK => ?_)
   refine box_step ?hg (N := 3) ?hd (cs := #[.int .i64 0, .int .i64 0, .int .i64 0, .slice none 0 0]) (t := 25) ?hr ?_; (case hd => rfl); (case hg => rfl); (case hr => first | (go_simp; done) | (go_simp; rfl))
   intro gb195 hg w15 hbox hb
   have n0_ := aM19 (Kd.V_below (Kd.V_elderB (by (with_reducible repeat (first | apply Kd.V_alloc | apply Kd.V_drewN | apply Kd.V_drew)); exact HO194.out) gb195 (Nat.le_of_eq hg.symm)) hb)
   have n1_ := aM19 (blk_below (g := gb188) (o := .cells #[.int .i64 a0_0, .int .i64 a0_1, .int .i64 a0_2, .slice A0_3 l0_3.length c0_3, .int .i64 a0_4, .int .i64 a0_5, .int .i64 a0_6, .int .i64 a0_7, .int .i64 a0_8, .int .i64 a0_9, .int .i64 a0_10, .int .u8 a0_11] 36 (0, 0)) (by (with_reducible repeat (first | refine bN19 ?_ _ | refine bD19 ?_ | refine bK19 ?_ _)); exact BK188.out) hb)
   have n2_ := aM19 (blk_below (g := gb196) (o := .cells #[.int .i64 0, .int .i64 0, .int .i64 0, .int .i64 0, .int .i64 0, .int .i64 0] 27 (0, 0)) (by (with_reducible repeat (first | refine bN19 ?_ _ | refine bD19 ?_ | refine bK19 ?_ _)); exact BK196.out) hb)
   have n3_ := aM19 (below_step (by repeat (first | (with_reducible first | exact HB.out | apply below_alloc | apply pw_below_drewN | apply below_drew1 | refine below_set ?_ GE188.out | refine below_set ?_ GE196.out) | exact HB.out)) hb)
   have n4_ := aM19 (hbox)
   have n5_ := aM19 ((by rw [hg]; exact (below_size (by repeat (first | (with_reducible first | exact HB.out | apply below_alloc | apply pw_below_drewN | apply below_drew1 | refine below_set ?_ GE188.out | refine below_set ?_ GE196.out) | exact HB.out))) : w.heap.size ≤ gb195))
   have n6_ := aM19 ((by rw [hg]; exact (below_size (by repeat (first | (with_reducible first | exact HB.out | apply below_alloc | apply pw_below_drewN | apply below_drew1 | refine below_set ?_ GE188.out | refine below_set ?_ GE196.out) | exact HB.out))) : w.heap.size ≤ gb195))
   have n7_ := aM19 ((by rw [hg]; exact Nat.ne_of_lt (blk_lt (g := gb188) (o := .cells #[.int .i64 a0_0, .int .i64 a0_1, .int .i64 a0_2, .slice A0_3 l0_3.length c0_3, .int .i64 a0_4, .int .i64 a0_5, .int .i64 a0_6, .int .i64 a0_7, .int .i64 a0_8, .int .i64 a0_9, .int .i64 a0_10, .int .u8 a0_11] 36 (0, 0)) (by (with_reducible repeat (first | refine bN19 ?_ _ | refine bD19 ?_ | refine bK19 ?_ _)); exact BK188.out)) : gb188 ≠ gb195))
   have n8_ := aM19 ((by rw [hg]; exact Nat.ne_of_gt (blk_lt (g := gb188) (o := .cells #[.int .i64 a0_0, .int .i64 a0_1, .int .i64 a0_2, .slice A0_3 l0_3.length c0_3, .int .i64 a0_4, .int .i64 a0_5, .int .i64 a0_6, .int .i64 a0_7, .int .i64 a0_8, .int .i64 a0_9, .int .i64 a0_10, .int .u8 a0_11] 36 (0, 0)) (by (with_reducible repeat (first | refine bN19 ?_ _ | refine bD19 ?_ | refine bK19 ?_ _)); exact BK188.out)) : gb195 ≠ gb188))
   have n9_ := aM19 ((by rw [hg]; exact Nat.ne_of_lt (blk_lt (g := gb196) (o := .cells #[.int .i64 0, .int .i64 0, .int .i64 0, .int .i64 0, .int .i64 0, .int .i64 0] 27 (0, 0)) (by (with_reducible repeat (first | refine bN19 ?_ _ | refine bD19 ?_ | refine bK19 ?_ _)); exact BK196.out)) : gb196 ≠ gb195))
   have n10_ := aM19 ((by rw [hg]; exact Nat.ne_of_gt (blk_lt (g := gb196) (o := .cells #[.int .i64 0, .int .i64 0, .int .i64 0, .int .i64 0, .int .i64 0, .int .i64 0] 27 (0, 0)) (by (with_reducible repeat (first | refine bN19 ?_ _ | refine bD19 ?_ | refine bK19 ?_ _)); exact BK196.out)) : gb195 ≠ gb196))
   clear HO194
   clear BK188
   clear BK196
   clear HB
   have HO194 := n0_
   have BK188 := n1_
   have BK196 := n2_
   have HB := n3_
   have BK195 := n4_
   have GW195 := n5_
   have GE195 := n6_
   have NB188_195 := n7_
   have NB195_188 := n8_
   have NB196_195 := n9_
   have NB195_196 := n10_
   clear n0_ n1_ n2_ n3_ n4_ n5_ n6_ n7_ n8_ n9_ n10_
   clear hb hbox hg
   refine hK.out _ _ ⟨(bC19 BK188.out 0).trans rfl, (bC19 BK188.out 1).trans rfl, (bC19 BK188.out 2).trans rfl, (bC19 BK188.out 3).trans rfl, (bC19 BK188.out 4).trans rfl, (bC19 BK188.out 5).trans rfl, (bC19 BK188.out 6).trans rfl, (bC19 BK188.out 7).trans rfl, (bC19 BK188.out 8).trans rfl, (bC19 BK188.out 9).trans rfl, (bC19 BK188.out 10).trans rfl, (bC19 BK188.out 11).trans rfl⟩ (fun hHeld => ?_)
   clear hK K
   refine norm_ (a' := ?_) ?_ ?_
   rotate_left
   ·
    show Act.put _ (some 3) _ = _
    simp only [Act.put, sA, sB, sC, i64_w, i32_w]
    rfl
   exact norm_ (by first | (simp only [putAll, Act.put, List.setIfInBounds_toArray, List.set_cons_zero, List.set_cons_succ]; done) | (simp only [putAll, Act.put, List.setIfInBounds_toArray, List.set_cons_zero, List.set_cons_succ]; rfl)) (hJ2_10_11 (v193, gb195, gb196) _ ⟨hHeld, (by (with_reducible repeat (first | apply Kd.V_alloc | apply Kd.V_drewN | apply Kd.V_drew)); exact Kd.V_mono HO194.out (fun _ hk => ⟨hk.1.1, ⟨hk.2, hk.1.2⟩⟩)), (by (with_reducible repeat (first | refine bN19 ?_ _ | refine bD19 ?_ | refine bK19 ?_ _)); exact BK188.out), (by (with_reducible repeat (first | refine bN19 ?_ _ | refine bD19 ?_ | refine bK19 ?_ _)); exact BK195.out), (by (with_reducible repeat (first | refine bN19 ?_ _ | refine bD19 ?_ | refine bK19 ?_ _)); exact BK196.out), GW195.out, GE195.out, NB188_195.out, NB195_188.out, NB196_195.out, NB195_196.out, GW196.out, GE196.out, NB188_196.out, NB196_188.out, (by repeat (first | (with_reducible first | exact HB.out | apply below_alloc | apply pw_below_drewN | apply below_drew1 | refine below_set ?_ GE188.out | refine below_set ?_ GE196.out | refine below_set ?_ GE195.out) | exact HB.out))⟩)
  skip
  rintro ⟨v193, gb195⟩ w14 ⟨hS_, h0_, h1_, h2_, h3_, h4_, h5_, h6_, h7_⟩
  have n0_ : Aside0 (Kd.V (Kd.int .u8) 5 w14 w.heap.size (fun k_ => k_ ≠ gb188 ∧ k_ ≠ gb195) v193 t192) := ⟨h0_⟩
  have n1_ : Aside0 (w14.heap[gb188]? = some (.cells #[.int .i64 a0_0, .int .i64 a0_1, .int .i64 a0_2, .slice A0_3 l0_3.length c0_3, .int .i64 a0_4, .int .i64 a0_5, .int .i64 a0_6, .int .i64 a0_7, .int .i64 a0_8, .int .i64 a0_9, .int .i64 a0_10, .int .u8 a0_11] 36 (0, 0))) := ⟨h1_⟩
  have n2_ : Aside0 (w14.heap[gb195]? = some (.cells #[.int .i64 0, .int .i64 0, .int .i64 0, .slice none 0 0] 25 (0, 0))) := ⟨h2_⟩
  have n3_ : Aside0 (w.heap.size ≤ gb195) := ⟨h3_⟩
  have n4_ : Aside0 (w.heap.size ≤ gb195) := ⟨h4_⟩
  have n5_ : Aside0 (gb188 ≠ gb195) := ⟨h5_⟩
  have n6_ : Aside0 (gb195 ≠ gb188) := ⟨h6_⟩
  have n7_ : Aside0 (Below w.heap.size w w14) := ⟨h7_⟩
  clear BK188
  clear HB
  clear h0_ h1_ h2_ h3_ h4_ h5_ h6_ h7_
  have HO194 := n0_
  have BK188 := n1_
  have BK195 := n2_
  have GW195 := n3_
  have GE195 := n4_
  have NB188_195 := n5_
  have NB195_188 := n6_
  have HB := n7_
  clear n0_ n1_ n2_ n3_ n4_ n5_ n6_ n7_
  have hHeld : w14.cell? ⟨gb188, 0, none⟩ = some (.int .i64 a0_0) ∧ w14.cell? ⟨gb188, 1, none⟩ = some (.int .i64 a0_1) ∧ w14.cell? ⟨gb188, 2, none⟩ = some (.int .i64 a0_2) ∧ w14.cell? ⟨gb188, 3, none⟩ = some (.slice A0_3 l0_3.length c0_3) ∧ w14.cell? ⟨gb188, 4, none⟩ = some (.int .i64 a0_4) ∧ w14.cell? ⟨gb188, 5, none⟩ = some (.int .i64 a0_5) ∧ w14.cell? ⟨gb188, 6, none⟩ = some (.int .i64 a0_6) ∧ w14.cell? ⟨gb188, 7, none⟩ = some (.int .i64 a0_7) ∧ w14.cell? ⟨gb188, 8, none⟩ = some (.int .i64 a0_8) ∧ w14.cell? ⟨gb188, 9, none⟩ = some (.int .i64 a0_9) ∧ w14.cell? ⟨gb188, 10, none⟩ = some (.int .i64 a0_10) ∧ w14.cell? ⟨gb188, 11, none⟩ = some (.int .u8 a0_11) := hS_
  refine norm_ (a' := ?_) ?_ ?_
  rotate_left
  ·
   simp only [putAll, Act.put, List.setIfInBounds_toArray, List.set_cons_zero, List.set_cons_succ]
   rfl
  refine one_ (i := 11) (N := some 4) (bA 16 4095) rfl rfl (one_of HT_.out (by kernel_rfl)) (by decide) (fun K hK => ?_)
  refine box_step ?hg (N := 4) ?hd (cs := #[.int .i64 0, .int .i64 0, .int .i64 0, .int .i64 0, .int .i64 0, .int .i64 0]) (t := 27) ?hr ?_; (case hd => rfl); (case hg => rfl); (case hr => first | (go_simp; done) | (go_simp; rfl))
  intro gb196 hg w15 hbox hb
  have n0_ := aM19 (Kd.V_below (Kd.V_elderB (by (with_reducible repeat (first | apply Kd.V_alloc | apply Kd.V_drewN | apply Kd.V_drew)); exact HO194.out) gb196 (Nat.le_of_eq hg.symm)) hb)
  have n1_ := aM19 (blk_below (g := gb188) (o := .cells #[.int .i64 a0_0, .int .i64 a0_1, .int .i64 a0_2, .slice A0_3 l0_3.length c0_3, .int .i64 a0_4, .int .i64 a0_5, .int .i64 a0_6, .int .i64 a0_7, .int .i64 a0_8, .int .i64 a0_9, .int .i64 a0_10, .int .u8 a0_11] 36 (0, 0)) (by (with_reducible repeat (first | refine bN19 ?_ _ | refine bD19 ?_ | refine bK19 ?_ _)); exact BK188.out) hb)
  have n2_ := aM19 (blk_below (g := gb195) (o := .cells #[.int .i64 0, .int .i64 0, .int .i64 0, .slice none 0 0] 25 (0, 0)) (by (with_reducible repeat (first | refine bN19 ?_ _ | refine bD19 ?_ | refine bK19 ?_ _)); exact BK195.out) hb)
  have n3_ := aM19 (below_step (by repeat (first | (with_reducible first | exact HB.out | apply below_alloc | apply pw_below_drewN | apply below_drew1 | refine below_set ?_ GE188.out | refine below_set ?_ GE195.out) | exact HB.out)) hb)
  have n4_ := aM19 (hbox)
  have n5_ := aM19 ((by rw [hg]; exact (below_size (by repeat (first | (with_reducible first | exact HB.out | apply below_alloc | apply pw_below_drewN | apply below_drew1 | refine below_set ?_ GE188.out | refine below_set ?_ GE195.out) | exact HB.out))) : w.heap.size ≤ gb196))
  have n6_ := aM19 ((by rw [hg]; exact (below_size (by repeat (first | (with_reducible first | exact HB.out | apply below_alloc | apply pw_below_drewN | apply below_drew1 | refine below_set ?_ GE188.out | refine below_set ?_ GE195.out) | exact HB.out))) : w.heap.size ≤ gb196))
  have n7_ := aM19 ((by rw [hg]; exact Nat.ne_of_lt (blk_lt (g := gb188) (o := .cells #[.int .i64 a0_0, .int .i64 a0_1, .int .i64 a0_2, .slice A0_3 l0_3.length c0_3, .int .i64 a0_4, .int .i64 a0_5, .int .i64 a0_6, .int .i64 a0_7, .int .i64 a0_8, .int .i64 a0_9, .int .i64 a0_10, .int .u8 a0_11] 36 (0, 0)) (by (with_reducible repeat (first | refine bN19 ?_ _ | refine bD19 ?_ | refine bK19 ?_ _)); exact BK188.out)) : gb188 ≠ gb196))
  have n8_ := aM19 ((by rw [hg]; exact Nat.ne_of_gt (blk_lt (g := gb188) (o := .cells #[.int .i64 a0_0, .int .i64 a0_1, .int .i64 a0_2, .slice A0_3 l0_3.length c0_3, .int .i64 a0_4, .int .i64 a0_5, .int .i64 a0_6, .int .i64 a0_7, .int .i64 a0_8, .int .i64 a0_9, .int .i64 a0_10, .int .u8 a0_11] 36 (0, 0)) (by (with_reducible repeat (first | refine bN19 ?_ _ | refine bD19 ?_ | refine bK19 ?_ _)); exact BK188.out)) : gb196 ≠ gb188))
  have n9_ := aM19 ((by rw [hg]; exact Nat.ne_of_lt (blk_lt (g := gb195) (o := .cells #[.int .i64 0, .int .i64 0, .int .i64 0, .slice none 0 0] 25 (0, 0)) (by (with_reducible repeat (first | refine bN19 ?_ _ | refine bD19 ?_ | refine bK19 ?_ _)); exact BK195.out)) : gb195 ≠ gb196))
  have n10_ := aM19 ((by rw [hg]; exact Nat.ne_of_gt (blk_lt (g := gb195) (o := .cells #[.int .i64 0, .int .i64 0, .int .i64 0, .slice none 0 0] 25 (0, 0)) (by (with_reducible repeat (first | refine bN19 ?_ _ | refine bD19 ?_ | refine bK19 ?_ _)); exact BK195.out)) : gb196 ≠ gb195))
  clear HO194
  clear BK188
  clear BK195
  clear HB
  have HO194 := n0_
  have BK188 := n1_
  have BK195 := n2_
  have HB := n3_
  have BK196 := n4_
  have GW196 := n5_
  have GE196 := n6_
  have NB188_196 := n7_
  have NB196_188 := n8_
  have NB195_196 := n9_
  have NB196_195 := n10_
  clear n0_ n1_ n2_ n3_ n4_ n5_ n6_ n7_ n8_ n9_ n10_
  clear hb hbox hg
  refine hK.out _ _ ⟨(bC19 BK188.out 0).trans rfl, (bC19 BK188.out 1).trans rfl, (bC19 BK188.out 2).trans rfl, (bC19 BK188.out 3).trans rfl, (bC19 BK188.out 4).trans rfl, (bC19 BK188.out 5).trans rfl, (bC19 BK188.out 6).trans rfl, (bC19 BK188.out 7).trans rfl, (bC19 BK188.out 8).trans rfl, (bC19 BK188.out 9).trans rfl, (bC19 BK188.out 10).trans rfl, (bC19 BK188.out 11).trans rfl⟩ (fun hHeld => ?_)
  clear hK K
  refine norm_ (a' := ?_) ?_ ?_
  rotate_left
  ·
   show Act.put _ (some 4) _ = _
   simp only [Act.put, sA, sB, sC, i64_w, i32_w]
   rfl
  exact norm_ (by first | (simp only [putAll, Act.put, List.setIfInBounds_toArray, List.set_cons_zero, List.set_cons_succ]; done) | (simp only [putAll, Act.put, List.setIfInBounds_toArray, List.set_cons_zero, List.set_cons_succ]; rfl)) (hJ2_10_11 (v193, gb195, gb196) _ ⟨hHeld, (by (with_reducible repeat (first | apply Kd.V_alloc | apply Kd.V_drewN | apply Kd.V_drew)); exact Kd.V_mono HO194.out (fun _ hk => ⟨hk.1.1, ⟨hk.1.2, hk.2⟩⟩)), (by (with_reducible repeat (first | refine bN19 ?_ _ | refine bD19 ?_ | refine bK19 ?_ _)); exact BK188.out), (by (with_reducible repeat (first | refine bN19 ?_ _ | refine bD19 ?_ | refine bK19 ?_ _)); exact BK195.out), (by (with_reducible repeat (first | refine bN19 ?_ _ | refine bD19 ?_ | refine bK19 ?_ _)); exact BK196.out), GW195.out, GE195.out, NB188_195.out, NB195_188.out, NB196_195.out, NB195_196.out, GW196.out, GE196.out, NB188_196.out, NB196_188.out, (by repeat (first | (with_reducible first | exact HB.out | apply below_alloc | apply pw_below_drewN | apply below_drew1 | refine below_set ?_ GE188.out | refine below_set ?_ GE195.out | refine below_set ?_ GE196.out) | exact HB.out))⟩)
 rintro ⟨v193, gb195, gb196⟩ w15 ⟨hS_, h0_, h1_, h2_, h3_, h4_, h5_, h6_, h7_, h8_, h9_, h10_, h11_, h12_, h13_, h14_⟩
 have n0_ : Aside0 (Kd.V (Kd.int .u8) 5 w15 w.heap.size (fun k_ => k_ ≠ gb188 ∧ k_ ≠ gb195 ∧ k_ ≠ gb196) v193 t192) := ⟨h0_⟩
 have n1_ : Aside0 (w15.heap[gb188]? = some (.cells #[.int .i64 a0_0, .int .i64 a0_1, .int .i64 a0_2, .slice A0_3 l0_3.length c0_3, .int .i64 a0_4, .int .i64 a0_5, .int .i64 a0_6, .int .i64 a0_7, .int .i64 a0_8, .int .i64 a0_9, .int .i64 a0_10, .int .u8 a0_11] 36 (0, 0))) := ⟨h1_⟩
 have n2_ : Aside0 (w15.heap[gb195]? = some (.cells #[.int .i64 0, .int .i64 0, .int .i64 0, .slice none 0 0] 25 (0, 0))) := ⟨h2_⟩
 have n3_ : Aside0 (w15.heap[gb196]? = some (.cells #[.int .i64 0, .int .i64 0, .int .i64 0, .int .i64 0, .int .i64 0, .int .i64 0] 27 (0, 0))) := ⟨h3_⟩
 have n4_ : Aside0 (w.heap.size ≤ gb195) := ⟨h4_⟩
 have n5_ : Aside0 (w.heap.size ≤ gb195) := ⟨h5_⟩
 have n6_ : Aside0 (gb188 ≠ gb195) := ⟨h6_⟩
 have n7_ : Aside0 (gb195 ≠ gb188) := ⟨h7_⟩
 have n8_ : Aside0 (gb196 ≠ gb195) := ⟨h8_⟩
 have n9_ : Aside0 (gb195 ≠ gb196) := ⟨h9_⟩
 have n10_ : Aside0 (w.heap.size ≤ gb196) := ⟨h10_⟩
 have n11_ : Aside0 (w.heap.size ≤ gb196) := ⟨h11_⟩
 have n12_ : Aside0 (gb188 ≠ gb196) := ⟨h12_⟩
 have n13_ : Aside0 (gb196 ≠ gb188) := ⟨h13_⟩
 have n14_ : Aside0 (Below w.heap.size w w15) := ⟨h14_⟩
 clear BK188
 clear HB
 clear h0_ h1_ h2_ h3_ h4_ h5_ h6_ h7_ h8_ h9_ h10_ h11_ h12_ h13_ h14_
 have HO194 := n0_
 have BK188 := n1_
 have BK195 := n2_
 have BK196 := n3_
 have GW195 := n4_
 have GE195 := n5_
 have NB188_195 := n6_
 have NB195_188 := n7_
 have NB196_195 := n8_
 have NB195_196 := n9_
 have GW196 := n10_
 have GE196 := n11_
 have NB188_196 := n12_
 have NB196_188 := n13_
 have HB := n14_
 clear n0_ n1_ n2_ n3_ n4_ n5_ n6_ n7_ n8_ n9_ n10_ n11_ n12_ n13_ n14_
 have hHeld : w15.cell? ⟨gb188, 0, none⟩ = some (.int .i64 a0_0) ∧ w15.cell? ⟨gb188, 1, none⟩ = some (.int .i64 a0_1) ∧ w15.cell? ⟨gb188, 2, none⟩ = some (.int .i64 a0_2) ∧ w15.cell? ⟨gb188, 3, none⟩ = some (.slice A0_3 l0_3.length c0_3) ∧ w15.cell? ⟨gb188, 4, none⟩ = some (.int .i64 a0_4) ∧ w15.cell? ⟨gb188, 5, none⟩ = some (.int .i64 a0_5) ∧ w15.cell? ⟨gb188, 6, none⟩ = some (.int .i64 a0_6) ∧ w15.cell? ⟨gb188, 7, none⟩ = some (.int .i64 a0_7) ∧ w15.cell? ⟨gb188, 8, none⟩ = some (.int .i64 a0_8) ∧ w15.cell? ⟨gb188, 9, none⟩ = some (.int .i64 a0_9) ∧ w15.cell? ⟨gb188, 10, none⟩ = some (.int .i64 a0_10) ∧ w15.cell? ⟨gb188, 11, none⟩ = some (.int .u8 a0_11) := hS_
 obtain ⟨Ao19, co19, eo19⟩ := Kd.V_slice HO194.out
 (first | subst eo19 | (injection eo19 with f1_ f2_ f3_; have f4_ := f1_.symm; have f5_ := f3_.symm; clear f1_ f2_ f3_; subst f4_; subst f5_))
 refine norm_ (a' := ?_) ?_ ?_
 rotate_left
 ·
  simp only [putAll, Act.put, List.setIfInBounds_toArray, List.set_cons_zero, List.set_cons_succ]
  rfl
 refine one_ (i := 12) (N := none) (bA 16 8191) rfl rfl (one_of HT_.out (by kernel_rfl)) (by decide) (fun K hK => ?_)
 have hs16 : w15.cell? ⟨gb195, 0, none⟩ = some (.int .i64 0) := (bC19 BK195.out 0).trans rfl
 have hfs16 := bF19 BK195.out 0
 have hns16_0 := NB188_195.out
 have hns16_2 := NB196_195.out
 have hms16_0 := NB195_188.out
 have hms16_2 := NB195_196.out
 have hs17 : w15.cell? ⟨gb195, 1, none⟩ = some (.int .i64 0) := (bC19 BK195.out 1).trans rfl
 have hfs17 := bF19 BK195.out 1
 have hns17_0 := NB188_195.out
 have hns17_2 := NB196_195.out
 have hms17_0 := NB195_188.out
 have hms17_2 := NB195_196.out
 have hs18 : w15.cell? ⟨gb195, 2, none⟩ = some (.int .i64 0) := (bC19 BK195.out 2).trans rfl
 have hfs18 := bF19 BK195.out 2
 have hns18_0 := NB188_195.out
 have hns18_2 := NB196_195.out
 have hms18_0 := NB195_188.out
 have hms18_2 := NB195_196.out
 have hs20 : w15.cell? ⟨gb195, 3, none⟩ = some (.slice none 0 0) := (bC19 BK195.out 3).trans rfl
 have hfs20 := bF19 BK195.out 3
 have hns20_0 := NB188_195.out
 have hns20_2 := NB196_195.out
 have hms20_0 := NB195_188.out
 have hms20_2 := NB195_196.out
 refine skip_ (w1 := ?_) (by rfl) rfl ?_ ?_
 rotate_left
 ·
  go_simp
  rfl
 refine hK.out _ _ ⟨((cell_far (p := ⟨gb195, _, none⟩) NB188_195.out _).trans (((cell_far (p := ⟨gb195, _, none⟩) NB188_195.out _).trans (((cell_far (p := ⟨gb195, _, none⟩) NB188_195.out _).trans (((cell_far (p := ⟨gb195, _, none⟩) NB188_195.out _).trans (hHeld.1)))))))), ((cell_far (p := ⟨gb195, _, none⟩) NB188_195.out _).trans (((cell_far (p := ⟨gb195, _, none⟩) NB188_195.out _).trans (((cell_far (p := ⟨gb195, _, none⟩) NB188_195.out _).trans (((cell_far (p := ⟨gb195, _, none⟩) NB188_195.out _).trans (hHeld.2.1)))))))), ((cell_far (p := ⟨gb195, _, none⟩) NB188_195.out _).trans (((cell_far (p := ⟨gb195, _, none⟩) NB188_195.out _).trans (((cell_far (p := ⟨gb195, _, none⟩) NB188_195.out _).trans (((cell_far (p := ⟨gb195, _, none⟩) NB188_195.out _).trans (hHeld.2.2.1)))))))), ((cell_far (p := ⟨gb195, _, none⟩) NB188_195.out _).trans (((cell_far (p := ⟨gb195, _, none⟩) NB188_195.out _).trans (((cell_far (p := ⟨gb195, _, none⟩) NB188_195.out _).trans (((cell_far (p := ⟨gb195, _, none⟩) NB188_195.out _).trans (hHeld.2.2.2.1)))))))), ((cell_far (p := ⟨gb195, _, none⟩) NB188_195.out _).trans (((cell_far (p := ⟨gb195, _, none⟩) NB188_195.out _).trans (((cell_far (p := ⟨gb195, _, none⟩) NB188_195.out _).trans (((cell_far (p := ⟨gb195, _, none⟩) NB188_195.out _).trans (hHeld.2.2.2.2.1)))))))), ((cell_far (p := ⟨gb195, _, none⟩) NB188_195.out _).trans (((cell_far (p := ⟨gb195, _, none⟩) NB188_195.out _).trans (((cell_far (p := ⟨gb195, _, none⟩) NB188_195.out _).trans (((cell_far (p := ⟨gb195, _, none⟩) NB188_195.out _).trans (hHeld.2.2.2.2.2.1)))))))), ((cell_far (p := ⟨gb195, _, none⟩) NB188_195.out _).trans (((cell_far (p := ⟨gb195, _, none⟩) NB188_195.out _).trans (((cell_far (p := ⟨gb195, _, none⟩) NB188_195.out _).trans (((cell_far (p := ⟨gb195, _, none⟩) NB188_195.out _).trans (hHeld.2.2.2.2.2.2.1)))))))), ((cell_far (p := ⟨gb195, _, none⟩) NB188_195.out _).trans (((cell_far (p := ⟨gb195, _, none⟩) NB188_195.out _).trans (((cell_far (p := ⟨gb195, _, none⟩) NB188_195.out _).trans (((cell_far (p := ⟨gb195, _, none⟩) NB188_195.out _).trans (hHeld.2.2.2.2.2.2.2.1)))))))), ((cell_far (p := ⟨gb195, _, none⟩) NB188_195.out _).trans (((cell_far (p := ⟨gb195, _, none⟩) NB188_195.out _).trans (((cell_far (p := ⟨gb195, _, none⟩) NB188_195.out _).trans (((cell_far (p := ⟨gb195, _, none⟩) NB188_195.out _).trans (hHeld.2.2.2.2.2.2.2.2.1)))))))), ((cell_far (p := ⟨gb195, _, none⟩) NB188_195.out _).trans (((cell_far (p := ⟨gb195, _, none⟩) NB188_195.out _).trans (((cell_far (p := ⟨gb195, _, none⟩) NB188_195.out _).trans (((cell_far (p := ⟨gb195, _, none⟩) NB188_195.out _).trans (hHeld.2.2.2.2.2.2.2.2.2.1)))))))), ((cell_far (p := ⟨gb195, _, none⟩) NB188_195.out _).trans (((cell_far (p := ⟨gb195, _, none⟩) NB188_195.out _).trans (((cell_far (p := ⟨gb195, _, none⟩) NB188_195.out _).trans (((cell_far (p := ⟨gb195, _, none⟩) NB188_195.out _).trans (hHeld.2.2.2.2.2.2.2.2.2.2.1)))))))), ((cell_far (p := ⟨gb195, _, none⟩) NB188_195.out _).trans (((cell_far (p := ⟨gb195, _, none⟩) NB188_195.out _).trans (((cell_far (p := ⟨gb195, _, none⟩) NB188_195.out _).trans (((cell_far (p := ⟨gb195, _, none⟩) NB188_195.out _).trans (hHeld.2.2.2.2.2.2.2.2.2.2.2))))))))⟩ (fun hHeld => ?_)
 clear hK K
 refine one_ (i := 13) (N := none) (bA 16 16383) rfl rfl (one_of HT_.out (by kernel_rfl)) (by decide) (fun K hK => ?_)
 have hs21 : w15.cell? ⟨gb196, 0, none⟩ = some (.int .i64 0) := (bC19 BK196.out 0).trans rfl
 have hfs21 := bF19 BK196.out 0
 have hns21_0 := NB188_196.out
 have hns21_1 := NB195_196.out
 have hms21_0 := NB196_188.out
 have hms21_1 := NB196_195.out
 have hs22 : w15.cell? ⟨gb196, 1, none⟩ = some (.int .i64 0) := (bC19 BK196.out 1).trans rfl
 have hfs22 := bF19 BK196.out 1
 have hns22_0 := NB188_196.out
 have hns22_1 := NB195_196.out
 have hms22_0 := NB196_188.out
 have hms22_1 := NB196_195.out
 have hs23 : w15.cell? ⟨gb196, 2, none⟩ = some (.int .i64 0) := (bC19 BK196.out 2).trans rfl
 have hfs23 := bF19 BK196.out 2
 have hns23_0 := NB188_196.out
 have hns23_1 := NB195_196.out
 have hms23_0 := NB196_188.out
 have hms23_1 := NB196_195.out
 have hs24 : w15.cell? ⟨gb196, 3, none⟩ = some (.int .i64 0) := (bC19 BK196.out 3).trans rfl
 have hfs24 := bF19 BK196.out 3
 have hns24_0 := NB188_196.out
 have hns24_1 := NB195_196.out
 have hms24_0 := NB196_188.out
 have hms24_1 := NB196_195.out
 have hs25 : w15.cell? ⟨gb196, 4, none⟩ = some (.int .i64 0) := (bC19 BK196.out 4).trans rfl
 have hfs25 := bF19 BK196.out 4
 have hns25_0 := NB188_196.out
 have hns25_1 := NB195_196.out
 have hms25_0 := NB196_188.out
 have hms25_1 := NB196_195.out
 have hs26 : w15.cell? ⟨gb196, 5, none⟩ = some (.int .i64 0) := (bC19 BK196.out 5).trans rfl
 have hfs26 := bF19 BK196.out 5
 have hns26_0 := NB188_196.out
 have hns26_1 := NB195_196.out
 have hms26_0 := NB196_188.out
 have hms26_1 := NB196_195.out
 refine skip_ (w1 := ?_) (by rfl) rfl ?_ ?_
 rotate_left
 ·
  go_simp
  rfl
 refine hK.out _ _ ⟨((cell_far (p := ⟨gb196, _, none⟩) NB188_196.out _).trans (((cell_far (p := ⟨gb196, _, none⟩) NB188_196.out _).trans (((cell_far (p := ⟨gb196, _, none⟩) NB188_196.out _).trans (((cell_far (p := ⟨gb196, _, none⟩) NB188_196.out _).trans (((cell_far (p := ⟨gb196, _, none⟩) NB188_196.out _).trans (((cell_far (p := ⟨gb196, _, none⟩) NB188_196.out _).trans (hHeld.1)))))))))))), ((cell_far (p := ⟨gb196, _, none⟩) NB188_196.out _).trans (((cell_far (p := ⟨gb196, _, none⟩) NB188_196.out _).trans (((cell_far (p := ⟨gb196, _, none⟩) NB188_196.out _).trans (((cell_far (p := ⟨gb196, _, none⟩) NB188_196.out _).trans (((cell_far (p := ⟨gb196, _, none⟩) NB188_196.out _).trans (((cell_far (p := ⟨gb196, _, none⟩) NB188_196.out _).trans (hHeld.2.1)))))))))))), ((cell_far (p := ⟨gb196, _, none⟩) NB188_196.out _).trans (((cell_far (p := ⟨gb196, _, none⟩) NB188_196.out _).trans (((cell_far (p := ⟨gb196, _, none⟩) NB188_196.out _).trans (((cell_far (p := ⟨gb196, _, none⟩) NB188_196.out _).trans (((cell_far (p := ⟨gb196, _, none⟩) NB188_196.out _).trans (((cell_far (p := ⟨gb196, _, none⟩) NB188_196.out _).trans (hHeld.2.2.1)))))))))))), ((cell_far (p := ⟨gb196, _, none⟩) NB188_196.out _).trans (((cell_far (p := ⟨gb196, _, none⟩) NB188_196.out _).trans (((cell_far (p := ⟨gb196, _, none⟩) NB188_196.out _).trans (((cell_far (p := ⟨gb196, _, none⟩) NB188_196.out _).trans (((cell_far (p := ⟨gb196, _, none⟩) NB188_196.out _).trans (((cell_far (p := ⟨gb196, _, none⟩) NB188_196.out _).trans (hHeld.2.2.2.1)))))))))))), ((cell_far (p := ⟨gb196, _, none⟩) NB188_196.out _).trans (((cell_far (p := ⟨gb196, _, none⟩) NB188_196.out _).trans (((cell_far (p := ⟨gb196, _, none⟩) NB188_196.out _).trans (((cell_far (p := ⟨gb196, _, none⟩) NB188_196.out _).trans (((cell_far (p := ⟨gb196, _, none⟩) NB188_196.out _).trans (((cell_far (p := ⟨gb196, _, none⟩) NB188_196.out _).trans (hHeld.2.2.2.2.1)))))))))))), ((cell_far (p := ⟨gb196, _, none⟩) NB188_196.out _).trans (((cell_far (p := ⟨gb196, _, none⟩) NB188_196.out _).trans (((cell_far (p := ⟨gb196, _, none⟩) NB188_196.out _).trans (((cell_far (p := ⟨gb196, _, none⟩) NB188_196.out _).trans (((cell_far (p := ⟨gb196, _, none⟩) NB188_196.out _).trans (((cell_far (p := ⟨gb196, _, none⟩) NB188_196.out _).trans (hHeld.2.2.2.2.2.1)))))))))))), ((cell_far (p := ⟨gb196, _, none⟩) NB188_196.out _).trans (((cell_far (p := ⟨gb196, _, none⟩) NB188_196.out _).trans (((cell_far (p := ⟨gb196, _, none⟩) NB188_196.out _).trans (((cell_far (p := ⟨gb196, _, none⟩) NB188_196.out _).trans (((cell_far (p := ⟨gb196, _, none⟩) NB188_196.out _).trans (((cell_far (p := ⟨gb196, _, none⟩) NB188_196.out _).trans (hHeld.2.2.2.2.2.2.1)))))))))))), ((cell_far (p := ⟨gb196, _, none⟩) NB188_196.out _).trans (((cell_far (p := ⟨gb196, _, none⟩) NB188_196.out _).trans (((cell_far (p := ⟨gb196, _, none⟩) NB188_196.out _).trans (((cell_far (p := ⟨gb196, _, none⟩) NB188_196.out _).trans (((cell_far (p := ⟨gb196, _, none⟩) NB188_196.out _).trans (((cell_far (p := ⟨gb196, _, none⟩) NB188_196.out _).trans (hHeld.2.2.2.2.2.2.2.1)))))))))))), ((cell_far (p := ⟨gb196, _, none⟩) NB188_196.out _).trans (((cell_far (p := ⟨gb196, _, none⟩) NB188_196.out _).trans (((cell_far (p := ⟨gb196, _, none⟩) NB188_196.out _).trans (((cell_far (p := ⟨gb196, _, none⟩) NB188_196.out _).trans (((cell_far (p := ⟨gb196, _, none⟩) NB188_196.out _).trans (((cell_far (p := ⟨gb196, _, none⟩) NB188_196.out _).trans (hHeld.2.2.2.2.2.2.2.2.1)))))))))))), ((cell_far (p := ⟨gb196, _, none⟩) NB188_196.out _).trans (((cell_far (p := ⟨gb196, _, none⟩) NB188_196.out _).trans (((cell_far (p := ⟨gb196, _, none⟩) NB188_196.out _).trans (((cell_far (p := ⟨gb196, _, none⟩) NB188_196.out _).trans (((cell_far (p := ⟨gb196, _, none⟩) NB188_196.out _).trans (((cell_far (p := ⟨gb196, _, none⟩) NB188_196.out _).trans (hHeld.2.2.2.2.2.2.2.2.2.1)))))))))))), ((cell_far (p := ⟨gb196, _, none⟩) NB188_196.out _).trans (((cell_far (p := ⟨gb196, _, none⟩) NB188_196.out _).trans (((cell_far (p := ⟨gb196, _, none⟩) NB188_196.out _).trans (((cell_far (p := ⟨gb196, _, none⟩) NB188_196.out _).trans (((cell_far (p := ⟨gb196, _, none⟩) NB188_196.out _).trans (((cell_far (p := ⟨gb196, _, none⟩) NB188_196.out _).trans (hHeld.2.2.2.2.2.2.2.2.2.2.1)))))))))))), ((cell_far (p := ⟨gb196, _, none⟩) NB188_196.out _).trans (((cell_far (p := ⟨gb196, _, none⟩) NB188_196.out _).trans (((cell_far (p := ⟨gb196, _, none⟩) NB188_196.out _).trans (((cell_far (p := ⟨gb196, _, none⟩) NB188_196.out _).trans (((cell_far (p := ⟨gb196, _, none⟩) NB188_196.out _).trans (((cell_far (p := ⟨gb196, _, none⟩) NB188_196.out _).trans (hHeld.2.2.2.2.2.2.2.2.2.2.2))))))))))))⟩ (fun hHeld => ?_)
 clear hK K
 refine pure_ (i := 14) (N := some 5) (v := ?_) (a' := ?_) (bA 16 32767) rfl rfl (any_of HT_.out (by kernel_rfl)) (fun _ _ _ h => h) (Or.inl ⟨by rfl, ?_⟩) ?_ ?_
 rotate_left
 ·
  intro w'
  go_simp
  with_reducible rfl
 rotate_left
 ·
  simp only [Act.put, sA, sB, sC, i64_w, i32_w]
  rfl
 refine pure_ (i := 15) (N := some 6) (v := ?_) (a' := ?_) (bA 16 65535) rfl rfl (any_of HT_.out (by kernel_rfl)) (fun _ _ _ h => h) (Or.inl ⟨by rfl, ?_⟩) ?_ ?_
 rotate_left
 ·
  intro w'
  go_simp
  with_reducible rfl
 rotate_left
 ·
  simp only [Act.put, sA, sB, sC, i64_w, i32_w]
  rfl
 refine done_ (done_of HT_.out (by kernel_rfl)) ?_
 have hnb27 := NB195_188.out
 have hnc27 := NB188_195.out
 have hnb28 := NB195_196.out
 have hnc28 := NB196_195.out
 have hcz29_0 : w15.cell? ⟨gb195, 0, none⟩ = some (.int .i64 0) := (bC19 BK195.out 0).trans rfl
 have hcz29_1 : w15.cell? ⟨gb195, 1, none⟩ = some (.int .i64 0) := (bC19 BK195.out 1).trans rfl
 have hcz29_2 : w15.cell? ⟨gb195, 2, none⟩ = some (.int .i64 0) := (bC19 BK195.out 2).trans rfl
 have hcz29_3 : w15.cell? ⟨gb195, 3, none⟩ = some (.slice none 0 0) := (bC19 BK195.out 3).trans rfl
 have hfz29_0 := bF19 BK195.out 0
 have hfz29_1 := bF19 BK195.out 1
 have hfz29_2 := bF19 BK195.out 2
 have hfz29_3 := bF19 BK195.out 3
 go_upto_region 10 with (first | ((with_reducible refine gate_callee (f := 20) rfl ?_); refine goesL_ (some 22) rfl rfl Try.func20 (by kernel_rfl) rfl #[.agg #[.int .i64 t189, .int .i64 t190, .int .i64 t191, .slice Ao19 t192.length co19]] rfl (by (try simp only [List.map_toArray, List.map_cons, List.map_nil]); first | done | rfl | (simp only [List.length_drop, List.length_take]; rfl)) ?_; (with_reducible refine (bivouacref06_Check.calls k t189 t190 t191 _ _ t192 t197 _ ?side1 ?side2 A3.out).mono ?_); (case side1 => refine (Kd.V_reads' (e := 5) (base := w.heap.size) (ok := fun k_ => (k_ ≠ gb188 ∧ (k_ ≠ gb195 ∧ k_ ≠ gb196))) (n := t192.length) (c := co19) ?_).2.2; exact (by (with_reducible repeat (first | apply Kd.V_alloc | apply Kd.V_drewN | apply Kd.V_drew)); exact (Kd.V_mono (Kd.V_mono (Kd.V_far (p := ⟨gb196, 5, none⟩) (Kd.V_far (p := ⟨gb196, 4, none⟩) (Kd.V_far (p := ⟨gb196, 3, none⟩) (Kd.V_far (p := ⟨gb196, 2, none⟩) (Kd.V_far (p := ⟨gb196, 1, none⟩) (Kd.V_far (p := ⟨gb196, 0, none⟩) (Kd.V_far (p := ⟨gb195, 3, none⟩) (Kd.V_far (p := ⟨gb195, 2, none⟩) (Kd.V_far (p := ⟨gb195, 1, none⟩) (Kd.V_far (p := ⟨gb195, 0, none⟩) (Kd.V_mono (Kd.V_mono HO194.out (fun k_ hk => (⟨hk, hk.2.1⟩ : _ ∧ k_ ≠ gb195))) (fun k_ hk => (⟨hk, hk.1.2.2⟩ : _ ∧ k_ ≠ gb196))) (fun _ hk => hk.1.2) (.int .i64 t189)) (fun _ hk => hk.1.2) (.int .i64 t190)) (fun _ hk => hk.1.2) (.int .i64 t191)) (fun _ hk => hk.1.2) (.slice Ao19 t192.length co19)) (fun _ hk => hk.2) (.int .i64 a0_4)) (fun _ hk => hk.2) (.int .i64 a0_5)) (fun _ hk => hk.2) (.int .i64 a0_6)) (fun _ hk => hk.2) (.int .i64 a0_7)) (fun _ hk => hk.2) (.int .i64 a0_8)) (fun _ hk => hk.2) (.int .i64 a0_9)) (fun _ h_ => h_.1)) (fun _ h_ => h_.1)))); (case side2 => exact (Kd.V_reads' HO194.out).2.1); rintro e w30 ⟨rfl, hb⟩; refine ⟨_, rfl, ?_⟩; have n0_ := aM19 (Kd.V_below (by (with_reducible repeat (first | apply Kd.V_alloc | apply Kd.V_drewN | apply Kd.V_drew)); exact (Kd.V_mono (Kd.V_mono (Kd.V_far (p := ⟨gb196, 5, none⟩) (Kd.V_far (p := ⟨gb196, 4, none⟩) (Kd.V_far (p := ⟨gb196, 3, none⟩) (Kd.V_far (p := ⟨gb196, 2, none⟩) (Kd.V_far (p := ⟨gb196, 1, none⟩) (Kd.V_far (p := ⟨gb196, 0, none⟩) (Kd.V_far (p := ⟨gb195, 3, none⟩) (Kd.V_far (p := ⟨gb195, 2, none⟩) (Kd.V_far (p := ⟨gb195, 1, none⟩) (Kd.V_far (p := ⟨gb195, 0, none⟩) (Kd.V_mono (Kd.V_mono HO194.out (fun k_ hk => (⟨hk, hk.2.1⟩ : _ ∧ k_ ≠ gb195))) (fun k_ hk => (⟨hk, hk.1.2.2⟩ : _ ∧ k_ ≠ gb196))) (fun _ hk => hk.1.2) (.int .i64 t189)) (fun _ hk => hk.1.2) (.int .i64 t190)) (fun _ hk => hk.1.2) (.int .i64 t191)) (fun _ hk => hk.1.2) (.slice Ao19 t192.length co19)) (fun _ hk => hk.2) (.int .i64 a0_4)) (fun _ hk => hk.2) (.int .i64 a0_5)) (fun _ hk => hk.2) (.int .i64 a0_6)) (fun _ hk => hk.2) (.int .i64 a0_7)) (fun _ hk => hk.2) (.int .i64 a0_8)) (fun _ hk => hk.2) (.int .i64 a0_9)) (fun _ h_ => h_.1)) (fun _ h_ => h_.1))) hb); have n1_ := aM19 (blk_below (g := gb188) (o := .cells #[.int .i64 a0_0, .int .i64 a0_1, .int .i64 a0_2, .slice A0_3 l0_3.length c0_3, .int .i64 a0_4, .int .i64 a0_5, .int .i64 a0_6, .int .i64 a0_7, .int .i64 a0_8, .int .i64 a0_9, .int .i64 a0_10, .int .u8 a0_11] 36 (0, 0)) (by (with_reducible repeat (first | refine bN19 ?_ _ | refine bD19 ?_ | refine bK19 ?_ _)); refine blk_far ?_ NB188_196.out _; (with_reducible repeat (first | refine bN19 ?_ _ | refine bD19 ?_ | refine bK19 ?_ _)); refine blk_far ?_ NB188_196.out _; (with_reducible repeat (first | refine bN19 ?_ _ | refine bD19 ?_ | refine bK19 ?_ _)); refine blk_far ?_ NB188_196.out _; (with_reducible repeat (first | refine bN19 ?_ _ | refine bD19 ?_ | refine bK19 ?_ _)); refine blk_far ?_ NB188_196.out _; (with_reducible repeat (first | refine bN19 ?_ _ | refine bD19 ?_ | refine bK19 ?_ _)); refine blk_far ?_ NB188_196.out _; (with_reducible repeat (first | refine bN19 ?_ _ | refine bD19 ?_ | refine bK19 ?_ _)); refine blk_far ?_ NB188_196.out _; (with_reducible repeat (first | refine bN19 ?_ _ | refine bD19 ?_ | refine bK19 ?_ _)); refine blk_far ?_ NB188_195.out _; (with_reducible repeat (first | refine bN19 ?_ _ | refine bD19 ?_ | refine bK19 ?_ _)); refine blk_far ?_ NB188_195.out _; (with_reducible repeat (first | refine bN19 ?_ _ | refine bD19 ?_ | refine bK19 ?_ _)); refine blk_far ?_ NB188_195.out _; (with_reducible repeat (first | refine bN19 ?_ _ | refine bD19 ?_ | refine bK19 ?_ _)); refine blk_far ?_ NB188_195.out _; (with_reducible repeat (first | refine bN19 ?_ _ | refine bD19 ?_ | refine bK19 ?_ _)); exact BK188.out) hb); have n2_ := aM19 (blk_below (g := gb195) (o := .cells #[.int .i64 t189, .int .i64 t190, .int .i64 t191, .slice Ao19 t192.length co19] 25 (0, 0)) (by (with_reducible repeat (first | refine bN19 ?_ _ | refine bD19 ?_ | refine bK19 ?_ _)); refine blk_far ?_ NB195_196.out _; (with_reducible repeat (first | refine bN19 ?_ _ | refine bD19 ?_ | refine bK19 ?_ _)); refine blk_far ?_ NB195_196.out _; (with_reducible repeat (first | refine bN19 ?_ _ | refine bD19 ?_ | refine bK19 ?_ _)); refine blk_far ?_ NB195_196.out _; (with_reducible repeat (first | refine bN19 ?_ _ | refine bD19 ?_ | refine bK19 ?_ _)); refine blk_far ?_ NB195_196.out _; (with_reducible repeat (first | refine bN19 ?_ _ | refine bD19 ?_ | refine bK19 ?_ _)); refine blk_far ?_ NB195_196.out _; (with_reducible repeat (first | refine bN19 ?_ _ | refine bD19 ?_ | refine bK19 ?_ _)); refine blk_far ?_ NB195_196.out _; (with_reducible repeat (first | refine bN19 ?_ _ | refine bD19 ?_ | refine bK19 ?_ _)); refine blk_put (cs := #[.int .i64 t189, .int .i64 t190, .int .i64 t191, .slice none 0 0]) ?_ 3 _ rfl; (with_reducible repeat (first | refine bN19 ?_ _ | refine bD19 ?_ | refine bK19 ?_ _)); refine blk_put (cs := #[.int .i64 t189, .int .i64 t190, .int .i64 0, .slice none 0 0]) ?_ 2 _ rfl; (with_reducible repeat (first | refine bN19 ?_ _ | refine bD19 ?_ | refine bK19 ?_ _)); refine blk_put (cs := #[.int .i64 t189, .int .i64 0, .int .i64 0, .slice none 0 0]) ?_ 1 _ rfl; (with_reducible repeat (first | refine bN19 ?_ _ | refine bD19 ?_ | refine bK19 ?_ _)); refine blk_put (cs := #[.int .i64 0, .int .i64 0, .int .i64 0, .slice none 0 0]) ?_ 0 _ rfl; (with_reducible repeat (first | refine bN19 ?_ _ | refine bD19 ?_ | refine bK19 ?_ _)); exact BK195.out) hb); have n3_ := aM19 (blk_below (g := gb196) (o := .cells #[.int .i64 a0_4, .int .i64 a0_5, .int .i64 a0_6, .int .i64 a0_7, .int .i64 a0_8, .int .i64 a0_9] 27 (0, 0)) (by (with_reducible repeat (first | refine bN19 ?_ _ | refine bD19 ?_ | refine bK19 ?_ _)); refine blk_put (cs := #[.int .i64 a0_4, .int .i64 a0_5, .int .i64 a0_6, .int .i64 a0_7, .int .i64 a0_8, .int .i64 0]) ?_ 5 _ rfl; (with_reducible repeat (first | refine bN19 ?_ _ | refine bD19 ?_ | refine bK19 ?_ _)); refine blk_put (cs := #[.int .i64 a0_4, .int .i64 a0_5, .int .i64 a0_6, .int .i64 a0_7, .int .i64 0, .int .i64 0]) ?_ 4 _ rfl; (with_reducible repeat (first | refine bN19 ?_ _ | refine bD19 ?_ | refine bK19 ?_ _)); refine blk_put (cs := #[.int .i64 a0_4, .int .i64 a0_5, .int .i64 a0_6, .int .i64 0, .int .i64 0, .int .i64 0]) ?_ 3 _ rfl; (with_reducible repeat (first | refine bN19 ?_ _ | refine bD19 ?_ | refine bK19 ?_ _)); refine blk_put (cs := #[.int .i64 a0_4, .int .i64 a0_5, .int .i64 0, .int .i64 0, .int .i64 0, .int .i64 0]) ?_ 2 _ rfl; (with_reducible repeat (first | refine bN19 ?_ _ | refine bD19 ?_ | refine bK19 ?_ _)); refine blk_put (cs := #[.int .i64 a0_4, .int .i64 0, .int .i64 0, .int .i64 0, .int .i64 0, .int .i64 0]) ?_ 1 _ rfl; (with_reducible repeat (first | refine bN19 ?_ _ | refine bD19 ?_ | refine bK19 ?_ _)); refine blk_put (cs := #[.int .i64 0, .int .i64 0, .int .i64 0, .int .i64 0, .int .i64 0, .int .i64 0]) ?_ 0 _ rfl; (with_reducible repeat (first | refine bN19 ?_ _ | refine bD19 ?_ | refine bK19 ?_ _)); refine blk_far ?_ NB196_195.out _; (with_reducible repeat (first | refine bN19 ?_ _ | refine bD19 ?_ | refine bK19 ?_ _)); refine blk_far ?_ NB196_195.out _; (with_reducible repeat (first | refine bN19 ?_ _ | refine bD19 ?_ | refine bK19 ?_ _)); refine blk_far ?_ NB196_195.out _; (with_reducible repeat (first | refine bN19 ?_ _ | refine bD19 ?_ | refine bK19 ?_ _)); refine blk_far ?_ NB196_195.out _; (with_reducible repeat (first | refine bN19 ?_ _ | refine bD19 ?_ | refine bK19 ?_ _)); exact BK196.out) hb); have n4_ := aM19 (below_step (by repeat (first | (with_reducible first | exact HB.out | apply below_alloc | apply pw_below_drewN | apply below_drew1 | refine below_set ?_ GE188.out | refine below_set ?_ GE195.out | refine below_set ?_ GE196.out) | exact HB.out)) hb); clear HO194; clear BK188; clear BK195; clear BK196; clear HB; have HO194 := n0_; have BK188 := n1_; have BK195 := n2_; have BK196 := n3_; have HB := n4_; clear n0_ n1_ n2_ n3_ n4_; (try clear hb); (try clear hb2); (try clear hk); (try clear hi); have hcz31_0 : w30.cell? ⟨gb195, 0, none⟩ = some (.int .i64 t189) := (bC19 BK195.out 0).trans rfl; have hcz31_1 : w30.cell? ⟨gb195, 1, none⟩ = some (.int .i64 t190) := (bC19 BK195.out 1).trans rfl; have hcz31_2 : w30.cell? ⟨gb195, 2, none⟩ = some (.int .i64 t191) := (bC19 BK195.out 2).trans rfl; have hcz31_3 : w30.cell? ⟨gb195, 3, none⟩ = some (.slice Ao19 t192.length co19) := (bC19 BK195.out 3).trans rfl; have hfz31_0 := bF19 BK195.out 0; have hfz31_1 := bF19 BK195.out 1; have hfz31_2 := bF19 BK195.out 2; have hfz31_3 := bF19 BK195.out 3; have hnb32 := NB196_188.out; have hnc32 := NB188_196.out; have hcz33_0 : w30.cell? ⟨gb196, 0, none⟩ = some (.int .i64 a0_4) := (bC19 BK196.out 0).trans rfl; have hcz33_1 : w30.cell? ⟨gb196, 1, none⟩ = some (.int .i64 a0_5) := (bC19 BK196.out 1).trans rfl; have hcz33_2 : w30.cell? ⟨gb196, 2, none⟩ = some (.int .i64 a0_6) := (bC19 BK196.out 2).trans rfl; have hcz33_3 : w30.cell? ⟨gb196, 3, none⟩ = some (.int .i64 a0_7) := (bC19 BK196.out 3).trans rfl; have hcz33_4 : w30.cell? ⟨gb196, 4, none⟩ = some (.int .i64 a0_8) := (bC19 BK196.out 4).trans rfl; have hcz33_5 : w30.cell? ⟨gb196, 5, none⟩ = some (.int .i64 a0_9) := (bC19 BK196.out 5).trans rfl; have hfz33_0 := bF19 BK196.out 0; have hfz33_1 := bF19 BK196.out 1; have hfz33_2 := bF19 BK196.out 2; have hfz33_3 := bF19 BK196.out 3; have hfz33_4 := bF19 BK196.out 4; have hfz33_5 := bF19 BK196.out 5) | ((with_reducible refine gate_callee (f := 17) rfl ?_); refine goesL_ (some 30) rfl rfl Try.func17 (by kernel_rfl) rfl #[.agg #[.int .i64 t189, .int .i64 t190, .int .i64 t191, .slice Ao19 t192.length co19], .agg #[.int .i64 a0_4, .int .i64 a0_5, .int .i64 a0_6, .int .i64 a0_7, .int .i64 a0_8, .int .i64 a0_9], .int .i64 ((a0_10) % 256)] rfl (by (try simp only [List.map_toArray, List.map_cons, List.map_nil]); first | done | rfl | (simp only [List.length_drop, List.length_take]; rfl)) ?_; (with_reducible refine (shot_Fly.calls k t189 t190 t191 _ _ t192 a0_4 a0_5 a0_6 a0_7 a0_8 a0_9 ((a0_10) % 256) t199 t200 t201 t202 t203 t204 t205 t206 t207 _ ?side1 ?side2 A5.out).mono ?_); (case side1 => repeat (first | exact (Kd.V_reads' HO194.out).2.2 | (with_reducible refine Kd.C_alloc ?_ _) | (with_reducible refine Kd.C_drewN ?_ _) | (with_reducible refine Kd.C_drew ?_))); (case side2 => exact (Kd.V_reads' HO194.out).2.1); rintro e w34 ⟨rfl, hb⟩; refine ⟨_, rfl, ?_⟩; have n0_ := aM19 (Kd.V_below (by (with_reducible repeat (first | apply Kd.V_alloc | apply Kd.V_drewN | apply Kd.V_drew)); exact HO194.out) hb); have n1_ := aM19 (blk_below (g := gb188) (o := .cells #[.int .i64 a0_0, .int .i64 a0_1, .int .i64 a0_2, .slice A0_3 l0_3.length c0_3, .int .i64 a0_4, .int .i64 a0_5, .int .i64 a0_6, .int .i64 a0_7, .int .i64 a0_8, .int .i64 a0_9, .int .i64 a0_10, .int .u8 a0_11] 36 (0, 0)) (by (with_reducible repeat (first | refine bN19 ?_ _ | refine bD19 ?_ | refine bK19 ?_ _)); exact BK188.out) hb); have n2_ := aM19 (blk_below (g := gb195) (o := .cells #[.int .i64 t189, .int .i64 t190, .int .i64 t191, .slice Ao19 t192.length co19] 25 (0, 0)) (by (with_reducible repeat (first | refine bN19 ?_ _ | refine bD19 ?_ | refine bK19 ?_ _)); exact BK195.out) hb); have n3_ := aM19 (blk_below (g := gb196) (o := .cells #[.int .i64 a0_4, .int .i64 a0_5, .int .i64 a0_6, .int .i64 a0_7, .int .i64 a0_8, .int .i64 a0_9] 27 (0, 0)) (by (with_reducible repeat (first | refine bN19 ?_ _ | refine bD19 ?_ | refine bK19 ?_ _)); exact BK196.out) hb); have n4_ := aM19 (below_step (by repeat (first | (with_reducible first | exact HB.out | apply below_alloc | apply pw_below_drewN | apply below_drew1 | refine below_set ?_ GE188.out | refine below_set ?_ GE195.out | refine below_set ?_ GE196.out) | exact HB.out)) hb); clear HO194; clear BK188; clear BK195; clear BK196; clear HB; have HO194 := n0_; have BK188 := n1_; have BK195 := n2_; have BK196 := n3_; have HB := n4_; clear n0_ n1_ n2_ n3_ n4_; (try clear hb); (try clear hb2); (try clear hk); (try clear hi)) | ((with_reducible refine gate_dst (N := 7) rfl ?_); refine box_event ?hg (N := 7) ?hd (cs := #[.int .i64 0, .int .i64 0, .int .i64 0, .int .i64 0, .int .i64 0, .int .i64 0, .int .i64 0, .int .i64 0]) (t := 38) ?hr ?_; (case hd => rfl); (case hg => rfl); (case hr => first | (go_simp; done) | (go_simp; rfl)); intro gb208 hg w35 hbox hb; have n0_ := aM19 (Kd.V_below (Kd.V_elderB (by (with_reducible repeat (first | apply Kd.V_alloc | apply Kd.V_drewN | apply Kd.V_drew)); exact HO194.out) gb208 (Nat.le_of_eq hg.symm)) hb); have n1_ := aM19 (blk_below (g := gb188) (o := .cells #[.int .i64 a0_0, .int .i64 a0_1, .int .i64 a0_2, .slice A0_3 l0_3.length c0_3, .int .i64 a0_4, .int .i64 a0_5, .int .i64 a0_6, .int .i64 a0_7, .int .i64 a0_8, .int .i64 a0_9, .int .i64 a0_10, .int .u8 a0_11] 36 (0, 0)) (by (with_reducible repeat (first | refine bN19 ?_ _ | refine bD19 ?_ | refine bK19 ?_ _)); exact BK188.out) hb); have n2_ := aM19 (blk_below (g := gb195) (o := .cells #[.int .i64 t189, .int .i64 t190, .int .i64 t191, .slice Ao19 t192.length co19] 25 (0, 0)) (by (with_reducible repeat (first | refine bN19 ?_ _ | refine bD19 ?_ | refine bK19 ?_ _)); exact BK195.out) hb); have n3_ := aM19 (blk_below (g := gb196) (o := .cells #[.int .i64 a0_4, .int .i64 a0_5, .int .i64 a0_6, .int .i64 a0_7, .int .i64 a0_8, .int .i64 a0_9] 27 (0, 0)) (by (with_reducible repeat (first | refine bN19 ?_ _ | refine bD19 ?_ | refine bK19 ?_ _)); exact BK196.out) hb); have n4_ := aM19 (below_step (by repeat (first | (with_reducible first | exact HB.out | apply below_alloc | apply pw_below_drewN | apply below_drew1 | refine below_set ?_ GE188.out | refine below_set ?_ GE195.out | refine below_set ?_ GE196.out) | exact HB.out)) hb); have n5_ := aM19 (hbox); have n6_ := aM19 ((by rw [hg]; exact (below_size (by repeat (first | (with_reducible first | exact HB.out | apply below_alloc | apply pw_below_drewN | apply below_drew1 | refine below_set ?_ GE188.out | refine below_set ?_ GE195.out | refine below_set ?_ GE196.out) | exact HB.out))) : w.heap.size ≤ gb208)); have n7_ := aM19 ((by rw [hg]; exact (below_size (by repeat (first | (with_reducible first | exact HB.out | apply below_alloc | apply pw_below_drewN | apply below_drew1 | refine below_set ?_ GE188.out | refine below_set ?_ GE195.out | refine below_set ?_ GE196.out) | exact HB.out))) : w.heap.size ≤ gb208)); have n8_ := aM19 ((by rw [hg]; exact Nat.ne_of_lt (blk_lt (g := gb188) (o := .cells #[.int .i64 a0_0, .int .i64 a0_1, .int .i64 a0_2, .slice A0_3 l0_3.length c0_3, .int .i64 a0_4, .int .i64 a0_5, .int .i64 a0_6, .int .i64 a0_7, .int .i64 a0_8, .int .i64 a0_9, .int .i64 a0_10, .int .u8 a0_11] 36 (0, 0)) (by (with_reducible repeat (first | refine bN19 ?_ _ | refine bD19 ?_ | refine bK19 ?_ _)); exact BK188.out)) : gb188 ≠ gb208)); have n9_ := aM19 ((by rw [hg]; exact Nat.ne_of_gt (blk_lt (g := gb188) (o := .cells #[.int .i64 a0_0, .int .i64 a0_1, .int .i64 a0_2, .slice A0_3 l0_3.length c0_3, .int .i64 a0_4, .int .i64 a0_5, .int .i64 a0_6, .int .i64 a0_7, .int .i64 a0_8, .int .i64 a0_9, .int .i64 a0_10, .int .u8 a0_11] 36 (0, 0)) (by (with_reducible repeat (first | refine bN19 ?_ _ | refine bD19 ?_ | refine bK19 ?_ _)); exact BK188.out)) : gb208 ≠ gb188)); have n10_ := aM19 ((by rw [hg]; exact Nat.ne_of_lt (blk_lt (g := gb195) (o := .cells #[.int .i64 t189, .int .i64 t190, .int .i64 t191, .slice Ao19 t192.length co19] 25 (0, 0)) (by (with_reducible repeat (first | refine bN19 ?_ _ | refine bD19 ?_ | refine bK19 ?_ _)); exact BK195.out)) : gb195 ≠ gb208)); have n11_ := aM19 ((by rw [hg]; exact Nat.ne_of_gt (blk_lt (g := gb195) (o := .cells #[.int .i64 t189, .int .i64 t190, .int .i64 t191, .slice Ao19 t192.length co19] 25 (0, 0)) (by (with_reducible repeat (first | refine bN19 ?_ _ | refine bD19 ?_ | refine bK19 ?_ _)); exact BK195.out)) : gb208 ≠ gb195)); have n12_ := aM19 ((by rw [hg]; exact Nat.ne_of_lt (blk_lt (g := gb196) (o := .cells #[.int .i64 a0_4, .int .i64 a0_5, .int .i64 a0_6, .int .i64 a0_7, .int .i64 a0_8, .int .i64 a0_9] 27 (0, 0)) (by (with_reducible repeat (first | refine bN19 ?_ _ | refine bD19 ?_ | refine bK19 ?_ _)); exact BK196.out)) : gb196 ≠ gb208)); have n13_ := aM19 ((by rw [hg]; exact Nat.ne_of_gt (blk_lt (g := gb196) (o := .cells #[.int .i64 a0_4, .int .i64 a0_5, .int .i64 a0_6, .int .i64 a0_7, .int .i64 a0_8, .int .i64 a0_9] 27 (0, 0)) (by (with_reducible repeat (first | refine bN19 ?_ _ | refine bD19 ?_ | refine bK19 ?_ _)); exact BK196.out)) : gb208 ≠ gb196)); clear HO194; clear BK188; clear BK195; clear BK196; clear HB; have HO194 := n0_; have BK188 := n1_; have BK195 := n2_; have BK196 := n3_; have HB := n4_; have BK208 := n5_; have GW208 := n6_; have GE208 := n7_; have NB188_208 := n8_; have NB208_188 := n9_; have NB195_208 := n10_; have NB208_195 := n11_; have NB196_208 := n12_; have NB208_196 := n13_; clear n0_ n1_ n2_ n3_ n4_ n5_ n6_ n7_ n8_ n9_ n10_ n11_ n12_ n13_; clear hb hbox hg; have hnb36 := NB208_188.out; have hnc36 := NB188_208.out; have hnb37 := NB208_195.out; have hnc37 := NB195_208.out; have hnb38 := NB208_196.out; have hnc38 := NB196_208.out; have hcz39_0 : w35.cell? ⟨gb208, 0, none⟩ = some (.int .i64 0) := (bC19 BK208.out 0).trans rfl; have hcz39_1 : w35.cell? ⟨gb208, 1, none⟩ = some (.int .i64 0) := (bC19 BK208.out 1).trans rfl; have hcz39_2 : w35.cell? ⟨gb208, 2, none⟩ = some (.int .i64 0) := (bC19 BK208.out 2).trans rfl; have hcz39_3 : w35.cell? ⟨gb208, 3, none⟩ = some (.int .i64 0) := (bC19 BK208.out 3).trans rfl; have hcz39_4 : w35.cell? ⟨gb208, 4, none⟩ = some (.int .i64 0) := (bC19 BK208.out 4).trans rfl; have hcz39_5 : w35.cell? ⟨gb208, 5, none⟩ = some (.int .i64 0) := (bC19 BK208.out 5).trans rfl; have hcz39_6 : w35.cell? ⟨gb208, 6, none⟩ = some (.int .i64 0) := (bC19 BK208.out 6).trans rfl; have hcz39_7 : w35.cell? ⟨gb208, 7, none⟩ = some (.int .i64 0) := (bC19 BK208.out 7).trans rfl; have hfz39_0 := bF19 BK208.out 0; have hfz39_1 := bF19 BK208.out 1; have hfz39_2 := bF19 BK208.out 2; have hfz39_3 := bF19 BK208.out 3; have hfz39_4 := bF19 BK208.out 4; have hfz39_5 := bF19 BK208.out 5; have hfz39_6 := bF19 BK208.out 6; have hfz39_7 := bF19 BK208.out 7; have hcz40_0 : w35.cell? ⟨gb195, 0, none⟩ = some (.int .i64 t189) := (bC19 BK195.out 0).trans rfl; have hcz40_1 : w35.cell? ⟨gb195, 1, none⟩ = some (.int .i64 t190) := (bC19 BK195.out 1).trans rfl; have hcz40_2 : w35.cell? ⟨gb195, 2, none⟩ = some (.int .i64 t191) := (bC19 BK195.out 2).trans rfl; have hcz40_3 : w35.cell? ⟨gb195, 3, none⟩ = some (.slice Ao19 t192.length co19) := (bC19 BK195.out 3).trans rfl; have hfz40_0 := bF19 BK195.out 0; have hfz40_1 := bF19 BK195.out 1; have hfz40_2 := bF19 BK195.out 2; have hfz40_3 := bF19 BK195.out 3; have hcz41_0 : w35.cell? ⟨gb196, 0, none⟩ = some (.int .i64 a0_4) := (bC19 BK196.out 0).trans rfl; have hcz41_1 : w35.cell? ⟨gb196, 1, none⟩ = some (.int .i64 a0_5) := (bC19 BK196.out 1).trans rfl; have hcz41_2 : w35.cell? ⟨gb196, 2, none⟩ = some (.int .i64 a0_6) := (bC19 BK196.out 2).trans rfl; have hcz41_3 : w35.cell? ⟨gb196, 3, none⟩ = some (.int .i64 a0_7) := (bC19 BK196.out 3).trans rfl; have hcz41_4 : w35.cell? ⟨gb196, 4, none⟩ = some (.int .i64 a0_8) := (bC19 BK196.out 4).trans rfl; have hcz41_5 : w35.cell? ⟨gb196, 5, none⟩ = some (.int .i64 a0_9) := (bC19 BK196.out 5).trans rfl; have hfz41_0 := bF19 BK196.out 0; have hfz41_1 := bF19 BK196.out 1; have hfz41_2 := bF19 BK196.out 2; have hfz41_3 := bF19 BK196.out 3; have hfz41_4 := bF19 BK196.out 4; have hfz41_5 := bF19 BK196.out 5) | ((with_reducible refine gate_callee (f := 17) rfl ?_); refine goesL_ (some 41) rfl rfl Try.func17 (by kernel_rfl) rfl #[.agg #[.int .i64 t189, .int .i64 t190, .int .i64 t191, .slice Ao19 t192.length co19], .agg #[.int .i64 a0_4, .int .i64 a0_5, .int .i64 a0_6, .int .i64 a0_7, .int .i64 a0_8, .int .i64 a0_9], .int .i64 (wrap64 (((a0_10) % 256) + (wrap64 (a0_11))))] rfl (by (try simp only [List.map_toArray, List.map_cons, List.map_nil]); first | done | rfl | (simp only [List.length_drop, List.length_take]; rfl)) ?_; (with_reducible refine (shot_Fly.calls k t189 t190 t191 _ _ t192 a0_4 a0_5 a0_6 a0_7 a0_8 a0_9 (wrap64 (((a0_10) % 256) + (wrap64 (a0_11)))) t209 t210 t211 t212 t213 t214 t215 t216 t217 _ ?side1 ?side2 A6.out).mono ?_); (case side1 => refine (Kd.V_reads' (e := 5) (base := w.heap.size) (ok := fun k_ => ((k_ ≠ gb188 ∧ (k_ ≠ gb195 ∧ k_ ≠ gb196)) ∧ k_ ≠ gb208)) (n := t192.length) (c := co19) ?_).2.2; exact (by (with_reducible repeat (first | apply Kd.V_alloc | apply Kd.V_drewN | apply Kd.V_drew)); exact (Kd.V_mono (Kd.V_far (p := ⟨gb208, 7, none⟩) (Kd.V_far (p := ⟨gb208, 6, none⟩) (Kd.V_far (p := ⟨gb208, 5, none⟩) (Kd.V_far (p := ⟨gb208, 4, none⟩) (Kd.V_far (p := ⟨gb208, 3, none⟩) (Kd.V_far (p := ⟨gb208, 2, none⟩) (Kd.V_far (p := ⟨gb208, 1, none⟩) (Kd.V_far (p := ⟨gb208, 0, none⟩) (Kd.V_mono HO194.out (fun k_ hk => (⟨hk, hk.2⟩ : _ ∧ k_ ≠ gb208))) (fun _ hk => hk.2) (.int .i64 t199)) (fun _ hk => hk.2) (.int .i64 t200)) (fun _ hk => hk.2) (.int .i64 t201)) (fun _ hk => hk.2) (.int .i64 t202)) (fun _ hk => hk.2) (.int .i64 t203)) (fun _ hk => hk.2) (.int .i64 t204)) (fun _ hk => hk.2) (.int .i64 t205)) (fun _ hk => hk.2) (.int .i64 t206)) (fun _ h_ => h_.1)))); (case side2 => exact (Kd.V_reads' HO194.out).2.1); rintro e w42 ⟨rfl, hb⟩; refine ⟨_, rfl, ?_⟩; have n0_ := aM19 (Kd.V_below (by (with_reducible repeat (first | apply Kd.V_alloc | apply Kd.V_drewN | apply Kd.V_drew)); exact (Kd.V_mono (Kd.V_far (p := ⟨gb208, 7, none⟩) (Kd.V_far (p := ⟨gb208, 6, none⟩) (Kd.V_far (p := ⟨gb208, 5, none⟩) (Kd.V_far (p := ⟨gb208, 4, none⟩) (Kd.V_far (p := ⟨gb208, 3, none⟩) (Kd.V_far (p := ⟨gb208, 2, none⟩) (Kd.V_far (p := ⟨gb208, 1, none⟩) (Kd.V_far (p := ⟨gb208, 0, none⟩) (Kd.V_mono HO194.out (fun k_ hk => (⟨hk, hk.2⟩ : _ ∧ k_ ≠ gb208))) (fun _ hk => hk.2) (.int .i64 t199)) (fun _ hk => hk.2) (.int .i64 t200)) (fun _ hk => hk.2) (.int .i64 t201)) (fun _ hk => hk.2) (.int .i64 t202)) (fun _ hk => hk.2) (.int .i64 t203)) (fun _ hk => hk.2) (.int .i64 t204)) (fun _ hk => hk.2) (.int .i64 t205)) (fun _ hk => hk.2) (.int .i64 t206)) (fun _ h_ => h_.1))) hb); have n1_ := aM19 (blk_below (g := gb188) (o := .cells #[.int .i64 a0_0, .int .i64 a0_1, .int .i64 a0_2, .slice A0_3 l0_3.length c0_3, .int .i64 a0_4, .int .i64 a0_5, .int .i64 a0_6, .int .i64 a0_7, .int .i64 a0_8, .int .i64 a0_9, .int .i64 a0_10, .int .u8 a0_11] 36 (0, 0)) (by (with_reducible repeat (first | refine bN19 ?_ _ | refine bD19 ?_ | refine bK19 ?_ _)); refine blk_far ?_ NB188_208.out _; (with_reducible repeat (first | refine bN19 ?_ _ | refine bD19 ?_ | refine bK19 ?_ _)); refine blk_far ?_ NB188_208.out _; (with_reducible repeat (first | refine bN19 ?_ _ | refine bD19 ?_ | refine bK19 ?_ _)); refine blk_far ?_ NB188_208.out _; (with_reducible repeat (first | refine bN19 ?_ _ | refine bD19 ?_ | refine bK19 ?_ _)); refine blk_far ?_ NB188_208.out _; (with_reducible repeat (first | refine bN19 ?_ _ | refine bD19 ?_ | refine bK19 ?_ _)); refine blk_far ?_ NB188_208.out _; (with_reducible repeat (first | refine bN19 ?_ _ | refine bD19 ?_ | refine bK19 ?_ _)); refine blk_far ?_ NB188_208.out _; (with_reducible repeat (first | refine bN19 ?_ _ | refine bD19 ?_ | refine bK19 ?_ _)); refine blk_far ?_ NB188_208.out _; (with_reducible repeat (first | refine bN19 ?_ _ | refine bD19 ?_ | refine bK19 ?_ _)); refine blk_far ?_ NB188_208.out _; (with_reducible repeat (first | refine bN19 ?_ _ | refine bD19 ?_ | refine bK19 ?_ _)); exact BK188.out) hb); have n2_ := aM19 (blk_below (g := gb195) (o := .cells #[.int .i64 t189, .int .i64 t190, .int .i64 t191, .slice Ao19 t192.length co19] 25 (0, 0)) (by (with_reducible repeat (first | refine bN19 ?_ _ | refine bD19 ?_ | refine bK19 ?_ _)); refine blk_far ?_ NB195_208.out _; (with_reducible repeat (first | refine bN19 ?_ _ | refine bD19 ?_ | refine bK19 ?_ _)); refine blk_far ?_ NB195_208.out _; (with_reducible repeat (first | refine bN19 ?_ _ | refine bD19 ?_ | refine bK19 ?_ _)); refine blk_far ?_ NB195_208.out _; (with_reducible repeat (first | refine bN19 ?_ _ | refine bD19 ?_ | refine bK19 ?_ _)); refine blk_far ?_ NB195_208.out _; (with_reducible repeat (first | refine bN19 ?_ _ | refine bD19 ?_ | refine bK19 ?_ _)); refine blk_far ?_ NB195_208.out _; (with_reducible repeat (first | refine bN19 ?_ _ | refine bD19 ?_ | refine bK19 ?_ _)); refine blk_far ?_ NB195_208.out _; (with_reducible repeat (first | refine bN19 ?_ _ | refine bD19 ?_ | refine bK19 ?_ _)); refine blk_far ?_ NB195_208.out _; (with_reducible repeat (first | refine bN19 ?_ _ | refine bD19 ?_ | refine bK19 ?_ _)); refine blk_far ?_ NB195_208.out _; (with_reducible repeat (first | refine bN19 ?_ _ | refine bD19 ?_ | refine bK19 ?_ _)); exact BK195.out) hb); have n3_ := aM19 (blk_below (g := gb196) (o := .cells #[.int .i64 a0_4, .int .i64 a0_5, .int .i64 a0_6, .int .i64 a0_7, .int .i64 a0_8, .int .i64 a0_9] 27 (0, 0)) (by (with_reducible repeat (first | refine bN19 ?_ _ | refine bD19 ?_ | refine bK19 ?_ _)); refine blk_far ?_ NB196_208.out _; (with_reducible repeat (first | refine bN19 ?_ _ | refine bD19 ?_ | refine bK19 ?_ _)); refine blk_far ?_ NB196_208.out _; (with_reducible repeat (first | refine bN19 ?_ _ | refine bD19 ?_ | refine bK19 ?_ _)); refine blk_far ?_ NB196_208.out _; (with_reducible repeat (first | refine bN19 ?_ _ | refine bD19 ?_ | refine bK19 ?_ _)); refine blk_far ?_ NB196_208.out _; (with_reducible repeat (first | refine bN19 ?_ _ | refine bD19 ?_ | refine bK19 ?_ _)); refine blk_far ?_ NB196_208.out _; (with_reducible repeat (first | refine bN19 ?_ _ | refine bD19 ?_ | refine bK19 ?_ _)); refine blk_far ?_ NB196_208.out _; (with_reducible repeat (first | refine bN19 ?_ _ | refine bD19 ?_ | refine bK19 ?_ _)); refine blk_far ?_ NB196_208.out _; (with_reducible repeat (first | refine bN19 ?_ _ | refine bD19 ?_ | refine bK19 ?_ _)); refine blk_far ?_ NB196_208.out _; (with_reducible repeat (first | refine bN19 ?_ _ | refine bD19 ?_ | refine bK19 ?_ _)); exact BK196.out) hb); have n4_ := aM19 (blk_below (g := gb208) (o := .cells #[.int .i64 t199, .int .i64 t200, .int .i64 t201, .int .i64 t202, .int .i64 t203, .int .i64 t204, .int .i64 t205, .int .i64 t206] 38 (0, 0)) (by (with_reducible repeat (first | refine bN19 ?_ _ | refine bD19 ?_ | refine bK19 ?_ _)); refine blk_put (cs := #[.int .i64 t199, .int .i64 t200, .int .i64 t201, .int .i64 t202, .int .i64 t203, .int .i64 t204, .int .i64 t205, .int .i64 0]) ?_ 7 _ rfl; (with_reducible repeat (first | refine bN19 ?_ _ | refine bD19 ?_ | refine bK19 ?_ _)); refine blk_put (cs := #[.int .i64 t199, .int .i64 t200, .int .i64 t201, .int .i64 t202, .int .i64 t203, .int .i64 t204, .int .i64 0, .int .i64 0]) ?_ 6 _ rfl; (with_reducible repeat (first | refine bN19 ?_ _ | refine bD19 ?_ | refine bK19 ?_ _)); refine blk_put (cs := #[.int .i64 t199, .int .i64 t200, .int .i64 t201, .int .i64 t202, .int .i64 t203, .int .i64 0, .int .i64 0, .int .i64 0]) ?_ 5 _ rfl; (with_reducible repeat (first | refine bN19 ?_ _ | refine bD19 ?_ | refine bK19 ?_ _)); refine blk_put (cs := #[.int .i64 t199, .int .i64 t200, .int .i64 t201, .int .i64 t202, .int .i64 0, .int .i64 0, .int .i64 0, .int .i64 0]) ?_ 4 _ rfl; (with_reducible repeat (first | refine bN19 ?_ _ | refine bD19 ?_ | refine bK19 ?_ _)); refine blk_put (cs := #[.int .i64 t199, .int .i64 t200, .int .i64 t201, .int .i64 0, .int .i64 0, .int .i64 0, .int .i64 0, .int .i64 0]) ?_ 3 _ rfl; (with_reducible repeat (first | refine bN19 ?_ _ | refine bD19 ?_ | refine bK19 ?_ _)); refine blk_put (cs := #[.int .i64 t199, .int .i64 t200, .int .i64 0, .int .i64 0, .int .i64 0, .int .i64 0, .int .i64 0, .int .i64 0]) ?_ 2 _ rfl; (with_reducible repeat (first | refine bN19 ?_ _ | refine bD19 ?_ | refine bK19 ?_ _)); refine blk_put (cs := #[.int .i64 t199, .int .i64 0, .int .i64 0, .int .i64 0, .int .i64 0, .int .i64 0, .int .i64 0, .int .i64 0]) ?_ 1 _ rfl; (with_reducible repeat (first | refine bN19 ?_ _ | refine bD19 ?_ | refine bK19 ?_ _)); refine blk_put (cs := #[.int .i64 0, .int .i64 0, .int .i64 0, .int .i64 0, .int .i64 0, .int .i64 0, .int .i64 0, .int .i64 0]) ?_ 0 _ rfl; (with_reducible repeat (first | refine bN19 ?_ _ | refine bD19 ?_ | refine bK19 ?_ _)); exact BK208.out) hb); have n5_ := aM19 (below_step (by repeat (first | (with_reducible first | exact HB.out | apply below_alloc | apply pw_below_drewN | apply below_drew1 | refine below_set ?_ GE188.out | refine below_set ?_ GE195.out | refine below_set ?_ GE196.out | refine below_set ?_ GE208.out) | exact HB.out)) hb); clear HO194; clear BK188; clear BK195; clear BK196; clear BK208; clear HB; have HO194 := n0_; have BK188 := n1_; have BK195 := n2_; have BK196 := n3_; have BK208 := n4_; have HB := n5_; clear n0_ n1_ n2_ n3_ n4_ n5_; (try clear hb); (try clear hb2); (try clear hk); (try clear hi)) | ((with_reducible refine gate_dst (N := 9) rfl ?_); refine box_event ?hg (N := 9) ?hd (cs := #[.int .i64 0, .int .i64 0, .int .i64 0, .int .i64 0, .int .i64 0, .int .i64 0, .int .i64 0, .int .i64 0]) (t := 38) ?hr ?_; (case hd => rfl); (case hg => rfl); (case hr => first | (go_simp; done) | (go_simp; rfl)); intro gb218 hg w43 hbox hb; have n0_ := aM19 (Kd.V_below (Kd.V_elderB (by (with_reducible repeat (first | apply Kd.V_alloc | apply Kd.V_drewN | apply Kd.V_drew)); exact HO194.out) gb218 (Nat.le_of_eq hg.symm)) hb); have n1_ := aM19 (blk_below (g := gb188) (o := .cells #[.int .i64 a0_0, .int .i64 a0_1, .int .i64 a0_2, .slice A0_3 l0_3.length c0_3, .int .i64 a0_4, .int .i64 a0_5, .int .i64 a0_6, .int .i64 a0_7, .int .i64 a0_8, .int .i64 a0_9, .int .i64 a0_10, .int .u8 a0_11] 36 (0, 0)) (by (with_reducible repeat (first | refine bN19 ?_ _ | refine bD19 ?_ | refine bK19 ?_ _)); exact BK188.out) hb); have n2_ := aM19 (blk_below (g := gb195) (o := .cells #[.int .i64 t189, .int .i64 t190, .int .i64 t191, .slice Ao19 t192.length co19] 25 (0, 0)) (by (with_reducible repeat (first | refine bN19 ?_ _ | refine bD19 ?_ | refine bK19 ?_ _)); exact BK195.out) hb); have n3_ := aM19 (blk_below (g := gb196) (o := .cells #[.int .i64 a0_4, .int .i64 a0_5, .int .i64 a0_6, .int .i64 a0_7, .int .i64 a0_8, .int .i64 a0_9] 27 (0, 0)) (by (with_reducible repeat (first | refine bN19 ?_ _ | refine bD19 ?_ | refine bK19 ?_ _)); exact BK196.out) hb); have n4_ := aM19 (blk_below (g := gb208) (o := .cells #[.int .i64 t199, .int .i64 t200, .int .i64 t201, .int .i64 t202, .int .i64 t203, .int .i64 t204, .int .i64 t205, .int .i64 t206] 38 (0, 0)) (by (with_reducible repeat (first | refine bN19 ?_ _ | refine bD19 ?_ | refine bK19 ?_ _)); exact BK208.out) hb); have n5_ := aM19 (below_step (by repeat (first | (with_reducible first | exact HB.out | apply below_alloc | apply pw_below_drewN | apply below_drew1 | refine below_set ?_ GE188.out | refine below_set ?_ GE195.out | refine below_set ?_ GE196.out | refine below_set ?_ GE208.out) | exact HB.out)) hb); have n6_ := aM19 (hbox); have n7_ := aM19 ((by rw [hg]; exact (below_size (by repeat (first | (with_reducible first | exact HB.out | apply below_alloc | apply pw_below_drewN | apply below_drew1 | refine below_set ?_ GE188.out | refine below_set ?_ GE195.out | refine below_set ?_ GE196.out | refine below_set ?_ GE208.out) | exact HB.out))) : w.heap.size ≤ gb218)); have n8_ := aM19 ((by rw [hg]; exact (below_size (by repeat (first | (with_reducible first | exact HB.out | apply below_alloc | apply pw_below_drewN | apply below_drew1 | refine below_set ?_ GE188.out | refine below_set ?_ GE195.out | refine below_set ?_ GE196.out | refine below_set ?_ GE208.out) | exact HB.out))) : w.heap.size ≤ gb218)); have n9_ := aM19 ((by rw [hg]; exact Nat.ne_of_lt (blk_lt (g := gb188) (o := .cells #[.int .i64 a0_0, .int .i64 a0_1, .int .i64 a0_2, .slice A0_3 l0_3.length c0_3, .int .i64 a0_4, .int .i64 a0_5, .int .i64 a0_6, .int .i64 a0_7, .int .i64 a0_8, .int .i64 a0_9, .int .i64 a0_10, .int .u8 a0_11] 36 (0, 0)) (by (with_reducible repeat (first | refine bN19 ?_ _ | refine bD19 ?_ | refine bK19 ?_ _)); exact BK188.out)) : gb188 ≠ gb218)); have n10_ := aM19 ((by rw [hg]; exact Nat.ne_of_gt (blk_lt (g := gb188) (o := .cells #[.int .i64 a0_0, .int .i64 a0_1, .int .i64 a0_2, .slice A0_3 l0_3.length c0_3, .int .i64 a0_4, .int .i64 a0_5, .int .i64 a0_6, .int .i64 a0_7, .int .i64 a0_8, .int .i64 a0_9, .int .i64 a0_10, .int .u8 a0_11] 36 (0, 0)) (by (with_reducible repeat (first | refine bN19 ?_ _ | refine bD19 ?_ | refine bK19 ?_ _)); exact BK188.out)) : gb218 ≠ gb188)); have n11_ := aM19 ((by rw [hg]; exact Nat.ne_of_lt (blk_lt (g := gb195) (o := .cells #[.int .i64 t189, .int .i64 t190, .int .i64 t191, .slice Ao19 t192.length co19] 25 (0, 0)) (by (with_reducible repeat (first | refine bN19 ?_ _ | refine bD19 ?_ | refine bK19 ?_ _)); exact BK195.out)) : gb195 ≠ gb218)); have n12_ := aM19 ((by rw [hg]; exact Nat.ne_of_gt (blk_lt (g := gb195) (o := .cells #[.int .i64 t189, .int .i64 t190, .int .i64 t191, .slice Ao19 t192.length co19] 25 (0, 0)) (by (with_reducible repeat (first | refine bN19 ?_ _ | refine bD19 ?_ | refine bK19 ?_ _)); exact BK195.out)) : gb218 ≠ gb195)); have n13_ := aM19 ((by rw [hg]; exact Nat.ne_of_lt (blk_lt (g := gb196) (o := .cells #[.int .i64 a0_4, .int .i64 a0_5, .int .i64 a0_6, .int .i64 a0_7, .int .i64 a0_8, .int .i64 a0_9] 27 (0, 0)) (by (with_reducible repeat (first | refine bN19 ?_ _ | refine bD19 ?_ | refine bK19 ?_ _)); exact BK196.out)) : gb196 ≠ gb218)); have n14_ := aM19 ((by rw [hg]; exact Nat.ne_of_gt (blk_lt (g := gb196) (o := .cells #[.int .i64 a0_4, .int .i64 a0_5, .int .i64 a0_6, .int .i64 a0_7, .int .i64 a0_8, .int .i64 a0_9] 27 (0, 0)) (by (with_reducible repeat (first | refine bN19 ?_ _ | refine bD19 ?_ | refine bK19 ?_ _)); exact BK196.out)) : gb218 ≠ gb196)); have n15_ := aM19 ((by rw [hg]; exact Nat.ne_of_lt (blk_lt (g := gb208) (o := .cells #[.int .i64 t199, .int .i64 t200, .int .i64 t201, .int .i64 t202, .int .i64 t203, .int .i64 t204, .int .i64 t205, .int .i64 t206] 38 (0, 0)) (by (with_reducible repeat (first | refine bN19 ?_ _ | refine bD19 ?_ | refine bK19 ?_ _)); exact BK208.out)) : gb208 ≠ gb218)); have n16_ := aM19 ((by rw [hg]; exact Nat.ne_of_gt (blk_lt (g := gb208) (o := .cells #[.int .i64 t199, .int .i64 t200, .int .i64 t201, .int .i64 t202, .int .i64 t203, .int .i64 t204, .int .i64 t205, .int .i64 t206] 38 (0, 0)) (by (with_reducible repeat (first | refine bN19 ?_ _ | refine bD19 ?_ | refine bK19 ?_ _)); exact BK208.out)) : gb218 ≠ gb208)); clear HO194; clear BK188; clear BK195; clear BK196; clear BK208; clear HB; have HO194 := n0_; have BK188 := n1_; have BK195 := n2_; have BK196 := n3_; have BK208 := n4_; have HB := n5_; have BK218 := n6_; have GW218 := n7_; have GE218 := n8_; have NB188_218 := n9_; have NB218_188 := n10_; have NB195_218 := n11_; have NB218_195 := n12_; have NB196_218 := n13_; have NB218_196 := n14_; have NB208_218 := n15_; have NB218_208 := n16_; clear n0_ n1_ n2_ n3_ n4_ n5_ n6_ n7_ n8_ n9_ n10_ n11_ n12_ n13_ n14_ n15_ n16_; clear hb hbox hg; have hnb44 := NB218_188.out; have hnc44 := NB188_218.out; have hnb45 := NB218_195.out; have hnc45 := NB195_218.out; have hnb46 := NB218_196.out; have hnc46 := NB196_218.out; have hnb47 := NB218_208.out; have hnc47 := NB208_218.out; have hcz48_0 : w43.cell? ⟨gb218, 0, none⟩ = some (.int .i64 0) := (bC19 BK218.out 0).trans rfl; have hcz48_1 : w43.cell? ⟨gb218, 1, none⟩ = some (.int .i64 0) := (bC19 BK218.out 1).trans rfl; have hcz48_2 : w43.cell? ⟨gb218, 2, none⟩ = some (.int .i64 0) := (bC19 BK218.out 2).trans rfl; have hcz48_3 : w43.cell? ⟨gb218, 3, none⟩ = some (.int .i64 0) := (bC19 BK218.out 3).trans rfl; have hcz48_4 : w43.cell? ⟨gb218, 4, none⟩ = some (.int .i64 0) := (bC19 BK218.out 4).trans rfl; have hcz48_5 : w43.cell? ⟨gb218, 5, none⟩ = some (.int .i64 0) := (bC19 BK218.out 5).trans rfl; have hcz48_6 : w43.cell? ⟨gb218, 6, none⟩ = some (.int .i64 0) := (bC19 BK218.out 6).trans rfl; have hcz48_7 : w43.cell? ⟨gb218, 7, none⟩ = some (.int .i64 0) := (bC19 BK218.out 7).trans rfl; have hfz48_0 := bF19 BK218.out 0; have hfz48_1 := bF19 BK218.out 1; have hfz48_2 := bF19 BK218.out 2; have hfz48_3 := bF19 BK218.out 3; have hfz48_4 := bF19 BK218.out 4; have hfz48_5 := bF19 BK218.out 5; have hfz48_6 := bF19 BK218.out 6; have hfz48_7 := bF19 BK218.out 7; have hcz49_0 : w43.cell? ⟨gb208, 0, none⟩ = some (.int .i64 t199) := (bC19 BK208.out 0).trans rfl; have hcz49_1 : w43.cell? ⟨gb208, 1, none⟩ = some (.int .i64 t200) := (bC19 BK208.out 1).trans rfl; have hcz49_2 : w43.cell? ⟨gb208, 2, none⟩ = some (.int .i64 t201) := (bC19 BK208.out 2).trans rfl; have hcz49_3 : w43.cell? ⟨gb208, 3, none⟩ = some (.int .i64 t202) := (bC19 BK208.out 3).trans rfl; have hcz49_4 : w43.cell? ⟨gb208, 4, none⟩ = some (.int .i64 t203) := (bC19 BK208.out 4).trans rfl; have hcz49_5 : w43.cell? ⟨gb208, 5, none⟩ = some (.int .i64 t204) := (bC19 BK208.out 5).trans rfl; have hcz49_6 : w43.cell? ⟨gb208, 6, none⟩ = some (.int .i64 t205) := (bC19 BK208.out 6).trans rfl; have hcz49_7 : w43.cell? ⟨gb208, 7, none⟩ = some (.int .i64 t206) := (bC19 BK208.out 7).trans rfl; have hfz49_0 := bF19 BK208.out 0; have hfz49_1 := bF19 BK208.out 1; have hfz49_2 := bF19 BK208.out 2; have hfz49_3 := bF19 BK208.out 3; have hfz49_4 := bF19 BK208.out 4; have hfz49_5 := bF19 BK208.out 5; have hfz49_6 := bF19 BK208.out 6; have hfz49_7 := bF19 BK208.out 7))
 (try simp only [Act.put, List.setIfInBounds_toArray, List.set_cons_zero, List.set_cons_succ])
 go_cut [127] (fun v127 wc => ∃ (kq : Nat) (x127_8 : Bool), v127 = .bool x127_8 ∧ Aside0 (bivouaclaw16_ShotAbove.j0 kq ((a0_10) % 256) a0_11 t217 x127_8 t199 t200 t201 t202 t203 t204 t205 t206 t209 t210 t211 t212 t213 t214 t215 t216 = some r) ∧ Aside0 (kq ≤ k) ∧ Aside0 (Kd.V (Kd.int .u8) 5 wc w.heap.size (fun k_ => k_ ≠ gb188 ∧ k_ ≠ gb195 ∧ k_ ≠ gb196 ∧ k_ ≠ gb208 ∧ k_ ≠ gb218) (.slice Ao19 t192.length co19) t192) ∧ Aside0 (wc.heap[gb188]? = some (.cells #[.int .i64 a0_0, .int .i64 a0_1, .int .i64 a0_2, (.slice A0_3 l0_3.length c0_3), .int .i64 a0_4, .int .i64 a0_5, .int .i64 a0_6, .int .i64 a0_7, .int .i64 a0_8, .int .i64 a0_9, .int .i64 a0_10, .int .u8 a0_11] 36 (0, 0))) ∧ Aside0 (wc.heap[gb195]? = some (.cells #[.int .i64 t189, .int .i64 t190, .int .i64 t191, (.slice Ao19 t192.length co19)] 25 (0, 0))) ∧ Aside0 (wc.heap[gb196]? = some (.cells #[.int .i64 a0_4, .int .i64 a0_5, .int .i64 a0_6, .int .i64 a0_7, .int .i64 a0_8, .int .i64 a0_9] 27 (0, 0))) ∧ Aside0 (wc.heap[gb208]? = some (.cells #[.int .i64 t199, .int .i64 t200, .int .i64 t201, .int .i64 t202, .int .i64 t203, .int .i64 t204, .int .i64 t205, .int .i64 t206] 38 (0, 0))) ∧ Aside0 (wc.heap[gb218]? = some (.cells #[.int .i64 t209, .int .i64 t210, .int .i64 t211, .int .i64 t212, .int .i64 t213, .int .i64 t214, .int .i64 t215, .int .i64 t216] 38 (0, 0))) ∧ Aside0 (Below w.heap.size w wc))
 case first =>
  have H := HC9.out
  clear HC9
  by_cases c50 : ((a0_10) % 256) > 0
  ·
   rw [if_pos c50] at H
   have c50b0 : decide (0 < ((a0_10) % 256)) = true := decide_eq_true c50
   clear c50
   (first | rw [c50b0] | (simp only [i64_w, i32_w]; rw [c50b0]) | skip)
   replace H := Option.bind_eq_some_iff.mp H
   obtain ⟨t222, A510, H⟩ := H
   replace H : (if t222 = true then ((bivouacref06_Height.f t189 t190 t191 t192 t201 t202).bind fun t223 => (if t203 ≤ t223 then (bivouaclaw16_ShotAbove.j0 k ((a0_10) % 256) a0_11 t217 true t199 t200 t201 t202 t203 t204 t205 t206 t209 t210 t211 t212 t213 t214 t215 t216) else (bivouaclaw16_ShotAbove.j0 k ((a0_10) % 256) a0_11 t217 (decide (t203 ≤ (wrap64 (t191 * 65536)))) t199 t200 t201 t202 t203 t204 t205 t206 t209 t210 t211 t212 t213 t214 t215 t216))) else (bivouaclaw16_ShotAbove.j0 k ((a0_10) % 256) a0_11 t217 true t199 t200 t201 t202 t203 t204 t205 t206 t209 t210 t211 t212 t213 t214 t215 t216)) = some r := H
   have A51 := aM19 A510
   clear A510
   by_cases c52 : t222 = true
   ·
    subst c52
    have H1 : ((bivouacref06_Height.f t189 t190 t191 t192 t201 t202).bind fun t223 => (if t203 ≤ t223 then (bivouaclaw16_ShotAbove.j0 k ((a0_10) % 256) a0_11 t217 true t199 t200 t201 t202 t203 t204 t205 t206 t209 t210 t211 t212 t213 t214 t215 t216) else (bivouaclaw16_ShotAbove.j0 k ((a0_10) % 256) a0_11 t217 (decide (t203 ≤ (wrap64 (t191 * 65536)))) t199 t200 t201 t202 t203 t204 t205 t206 t209 t210 t211 t212 t213 t214 t215 t216))) = some r := by rw [if_pos rfl] at H; exact H
    clear H
    have H := H1
    clear H1
    replace H := Option.bind_eq_some_iff.mp H
    obtain ⟨t223, A530, H⟩ := H
    replace H : (if t203 ≤ t223 then (bivouaclaw16_ShotAbove.j0 k ((a0_10) % 256) a0_11 t217 true t199 t200 t201 t202 t203 t204 t205 t206 t209 t210 t211 t212 t213 t214 t215 t216) else (bivouaclaw16_ShotAbove.j0 k ((a0_10) % 256) a0_11 t217 (decide (t203 ≤ (wrap64 (t191 * 65536)))) t199 t200 t201 t202 t203 t204 t205 t206 t209 t210 t211 t212 t213 t214 t215 t216)) = some r := H
    have A53 := aM19 A530
    clear A530
    by_cases c54 : t203 ≤ t223
    ·
     rw [if_pos c54] at H
     have c54b0 : decide (t203 ≤ t223) = true := decide_eq_true c54
     clear c54
     have H' := aM19 H
     clear H
     try go_wp2
     have n0_ : Aside0 (Kd.V (Kd.int .u8) 5 ((((((((w43.setCell ⟨gb218, 0, none⟩ (.int .i64 t209)).setCell ⟨gb218, 1, none⟩ (.int .i64 t210)).setCell ⟨gb218, 2, none⟩ (.int .i64 t211)).setCell ⟨gb218, 3, none⟩ (.int .i64 t212)).setCell ⟨gb218, 4, none⟩ (.int .i64 t213)).setCell ⟨gb218, 5, none⟩ (.int .i64 t214)).setCell ⟨gb218, 6, none⟩ (.int .i64 t215)).setCell ⟨gb218, 7, none⟩ (.int .i64 t216)) w.heap.size (fun k_ => k_ ≠ gb188 ∧ k_ ≠ gb195 ∧ k_ ≠ gb196 ∧ k_ ≠ gb208 ∧ k_ ≠ gb218) (.slice Ao19 t192.length co19) t192) := ⟨by (with_reducible repeat (first | apply Kd.V_alloc | apply Kd.V_drewN | apply Kd.V_drew)); exact Kd.V_mono (Kd.V_far (p := ⟨gb218, 7, none⟩) (Kd.V_far (p := ⟨gb218, 6, none⟩) (Kd.V_far (p := ⟨gb218, 5, none⟩) (Kd.V_far (p := ⟨gb218, 4, none⟩) (Kd.V_far (p := ⟨gb218, 3, none⟩) (Kd.V_far (p := ⟨gb218, 2, none⟩) (Kd.V_far (p := ⟨gb218, 1, none⟩) (Kd.V_far (p := ⟨gb218, 0, none⟩) (Kd.V_mono HO194.out (fun k_ hk => (⟨hk, hk.2⟩ : _ ∧ k_ ≠ gb218))) (fun _ hk => hk.2) (.int .i64 t209)) (fun _ hk => hk.2) (.int .i64 t210)) (fun _ hk => hk.2) (.int .i64 t211)) (fun _ hk => hk.2) (.int .i64 t212)) (fun _ hk => hk.2) (.int .i64 t213)) (fun _ hk => hk.2) (.int .i64 t214)) (fun _ hk => hk.2) (.int .i64 t215)) (fun _ hk => hk.2) (.int .i64 t216)) (fun _ hk => ⟨hk.1.1.1.1, ⟨hk.1.1.1.2.1, ⟨hk.1.1.1.2.2, ⟨hk.1.1.2, hk.1.2⟩⟩⟩⟩)⟩
     have n1_ : Aside0 (((((((((w43.setCell ⟨gb218, 0, none⟩ (.int .i64 t209)).setCell ⟨gb218, 1, none⟩ (.int .i64 t210)).setCell ⟨gb218, 2, none⟩ (.int .i64 t211)).setCell ⟨gb218, 3, none⟩ (.int .i64 t212)).setCell ⟨gb218, 4, none⟩ (.int .i64 t213)).setCell ⟨gb218, 5, none⟩ (.int .i64 t214)).setCell ⟨gb218, 6, none⟩ (.int .i64 t215)).setCell ⟨gb218, 7, none⟩ (.int .i64 t216)).heap[gb188]? = some (.cells #[.int .i64 a0_0, .int .i64 a0_1, .int .i64 a0_2, .slice A0_3 l0_3.length c0_3, .int .i64 a0_4, .int .i64 a0_5, .int .i64 a0_6, .int .i64 a0_7, .int .i64 a0_8, .int .i64 a0_9, .int .i64 a0_10, .int .u8 a0_11] 36 (0, 0))) := ⟨by (with_reducible repeat (first | refine bN19 ?_ _ | refine bD19 ?_ | refine bK19 ?_ _)); refine blk_far ?_ NB188_218.out _; (with_reducible repeat (first | refine bN19 ?_ _ | refine bD19 ?_ | refine bK19 ?_ _)); refine blk_far ?_ NB188_218.out _; (with_reducible repeat (first | refine bN19 ?_ _ | refine bD19 ?_ | refine bK19 ?_ _)); refine blk_far ?_ NB188_218.out _; (with_reducible repeat (first | refine bN19 ?_ _ | refine bD19 ?_ | refine bK19 ?_ _)); refine blk_far ?_ NB188_218.out _; (with_reducible repeat (first | refine bN19 ?_ _ | refine bD19 ?_ | refine bK19 ?_ _)); refine blk_far ?_ NB188_218.out _; (with_reducible repeat (first | refine bN19 ?_ _ | refine bD19 ?_ | refine bK19 ?_ _)); refine blk_far ?_ NB188_218.out _; (with_reducible repeat (first | refine bN19 ?_ _ | refine bD19 ?_ | refine bK19 ?_ _)); refine blk_far ?_ NB188_218.out _; (with_reducible repeat (first | refine bN19 ?_ _ | refine bD19 ?_ | refine bK19 ?_ _)); refine blk_far ?_ NB188_218.out _; (with_reducible repeat (first | refine bN19 ?_ _ | refine bD19 ?_ | refine bK19 ?_ _)); exact BK188.out⟩
     have n2_ : Aside0 (((((((((w43.setCell ⟨gb218, 0, none⟩ (.int .i64 t209)).setCell ⟨gb218, 1, none⟩ (.int .i64 t210)).setCell ⟨gb218, 2, none⟩ (.int .i64 t211)).setCell ⟨gb218, 3, none⟩ (.int .i64 t212)).setCell ⟨gb218, 4, none⟩ (.int .i64 t213)).setCell ⟨gb218, 5, none⟩ (.int .i64 t214)).setCell ⟨gb218, 6, none⟩ (.int .i64 t215)).setCell ⟨gb218, 7, none⟩ (.int .i64 t216)).heap[gb195]? = some (.cells #[.int .i64 t189, .int .i64 t190, .int .i64 t191, .slice Ao19 t192.length co19] 25 (0, 0))) := ⟨by (with_reducible repeat (first | refine bN19 ?_ _ | refine bD19 ?_ | refine bK19 ?_ _)); refine blk_far ?_ NB195_218.out _; (with_reducible repeat (first | refine bN19 ?_ _ | refine bD19 ?_ | refine bK19 ?_ _)); refine blk_far ?_ NB195_218.out _; (with_reducible repeat (first | refine bN19 ?_ _ | refine bD19 ?_ | refine bK19 ?_ _)); refine blk_far ?_ NB195_218.out _; (with_reducible repeat (first | refine bN19 ?_ _ | refine bD19 ?_ | refine bK19 ?_ _)); refine blk_far ?_ NB195_218.out _; (with_reducible repeat (first | refine bN19 ?_ _ | refine bD19 ?_ | refine bK19 ?_ _)); refine blk_far ?_ NB195_218.out _; (with_reducible repeat (first | refine bN19 ?_ _ | refine bD19 ?_ | refine bK19 ?_ _)); refine blk_far ?_ NB195_218.out _; (with_reducible repeat (first | refine bN19 ?_ _ | refine bD19 ?_ | refine bK19 ?_ _)); refine blk_far ?_ NB195_218.out _; (with_reducible repeat (first | refine bN19 ?_ _ | refine bD19 ?_ | refine bK19 ?_ _)); refine blk_far ?_ NB195_218.out _; (with_reducible repeat (first | refine bN19 ?_ _ | refine bD19 ?_ | refine bK19 ?_ _)); exact BK195.out⟩
     have n3_ : Aside0 (((((((((w43.setCell ⟨gb218, 0, none⟩ (.int .i64 t209)).setCell ⟨gb218, 1, none⟩ (.int .i64 t210)).setCell ⟨gb218, 2, none⟩ (.int .i64 t211)).setCell ⟨gb218, 3, none⟩ (.int .i64 t212)).setCell ⟨gb218, 4, none⟩ (.int .i64 t213)).setCell ⟨gb218, 5, none⟩ (.int .i64 t214)).setCell ⟨gb218, 6, none⟩ (.int .i64 t215)).setCell ⟨gb218, 7, none⟩ (.int .i64 t216)).heap[gb196]? = some (.cells #[.int .i64 a0_4, .int .i64 a0_5, .int .i64 a0_6, .int .i64 a0_7, .int .i64 a0_8, .int .i64 a0_9] 27 (0, 0))) := ⟨by (with_reducible repeat (first | refine bN19 ?_ _ | refine bD19 ?_ | refine bK19 ?_ _)); refine blk_far ?_ NB196_218.out _; (with_reducible repeat (first | refine bN19 ?_ _ | refine bD19 ?_ | refine bK19 ?_ _)); refine blk_far ?_ NB196_218.out _; (with_reducible repeat (first | refine bN19 ?_ _ | refine bD19 ?_ | refine bK19 ?_ _)); refine blk_far ?_ NB196_218.out _; (with_reducible repeat (first | refine bN19 ?_ _ | refine bD19 ?_ | refine bK19 ?_ _)); refine blk_far ?_ NB196_218.out _; (with_reducible repeat (first | refine bN19 ?_ _ | refine bD19 ?_ | refine bK19 ?_ _)); refine blk_far ?_ NB196_218.out _; (with_reducible repeat (first | refine bN19 ?_ _ | refine bD19 ?_ | refine bK19 ?_ _)); refine blk_far ?_ NB196_218.out _; (with_reducible repeat (first | refine bN19 ?_ _ | refine bD19 ?_ | refine bK19 ?_ _)); refine blk_far ?_ NB196_218.out _; (with_reducible repeat (first | refine bN19 ?_ _ | refine bD19 ?_ | refine bK19 ?_ _)); refine blk_far ?_ NB196_218.out _; (with_reducible repeat (first | refine bN19 ?_ _ | refine bD19 ?_ | refine bK19 ?_ _)); exact BK196.out⟩
     have n4_ : Aside0 (((((((((w43.setCell ⟨gb218, 0, none⟩ (.int .i64 t209)).setCell ⟨gb218, 1, none⟩ (.int .i64 t210)).setCell ⟨gb218, 2, none⟩ (.int .i64 t211)).setCell ⟨gb218, 3, none⟩ (.int .i64 t212)).setCell ⟨gb218, 4, none⟩ (.int .i64 t213)).setCell ⟨gb218, 5, none⟩ (.int .i64 t214)).setCell ⟨gb218, 6, none⟩ (.int .i64 t215)).setCell ⟨gb218, 7, none⟩ (.int .i64 t216)).heap[gb208]? = some (.cells #[.int .i64 t199, .int .i64 t200, .int .i64 t201, .int .i64 t202, .int .i64 t203, .int .i64 t204, .int .i64 t205, .int .i64 t206] 38 (0, 0))) := ⟨by (with_reducible repeat (first | refine bN19 ?_ _ | refine bD19 ?_ | refine bK19 ?_ _)); refine blk_far ?_ NB208_218.out _; (with_reducible repeat (first | refine bN19 ?_ _ | refine bD19 ?_ | refine bK19 ?_ _)); refine blk_far ?_ NB208_218.out _; (with_reducible repeat (first | refine bN19 ?_ _ | refine bD19 ?_ | refine bK19 ?_ _)); refine blk_far ?_ NB208_218.out _; (with_reducible repeat (first | refine bN19 ?_ _ | refine bD19 ?_ | refine bK19 ?_ _)); refine blk_far ?_ NB208_218.out _; (with_reducible repeat (first | refine bN19 ?_ _ | refine bD19 ?_ | refine bK19 ?_ _)); refine blk_far ?_ NB208_218.out _; (with_reducible repeat (first | refine bN19 ?_ _ | refine bD19 ?_ | refine bK19 ?_ _)); refine blk_far ?_ NB208_218.out _; (with_reducible repeat (first | refine bN19 ?_ _ | refine bD19 ?_ | refine bK19 ?_ _)); refine blk_far ?_ NB208_218.out _; (with_reducible repeat (first | refine bN19 ?_ _ | refine bD19 ?_ | refine bK19 ?_ _)); refine blk_far ?_ NB208_218.out _; (with_reducible repeat (first | refine bN19 ?_ _ | refine bD19 ?_ | refine bK19 ?_ _)); exact BK208.out⟩
     have n5_ : Aside0 (((((((((w43.setCell ⟨gb218, 0, none⟩ (.int .i64 t209)).setCell ⟨gb218, 1, none⟩ (.int .i64 t210)).setCell ⟨gb218, 2, none⟩ (.int .i64 t211)).setCell ⟨gb218, 3, none⟩ (.int .i64 t212)).setCell ⟨gb218, 4, none⟩ (.int .i64 t213)).setCell ⟨gb218, 5, none⟩ (.int .i64 t214)).setCell ⟨gb218, 6, none⟩ (.int .i64 t215)).setCell ⟨gb218, 7, none⟩ (.int .i64 t216)).heap[gb218]? = some (.cells #[.int .i64 t209, .int .i64 t210, .int .i64 t211, .int .i64 t212, .int .i64 t213, .int .i64 t214, .int .i64 t215, .int .i64 t216] 38 (0, 0))) := ⟨by (with_reducible repeat (first | refine bN19 ?_ _ | refine bD19 ?_ | refine bK19 ?_ _)); refine blk_put (cs := #[.int .i64 t209, .int .i64 t210, .int .i64 t211, .int .i64 t212, .int .i64 t213, .int .i64 t214, .int .i64 t215, .int .i64 0]) ?_ 7 _ rfl; (with_reducible repeat (first | refine bN19 ?_ _ | refine bD19 ?_ | refine bK19 ?_ _)); refine blk_put (cs := #[.int .i64 t209, .int .i64 t210, .int .i64 t211, .int .i64 t212, .int .i64 t213, .int .i64 t214, .int .i64 0, .int .i64 0]) ?_ 6 _ rfl; (with_reducible repeat (first | refine bN19 ?_ _ | refine bD19 ?_ | refine bK19 ?_ _)); refine blk_put (cs := #[.int .i64 t209, .int .i64 t210, .int .i64 t211, .int .i64 t212, .int .i64 t213, .int .i64 0, .int .i64 0, .int .i64 0]) ?_ 5 _ rfl; (with_reducible repeat (first | refine bN19 ?_ _ | refine bD19 ?_ | refine bK19 ?_ _)); refine blk_put (cs := #[.int .i64 t209, .int .i64 t210, .int .i64 t211, .int .i64 t212, .int .i64 0, .int .i64 0, .int .i64 0, .int .i64 0]) ?_ 4 _ rfl; (with_reducible repeat (first | refine bN19 ?_ _ | refine bD19 ?_ | refine bK19 ?_ _)); refine blk_put (cs := #[.int .i64 t209, .int .i64 t210, .int .i64 t211, .int .i64 0, .int .i64 0, .int .i64 0, .int .i64 0, .int .i64 0]) ?_ 3 _ rfl; (with_reducible repeat (first | refine bN19 ?_ _ | refine bD19 ?_ | refine bK19 ?_ _)); refine blk_put (cs := #[.int .i64 t209, .int .i64 t210, .int .i64 0, .int .i64 0, .int .i64 0, .int .i64 0, .int .i64 0, .int .i64 0]) ?_ 2 _ rfl; (with_reducible repeat (first | refine bN19 ?_ _ | refine bD19 ?_ | refine bK19 ?_ _)); refine blk_put (cs := #[.int .i64 t209, .int .i64 0, .int .i64 0, .int .i64 0, .int .i64 0, .int .i64 0, .int .i64 0, .int .i64 0]) ?_ 1 _ rfl; (with_reducible repeat (first | refine bN19 ?_ _ | refine bD19 ?_ | refine bK19 ?_ _)); refine blk_put (cs := #[.int .i64 0, .int .i64 0, .int .i64 0, .int .i64 0, .int .i64 0, .int .i64 0, .int .i64 0, .int .i64 0]) ?_ 0 _ rfl; (with_reducible repeat (first | refine bN19 ?_ _ | refine bD19 ?_ | refine bK19 ?_ _)); exact BK218.out⟩
     have n6_ : Aside0 (Below w.heap.size w ((((((((w43.setCell ⟨gb218, 0, none⟩ (.int .i64 t209)).setCell ⟨gb218, 1, none⟩ (.int .i64 t210)).setCell ⟨gb218, 2, none⟩ (.int .i64 t211)).setCell ⟨gb218, 3, none⟩ (.int .i64 t212)).setCell ⟨gb218, 4, none⟩ (.int .i64 t213)).setCell ⟨gb218, 5, none⟩ (.int .i64 t214)).setCell ⟨gb218, 6, none⟩ (.int .i64 t215)).setCell ⟨gb218, 7, none⟩ (.int .i64 t216))) := ⟨by repeat (first | (with_reducible first | exact HB.out | apply below_alloc | apply pw_below_drewN | apply below_drew1 | refine below_set ?_ GE188.out | refine below_set ?_ GE195.out | refine below_set ?_ GE196.out | refine below_set ?_ GE208.out | refine below_set ?_ GE218.out) | exact HB.out)⟩
     (try clear HO194)
     (try clear BK188)
     (try clear BK195)
     (try clear BK196)
     (try clear BK208)
     (try clear BK218)
     (try clear HB)
     generalize ((((((((w43.setCell ⟨gb218, 0, none⟩ (.int .i64 t209)).setCell ⟨gb218, 1, none⟩ (.int .i64 t210)).setCell ⟨gb218, 2, none⟩ (.int .i64 t211)).setCell ⟨gb218, 3, none⟩ (.int .i64 t212)).setCell ⟨gb218, 4, none⟩ (.int .i64 t213)).setCell ⟨gb218, 5, none⟩ (.int .i64 t214)).setCell ⟨gb218, 6, none⟩ (.int .i64 t215)).setCell ⟨gb218, 7, none⟩ (.int .i64 t216)) = w55 at n0_ n1_ n2_ n3_ n4_ n5_ n6_ ⊢
     have HO194 := n0_
     have BK188 := n1_
     have BK195 := n2_
     have BK196 := n3_
     have BK208 := n4_
     have BK218 := n5_
     have HB := n6_
     clear n0_ n1_ n2_ n3_ n4_ n5_ n6_
     have n0_ := aM19 (Kd.V_drew HO194.out)
     have n1_ := aM19 (bD19 BK188.out)
     have n2_ := aM19 (bD19 BK195.out)
     have n3_ := aM19 (bD19 BK196.out)
     have n4_ := aM19 (bD19 BK208.out)
     have n5_ := aM19 (bD19 BK218.out)
     have n6_ := aM19 (below_drew1 HB.out)
     clear HO194
     clear BK188
     clear BK195
     clear BK196
     clear BK208
     clear BK218
     clear HB
     have HO194 := n0_
     have BK188 := n1_
     have BK195 := n2_
     have BK196 := n3_
     have BK208 := n4_
     have BK218 := n5_
     have HB := n6_
     clear n0_ n1_ n2_ n3_ n4_ n5_ n6_
     refine start_ (n := 36) (S := fun w' => w'.cell? ⟨gb195, 0, none⟩ = some (.int .i64 t189) ∧ w'.cell? ⟨gb195, 1, none⟩ = some (.int .i64 t190) ∧ w'.cell? ⟨gb195, 2, none⟩ = some (.int .i64 t191) ∧ w'.cell? ⟨gb195, 3, none⟩ = some (.slice Ao19 t192.length co19) ∧ w'.cell? ⟨gb208, 0, none⟩ = some (.int .i64 t199) ∧ w'.cell? ⟨gb208, 1, none⟩ = some (.int .i64 t200) ∧ w'.cell? ⟨gb208, 2, none⟩ = some (.int .i64 t201) ∧ w'.cell? ⟨gb208, 3, none⟩ = some (.int .i64 t202) ∧ w'.cell? ⟨gb208, 4, none⟩ = some (.int .i64 t203) ∧ w'.cell? ⟨gb208, 5, none⟩ = some (.int .i64 t204) ∧ w'.cell? ⟨gb208, 6, none⟩ = some (.int .i64 t205) ∧ w'.cell? ⟨gb208, 7, none⟩ = some (.int .i64 t206)) (ds := []) (bA 36 0) (by kernel_rfl) rfl rfl ⟨(bC19 BK195.out 0).trans rfl, (bC19 BK195.out 1).trans rfl, (bC19 BK195.out 2).trans rfl, (bC19 BK195.out 3).trans rfl, (bC19 BK208.out 0).trans rfl, (bC19 BK208.out 1).trans rfl, (bC19 BK208.out 2).trans rfl, (bC19 BK208.out 3).trans rfl, (bC19 BK208.out 4).trans rfl, (bC19 BK208.out 5).trans rfl, (bC19 BK208.out 6).trans rfl, (bC19 BK208.out 7).trans rfl⟩ (fun hHeld => ?_); refine with_tabW bivouaclaw16_ShotAbove.tab10 bivouaclaw16_ShotAbove.bits10 (fun HT_ HW_ => ?_)
     generalize w55.drew = w56 at HO194 BK188 BK195 BK196 BK208 BK218 HB hHeld ⊢
     refine pure_ (i := 0) (N := some 92) (v := ?_) (a' := ?_) (bA 36 1) rfl rfl (any_of HT_.out (by kernel_rfl)) (fun _ _ _ h => h) (Or.inl ⟨by rfl, ?_⟩) ?_ ?_
     rotate_left
     ·
      intro w'
      go_simp
      with_reducible rfl
     rotate_left
     ·
      simp only [Act.put, sA, sB, sC, i64_w, i32_w]
      rfl
     refine pure_ (i := 1) (N := some 93) (v := ?_) (a' := ?_) (bA 36 3) rfl rfl (any_of HT_.out (by kernel_rfl)) (fun _ _ _ h => h) (Or.inl ⟨by rfl, ?_⟩) ?_ ?_
     rotate_left
     ·
      intro w'
      go_simp
      with_reducible rfl
     rotate_left
     ·
      simp only [Act.put, sA, sB, sC, i64_w, i32_w]
      rfl
     refine pure_ (i := 2) (N := some 94) (v := ?_) (a' := ?_) (bA 36 7) rfl rfl (any_of HT_.out (by kernel_rfl)) (fun _ _ _ h => h) (Or.inl ⟨by rfl, ?_⟩) ?_ ?_
     rotate_left
     ·
      intro w'
      go_simp
      with_reducible rfl
     rotate_left
     ·
      simp only [Act.put, sA, sB, sC, i64_w, i32_w]
      rfl
     refine pure_ (i := 4) (N := some 96) (v := ?_) (a' := ?_) (bA 36 23) rfl rfl (any_of HT_.out (by kernel_rfl)) (fun _ _ _ h => h) (Or.inl ⟨by rfl, ?_⟩) ?_ ?_
     rotate_left
     ·
      intro w'
      go_simp
      with_reducible rfl
     rotate_left
     ·
      simp only [Act.put, sA, sB, sC, i64_w, i32_w]
      rfl
     refine pure_ (i := 5) (N := some 97) (v := ?_) (a' := ?_) (bA 36 55) rfl rfl (any_of HT_.out (by kernel_rfl)) (fun _ _ _ h => h) (Or.inl ⟨by rfl, ?_⟩) ?_ ?_
     rotate_left
     ·
      intro w'
      go_simp
      with_reducible rfl
     rotate_left
     ·
      simp only [Act.put, sA, sB, sC, i64_w, i32_w]
      rfl
     refine pure_ (i := 7) (N := some 99) (v := ?_) (a' := ?_) (bA 36 183) rfl rfl (any_of HT_.out (by kernel_rfl)) (fun _ _ _ h => h) (Or.inl ⟨by rfl, ?_⟩) ?_ ?_
     rotate_left
     ·
      intro w'
      go_simp
      with_reducible rfl
     rotate_left
     ·
      simp only [Act.put, sA, sB, sC, i64_w, i32_w]
      rfl
     refine pure_ (i := 8) (N := some 100) (v := ?_) (a' := ?_) (bA 36 439) rfl rfl (any_of HT_.out (by kernel_rfl)) (fun _ _ _ h => h) (Or.inl ⟨by rfl, ?_⟩) ?_ ?_
     rotate_left
     ·
      intro w'
      go_simp
      with_reducible rfl
     rotate_left
     ·
      simp only [Act.put, sA, sB, sC, i64_w, i32_w]
      rfl
     refine take_ (i := 3) (N := some 95) (v := ?_) (a' := ?_) (bA 36 447) rfl rfl (take_ofW HT_.out HW_.out (by kernel_rfl)) (fun _ _ _ h => h) (Or.inl ⟨by rfl, ?_⟩) hHeld ?_ ?_
     rotate_left
     ·
      rintro w' ⟨s0, s1, s2, s3, s4, s5, s6, s7, s8, s9, s10, s11⟩
      go_simp
      with_reducible rfl
     rotate_left
     ·
      simp only [Act.put, sA, sB, sC, i64_w, i32_w]
      rfl
     refine take_ (i := 6) (N := some 98) (v := ?_) (a' := ?_) (bA 36 511) rfl rfl (take_ofW HT_.out HW_.out (by kernel_rfl)) (fun _ _ _ h => h) (Or.inl ⟨by rfl, ?_⟩) hHeld ?_ ?_
     rotate_left
     ·
      rintro w' ⟨s0, s1, s2, s3, s4, s5, s6, s7, s8, s9, s10, s11⟩
      go_simp
      with_reducible rfl
     rotate_left
     ·
      simp only [Act.put, sA, sB, sC, i64_w, i32_w]
      rfl
     refine take_ (i := 9) (N := some 101) (v := ?_) (a' := ?_) (bA 36 1023) rfl rfl (take_ofW HT_.out HW_.out (by kernel_rfl)) (fun _ _ _ h => h) (Or.inl ⟨by rfl, ?_⟩) hHeld ?_ ?_
     rotate_left
     ·
      rintro w' ⟨s0, s1, s2, s3, s4, s5, s6, s7, s8, s9, s10, s11⟩
      go_simp
      with_reducible rfl
     rotate_left
     ·
      simp only [Act.put, sA, sB, sC, i64_w, i32_w]
      rfl
     refine one_ (i := 10) (N := some 102) (bA 36 2047) rfl rfl (one_of HT_.out (by kernel_rfl)) (by decide) (fun K hK => ?_)
     refine goes_ Try.func22 (by kernel_rfl) rfl #[.agg #[.int .i64 t189, .int .i64 t190, .int .i64 t191, .slice Ao19 t192.length co19], .int .i64 t201, .int .i64 t202] (by rfl) rfl rfl (by (try simp only [List.map_toArray, List.map_cons, List.map_nil]); first | done | rfl | (simp only [List.length_drop, List.length_take]; rfl)) ?_
     with_reducible refine (bivouacref06_On.calls t189 t190 t191 _ _ t192 t201 t202 true _ ?side1 ?side2 A51.out).mono ?_
     (case side1 => repeat (first | exact (Kd.V_reads' HO194.out).2.2 | (with_reducible refine Kd.C_alloc ?_ _) | (with_reducible refine Kd.C_drewN ?_ _) | (with_reducible refine Kd.C_drew ?_)))
     (case side2 => exact (Kd.V_reads' HO194.out).2.1)
     rintro e w57 ⟨rfl, hb⟩
     refine ⟨_, rfl, ?_⟩
     have n0_ := aM19 (Kd.V_below (by (with_reducible repeat (first | apply Kd.V_alloc | apply Kd.V_drewN | apply Kd.V_drew)); exact HO194.out) hb)
     have n1_ := aM19 (blk_below (g := gb188) (o := .cells #[.int .i64 a0_0, .int .i64 a0_1, .int .i64 a0_2, .slice A0_3 l0_3.length c0_3, .int .i64 a0_4, .int .i64 a0_5, .int .i64 a0_6, .int .i64 a0_7, .int .i64 a0_8, .int .i64 a0_9, .int .i64 a0_10, .int .u8 a0_11] 36 (0, 0)) (by (with_reducible repeat (first | refine bN19 ?_ _ | refine bD19 ?_ | refine bK19 ?_ _)); exact BK188.out) hb)
     have n2_ := aM19 (blk_below (g := gb195) (o := .cells #[.int .i64 t189, .int .i64 t190, .int .i64 t191, .slice Ao19 t192.length co19] 25 (0, 0)) (by (with_reducible repeat (first | refine bN19 ?_ _ | refine bD19 ?_ | refine bK19 ?_ _)); exact BK195.out) hb)
     have n3_ := aM19 (blk_below (g := gb196) (o := .cells #[.int .i64 a0_4, .int .i64 a0_5, .int .i64 a0_6, .int .i64 a0_7, .int .i64 a0_8, .int .i64 a0_9] 27 (0, 0)) (by (with_reducible repeat (first | refine bN19 ?_ _ | refine bD19 ?_ | refine bK19 ?_ _)); exact BK196.out) hb)
     have n4_ := aM19 (blk_below (g := gb208) (o := .cells #[.int .i64 t199, .int .i64 t200, .int .i64 t201, .int .i64 t202, .int .i64 t203, .int .i64 t204, .int .i64 t205, .int .i64 t206] 38 (0, 0)) (by (with_reducible repeat (first | refine bN19 ?_ _ | refine bD19 ?_ | refine bK19 ?_ _)); exact BK208.out) hb)
     have n5_ := aM19 (blk_below (g := gb218) (o := .cells #[.int .i64 t209, .int .i64 t210, .int .i64 t211, .int .i64 t212, .int .i64 t213, .int .i64 t214, .int .i64 t215, .int .i64 t216] 38 (0, 0)) (by (with_reducible repeat (first | refine bN19 ?_ _ | refine bD19 ?_ | refine bK19 ?_ _)); exact BK218.out) hb)
     have n6_ := aM19 (below_step (by repeat (first | (with_reducible first | exact HB.out | apply below_alloc | apply pw_below_drewN | apply below_drew1 | refine below_set ?_ GE188.out | refine below_set ?_ GE195.out | refine below_set ?_ GE196.out | refine below_set ?_ GE208.out | refine below_set ?_ GE218.out) | exact HB.out)) hb)
     clear HO194
     clear BK188
     clear BK195
     clear BK196
     clear BK208
     clear BK218
     clear HB
     have HO194 := n0_
     have BK188 := n1_
     have BK195 := n2_
     have BK196 := n3_
     have BK208 := n4_
     have BK218 := n5_
     have HB := n6_
     clear n0_ n1_ n2_ n3_ n4_ n5_ n6_
     (try clear hb)
     (try clear hb2)
     (try clear hk)
     (try clear hi)
     refine hK.out _ _ ⟨(bC19 BK195.out 0).trans rfl, (bC19 BK195.out 1).trans rfl, (bC19 BK195.out 2).trans rfl, (bC19 BK195.out 3).trans rfl, (bC19 BK208.out 0).trans rfl, (bC19 BK208.out 1).trans rfl, (bC19 BK208.out 2).trans rfl, (bC19 BK208.out 3).trans rfl, (bC19 BK208.out 4).trans rfl, (bC19 BK208.out 5).trans rfl, (bC19 BK208.out 6).trans rfl, (bC19 BK208.out 7).trans rfl⟩ (fun hHeld => ?_)
     clear hK K
     refine norm_ (a' := ?_) ?_ ?_
     rotate_left
     ·
      show Act.put _ (some 102) _ = _
      simp only [Act.put, sA, sB, sC, i64_w, i32_w]
      rfl
     refine pure_ (i := 11) (N := some 103) (v := ?_) (a' := ?_) (bA 36 4095) rfl rfl (any_of HT_.out (by kernel_rfl)) (fun _ _ _ h => h) (Or.inl ⟨by rfl, ?_⟩) ?_ ?_
     rotate_left
     ·
      intro w'
      go_simp
      with_reducible rfl
     rotate_left
     ·
      simp only [Act.put, sA, sB, sC, i64_w, i32_w]
      rfl
     refine pure_ (i := 12) (N := some 104) (v := ?_) (a' := ?_) (bA 36 8191) rfl rfl (any_of HT_.out (by kernel_rfl)) (fun _ _ _ h => h) (Or.inl ⟨by rfl, ?_⟩) ?_ ?_
     rotate_left
     ·
      intro w'
      go_simp
      with_reducible rfl
     rotate_left
     ·
      simp only [Act.put, sA, sB, sC, i64_w, i32_w]
      rfl
     refine pure_ (i := 13) (N := some 105) (v := ?_) (a' := ?_) (bA 36 16383) rfl rfl (any_of HT_.out (by kernel_rfl)) (fun _ _ _ h => h) (Or.inl ⟨by rfl, ?_⟩) ?_ ?_
     rotate_left
     ·
      intro w'
      go_simp
      with_reducible rfl
     rotate_left
     ·
      simp only [Act.put, sA, sB, sC, i64_w, i32_w]
      rfl
     refine pure_ (i := 14) (N := some 106) (v := ?_) (a' := ?_) (bA 36 32767) rfl rfl (any_of HT_.out (by kernel_rfl)) (fun _ _ _ h => h) (Or.inl ⟨by rfl, ?_⟩) ?_ ?_
     rotate_left
     ·
      intro w'
      go_simp
      with_reducible rfl
     rotate_left
     ·
      simp only [Act.put, sA, sB, sC, i64_w, i32_w]
      rfl
     refine pure_ (i := 17) (N := some 109) (v := ?_) (a' := ?_) (bA 36 163839) rfl rfl (any_of HT_.out (by kernel_rfl)) (fun _ _ _ h => h) (Or.inl ⟨by rfl, ?_⟩) ?_ ?_
     rotate_left
     ·
      intro w'
      go_simp
      with_reducible rfl
     rotate_left
     ·
      simp only [Act.put, sA, sB, sC, i64_w, i32_w]
      rfl
     refine pure_ (i := 18) (N := some 110) (v := ?_) (a' := ?_) (bA 36 425983) rfl rfl (any_of HT_.out (by kernel_rfl)) (fun _ _ _ h => h) (Or.inl ⟨by rfl, ?_⟩) ?_ ?_
     rotate_left
     ·
      intro w'
      go_simp
      with_reducible rfl
     rotate_left
     ·
      simp only [Act.put, sA, sB, sC, i64_w, i32_w]
      rfl
     refine pure_ (i := 20) (N := some 112) (v := ?_) (a' := ?_) (bA 36 1474559) rfl rfl (any_of HT_.out (by kernel_rfl)) (fun _ _ _ h => h) (Or.inl ⟨by rfl, ?_⟩) ?_ ?_
     rotate_left
     ·
      intro w'
      go_simp
      with_reducible rfl
     rotate_left
     ·
      simp only [Act.put, sA, sB, sC, i64_w, i32_w]
      rfl
     refine pure_ (i := 21) (N := some 113) (v := ?_) (a' := ?_) (bA 36 3571711) rfl rfl (any_of HT_.out (by kernel_rfl)) (fun _ _ _ h => h) (Or.inl ⟨by rfl, ?_⟩) ?_ ?_
     rotate_left
     ·
      intro w'
      go_simp
      with_reducible rfl
     rotate_left
     ·
      simp only [Act.put, sA, sB, sC, i64_w, i32_w]
      rfl
     refine take_ (i := 15) (N := some 107) (v := ?_) (a' := ?_) (bA 36 3604479) rfl rfl (take_ofW HT_.out HW_.out (by kernel_rfl)) (fun _ _ _ h => h) (Or.inl ⟨by rfl, ?_⟩) hHeld ?_ ?_
     rotate_left
     ·
      rintro w' ⟨s0, s1, s2, s3, s4, s5, s6, s7, s8, s9, s10, s11⟩
      go_simp
      with_reducible rfl
     rotate_left
     ·
      simp only [Act.put, sA, sB, sC, i64_w, i32_w]
      rfl
     refine take_ (i := 16) (N := some 108) (v := ?_) (a' := ?_) (bA 36 3670015) rfl rfl (take_ofW HT_.out HW_.out (by kernel_rfl)) (fun _ _ _ h => h) (Or.inl ⟨by rfl, ?_⟩) hHeld ?_ ?_
     rotate_left
     ·
      rintro w' ⟨s0, s1, s2, s3, s4, s5, s6, s7, s8, s9, s10, s11⟩
      go_simp
      with_reducible rfl
     rotate_left
     ·
      simp only [Act.put, sA, sB, sC, i64_w, i32_w]
      rfl
     refine take_ (i := 19) (N := some 111) (v := ?_) (a' := ?_) (bA 36 4194303) rfl rfl (take_ofW HT_.out HW_.out (by kernel_rfl)) (fun _ _ _ h => h) (Or.inl ⟨by rfl, ?_⟩) hHeld ?_ ?_
     rotate_left
     ·
      rintro w' ⟨s0, s1, s2, s3, s4, s5, s6, s7, s8, s9, s10, s11⟩
      go_simp
      with_reducible rfl
     rotate_left
     ·
      simp only [Act.put, sA, sB, sC, i64_w, i32_w]
      rfl
     refine take_ (i := 22) (N := some 114) (v := ?_) (a' := ?_) (bA 36 8388607) rfl rfl (take_ofW HT_.out HW_.out (by kernel_rfl)) (fun _ _ _ h => h) (Or.inl ⟨by rfl, ?_⟩) hHeld ?_ ?_
     rotate_left
     ·
      rintro w' ⟨s0, s1, s2, s3, s4, s5, s6, s7, s8, s9, s10, s11⟩
      go_simp
      with_reducible rfl
     rotate_left
     ·
      simp only [Act.put, sA, sB, sC, i64_w, i32_w]
      rfl
     refine one_ (i := 23) (N := some 115) (bA 36 16777215) rfl rfl (one_of HT_.out (by kernel_rfl)) (by decide) (fun K hK => ?_)
     refine goes_ Try.func23 (by kernel_rfl) rfl #[.agg #[.int .i64 t189, .int .i64 t190, .int .i64 t191, .slice Ao19 t192.length co19], .int .i64 t201, .int .i64 t202] (by rfl) rfl rfl (by (try simp only [List.map_toArray, List.map_cons, List.map_nil]); first | done | rfl | (simp only [List.length_drop, List.length_take]; rfl)) ?_
     with_reducible refine (bivouacref06_Height.calls t189 t190 t191 _ _ t192 t201 t202 t223 _ ?side1 ?side2 A53.out).mono ?_
     (case side1 => repeat (first | exact (Kd.V_reads' HO194.out).2.2 | (with_reducible refine Kd.C_alloc ?_ _) | (with_reducible refine Kd.C_drewN ?_ _) | (with_reducible refine Kd.C_drew ?_)))
     (case side2 => exact (Kd.V_reads' HO194.out).2.1)
     rintro e w58 ⟨rfl, hb⟩
     refine ⟨_, rfl, ?_⟩
     have n0_ := aM19 (Kd.V_below (by (with_reducible repeat (first | apply Kd.V_alloc | apply Kd.V_drewN | apply Kd.V_drew)); exact HO194.out) hb)
     have n1_ := aM19 (blk_below (g := gb188) (o := .cells #[.int .i64 a0_0, .int .i64 a0_1, .int .i64 a0_2, .slice A0_3 l0_3.length c0_3, .int .i64 a0_4, .int .i64 a0_5, .int .i64 a0_6, .int .i64 a0_7, .int .i64 a0_8, .int .i64 a0_9, .int .i64 a0_10, .int .u8 a0_11] 36 (0, 0)) (by (with_reducible repeat (first | refine bN19 ?_ _ | refine bD19 ?_ | refine bK19 ?_ _)); exact BK188.out) hb)
     have n2_ := aM19 (blk_below (g := gb195) (o := .cells #[.int .i64 t189, .int .i64 t190, .int .i64 t191, .slice Ao19 t192.length co19] 25 (0, 0)) (by (with_reducible repeat (first | refine bN19 ?_ _ | refine bD19 ?_ | refine bK19 ?_ _)); exact BK195.out) hb)
     have n3_ := aM19 (blk_below (g := gb196) (o := .cells #[.int .i64 a0_4, .int .i64 a0_5, .int .i64 a0_6, .int .i64 a0_7, .int .i64 a0_8, .int .i64 a0_9] 27 (0, 0)) (by (with_reducible repeat (first | refine bN19 ?_ _ | refine bD19 ?_ | refine bK19 ?_ _)); exact BK196.out) hb)
     have n4_ := aM19 (blk_below (g := gb208) (o := .cells #[.int .i64 t199, .int .i64 t200, .int .i64 t201, .int .i64 t202, .int .i64 t203, .int .i64 t204, .int .i64 t205, .int .i64 t206] 38 (0, 0)) (by (with_reducible repeat (first | refine bN19 ?_ _ | refine bD19 ?_ | refine bK19 ?_ _)); exact BK208.out) hb)
     have n5_ := aM19 (blk_below (g := gb218) (o := .cells #[.int .i64 t209, .int .i64 t210, .int .i64 t211, .int .i64 t212, .int .i64 t213, .int .i64 t214, .int .i64 t215, .int .i64 t216] 38 (0, 0)) (by (with_reducible repeat (first | refine bN19 ?_ _ | refine bD19 ?_ | refine bK19 ?_ _)); exact BK218.out) hb)
     have n6_ := aM19 (below_step (by repeat (first | (with_reducible first | exact HB.out | apply below_alloc | apply pw_below_drewN | apply below_drew1 | refine below_set ?_ GE188.out | refine below_set ?_ GE195.out | refine below_set ?_ GE196.out | refine below_set ?_ GE208.out | refine below_set ?_ GE218.out) | exact HB.out)) hb)
     clear HO194
     clear BK188
     clear BK195
     clear BK196
     clear BK208
     clear BK218
     clear HB
     have HO194 := n0_
     have BK188 := n1_
     have BK195 := n2_
     have BK196 := n3_
     have BK208 := n4_
     have BK218 := n5_
     have HB := n6_
     clear n0_ n1_ n2_ n3_ n4_ n5_ n6_
     (try clear hb)
     (try clear hb2)
     (try clear hk)
     (try clear hi)
     refine hK.out _ _ ⟨(bC19 BK195.out 0).trans rfl, (bC19 BK195.out 1).trans rfl, (bC19 BK195.out 2).trans rfl, (bC19 BK195.out 3).trans rfl, (bC19 BK208.out 0).trans rfl, (bC19 BK208.out 1).trans rfl, (bC19 BK208.out 2).trans rfl, (bC19 BK208.out 3).trans rfl, (bC19 BK208.out 4).trans rfl, (bC19 BK208.out 5).trans rfl, (bC19 BK208.out 6).trans rfl, (bC19 BK208.out 7).trans rfl⟩ (fun hHeld => ?_)
     clear hK K
     refine norm_ (a' := ?_) ?_ ?_
     rotate_left
     ·
      show Act.put _ (some 115) _ = _
      simp only [Act.put, sA, sB, sC, i64_w, i32_w]
      rfl
     refine pure_ (i := 24) (N := some 116) (v := ?_) (a' := ?_) (bA 36 33554431) rfl rfl (any_of HT_.out (by kernel_rfl)) (fun _ _ _ h => h) (Or.inl ⟨by rfl, ?_⟩) ?_ ?_
     rotate_left
     ·
      intro w'
      go_simp
      with_reducible rfl
     rotate_left
     ·
      simp only [Act.put, sA, sB, sC, i64_w, i32_w]
      rfl
     refine pure_ (i := 25) (N := some 117) (v := ?_) (a' := ?_) (bA 36 67108863) rfl rfl (any_of HT_.out (by kernel_rfl)) (fun _ _ _ h => h) (Or.inl ⟨by rfl, ?_⟩) ?_ ?_
     rotate_left
     ·
      intro w'
      go_simp
      with_reducible rfl
     rotate_left
     ·
      simp only [Act.put, sA, sB, sC, i64_w, i32_w]
      rfl
     refine pure_ (i := 26) (N := some 118) (v := ?_) (a' := ?_) (bA 36 134217727) rfl rfl (any_of HT_.out (by kernel_rfl)) (fun _ _ _ h => h) (Or.inl ⟨by rfl, ?_⟩) ?_ ?_
     rotate_left
     ·
      intro w'
      go_simp
      with_reducible rfl
     rotate_left
     ·
      simp only [Act.put, sA, sB, sC, i64_w, i32_w]
      rfl
     refine pure_ (i := 27) (N := some 119) (v := undef) (a' := ?_) (bA 36 268435455) rfl rfl (any_of HT_.out (by kernel_rfl)) (fun _ _ _ h => h) (Or.inr ⟨by rfl, rfl⟩) ?_ ?_
     rotate_left
     ·
      simp only [Act.put, sA, sB, sC, i64_w, i32_w]
      rfl
     refine pure_ (i := 28) (N := some 120) (v := undef) (a' := ?_) (bA 36 536870911) rfl rfl (any_of HT_.out (by kernel_rfl)) (fun _ _ _ h => h) (Or.inr ⟨by rfl, rfl⟩) ?_ ?_
     rotate_left
     ·
      simp only [Act.put, sA, sB, sC, i64_w, i32_w]
      rfl
     refine pure_ (i := 29) (N := some 121) (v := undef) (a' := ?_) (bA 36 1073741823) rfl rfl (any_of HT_.out (by kernel_rfl)) (fun _ _ _ h => h) (Or.inr ⟨by rfl, rfl⟩) ?_ ?_
     rotate_left
     ·
      simp only [Act.put, sA, sB, sC, i64_w, i32_w]
      rfl
     refine pure_ (i := 30) (N := some 122) (v := undef) (a' := ?_) (bA 36 2147483647) rfl rfl (any_of HT_.out (by kernel_rfl)) (fun _ _ _ h => h) (Or.inr ⟨by rfl, rfl⟩) ?_ ?_
     rotate_left
     ·
      simp only [Act.put, sA, sB, sC, i64_w, i32_w]
      rfl
     refine pure_ (i := 31) (N := some 123) (v := undef) (a' := ?_) (bA 36 4294967295) rfl rfl (any_of HT_.out (by kernel_rfl)) (fun _ _ _ h => h) (Or.inr ⟨by rfl, rfl⟩) ?_ ?_
     rotate_left
     ·
      simp only [Act.put, sA, sB, sC, i64_w, i32_w]
      rfl
     refine pure_ (i := 32) (N := some 124) (v := undef) (a' := ?_) (bA 36 8589934591) rfl rfl (any_of HT_.out (by kernel_rfl)) (fun _ _ _ h => h) (Or.inr ⟨by rfl, rfl⟩) ?_ ?_
     rotate_left
     ·
      simp only [Act.put, sA, sB, sC, i64_w, i32_w]
      rfl
     refine pure_ (i := 33) (N := some 125) (v := undef) (a' := ?_) (bA 36 17179869183) rfl rfl (any_of HT_.out (by kernel_rfl)) (fun _ _ _ h => h) (Or.inr ⟨by rfl, rfl⟩) ?_ ?_
     rotate_left
     ·
      simp only [Act.put, sA, sB, sC, i64_w, i32_w]
      rfl
     refine pure_ (i := 34) (N := some 126) (v := ?_) (a' := ?_) (bA 36 34359738367) rfl rfl (any_of HT_.out (by kernel_rfl)) (fun _ _ _ h => h) (Or.inl ⟨by rfl, ?_⟩) ?_ ?_
     rotate_left
     ·
      intro w'
      go_simp
      with_reducible rfl
     rotate_left
     ·
      simp only [Act.put, sA, sB, sC, i64_w, i32_w]
      rfl
     refine pure_ (i := 35) (N := some 127) (v := ?_) (a' := ?_) (bA 36 68719476735) rfl rfl (any_of HT_.out (by kernel_rfl)) (fun _ _ _ h => h) (Or.inl ⟨by rfl, ?_⟩) ?_ ?_
     rotate_left
     ·
      intro w'
      go_simp
      with_reducible rfl
     rotate_left
     ·
      simp only [Act.put, sA, sB, sC, i64_w, i32_w]
      rfl
     refine done_ (done_of HT_.out (by kernel_rfl)) ?_
     try go_wp2
     go_meet
     case rel => exact ⟨_, (true), (by first | rfl | (simp; done) | (simp [*]; done)), H', ⟨by first | omega | exact Nat.le_refl _⟩, ⟨by (with_reducible repeat (first | apply Kd.V_alloc | apply Kd.V_drewN | apply Kd.V_drew)); exact HO194.out⟩, ⟨by (with_reducible repeat (first | refine bN19 ?_ _ | refine bD19 ?_ | refine bK19 ?_ _)); exact BK188.out⟩, ⟨by (with_reducible repeat (first | refine bN19 ?_ _ | refine bD19 ?_ | refine bK19 ?_ _)); exact BK195.out⟩, ⟨by (with_reducible repeat (first | refine bN19 ?_ _ | refine bD19 ?_ | refine bK19 ?_ _)); exact BK196.out⟩, ⟨by (with_reducible repeat (first | refine bN19 ?_ _ | refine bD19 ?_ | refine bK19 ?_ _)); exact BK208.out⟩, ⟨by (with_reducible repeat (first | refine bN19 ?_ _ | refine bD19 ?_ | refine bK19 ?_ _)); exact BK218.out⟩, ⟨by repeat (first | (with_reducible first | exact HB.out | apply below_alloc | apply pw_below_drewN | apply below_drew1 | refine below_set ?_ GE188.out | refine below_set ?_ GE195.out | refine below_set ?_ GE196.out | refine below_set ?_ GE208.out | refine below_set ?_ GE218.out) | exact HB.out)⟩⟩
    rw [if_neg c54] at H
    have c54b0 : decide (t203 ≤ t223) = false := decide_eq_false c54
    clear c54
    have H' := aM19 H
    clear H
    try go_wp2
    have n0_ : Aside0 (Kd.V (Kd.int .u8) 5 ((((((((w43.setCell ⟨gb218, 0, none⟩ (.int .i64 t209)).setCell ⟨gb218, 1, none⟩ (.int .i64 t210)).setCell ⟨gb218, 2, none⟩ (.int .i64 t211)).setCell ⟨gb218, 3, none⟩ (.int .i64 t212)).setCell ⟨gb218, 4, none⟩ (.int .i64 t213)).setCell ⟨gb218, 5, none⟩ (.int .i64 t214)).setCell ⟨gb218, 6, none⟩ (.int .i64 t215)).setCell ⟨gb218, 7, none⟩ (.int .i64 t216)) w.heap.size (fun k_ => k_ ≠ gb188 ∧ k_ ≠ gb195 ∧ k_ ≠ gb196 ∧ k_ ≠ gb208 ∧ k_ ≠ gb218) (.slice Ao19 t192.length co19) t192) := ⟨by (with_reducible repeat (first | apply Kd.V_alloc | apply Kd.V_drewN | apply Kd.V_drew)); exact Kd.V_mono (Kd.V_far (p := ⟨gb218, 7, none⟩) (Kd.V_far (p := ⟨gb218, 6, none⟩) (Kd.V_far (p := ⟨gb218, 5, none⟩) (Kd.V_far (p := ⟨gb218, 4, none⟩) (Kd.V_far (p := ⟨gb218, 3, none⟩) (Kd.V_far (p := ⟨gb218, 2, none⟩) (Kd.V_far (p := ⟨gb218, 1, none⟩) (Kd.V_far (p := ⟨gb218, 0, none⟩) (Kd.V_mono HO194.out (fun k_ hk => (⟨hk, hk.2⟩ : _ ∧ k_ ≠ gb218))) (fun _ hk => hk.2) (.int .i64 t209)) (fun _ hk => hk.2) (.int .i64 t210)) (fun _ hk => hk.2) (.int .i64 t211)) (fun _ hk => hk.2) (.int .i64 t212)) (fun _ hk => hk.2) (.int .i64 t213)) (fun _ hk => hk.2) (.int .i64 t214)) (fun _ hk => hk.2) (.int .i64 t215)) (fun _ hk => hk.2) (.int .i64 t216)) (fun _ hk => ⟨hk.1.1.1.1, ⟨hk.1.1.1.2.1, ⟨hk.1.1.1.2.2, ⟨hk.1.1.2, hk.1.2⟩⟩⟩⟩)⟩
    have n1_ : Aside0 (((((((((w43.setCell ⟨gb218, 0, none⟩ (.int .i64 t209)).setCell ⟨gb218, 1, none⟩ (.int .i64 t210)).setCell ⟨gb218, 2, none⟩ (.int .i64 t211)).setCell ⟨gb218, 3, none⟩ (.int .i64 t212)).setCell ⟨gb218, 4, none⟩ (.int .i64 t213)).setCell ⟨gb218, 5, none⟩ (.int .i64 t214)).setCell ⟨gb218, 6, none⟩ (.int .i64 t215)).setCell ⟨gb218, 7, none⟩ (.int .i64 t216)).heap[gb188]? = some (.cells #[.int .i64 a0_0, .int .i64 a0_1, .int .i64 a0_2, .slice A0_3 l0_3.length c0_3, .int .i64 a0_4, .int .i64 a0_5, .int .i64 a0_6, .int .i64 a0_7, .int .i64 a0_8, .int .i64 a0_9, .int .i64 a0_10, .int .u8 a0_11] 36 (0, 0))) := ⟨by (with_reducible repeat (first | refine bN19 ?_ _ | refine bD19 ?_ | refine bK19 ?_ _)); refine blk_far ?_ NB188_218.out _; (with_reducible repeat (first | refine bN19 ?_ _ | refine bD19 ?_ | refine bK19 ?_ _)); refine blk_far ?_ NB188_218.out _; (with_reducible repeat (first | refine bN19 ?_ _ | refine bD19 ?_ | refine bK19 ?_ _)); refine blk_far ?_ NB188_218.out _; (with_reducible repeat (first | refine bN19 ?_ _ | refine bD19 ?_ | refine bK19 ?_ _)); refine blk_far ?_ NB188_218.out _; (with_reducible repeat (first | refine bN19 ?_ _ | refine bD19 ?_ | refine bK19 ?_ _)); refine blk_far ?_ NB188_218.out _; (with_reducible repeat (first | refine bN19 ?_ _ | refine bD19 ?_ | refine bK19 ?_ _)); refine blk_far ?_ NB188_218.out _; (with_reducible repeat (first | refine bN19 ?_ _ | refine bD19 ?_ | refine bK19 ?_ _)); refine blk_far ?_ NB188_218.out _; (with_reducible repeat (first | refine bN19 ?_ _ | refine bD19 ?_ | refine bK19 ?_ _)); refine blk_far ?_ NB188_218.out _; (with_reducible repeat (first | refine bN19 ?_ _ | refine bD19 ?_ | refine bK19 ?_ _)); exact BK188.out⟩
    have n2_ : Aside0 (((((((((w43.setCell ⟨gb218, 0, none⟩ (.int .i64 t209)).setCell ⟨gb218, 1, none⟩ (.int .i64 t210)).setCell ⟨gb218, 2, none⟩ (.int .i64 t211)).setCell ⟨gb218, 3, none⟩ (.int .i64 t212)).setCell ⟨gb218, 4, none⟩ (.int .i64 t213)).setCell ⟨gb218, 5, none⟩ (.int .i64 t214)).setCell ⟨gb218, 6, none⟩ (.int .i64 t215)).setCell ⟨gb218, 7, none⟩ (.int .i64 t216)).heap[gb195]? = some (.cells #[.int .i64 t189, .int .i64 t190, .int .i64 t191, .slice Ao19 t192.length co19] 25 (0, 0))) := ⟨by (with_reducible repeat (first | refine bN19 ?_ _ | refine bD19 ?_ | refine bK19 ?_ _)); refine blk_far ?_ NB195_218.out _; (with_reducible repeat (first | refine bN19 ?_ _ | refine bD19 ?_ | refine bK19 ?_ _)); refine blk_far ?_ NB195_218.out _; (with_reducible repeat (first | refine bN19 ?_ _ | refine bD19 ?_ | refine bK19 ?_ _)); refine blk_far ?_ NB195_218.out _; (with_reducible repeat (first | refine bN19 ?_ _ | refine bD19 ?_ | refine bK19 ?_ _)); refine blk_far ?_ NB195_218.out _; (with_reducible repeat (first | refine bN19 ?_ _ | refine bD19 ?_ | refine bK19 ?_ _)); refine blk_far ?_ NB195_218.out _; (with_reducible repeat (first | refine bN19 ?_ _ | refine bD19 ?_ | refine bK19 ?_ _)); refine blk_far ?_ NB195_218.out _; (with_reducible repeat (first | refine bN19 ?_ _ | refine bD19 ?_ | refine bK19 ?_ _)); refine blk_far ?_ NB195_218.out _; (with_reducible repeat (first | refine bN19 ?_ _ | refine bD19 ?_ | refine bK19 ?_ _)); refine blk_far ?_ NB195_218.out _; (with_reducible repeat (first | refine bN19 ?_ _ | refine bD19 ?_ | refine bK19 ?_ _)); exact BK195.out⟩
    have n3_ : Aside0 (((((((((w43.setCell ⟨gb218, 0, none⟩ (.int .i64 t209)).setCell ⟨gb218, 1, none⟩ (.int .i64 t210)).setCell ⟨gb218, 2, none⟩ (.int .i64 t211)).setCell ⟨gb218, 3, none⟩ (.int .i64 t212)).setCell ⟨gb218, 4, none⟩ (.int .i64 t213)).setCell ⟨gb218, 5, none⟩ (.int .i64 t214)).setCell ⟨gb218, 6, none⟩ (.int .i64 t215)).setCell ⟨gb218, 7, none⟩ (.int .i64 t216)).heap[gb196]? = some (.cells #[.int .i64 a0_4, .int .i64 a0_5, .int .i64 a0_6, .int .i64 a0_7, .int .i64 a0_8, .int .i64 a0_9] 27 (0, 0))) := ⟨by (with_reducible repeat (first | refine bN19 ?_ _ | refine bD19 ?_ | refine bK19 ?_ _)); refine blk_far ?_ NB196_218.out _; (with_reducible repeat (first | refine bN19 ?_ _ | refine bD19 ?_ | refine bK19 ?_ _)); refine blk_far ?_ NB196_218.out _; (with_reducible repeat (first | refine bN19 ?_ _ | refine bD19 ?_ | refine bK19 ?_ _)); refine blk_far ?_ NB196_218.out _; (with_reducible repeat (first | refine bN19 ?_ _ | refine bD19 ?_ | refine bK19 ?_ _)); refine blk_far ?_ NB196_218.out _; (with_reducible repeat (first | refine bN19 ?_ _ | refine bD19 ?_ | refine bK19 ?_ _)); refine blk_far ?_ NB196_218.out _; (with_reducible repeat (first | refine bN19 ?_ _ | refine bD19 ?_ | refine bK19 ?_ _)); refine blk_far ?_ NB196_218.out _; (with_reducible repeat (first | refine bN19 ?_ _ | refine bD19 ?_ | refine bK19 ?_ _)); refine blk_far ?_ NB196_218.out _; (with_reducible repeat (first | refine bN19 ?_ _ | refine bD19 ?_ | refine bK19 ?_ _)); refine blk_far ?_ NB196_218.out _; (with_reducible repeat (first | refine bN19 ?_ _ | refine bD19 ?_ | refine bK19 ?_ _)); exact BK196.out⟩
    have n4_ : Aside0 (((((((((w43.setCell ⟨gb218, 0, none⟩ (.int .i64 t209)).setCell ⟨gb218, 1, none⟩ (.int .i64 t210)).setCell ⟨gb218, 2, none⟩ (.int .i64 t211)).setCell ⟨gb218, 3, none⟩ (.int .i64 t212)).setCell ⟨gb218, 4, none⟩ (.int .i64 t213)).setCell ⟨gb218, 5, none⟩ (.int .i64 t214)).setCell ⟨gb218, 6, none⟩ (.int .i64 t215)).setCell ⟨gb218, 7, none⟩ (.int .i64 t216)).heap[gb208]? = some (.cells #[.int .i64 t199, .int .i64 t200, .int .i64 t201, .int .i64 t202, .int .i64 t203, .int .i64 t204, .int .i64 t205, .int .i64 t206] 38 (0, 0))) := ⟨by (with_reducible repeat (first | refine bN19 ?_ _ | refine bD19 ?_ | refine bK19 ?_ _)); refine blk_far ?_ NB208_218.out _; (with_reducible repeat (first | refine bN19 ?_ _ | refine bD19 ?_ | refine bK19 ?_ _)); refine blk_far ?_ NB208_218.out _; (with_reducible repeat (first | refine bN19 ?_ _ | refine bD19 ?_ | refine bK19 ?_ _)); refine blk_far ?_ NB208_218.out _; (with_reducible repeat (first | refine bN19 ?_ _ | refine bD19 ?_ | refine bK19 ?_ _)); refine blk_far ?_ NB208_218.out _; (with_reducible repeat (first | refine bN19 ?_ _ | refine bD19 ?_ | refine bK19 ?_ _)); refine blk_far ?_ NB208_218.out _; (with_reducible repeat (first | refine bN19 ?_ _ | refine bD19 ?_ | refine bK19 ?_ _)); refine blk_far ?_ NB208_218.out _; (with_reducible repeat (first | refine bN19 ?_ _ | refine bD19 ?_ | refine bK19 ?_ _)); refine blk_far ?_ NB208_218.out _; (with_reducible repeat (first | refine bN19 ?_ _ | refine bD19 ?_ | refine bK19 ?_ _)); refine blk_far ?_ NB208_218.out _; (with_reducible repeat (first | refine bN19 ?_ _ | refine bD19 ?_ | refine bK19 ?_ _)); exact BK208.out⟩
    have n5_ : Aside0 (((((((((w43.setCell ⟨gb218, 0, none⟩ (.int .i64 t209)).setCell ⟨gb218, 1, none⟩ (.int .i64 t210)).setCell ⟨gb218, 2, none⟩ (.int .i64 t211)).setCell ⟨gb218, 3, none⟩ (.int .i64 t212)).setCell ⟨gb218, 4, none⟩ (.int .i64 t213)).setCell ⟨gb218, 5, none⟩ (.int .i64 t214)).setCell ⟨gb218, 6, none⟩ (.int .i64 t215)).setCell ⟨gb218, 7, none⟩ (.int .i64 t216)).heap[gb218]? = some (.cells #[.int .i64 t209, .int .i64 t210, .int .i64 t211, .int .i64 t212, .int .i64 t213, .int .i64 t214, .int .i64 t215, .int .i64 t216] 38 (0, 0))) := ⟨by (with_reducible repeat (first | refine bN19 ?_ _ | refine bD19 ?_ | refine bK19 ?_ _)); refine blk_put (cs := #[.int .i64 t209, .int .i64 t210, .int .i64 t211, .int .i64 t212, .int .i64 t213, .int .i64 t214, .int .i64 t215, .int .i64 0]) ?_ 7 _ rfl; (with_reducible repeat (first | refine bN19 ?_ _ | refine bD19 ?_ | refine bK19 ?_ _)); refine blk_put (cs := #[.int .i64 t209, .int .i64 t210, .int .i64 t211, .int .i64 t212, .int .i64 t213, .int .i64 t214, .int .i64 0, .int .i64 0]) ?_ 6 _ rfl; (with_reducible repeat (first | refine bN19 ?_ _ | refine bD19 ?_ | refine bK19 ?_ _)); refine blk_put (cs := #[.int .i64 t209, .int .i64 t210, .int .i64 t211, .int .i64 t212, .int .i64 t213, .int .i64 0, .int .i64 0, .int .i64 0]) ?_ 5 _ rfl; (with_reducible repeat (first | refine bN19 ?_ _ | refine bD19 ?_ | refine bK19 ?_ _)); refine blk_put (cs := #[.int .i64 t209, .int .i64 t210, .int .i64 t211, .int .i64 t212, .int .i64 0, .int .i64 0, .int .i64 0, .int .i64 0]) ?_ 4 _ rfl; (with_reducible repeat (first | refine bN19 ?_ _ | refine bD19 ?_ | refine bK19 ?_ _)); refine blk_put (cs := #[.int .i64 t209, .int .i64 t210, .int .i64 t211, .int .i64 0, .int .i64 0, .int .i64 0, .int .i64 0, .int .i64 0]) ?_ 3 _ rfl; (with_reducible repeat (first | refine bN19 ?_ _ | refine bD19 ?_ | refine bK19 ?_ _)); refine blk_put (cs := #[.int .i64 t209, .int .i64 t210, .int .i64 0, .int .i64 0, .int .i64 0, .int .i64 0, .int .i64 0, .int .i64 0]) ?_ 2 _ rfl; (with_reducible repeat (first | refine bN19 ?_ _ | refine bD19 ?_ | refine bK19 ?_ _)); refine blk_put (cs := #[.int .i64 t209, .int .i64 0, .int .i64 0, .int .i64 0, .int .i64 0, .int .i64 0, .int .i64 0, .int .i64 0]) ?_ 1 _ rfl; (with_reducible repeat (first | refine bN19 ?_ _ | refine bD19 ?_ | refine bK19 ?_ _)); refine blk_put (cs := #[.int .i64 0, .int .i64 0, .int .i64 0, .int .i64 0, .int .i64 0, .int .i64 0, .int .i64 0, .int .i64 0]) ?_ 0 _ rfl; (with_reducible repeat (first | refine bN19 ?_ _ | refine bD19 ?_ | refine bK19 ?_ _)); exact BK218.out⟩
    have n6_ : Aside0 (Below w.heap.size w ((((((((w43.setCell ⟨gb218, 0, none⟩ (.int .i64 t209)).setCell ⟨gb218, 1, none⟩ (.int .i64 t210)).setCell ⟨gb218, 2, none⟩ (.int .i64 t211)).setCell ⟨gb218, 3, none⟩ (.int .i64 t212)).setCell ⟨gb218, 4, none⟩ (.int .i64 t213)).setCell ⟨gb218, 5, none⟩ (.int .i64 t214)).setCell ⟨gb218, 6, none⟩ (.int .i64 t215)).setCell ⟨gb218, 7, none⟩ (.int .i64 t216))) := ⟨by repeat (first | (with_reducible first | exact HB.out | apply below_alloc | apply pw_below_drewN | apply below_drew1 | refine below_set ?_ GE188.out | refine below_set ?_ GE195.out | refine below_set ?_ GE196.out | refine below_set ?_ GE208.out | refine below_set ?_ GE218.out) | exact HB.out)⟩
    (try clear HO194)
    (try clear BK188)
    (try clear BK195)
    (try clear BK196)
    (try clear BK208)
    (try clear BK218)
    (try clear HB)
    generalize ((((((((w43.setCell ⟨gb218, 0, none⟩ (.int .i64 t209)).setCell ⟨gb218, 1, none⟩ (.int .i64 t210)).setCell ⟨gb218, 2, none⟩ (.int .i64 t211)).setCell ⟨gb218, 3, none⟩ (.int .i64 t212)).setCell ⟨gb218, 4, none⟩ (.int .i64 t213)).setCell ⟨gb218, 5, none⟩ (.int .i64 t214)).setCell ⟨gb218, 6, none⟩ (.int .i64 t215)).setCell ⟨gb218, 7, none⟩ (.int .i64 t216)) = w59 at n0_ n1_ n2_ n3_ n4_ n5_ n6_ ⊢
    have HO194 := n0_
    have BK188 := n1_
    have BK195 := n2_
    have BK196 := n3_
    have BK208 := n4_
    have BK218 := n5_
    have HB := n6_
    clear n0_ n1_ n2_ n3_ n4_ n5_ n6_
    have n0_ := aM19 (Kd.V_drew HO194.out)
    have n1_ := aM19 (bD19 BK188.out)
    have n2_ := aM19 (bD19 BK195.out)
    have n3_ := aM19 (bD19 BK196.out)
    have n4_ := aM19 (bD19 BK208.out)
    have n5_ := aM19 (bD19 BK218.out)
    have n6_ := aM19 (below_drew1 HB.out)
    clear HO194
    clear BK188
    clear BK195
    clear BK196
    clear BK208
    clear BK218
    clear HB
    have HO194 := n0_
    have BK188 := n1_
    have BK195 := n2_
    have BK196 := n3_
    have BK208 := n4_
    have BK218 := n5_
    have HB := n6_
    clear n0_ n1_ n2_ n3_ n4_ n5_ n6_
    refine start_ (n := 36) (S := fun w' => w'.cell? ⟨gb195, 0, none⟩ = some (.int .i64 t189) ∧ w'.cell? ⟨gb195, 1, none⟩ = some (.int .i64 t190) ∧ w'.cell? ⟨gb195, 2, none⟩ = some (.int .i64 t191) ∧ w'.cell? ⟨gb195, 3, none⟩ = some (.slice Ao19 t192.length co19) ∧ w'.cell? ⟨gb208, 0, none⟩ = some (.int .i64 t199) ∧ w'.cell? ⟨gb208, 1, none⟩ = some (.int .i64 t200) ∧ w'.cell? ⟨gb208, 2, none⟩ = some (.int .i64 t201) ∧ w'.cell? ⟨gb208, 3, none⟩ = some (.int .i64 t202) ∧ w'.cell? ⟨gb208, 4, none⟩ = some (.int .i64 t203) ∧ w'.cell? ⟨gb208, 5, none⟩ = some (.int .i64 t204) ∧ w'.cell? ⟨gb208, 6, none⟩ = some (.int .i64 t205) ∧ w'.cell? ⟨gb208, 7, none⟩ = some (.int .i64 t206)) (ds := []) (bA 36 0) (by kernel_rfl) rfl rfl ⟨(bC19 BK195.out 0).trans rfl, (bC19 BK195.out 1).trans rfl, (bC19 BK195.out 2).trans rfl, (bC19 BK195.out 3).trans rfl, (bC19 BK208.out 0).trans rfl, (bC19 BK208.out 1).trans rfl, (bC19 BK208.out 2).trans rfl, (bC19 BK208.out 3).trans rfl, (bC19 BK208.out 4).trans rfl, (bC19 BK208.out 5).trans rfl, (bC19 BK208.out 6).trans rfl, (bC19 BK208.out 7).trans rfl⟩ (fun hHeld => ?_); refine with_tabW bivouaclaw16_ShotAbove.tab10 bivouaclaw16_ShotAbove.bits10 (fun HT_ HW_ => ?_)
    generalize w59.drew = w60 at HO194 BK188 BK195 BK196 BK208 BK218 HB hHeld ⊢
    refine pure_ (i := 0) (N := some 92) (v := ?_) (a' := ?_) (bA 36 1) rfl rfl (any_of HT_.out (by kernel_rfl)) (fun _ _ _ h => h) (Or.inl ⟨by rfl, ?_⟩) ?_ ?_
    rotate_left
    ·
     intro w'
     go_simp
     with_reducible rfl
    rotate_left
    ·
     simp only [Act.put, sA, sB, sC, i64_w, i32_w]
     rfl
    refine pure_ (i := 1) (N := some 93) (v := ?_) (a' := ?_) (bA 36 3) rfl rfl (any_of HT_.out (by kernel_rfl)) (fun _ _ _ h => h) (Or.inl ⟨by rfl, ?_⟩) ?_ ?_
    rotate_left
    ·
     intro w'
     go_simp
     with_reducible rfl
    rotate_left
    ·
     simp only [Act.put, sA, sB, sC, i64_w, i32_w]
     rfl
    refine pure_ (i := 2) (N := some 94) (v := ?_) (a' := ?_) (bA 36 7) rfl rfl (any_of HT_.out (by kernel_rfl)) (fun _ _ _ h => h) (Or.inl ⟨by rfl, ?_⟩) ?_ ?_
    rotate_left
    ·
     intro w'
     go_simp
     with_reducible rfl
    rotate_left
    ·
     simp only [Act.put, sA, sB, sC, i64_w, i32_w]
     rfl
    refine pure_ (i := 4) (N := some 96) (v := ?_) (a' := ?_) (bA 36 23) rfl rfl (any_of HT_.out (by kernel_rfl)) (fun _ _ _ h => h) (Or.inl ⟨by rfl, ?_⟩) ?_ ?_
    rotate_left
    ·
     intro w'
     go_simp
     with_reducible rfl
    rotate_left
    ·
     simp only [Act.put, sA, sB, sC, i64_w, i32_w]
     rfl
    refine pure_ (i := 5) (N := some 97) (v := ?_) (a' := ?_) (bA 36 55) rfl rfl (any_of HT_.out (by kernel_rfl)) (fun _ _ _ h => h) (Or.inl ⟨by rfl, ?_⟩) ?_ ?_
    rotate_left
    ·
     intro w'
     go_simp
     with_reducible rfl
    rotate_left
    ·
     simp only [Act.put, sA, sB, sC, i64_w, i32_w]
     rfl
    refine pure_ (i := 7) (N := some 99) (v := ?_) (a' := ?_) (bA 36 183) rfl rfl (any_of HT_.out (by kernel_rfl)) (fun _ _ _ h => h) (Or.inl ⟨by rfl, ?_⟩) ?_ ?_
    rotate_left
    ·
     intro w'
     go_simp
     with_reducible rfl
    rotate_left
    ·
     simp only [Act.put, sA, sB, sC, i64_w, i32_w]
     rfl
    refine pure_ (i := 8) (N := some 100) (v := ?_) (a' := ?_) (bA 36 439) rfl rfl (any_of HT_.out (by kernel_rfl)) (fun _ _ _ h => h) (Or.inl ⟨by rfl, ?_⟩) ?_ ?_
    rotate_left
    ·
     intro w'
     go_simp
     with_reducible rfl
    rotate_left
    ·
     simp only [Act.put, sA, sB, sC, i64_w, i32_w]
     rfl
    refine take_ (i := 3) (N := some 95) (v := ?_) (a' := ?_) (bA 36 447) rfl rfl (take_ofW HT_.out HW_.out (by kernel_rfl)) (fun _ _ _ h => h) (Or.inl ⟨by rfl, ?_⟩) hHeld ?_ ?_
    rotate_left
    ·
     rintro w' ⟨s0, s1, s2, s3, s4, s5, s6, s7, s8, s9, s10, s11⟩
     go_simp
     with_reducible rfl
    rotate_left
    ·
     simp only [Act.put, sA, sB, sC, i64_w, i32_w]
     rfl
    refine take_ (i := 6) (N := some 98) (v := ?_) (a' := ?_) (bA 36 511) rfl rfl (take_ofW HT_.out HW_.out (by kernel_rfl)) (fun _ _ _ h => h) (Or.inl ⟨by rfl, ?_⟩) hHeld ?_ ?_
    rotate_left
    ·
     rintro w' ⟨s0, s1, s2, s3, s4, s5, s6, s7, s8, s9, s10, s11⟩
     go_simp
     with_reducible rfl
    rotate_left
    ·
     simp only [Act.put, sA, sB, sC, i64_w, i32_w]
     rfl
    refine take_ (i := 9) (N := some 101) (v := ?_) (a' := ?_) (bA 36 1023) rfl rfl (take_ofW HT_.out HW_.out (by kernel_rfl)) (fun _ _ _ h => h) (Or.inl ⟨by rfl, ?_⟩) hHeld ?_ ?_
    rotate_left
    ·
     rintro w' ⟨s0, s1, s2, s3, s4, s5, s6, s7, s8, s9, s10, s11⟩
     go_simp
     with_reducible rfl
    rotate_left
    ·
     simp only [Act.put, sA, sB, sC, i64_w, i32_w]
     rfl
    refine one_ (i := 10) (N := some 102) (bA 36 2047) rfl rfl (one_of HT_.out (by kernel_rfl)) (by decide) (fun K hK => ?_)
    refine goes_ Try.func22 (by kernel_rfl) rfl #[.agg #[.int .i64 t189, .int .i64 t190, .int .i64 t191, .slice Ao19 t192.length co19], .int .i64 t201, .int .i64 t202] (by rfl) rfl rfl (by (try simp only [List.map_toArray, List.map_cons, List.map_nil]); first | done | rfl | (simp only [List.length_drop, List.length_take]; rfl)) ?_
    with_reducible refine (bivouacref06_On.calls t189 t190 t191 _ _ t192 t201 t202 true _ ?side1 ?side2 A51.out).mono ?_
    (case side1 => repeat (first | exact (Kd.V_reads' HO194.out).2.2 | (with_reducible refine Kd.C_alloc ?_ _) | (with_reducible refine Kd.C_drewN ?_ _) | (with_reducible refine Kd.C_drew ?_)))
    (case side2 => exact (Kd.V_reads' HO194.out).2.1)
    rintro e w61 ⟨rfl, hb⟩
    refine ⟨_, rfl, ?_⟩
    have n0_ := aM19 (Kd.V_below (by (with_reducible repeat (first | apply Kd.V_alloc | apply Kd.V_drewN | apply Kd.V_drew)); exact HO194.out) hb)
    have n1_ := aM19 (blk_below (g := gb188) (o := .cells #[.int .i64 a0_0, .int .i64 a0_1, .int .i64 a0_2, .slice A0_3 l0_3.length c0_3, .int .i64 a0_4, .int .i64 a0_5, .int .i64 a0_6, .int .i64 a0_7, .int .i64 a0_8, .int .i64 a0_9, .int .i64 a0_10, .int .u8 a0_11] 36 (0, 0)) (by (with_reducible repeat (first | refine bN19 ?_ _ | refine bD19 ?_ | refine bK19 ?_ _)); exact BK188.out) hb)
    have n2_ := aM19 (blk_below (g := gb195) (o := .cells #[.int .i64 t189, .int .i64 t190, .int .i64 t191, .slice Ao19 t192.length co19] 25 (0, 0)) (by (with_reducible repeat (first | refine bN19 ?_ _ | refine bD19 ?_ | refine bK19 ?_ _)); exact BK195.out) hb)
    have n3_ := aM19 (blk_below (g := gb196) (o := .cells #[.int .i64 a0_4, .int .i64 a0_5, .int .i64 a0_6, .int .i64 a0_7, .int .i64 a0_8, .int .i64 a0_9] 27 (0, 0)) (by (with_reducible repeat (first | refine bN19 ?_ _ | refine bD19 ?_ | refine bK19 ?_ _)); exact BK196.out) hb)
    have n4_ := aM19 (blk_below (g := gb208) (o := .cells #[.int .i64 t199, .int .i64 t200, .int .i64 t201, .int .i64 t202, .int .i64 t203, .int .i64 t204, .int .i64 t205, .int .i64 t206] 38 (0, 0)) (by (with_reducible repeat (first | refine bN19 ?_ _ | refine bD19 ?_ | refine bK19 ?_ _)); exact BK208.out) hb)
    have n5_ := aM19 (blk_below (g := gb218) (o := .cells #[.int .i64 t209, .int .i64 t210, .int .i64 t211, .int .i64 t212, .int .i64 t213, .int .i64 t214, .int .i64 t215, .int .i64 t216] 38 (0, 0)) (by (with_reducible repeat (first | refine bN19 ?_ _ | refine bD19 ?_ | refine bK19 ?_ _)); exact BK218.out) hb)
    have n6_ := aM19 (below_step (by repeat (first | (with_reducible first | exact HB.out | apply below_alloc | apply pw_below_drewN | apply below_drew1 | refine below_set ?_ GE188.out | refine below_set ?_ GE195.out | refine below_set ?_ GE196.out | refine below_set ?_ GE208.out | refine below_set ?_ GE218.out) | exact HB.out)) hb)
    clear HO194
    clear BK188
    clear BK195
    clear BK196
    clear BK208
    clear BK218
    clear HB
    have HO194 := n0_
    have BK188 := n1_
    have BK195 := n2_
    have BK196 := n3_
    have BK208 := n4_
    have BK218 := n5_
    have HB := n6_
    clear n0_ n1_ n2_ n3_ n4_ n5_ n6_
    (try clear hb)
    (try clear hb2)
    (try clear hk)
    (try clear hi)
    refine hK.out _ _ ⟨(bC19 BK195.out 0).trans rfl, (bC19 BK195.out 1).trans rfl, (bC19 BK195.out 2).trans rfl, (bC19 BK195.out 3).trans rfl, (bC19 BK208.out 0).trans rfl, (bC19 BK208.out 1).trans rfl, (bC19 BK208.out 2).trans rfl, (bC19 BK208.out 3).trans rfl, (bC19 BK208.out 4).trans rfl, (bC19 BK208.out 5).trans rfl, (bC19 BK208.out 6).trans rfl, (bC19 BK208.out 7).trans rfl⟩ (fun hHeld => ?_)
    clear hK K
    refine norm_ (a' := ?_) ?_ ?_
    rotate_left
    ·
     show Act.put _ (some 102) _ = _
     simp only [Act.put, sA, sB, sC, i64_w, i32_w]
     rfl
    refine pure_ (i := 11) (N := some 103) (v := ?_) (a' := ?_) (bA 36 4095) rfl rfl (any_of HT_.out (by kernel_rfl)) (fun _ _ _ h => h) (Or.inl ⟨by rfl, ?_⟩) ?_ ?_
    rotate_left
    ·
     intro w'
     go_simp
     with_reducible rfl
    rotate_left
    ·
     simp only [Act.put, sA, sB, sC, i64_w, i32_w]
     rfl
    refine pure_ (i := 12) (N := some 104) (v := ?_) (a' := ?_) (bA 36 8191) rfl rfl (any_of HT_.out (by kernel_rfl)) (fun _ _ _ h => h) (Or.inl ⟨by rfl, ?_⟩) ?_ ?_
    rotate_left
    ·
     intro w'
     go_simp
     with_reducible rfl
    rotate_left
    ·
     simp only [Act.put, sA, sB, sC, i64_w, i32_w]
     rfl
    refine pure_ (i := 13) (N := some 105) (v := ?_) (a' := ?_) (bA 36 16383) rfl rfl (any_of HT_.out (by kernel_rfl)) (fun _ _ _ h => h) (Or.inl ⟨by rfl, ?_⟩) ?_ ?_
    rotate_left
    ·
     intro w'
     go_simp
     with_reducible rfl
    rotate_left
    ·
     simp only [Act.put, sA, sB, sC, i64_w, i32_w]
     rfl
    refine pure_ (i := 14) (N := some 106) (v := ?_) (a' := ?_) (bA 36 32767) rfl rfl (any_of HT_.out (by kernel_rfl)) (fun _ _ _ h => h) (Or.inl ⟨by rfl, ?_⟩) ?_ ?_
    rotate_left
    ·
     intro w'
     go_simp
     with_reducible rfl
    rotate_left
    ·
     simp only [Act.put, sA, sB, sC, i64_w, i32_w]
     rfl
    refine pure_ (i := 17) (N := some 109) (v := ?_) (a' := ?_) (bA 36 163839) rfl rfl (any_of HT_.out (by kernel_rfl)) (fun _ _ _ h => h) (Or.inl ⟨by rfl, ?_⟩) ?_ ?_
    rotate_left
    ·
     intro w'
     go_simp
     with_reducible rfl
    rotate_left
    ·
     simp only [Act.put, sA, sB, sC, i64_w, i32_w]
     rfl
    refine pure_ (i := 18) (N := some 110) (v := ?_) (a' := ?_) (bA 36 425983) rfl rfl (any_of HT_.out (by kernel_rfl)) (fun _ _ _ h => h) (Or.inl ⟨by rfl, ?_⟩) ?_ ?_
    rotate_left
    ·
     intro w'
     go_simp
     with_reducible rfl
    rotate_left
    ·
     simp only [Act.put, sA, sB, sC, i64_w, i32_w]
     rfl
    refine pure_ (i := 20) (N := some 112) (v := ?_) (a' := ?_) (bA 36 1474559) rfl rfl (any_of HT_.out (by kernel_rfl)) (fun _ _ _ h => h) (Or.inl ⟨by rfl, ?_⟩) ?_ ?_
    rotate_left
    ·
     intro w'
     go_simp
     with_reducible rfl
    rotate_left
    ·
     simp only [Act.put, sA, sB, sC, i64_w, i32_w]
     rfl
    refine pure_ (i := 21) (N := some 113) (v := ?_) (a' := ?_) (bA 36 3571711) rfl rfl (any_of HT_.out (by kernel_rfl)) (fun _ _ _ h => h) (Or.inl ⟨by rfl, ?_⟩) ?_ ?_
    rotate_left
    ·
     intro w'
     go_simp
     with_reducible rfl
    rotate_left
    ·
     simp only [Act.put, sA, sB, sC, i64_w, i32_w]
     rfl
    refine take_ (i := 15) (N := some 107) (v := ?_) (a' := ?_) (bA 36 3604479) rfl rfl (take_ofW HT_.out HW_.out (by kernel_rfl)) (fun _ _ _ h => h) (Or.inl ⟨by rfl, ?_⟩) hHeld ?_ ?_
    rotate_left
    ·
     rintro w' ⟨s0, s1, s2, s3, s4, s5, s6, s7, s8, s9, s10, s11⟩
     go_simp
     with_reducible rfl
    rotate_left
    ·
     simp only [Act.put, sA, sB, sC, i64_w, i32_w]
     rfl
    refine take_ (i := 16) (N := some 108) (v := ?_) (a' := ?_) (bA 36 3670015) rfl rfl (take_ofW HT_.out HW_.out (by kernel_rfl)) (fun _ _ _ h => h) (Or.inl ⟨by rfl, ?_⟩) hHeld ?_ ?_
    rotate_left
    ·
     rintro w' ⟨s0, s1, s2, s3, s4, s5, s6, s7, s8, s9, s10, s11⟩
     go_simp
     with_reducible rfl
    rotate_left
    ·
     simp only [Act.put, sA, sB, sC, i64_w, i32_w]
     rfl
    refine take_ (i := 19) (N := some 111) (v := ?_) (a' := ?_) (bA 36 4194303) rfl rfl (take_ofW HT_.out HW_.out (by kernel_rfl)) (fun _ _ _ h => h) (Or.inl ⟨by rfl, ?_⟩) hHeld ?_ ?_
    rotate_left
    ·
     rintro w' ⟨s0, s1, s2, s3, s4, s5, s6, s7, s8, s9, s10, s11⟩
     go_simp
     with_reducible rfl
    rotate_left
    ·
     simp only [Act.put, sA, sB, sC, i64_w, i32_w]
     rfl
    refine take_ (i := 22) (N := some 114) (v := ?_) (a' := ?_) (bA 36 8388607) rfl rfl (take_ofW HT_.out HW_.out (by kernel_rfl)) (fun _ _ _ h => h) (Or.inl ⟨by rfl, ?_⟩) hHeld ?_ ?_
    rotate_left
    ·
     rintro w' ⟨s0, s1, s2, s3, s4, s5, s6, s7, s8, s9, s10, s11⟩
     go_simp
     with_reducible rfl
    rotate_left
    ·
     simp only [Act.put, sA, sB, sC, i64_w, i32_w]
     rfl
    refine one_ (i := 23) (N := some 115) (bA 36 16777215) rfl rfl (one_of HT_.out (by kernel_rfl)) (by decide) (fun K hK => ?_)
    refine goes_ Try.func23 (by kernel_rfl) rfl #[.agg #[.int .i64 t189, .int .i64 t190, .int .i64 t191, .slice Ao19 t192.length co19], .int .i64 t201, .int .i64 t202] (by rfl) rfl rfl (by (try simp only [List.map_toArray, List.map_cons, List.map_nil]); first | done | rfl | (simp only [List.length_drop, List.length_take]; rfl)) ?_
    with_reducible refine (bivouacref06_Height.calls t189 t190 t191 _ _ t192 t201 t202 t223 _ ?side1 ?side2 A53.out).mono ?_
    (case side1 => repeat (first | exact (Kd.V_reads' HO194.out).2.2 | (with_reducible refine Kd.C_alloc ?_ _) | (with_reducible refine Kd.C_drewN ?_ _) | (with_reducible refine Kd.C_drew ?_)))
    (case side2 => exact (Kd.V_reads' HO194.out).2.1)
    rintro e w62 ⟨rfl, hb⟩
    refine ⟨_, rfl, ?_⟩
    have n0_ := aM19 (Kd.V_below (by (with_reducible repeat (first | apply Kd.V_alloc | apply Kd.V_drewN | apply Kd.V_drew)); exact HO194.out) hb)
    have n1_ := aM19 (blk_below (g := gb188) (o := .cells #[.int .i64 a0_0, .int .i64 a0_1, .int .i64 a0_2, .slice A0_3 l0_3.length c0_3, .int .i64 a0_4, .int .i64 a0_5, .int .i64 a0_6, .int .i64 a0_7, .int .i64 a0_8, .int .i64 a0_9, .int .i64 a0_10, .int .u8 a0_11] 36 (0, 0)) (by (with_reducible repeat (first | refine bN19 ?_ _ | refine bD19 ?_ | refine bK19 ?_ _)); exact BK188.out) hb)
    have n2_ := aM19 (blk_below (g := gb195) (o := .cells #[.int .i64 t189, .int .i64 t190, .int .i64 t191, .slice Ao19 t192.length co19] 25 (0, 0)) (by (with_reducible repeat (first | refine bN19 ?_ _ | refine bD19 ?_ | refine bK19 ?_ _)); exact BK195.out) hb)
    have n3_ := aM19 (blk_below (g := gb196) (o := .cells #[.int .i64 a0_4, .int .i64 a0_5, .int .i64 a0_6, .int .i64 a0_7, .int .i64 a0_8, .int .i64 a0_9] 27 (0, 0)) (by (with_reducible repeat (first | refine bN19 ?_ _ | refine bD19 ?_ | refine bK19 ?_ _)); exact BK196.out) hb)
    have n4_ := aM19 (blk_below (g := gb208) (o := .cells #[.int .i64 t199, .int .i64 t200, .int .i64 t201, .int .i64 t202, .int .i64 t203, .int .i64 t204, .int .i64 t205, .int .i64 t206] 38 (0, 0)) (by (with_reducible repeat (first | refine bN19 ?_ _ | refine bD19 ?_ | refine bK19 ?_ _)); exact BK208.out) hb)
    have n5_ := aM19 (blk_below (g := gb218) (o := .cells #[.int .i64 t209, .int .i64 t210, .int .i64 t211, .int .i64 t212, .int .i64 t213, .int .i64 t214, .int .i64 t215, .int .i64 t216] 38 (0, 0)) (by (with_reducible repeat (first | refine bN19 ?_ _ | refine bD19 ?_ | refine bK19 ?_ _)); exact BK218.out) hb)
    have n6_ := aM19 (below_step (by repeat (first | (with_reducible first | exact HB.out | apply below_alloc | apply pw_below_drewN | apply below_drew1 | refine below_set ?_ GE188.out | refine below_set ?_ GE195.out | refine below_set ?_ GE196.out | refine below_set ?_ GE208.out | refine below_set ?_ GE218.out) | exact HB.out)) hb)
    clear HO194
    clear BK188
    clear BK195
    clear BK196
    clear BK208
    clear BK218
    clear HB
    have HO194 := n0_
    have BK188 := n1_
    have BK195 := n2_
    have BK196 := n3_
    have BK208 := n4_
    have BK218 := n5_
    have HB := n6_
    clear n0_ n1_ n2_ n3_ n4_ n5_ n6_
    (try clear hb)
    (try clear hb2)
    (try clear hk)
    (try clear hi)
    refine hK.out _ _ ⟨(bC19 BK195.out 0).trans rfl, (bC19 BK195.out 1).trans rfl, (bC19 BK195.out 2).trans rfl, (bC19 BK195.out 3).trans rfl, (bC19 BK208.out 0).trans rfl, (bC19 BK208.out 1).trans rfl, (bC19 BK208.out 2).trans rfl, (bC19 BK208.out 3).trans rfl, (bC19 BK208.out 4).trans rfl, (bC19 BK208.out 5).trans rfl, (bC19 BK208.out 6).trans rfl, (bC19 BK208.out 7).trans rfl⟩ (fun hHeld => ?_)
    clear hK K
    refine norm_ (a' := ?_) ?_ ?_
    rotate_left
    ·
     show Act.put _ (some 115) _ = _
     simp only [Act.put, sA, sB, sC, i64_w, i32_w]
     rfl
    refine pure_ (i := 24) (N := some 116) (v := ?_) (a' := ?_) (bA 36 33554431) rfl rfl (any_of HT_.out (by kernel_rfl)) (fun _ _ _ h => h) (Or.inl ⟨by rfl, ?_⟩) ?_ ?_
    rotate_left
    ·
     intro w'
     go_simp
     with_reducible rfl
    rotate_left
    ·
     simp only [Act.put, sA, sB, sC, i64_w, i32_w]
     rfl
    refine pure_ (i := 25) (N := some 117) (v := ?_) (a' := ?_) (bA 36 67108863) rfl rfl (any_of HT_.out (by kernel_rfl)) (fun _ _ _ h => h) (Or.inl ⟨by rfl, ?_⟩) ?_ ?_
    rotate_left
    ·
     intro w'
     go_simp
     with_reducible rfl
    rotate_left
    ·
     simp only [Act.put, sA, sB, sC, i64_w, i32_w]
     rfl
    refine pure_ (i := 26) (N := some 118) (v := ?_) (a' := ?_) (bA 36 134217727) rfl rfl (any_of HT_.out (by kernel_rfl)) (fun _ _ _ h => h) (Or.inl ⟨by rfl, ?_⟩) ?_ ?_
    rotate_left
    ·
     intro w'
     go_simp
     with_reducible rfl
    rotate_left
    ·
     simp only [Act.put, sA, sB, sC, i64_w, i32_w]
     rfl
    refine pure_ (i := 27) (N := some 119) (v := ?_) (a' := ?_) (bA 36 268435455) rfl rfl (any_of HT_.out (by kernel_rfl)) (fun _ _ _ h => h) (Or.inl ⟨by rfl, ?_⟩) ?_ ?_
    rotate_left
    ·
     intro w'
     go_simp
     with_reducible rfl
    rotate_left
    ·
     simp only [Act.put, sA, sB, sC, i64_w, i32_w]
     rfl
    refine pure_ (i := 28) (N := some 120) (v := ?_) (a' := ?_) (bA 36 536870911) rfl rfl (any_of HT_.out (by kernel_rfl)) (fun _ _ _ h => h) (Or.inl ⟨by rfl, ?_⟩) ?_ ?_
    rotate_left
    ·
     intro w'
     go_simp
     with_reducible rfl
    rotate_left
    ·
     simp only [Act.put, sA, sB, sC, i64_w, i32_w]
     rfl
    refine pure_ (i := 30) (N := some 122) (v := ?_) (a' := ?_) (bA 36 1610612735) rfl rfl (any_of HT_.out (by kernel_rfl)) (fun _ _ _ h => h) (Or.inl ⟨by rfl, ?_⟩) ?_ ?_
    rotate_left
    ·
     intro w'
     go_simp
     with_reducible rfl
    rotate_left
    ·
     simp only [Act.put, sA, sB, sC, i64_w, i32_w]
     rfl
    refine take_ (i := 29) (N := some 121) (v := ?_) (a' := ?_) (bA 36 2147483647) rfl rfl (take_ofW HT_.out HW_.out (by kernel_rfl)) (fun _ _ _ h => h) (Or.inl ⟨by rfl, ?_⟩) hHeld ?_ ?_
    rotate_left
    ·
     rintro w' ⟨s0, s1, s2, s3, s4, s5, s6, s7, s8, s9, s10, s11⟩
     go_simp
     with_reducible rfl
    rotate_left
    ·
     simp only [Act.put, sA, sB, sC, i64_w, i32_w]
     rfl
    refine take_ (i := 31) (N := some 123) (v := ?_) (a' := ?_) (bA 36 4294967295) rfl rfl (take_ofW HT_.out HW_.out (by kernel_rfl)) (fun _ _ _ h => h) (Or.inl ⟨by rfl, ?_⟩) hHeld ?_ ?_
    rotate_left
    ·
     rintro w' ⟨s0, s1, s2, s3, s4, s5, s6, s7, s8, s9, s10, s11⟩
     go_simp
     with_reducible rfl
    rotate_left
    ·
     simp only [Act.put, sA, sB, sC, i64_w, i32_w]
     rfl
    refine pure_ (i := 32) (N := some 124) (v := ?_) (a' := ?_) (bA 36 8589934591) rfl rfl (any_of HT_.out (by kernel_rfl)) (fun _ _ _ h => h) (Or.inl ⟨by rfl, ?_⟩) ?_ ?_
    rotate_left
    ·
     intro w'
     go_simp
     with_reducible rfl
    rotate_left
    ·
     simp only [Act.put, sA, sB, sC, i64_w, i32_w]
     rfl
    refine pure_ (i := 33) (N := some 125) (v := ?_) (a' := ?_) (bA 36 17179869183) rfl rfl (any_of HT_.out (by kernel_rfl)) (fun _ _ _ h => h) (Or.inl ⟨by rfl, ?_⟩) ?_ ?_
    rotate_left
    ·
     intro w'
     go_simp
     with_reducible rfl
    rotate_left
    ·
     simp only [Act.put, sA, sB, sC, i64_w, i32_w]
     rfl
    refine pure_ (i := 34) (N := some 126) (v := ?_) (a' := ?_) (bA 36 34359738367) rfl rfl (any_of HT_.out (by kernel_rfl)) (fun _ _ _ h => h) (Or.inl ⟨by rfl, ?_⟩) ?_ ?_
    rotate_left
    ·
     intro w'
     go_simp
     with_reducible rfl
    rotate_left
    ·
     simp only [Act.put, sA, sB, sC, i64_w, i32_w]
     rfl
    refine pure_ (i := 35) (N := some 127) (v := ?_) (a' := ?_) (bA 36 68719476735) rfl rfl (any_of HT_.out (by kernel_rfl)) (fun _ _ _ h => h) (Or.inl ⟨by rfl, ?_⟩) ?_ ?_
    rotate_left
    ·
     intro w'
     go_simp
     with_reducible rfl
    rotate_left
    ·
     simp only [Act.put, sA, sB, sC, i64_w, i32_w]
     rfl
    refine done_ (done_of HT_.out (by kernel_rfl)) ?_
    try go_wp2
    go_meet
    case rel => exact ⟨_, (decide (t203 ≤ (wrap64 (t191 * 65536)))), (by first | rfl | (simp; done) | (simp [*]; done)), H', ⟨by first | omega | exact Nat.le_refl _⟩, ⟨by (with_reducible repeat (first | apply Kd.V_alloc | apply Kd.V_drewN | apply Kd.V_drew)); exact HO194.out⟩, ⟨by (with_reducible repeat (first | refine bN19 ?_ _ | refine bD19 ?_ | refine bK19 ?_ _)); exact BK188.out⟩, ⟨by (with_reducible repeat (first | refine bN19 ?_ _ | refine bD19 ?_ | refine bK19 ?_ _)); exact BK195.out⟩, ⟨by (with_reducible repeat (first | refine bN19 ?_ _ | refine bD19 ?_ | refine bK19 ?_ _)); exact BK196.out⟩, ⟨by (with_reducible repeat (first | refine bN19 ?_ _ | refine bD19 ?_ | refine bK19 ?_ _)); exact BK208.out⟩, ⟨by (with_reducible repeat (first | refine bN19 ?_ _ | refine bD19 ?_ | refine bK19 ?_ _)); exact BK218.out⟩, ⟨by repeat (first | (with_reducible first | exact HB.out | apply below_alloc | apply pw_below_drewN | apply below_drew1 | refine below_set ?_ GE188.out | refine below_set ?_ GE195.out | refine below_set ?_ GE196.out | refine below_set ?_ GE208.out | refine below_set ?_ GE218.out) | exact HB.out)⟩⟩
   replace c52 := Bool.eq_false_iff.mpr c52
   subst c52
   have H1 : (bivouaclaw16_ShotAbove.j0 k ((a0_10) % 256) a0_11 t217 true t199 t200 t201 t202 t203 t204 t205 t206 t209 t210 t211 t212 t213 t214 t215 t216) = some r := by rw [if_neg (show ¬ (false = true) by decide)] at H; exact H
   clear H
   have H := H1
   clear H1
   have H' := aM19 H
   clear H
   try go_wp2
   have n0_ : Aside0 (Kd.V (Kd.int .u8) 5 ((((((((w43.setCell ⟨gb218, 0, none⟩ (.int .i64 t209)).setCell ⟨gb218, 1, none⟩ (.int .i64 t210)).setCell ⟨gb218, 2, none⟩ (.int .i64 t211)).setCell ⟨gb218, 3, none⟩ (.int .i64 t212)).setCell ⟨gb218, 4, none⟩ (.int .i64 t213)).setCell ⟨gb218, 5, none⟩ (.int .i64 t214)).setCell ⟨gb218, 6, none⟩ (.int .i64 t215)).setCell ⟨gb218, 7, none⟩ (.int .i64 t216)) w.heap.size (fun k_ => k_ ≠ gb188 ∧ k_ ≠ gb195 ∧ k_ ≠ gb196 ∧ k_ ≠ gb208 ∧ k_ ≠ gb218) (.slice Ao19 t192.length co19) t192) := ⟨by (with_reducible repeat (first | apply Kd.V_alloc | apply Kd.V_drewN | apply Kd.V_drew)); exact Kd.V_mono (Kd.V_far (p := ⟨gb218, 7, none⟩) (Kd.V_far (p := ⟨gb218, 6, none⟩) (Kd.V_far (p := ⟨gb218, 5, none⟩) (Kd.V_far (p := ⟨gb218, 4, none⟩) (Kd.V_far (p := ⟨gb218, 3, none⟩) (Kd.V_far (p := ⟨gb218, 2, none⟩) (Kd.V_far (p := ⟨gb218, 1, none⟩) (Kd.V_far (p := ⟨gb218, 0, none⟩) (Kd.V_mono HO194.out (fun k_ hk => (⟨hk, hk.2⟩ : _ ∧ k_ ≠ gb218))) (fun _ hk => hk.2) (.int .i64 t209)) (fun _ hk => hk.2) (.int .i64 t210)) (fun _ hk => hk.2) (.int .i64 t211)) (fun _ hk => hk.2) (.int .i64 t212)) (fun _ hk => hk.2) (.int .i64 t213)) (fun _ hk => hk.2) (.int .i64 t214)) (fun _ hk => hk.2) (.int .i64 t215)) (fun _ hk => hk.2) (.int .i64 t216)) (fun _ hk => ⟨hk.1.1.1.1, ⟨hk.1.1.1.2.1, ⟨hk.1.1.1.2.2, ⟨hk.1.1.2, hk.1.2⟩⟩⟩⟩)⟩
   have n1_ : Aside0 (((((((((w43.setCell ⟨gb218, 0, none⟩ (.int .i64 t209)).setCell ⟨gb218, 1, none⟩ (.int .i64 t210)).setCell ⟨gb218, 2, none⟩ (.int .i64 t211)).setCell ⟨gb218, 3, none⟩ (.int .i64 t212)).setCell ⟨gb218, 4, none⟩ (.int .i64 t213)).setCell ⟨gb218, 5, none⟩ (.int .i64 t214)).setCell ⟨gb218, 6, none⟩ (.int .i64 t215)).setCell ⟨gb218, 7, none⟩ (.int .i64 t216)).heap[gb188]? = some (.cells #[.int .i64 a0_0, .int .i64 a0_1, .int .i64 a0_2, .slice A0_3 l0_3.length c0_3, .int .i64 a0_4, .int .i64 a0_5, .int .i64 a0_6, .int .i64 a0_7, .int .i64 a0_8, .int .i64 a0_9, .int .i64 a0_10, .int .u8 a0_11] 36 (0, 0))) := ⟨by (with_reducible repeat (first | refine bN19 ?_ _ | refine bD19 ?_ | refine bK19 ?_ _)); refine blk_far ?_ NB188_218.out _; (with_reducible repeat (first | refine bN19 ?_ _ | refine bD19 ?_ | refine bK19 ?_ _)); refine blk_far ?_ NB188_218.out _; (with_reducible repeat (first | refine bN19 ?_ _ | refine bD19 ?_ | refine bK19 ?_ _)); refine blk_far ?_ NB188_218.out _; (with_reducible repeat (first | refine bN19 ?_ _ | refine bD19 ?_ | refine bK19 ?_ _)); refine blk_far ?_ NB188_218.out _; (with_reducible repeat (first | refine bN19 ?_ _ | refine bD19 ?_ | refine bK19 ?_ _)); refine blk_far ?_ NB188_218.out _; (with_reducible repeat (first | refine bN19 ?_ _ | refine bD19 ?_ | refine bK19 ?_ _)); refine blk_far ?_ NB188_218.out _; (with_reducible repeat (first | refine bN19 ?_ _ | refine bD19 ?_ | refine bK19 ?_ _)); refine blk_far ?_ NB188_218.out _; (with_reducible repeat (first | refine bN19 ?_ _ | refine bD19 ?_ | refine bK19 ?_ _)); refine blk_far ?_ NB188_218.out _; (with_reducible repeat (first | refine bN19 ?_ _ | refine bD19 ?_ | refine bK19 ?_ _)); exact BK188.out⟩
   have n2_ : Aside0 (((((((((w43.setCell ⟨gb218, 0, none⟩ (.int .i64 t209)).setCell ⟨gb218, 1, none⟩ (.int .i64 t210)).setCell ⟨gb218, 2, none⟩ (.int .i64 t211)).setCell ⟨gb218, 3, none⟩ (.int .i64 t212)).setCell ⟨gb218, 4, none⟩ (.int .i64 t213)).setCell ⟨gb218, 5, none⟩ (.int .i64 t214)).setCell ⟨gb218, 6, none⟩ (.int .i64 t215)).setCell ⟨gb218, 7, none⟩ (.int .i64 t216)).heap[gb195]? = some (.cells #[.int .i64 t189, .int .i64 t190, .int .i64 t191, .slice Ao19 t192.length co19] 25 (0, 0))) := ⟨by (with_reducible repeat (first | refine bN19 ?_ _ | refine bD19 ?_ | refine bK19 ?_ _)); refine blk_far ?_ NB195_218.out _; (with_reducible repeat (first | refine bN19 ?_ _ | refine bD19 ?_ | refine bK19 ?_ _)); refine blk_far ?_ NB195_218.out _; (with_reducible repeat (first | refine bN19 ?_ _ | refine bD19 ?_ | refine bK19 ?_ _)); refine blk_far ?_ NB195_218.out _; (with_reducible repeat (first | refine bN19 ?_ _ | refine bD19 ?_ | refine bK19 ?_ _)); refine blk_far ?_ NB195_218.out _; (with_reducible repeat (first | refine bN19 ?_ _ | refine bD19 ?_ | refine bK19 ?_ _)); refine blk_far ?_ NB195_218.out _; (with_reducible repeat (first | refine bN19 ?_ _ | refine bD19 ?_ | refine bK19 ?_ _)); refine blk_far ?_ NB195_218.out _; (with_reducible repeat (first | refine bN19 ?_ _ | refine bD19 ?_ | refine bK19 ?_ _)); refine blk_far ?_ NB195_218.out _; (with_reducible repeat (first | refine bN19 ?_ _ | refine bD19 ?_ | refine bK19 ?_ _)); refine blk_far ?_ NB195_218.out _; (with_reducible repeat (first | refine bN19 ?_ _ | refine bD19 ?_ | refine bK19 ?_ _)); exact BK195.out⟩
   have n3_ : Aside0 (((((((((w43.setCell ⟨gb218, 0, none⟩ (.int .i64 t209)).setCell ⟨gb218, 1, none⟩ (.int .i64 t210)).setCell ⟨gb218, 2, none⟩ (.int .i64 t211)).setCell ⟨gb218, 3, none⟩ (.int .i64 t212)).setCell ⟨gb218, 4, none⟩ (.int .i64 t213)).setCell ⟨gb218, 5, none⟩ (.int .i64 t214)).setCell ⟨gb218, 6, none⟩ (.int .i64 t215)).setCell ⟨gb218, 7, none⟩ (.int .i64 t216)).heap[gb196]? = some (.cells #[.int .i64 a0_4, .int .i64 a0_5, .int .i64 a0_6, .int .i64 a0_7, .int .i64 a0_8, .int .i64 a0_9] 27 (0, 0))) := ⟨by (with_reducible repeat (first | refine bN19 ?_ _ | refine bD19 ?_ | refine bK19 ?_ _)); refine blk_far ?_ NB196_218.out _; (with_reducible repeat (first | refine bN19 ?_ _ | refine bD19 ?_ | refine bK19 ?_ _)); refine blk_far ?_ NB196_218.out _; (with_reducible repeat (first | refine bN19 ?_ _ | refine bD19 ?_ | refine bK19 ?_ _)); refine blk_far ?_ NB196_218.out _; (with_reducible repeat (first | refine bN19 ?_ _ | refine bD19 ?_ | refine bK19 ?_ _)); refine blk_far ?_ NB196_218.out _; (with_reducible repeat (first | refine bN19 ?_ _ | refine bD19 ?_ | refine bK19 ?_ _)); refine blk_far ?_ NB196_218.out _; (with_reducible repeat (first | refine bN19 ?_ _ | refine bD19 ?_ | refine bK19 ?_ _)); refine blk_far ?_ NB196_218.out _; (with_reducible repeat (first | refine bN19 ?_ _ | refine bD19 ?_ | refine bK19 ?_ _)); refine blk_far ?_ NB196_218.out _; (with_reducible repeat (first | refine bN19 ?_ _ | refine bD19 ?_ | refine bK19 ?_ _)); refine blk_far ?_ NB196_218.out _; (with_reducible repeat (first | refine bN19 ?_ _ | refine bD19 ?_ | refine bK19 ?_ _)); exact BK196.out⟩
   have n4_ : Aside0 (((((((((w43.setCell ⟨gb218, 0, none⟩ (.int .i64 t209)).setCell ⟨gb218, 1, none⟩ (.int .i64 t210)).setCell ⟨gb218, 2, none⟩ (.int .i64 t211)).setCell ⟨gb218, 3, none⟩ (.int .i64 t212)).setCell ⟨gb218, 4, none⟩ (.int .i64 t213)).setCell ⟨gb218, 5, none⟩ (.int .i64 t214)).setCell ⟨gb218, 6, none⟩ (.int .i64 t215)).setCell ⟨gb218, 7, none⟩ (.int .i64 t216)).heap[gb208]? = some (.cells #[.int .i64 t199, .int .i64 t200, .int .i64 t201, .int .i64 t202, .int .i64 t203, .int .i64 t204, .int .i64 t205, .int .i64 t206] 38 (0, 0))) := ⟨by (with_reducible repeat (first | refine bN19 ?_ _ | refine bD19 ?_ | refine bK19 ?_ _)); refine blk_far ?_ NB208_218.out _; (with_reducible repeat (first | refine bN19 ?_ _ | refine bD19 ?_ | refine bK19 ?_ _)); refine blk_far ?_ NB208_218.out _; (with_reducible repeat (first | refine bN19 ?_ _ | refine bD19 ?_ | refine bK19 ?_ _)); refine blk_far ?_ NB208_218.out _; (with_reducible repeat (first | refine bN19 ?_ _ | refine bD19 ?_ | refine bK19 ?_ _)); refine blk_far ?_ NB208_218.out _; (with_reducible repeat (first | refine bN19 ?_ _ | refine bD19 ?_ | refine bK19 ?_ _)); refine blk_far ?_ NB208_218.out _; (with_reducible repeat (first | refine bN19 ?_ _ | refine bD19 ?_ | refine bK19 ?_ _)); refine blk_far ?_ NB208_218.out _; (with_reducible repeat (first | refine bN19 ?_ _ | refine bD19 ?_ | refine bK19 ?_ _)); refine blk_far ?_ NB208_218.out _; (with_reducible repeat (first | refine bN19 ?_ _ | refine bD19 ?_ | refine bK19 ?_ _)); refine blk_far ?_ NB208_218.out _; (with_reducible repeat (first | refine bN19 ?_ _ | refine bD19 ?_ | refine bK19 ?_ _)); exact BK208.out⟩
   have n5_ : Aside0 (((((((((w43.setCell ⟨gb218, 0, none⟩ (.int .i64 t209)).setCell ⟨gb218, 1, none⟩ (.int .i64 t210)).setCell ⟨gb218, 2, none⟩ (.int .i64 t211)).setCell ⟨gb218, 3, none⟩ (.int .i64 t212)).setCell ⟨gb218, 4, none⟩ (.int .i64 t213)).setCell ⟨gb218, 5, none⟩ (.int .i64 t214)).setCell ⟨gb218, 6, none⟩ (.int .i64 t215)).setCell ⟨gb218, 7, none⟩ (.int .i64 t216)).heap[gb218]? = some (.cells #[.int .i64 t209, .int .i64 t210, .int .i64 t211, .int .i64 t212, .int .i64 t213, .int .i64 t214, .int .i64 t215, .int .i64 t216] 38 (0, 0))) := ⟨by (with_reducible repeat (first | refine bN19 ?_ _ | refine bD19 ?_ | refine bK19 ?_ _)); refine blk_put (cs := #[.int .i64 t209, .int .i64 t210, .int .i64 t211, .int .i64 t212, .int .i64 t213, .int .i64 t214, .int .i64 t215, .int .i64 0]) ?_ 7 _ rfl; (with_reducible repeat (first | refine bN19 ?_ _ | refine bD19 ?_ | refine bK19 ?_ _)); refine blk_put (cs := #[.int .i64 t209, .int .i64 t210, .int .i64 t211, .int .i64 t212, .int .i64 t213, .int .i64 t214, .int .i64 0, .int .i64 0]) ?_ 6 _ rfl; (with_reducible repeat (first | refine bN19 ?_ _ | refine bD19 ?_ | refine bK19 ?_ _)); refine blk_put (cs := #[.int .i64 t209, .int .i64 t210, .int .i64 t211, .int .i64 t212, .int .i64 t213, .int .i64 0, .int .i64 0, .int .i64 0]) ?_ 5 _ rfl; (with_reducible repeat (first | refine bN19 ?_ _ | refine bD19 ?_ | refine bK19 ?_ _)); refine blk_put (cs := #[.int .i64 t209, .int .i64 t210, .int .i64 t211, .int .i64 t212, .int .i64 0, .int .i64 0, .int .i64 0, .int .i64 0]) ?_ 4 _ rfl; (with_reducible repeat (first | refine bN19 ?_ _ | refine bD19 ?_ | refine bK19 ?_ _)); refine blk_put (cs := #[.int .i64 t209, .int .i64 t210, .int .i64 t211, .int .i64 0, .int .i64 0, .int .i64 0, .int .i64 0, .int .i64 0]) ?_ 3 _ rfl; (with_reducible repeat (first | refine bN19 ?_ _ | refine bD19 ?_ | refine bK19 ?_ _)); refine blk_put (cs := #[.int .i64 t209, .int .i64 t210, .int .i64 0, .int .i64 0, .int .i64 0, .int .i64 0, .int .i64 0, .int .i64 0]) ?_ 2 _ rfl; (with_reducible repeat (first | refine bN19 ?_ _ | refine bD19 ?_ | refine bK19 ?_ _)); refine blk_put (cs := #[.int .i64 t209, .int .i64 0, .int .i64 0, .int .i64 0, .int .i64 0, .int .i64 0, .int .i64 0, .int .i64 0]) ?_ 1 _ rfl; (with_reducible repeat (first | refine bN19 ?_ _ | refine bD19 ?_ | refine bK19 ?_ _)); refine blk_put (cs := #[.int .i64 0, .int .i64 0, .int .i64 0, .int .i64 0, .int .i64 0, .int .i64 0, .int .i64 0, .int .i64 0]) ?_ 0 _ rfl; (with_reducible repeat (first | refine bN19 ?_ _ | refine bD19 ?_ | refine bK19 ?_ _)); exact BK218.out⟩
   have n6_ : Aside0 (Below w.heap.size w ((((((((w43.setCell ⟨gb218, 0, none⟩ (.int .i64 t209)).setCell ⟨gb218, 1, none⟩ (.int .i64 t210)).setCell ⟨gb218, 2, none⟩ (.int .i64 t211)).setCell ⟨gb218, 3, none⟩ (.int .i64 t212)).setCell ⟨gb218, 4, none⟩ (.int .i64 t213)).setCell ⟨gb218, 5, none⟩ (.int .i64 t214)).setCell ⟨gb218, 6, none⟩ (.int .i64 t215)).setCell ⟨gb218, 7, none⟩ (.int .i64 t216))) := ⟨by repeat (first | (with_reducible first | exact HB.out | apply below_alloc | apply pw_below_drewN | apply below_drew1 | refine below_set ?_ GE188.out | refine below_set ?_ GE195.out | refine below_set ?_ GE196.out | refine below_set ?_ GE208.out | refine below_set ?_ GE218.out) | exact HB.out)⟩
   (try clear HO194)
   (try clear BK188)
   (try clear BK195)
   (try clear BK196)
   (try clear BK208)
   (try clear BK218)
   (try clear HB)
   generalize ((((((((w43.setCell ⟨gb218, 0, none⟩ (.int .i64 t209)).setCell ⟨gb218, 1, none⟩ (.int .i64 t210)).setCell ⟨gb218, 2, none⟩ (.int .i64 t211)).setCell ⟨gb218, 3, none⟩ (.int .i64 t212)).setCell ⟨gb218, 4, none⟩ (.int .i64 t213)).setCell ⟨gb218, 5, none⟩ (.int .i64 t214)).setCell ⟨gb218, 6, none⟩ (.int .i64 t215)).setCell ⟨gb218, 7, none⟩ (.int .i64 t216)) = w63 at n0_ n1_ n2_ n3_ n4_ n5_ n6_ ⊢
   have HO194 := n0_
   have BK188 := n1_
   have BK195 := n2_
   have BK196 := n3_
   have BK208 := n4_
   have BK218 := n5_
   have HB := n6_
   clear n0_ n1_ n2_ n3_ n4_ n5_ n6_
   have n0_ := aM19 (Kd.V_drew HO194.out)
   have n1_ := aM19 (bD19 BK188.out)
   have n2_ := aM19 (bD19 BK195.out)
   have n3_ := aM19 (bD19 BK196.out)
   have n4_ := aM19 (bD19 BK208.out)
   have n5_ := aM19 (bD19 BK218.out)
   have n6_ := aM19 (below_drew1 HB.out)
   clear HO194
   clear BK188
   clear BK195
   clear BK196
   clear BK208
   clear BK218
   clear HB
   have HO194 := n0_
   have BK188 := n1_
   have BK195 := n2_
   have BK196 := n3_
   have BK208 := n4_
   have BK218 := n5_
   have HB := n6_
   clear n0_ n1_ n2_ n3_ n4_ n5_ n6_
   refine start_ (n := 36) (S := fun w' => w'.cell? ⟨gb195, 0, none⟩ = some (.int .i64 t189) ∧ w'.cell? ⟨gb195, 1, none⟩ = some (.int .i64 t190) ∧ w'.cell? ⟨gb195, 2, none⟩ = some (.int .i64 t191) ∧ w'.cell? ⟨gb195, 3, none⟩ = some (.slice Ao19 t192.length co19) ∧ w'.cell? ⟨gb208, 0, none⟩ = some (.int .i64 t199) ∧ w'.cell? ⟨gb208, 1, none⟩ = some (.int .i64 t200) ∧ w'.cell? ⟨gb208, 2, none⟩ = some (.int .i64 t201) ∧ w'.cell? ⟨gb208, 3, none⟩ = some (.int .i64 t202) ∧ w'.cell? ⟨gb208, 4, none⟩ = some (.int .i64 t203) ∧ w'.cell? ⟨gb208, 5, none⟩ = some (.int .i64 t204) ∧ w'.cell? ⟨gb208, 6, none⟩ = some (.int .i64 t205) ∧ w'.cell? ⟨gb208, 7, none⟩ = some (.int .i64 t206)) (ds := []) (bA 36 0) (by kernel_rfl) rfl rfl ⟨(bC19 BK195.out 0).trans rfl, (bC19 BK195.out 1).trans rfl, (bC19 BK195.out 2).trans rfl, (bC19 BK195.out 3).trans rfl, (bC19 BK208.out 0).trans rfl, (bC19 BK208.out 1).trans rfl, (bC19 BK208.out 2).trans rfl, (bC19 BK208.out 3).trans rfl, (bC19 BK208.out 4).trans rfl, (bC19 BK208.out 5).trans rfl, (bC19 BK208.out 6).trans rfl, (bC19 BK208.out 7).trans rfl⟩ (fun hHeld => ?_); refine with_tabW bivouaclaw16_ShotAbove.tab10 bivouaclaw16_ShotAbove.bits10 (fun HT_ HW_ => ?_)
   generalize w63.drew = w64 at HO194 BK188 BK195 BK196 BK208 BK218 HB hHeld ⊢
   refine pure_ (i := 0) (N := some 92) (v := ?_) (a' := ?_) (bA 36 1) rfl rfl (any_of HT_.out (by kernel_rfl)) (fun _ _ _ h => h) (Or.inl ⟨by rfl, ?_⟩) ?_ ?_
   rotate_left
   ·
    intro w'
    go_simp
    with_reducible rfl
   rotate_left
   ·
    simp only [Act.put, sA, sB, sC, i64_w, i32_w]
    rfl
   refine pure_ (i := 1) (N := some 93) (v := ?_) (a' := ?_) (bA 36 3) rfl rfl (any_of HT_.out (by kernel_rfl)) (fun _ _ _ h => h) (Or.inl ⟨by rfl, ?_⟩) ?_ ?_
   rotate_left
   ·
    intro w'
    go_simp
    with_reducible rfl
   rotate_left
   ·
    simp only [Act.put, sA, sB, sC, i64_w, i32_w]
    rfl
   refine pure_ (i := 2) (N := some 94) (v := ?_) (a' := ?_) (bA 36 7) rfl rfl (any_of HT_.out (by kernel_rfl)) (fun _ _ _ h => h) (Or.inl ⟨by rfl, ?_⟩) ?_ ?_
   rotate_left
   ·
    intro w'
    go_simp
    with_reducible rfl
   rotate_left
   ·
    simp only [Act.put, sA, sB, sC, i64_w, i32_w]
    rfl
   refine pure_ (i := 4) (N := some 96) (v := ?_) (a' := ?_) (bA 36 23) rfl rfl (any_of HT_.out (by kernel_rfl)) (fun _ _ _ h => h) (Or.inl ⟨by rfl, ?_⟩) ?_ ?_
   rotate_left
   ·
    intro w'
    go_simp
    with_reducible rfl
   rotate_left
   ·
    simp only [Act.put, sA, sB, sC, i64_w, i32_w]
    rfl
   refine pure_ (i := 5) (N := some 97) (v := ?_) (a' := ?_) (bA 36 55) rfl rfl (any_of HT_.out (by kernel_rfl)) (fun _ _ _ h => h) (Or.inl ⟨by rfl, ?_⟩) ?_ ?_
   rotate_left
   ·
    intro w'
    go_simp
    with_reducible rfl
   rotate_left
   ·
    simp only [Act.put, sA, sB, sC, i64_w, i32_w]
    rfl
   refine pure_ (i := 7) (N := some 99) (v := ?_) (a' := ?_) (bA 36 183) rfl rfl (any_of HT_.out (by kernel_rfl)) (fun _ _ _ h => h) (Or.inl ⟨by rfl, ?_⟩) ?_ ?_
   rotate_left
   ·
    intro w'
    go_simp
    with_reducible rfl
   rotate_left
   ·
    simp only [Act.put, sA, sB, sC, i64_w, i32_w]
    rfl
   refine pure_ (i := 8) (N := some 100) (v := ?_) (a' := ?_) (bA 36 439) rfl rfl (any_of HT_.out (by kernel_rfl)) (fun _ _ _ h => h) (Or.inl ⟨by rfl, ?_⟩) ?_ ?_
   rotate_left
   ·
    intro w'
    go_simp
    with_reducible rfl
   rotate_left
   ·
    simp only [Act.put, sA, sB, sC, i64_w, i32_w]
    rfl
   refine take_ (i := 3) (N := some 95) (v := ?_) (a' := ?_) (bA 36 447) rfl rfl (take_ofW HT_.out HW_.out (by kernel_rfl)) (fun _ _ _ h => h) (Or.inl ⟨by rfl, ?_⟩) hHeld ?_ ?_
   rotate_left
   ·
    rintro w' ⟨s0, s1, s2, s3, s4, s5, s6, s7, s8, s9, s10, s11⟩
    go_simp
    with_reducible rfl
   rotate_left
   ·
    simp only [Act.put, sA, sB, sC, i64_w, i32_w]
    rfl
   refine take_ (i := 6) (N := some 98) (v := ?_) (a' := ?_) (bA 36 511) rfl rfl (take_ofW HT_.out HW_.out (by kernel_rfl)) (fun _ _ _ h => h) (Or.inl ⟨by rfl, ?_⟩) hHeld ?_ ?_
   rotate_left
   ·
    rintro w' ⟨s0, s1, s2, s3, s4, s5, s6, s7, s8, s9, s10, s11⟩
    go_simp
    with_reducible rfl
   rotate_left
   ·
    simp only [Act.put, sA, sB, sC, i64_w, i32_w]
    rfl
   refine take_ (i := 9) (N := some 101) (v := ?_) (a' := ?_) (bA 36 1023) rfl rfl (take_ofW HT_.out HW_.out (by kernel_rfl)) (fun _ _ _ h => h) (Or.inl ⟨by rfl, ?_⟩) hHeld ?_ ?_
   rotate_left
   ·
    rintro w' ⟨s0, s1, s2, s3, s4, s5, s6, s7, s8, s9, s10, s11⟩
    go_simp
    with_reducible rfl
   rotate_left
   ·
    simp only [Act.put, sA, sB, sC, i64_w, i32_w]
    rfl
   refine one_ (i := 10) (N := some 102) (bA 36 2047) rfl rfl (one_of HT_.out (by kernel_rfl)) (by decide) (fun K hK => ?_)
   refine goes_ Try.func22 (by kernel_rfl) rfl #[.agg #[.int .i64 t189, .int .i64 t190, .int .i64 t191, .slice Ao19 t192.length co19], .int .i64 t201, .int .i64 t202] (by rfl) rfl rfl (by (try simp only [List.map_toArray, List.map_cons, List.map_nil]); first | done | rfl | (simp only [List.length_drop, List.length_take]; rfl)) ?_
   with_reducible refine (bivouacref06_On.calls t189 t190 t191 _ _ t192 t201 t202 false _ ?side1 ?side2 A51.out).mono ?_
   (case side1 => repeat (first | exact (Kd.V_reads' HO194.out).2.2 | (with_reducible refine Kd.C_alloc ?_ _) | (with_reducible refine Kd.C_drewN ?_ _) | (with_reducible refine Kd.C_drew ?_)))
   (case side2 => exact (Kd.V_reads' HO194.out).2.1)
   rintro e w65 ⟨rfl, hb⟩
   refine ⟨_, rfl, ?_⟩
   have n0_ := aM19 (Kd.V_below (by (with_reducible repeat (first | apply Kd.V_alloc | apply Kd.V_drewN | apply Kd.V_drew)); exact HO194.out) hb)
   have n1_ := aM19 (blk_below (g := gb188) (o := .cells #[.int .i64 a0_0, .int .i64 a0_1, .int .i64 a0_2, .slice A0_3 l0_3.length c0_3, .int .i64 a0_4, .int .i64 a0_5, .int .i64 a0_6, .int .i64 a0_7, .int .i64 a0_8, .int .i64 a0_9, .int .i64 a0_10, .int .u8 a0_11] 36 (0, 0)) (by (with_reducible repeat (first | refine bN19 ?_ _ | refine bD19 ?_ | refine bK19 ?_ _)); exact BK188.out) hb)
   have n2_ := aM19 (blk_below (g := gb195) (o := .cells #[.int .i64 t189, .int .i64 t190, .int .i64 t191, .slice Ao19 t192.length co19] 25 (0, 0)) (by (with_reducible repeat (first | refine bN19 ?_ _ | refine bD19 ?_ | refine bK19 ?_ _)); exact BK195.out) hb)
   have n3_ := aM19 (blk_below (g := gb196) (o := .cells #[.int .i64 a0_4, .int .i64 a0_5, .int .i64 a0_6, .int .i64 a0_7, .int .i64 a0_8, .int .i64 a0_9] 27 (0, 0)) (by (with_reducible repeat (first | refine bN19 ?_ _ | refine bD19 ?_ | refine bK19 ?_ _)); exact BK196.out) hb)
   have n4_ := aM19 (blk_below (g := gb208) (o := .cells #[.int .i64 t199, .int .i64 t200, .int .i64 t201, .int .i64 t202, .int .i64 t203, .int .i64 t204, .int .i64 t205, .int .i64 t206] 38 (0, 0)) (by (with_reducible repeat (first | refine bN19 ?_ _ | refine bD19 ?_ | refine bK19 ?_ _)); exact BK208.out) hb)
   have n5_ := aM19 (blk_below (g := gb218) (o := .cells #[.int .i64 t209, .int .i64 t210, .int .i64 t211, .int .i64 t212, .int .i64 t213, .int .i64 t214, .int .i64 t215, .int .i64 t216] 38 (0, 0)) (by (with_reducible repeat (first | refine bN19 ?_ _ | refine bD19 ?_ | refine bK19 ?_ _)); exact BK218.out) hb)
   have n6_ := aM19 (below_step (by repeat (first | (with_reducible first | exact HB.out | apply below_alloc | apply pw_below_drewN | apply below_drew1 | refine below_set ?_ GE188.out | refine below_set ?_ GE195.out | refine below_set ?_ GE196.out | refine below_set ?_ GE208.out | refine below_set ?_ GE218.out) | exact HB.out)) hb)
   clear HO194
   clear BK188
   clear BK195
   clear BK196
   clear BK208
   clear BK218
   clear HB
   have HO194 := n0_
   have BK188 := n1_
   have BK195 := n2_
   have BK196 := n3_
   have BK208 := n4_
   have BK218 := n5_
   have HB := n6_
   clear n0_ n1_ n2_ n3_ n4_ n5_ n6_
   (try clear hb)
   (try clear hb2)
   (try clear hk)
   (try clear hi)
   refine hK.out _ _ ⟨(bC19 BK195.out 0).trans rfl, (bC19 BK195.out 1).trans rfl, (bC19 BK195.out 2).trans rfl, (bC19 BK195.out 3).trans rfl, (bC19 BK208.out 0).trans rfl, (bC19 BK208.out 1).trans rfl, (bC19 BK208.out 2).trans rfl, (bC19 BK208.out 3).trans rfl, (bC19 BK208.out 4).trans rfl, (bC19 BK208.out 5).trans rfl, (bC19 BK208.out 6).trans rfl, (bC19 BK208.out 7).trans rfl⟩ (fun hHeld => ?_)
   clear hK K
   refine norm_ (a' := ?_) ?_ ?_
   rotate_left
   ·
    show Act.put _ (some 102) _ = _
    simp only [Act.put, sA, sB, sC, i64_w, i32_w]
    rfl
   refine pure_ (i := 11) (N := some 103) (v := ?_) (a' := ?_) (bA 36 4095) rfl rfl (any_of HT_.out (by kernel_rfl)) (fun _ _ _ h => h) (Or.inl ⟨by rfl, ?_⟩) ?_ ?_
   rotate_left
   ·
    intro w'
    go_simp
    with_reducible rfl
   rotate_left
   ·
    simp only [Act.put, sA, sB, sC, i64_w, i32_w]
    rfl
   refine pure_ (i := 12) (N := some 104) (v := ?_) (a' := ?_) (bA 36 8191) rfl rfl (any_of HT_.out (by kernel_rfl)) (fun _ _ _ h => h) (Or.inl ⟨by rfl, ?_⟩) ?_ ?_
   rotate_left
   ·
    intro w'
    go_simp
    with_reducible rfl
   rotate_left
   ·
    simp only [Act.put, sA, sB, sC, i64_w, i32_w]
    rfl
   refine pure_ (i := 13) (N := some 105) (v := undef) (a' := ?_) (bA 36 16383) rfl rfl (any_of HT_.out (by kernel_rfl)) (fun _ _ _ h => h) (Or.inr ⟨by rfl, rfl⟩) ?_ ?_
   rotate_left
   ·
    simp only [Act.put, sA, sB, sC, i64_w, i32_w]
    rfl
   refine pure_ (i := 14) (N := some 106) (v := undef) (a' := ?_) (bA 36 32767) rfl rfl (any_of HT_.out (by kernel_rfl)) (fun _ _ _ h => h) (Or.inr ⟨by rfl, rfl⟩) ?_ ?_
   rotate_left
   ·
    simp only [Act.put, sA, sB, sC, i64_w, i32_w]
    rfl
   refine pure_ (i := 15) (N := some 107) (v := undef) (a' := ?_) (bA 36 65535) rfl rfl (any_of HT_.out (by kernel_rfl)) (fun _ _ _ h => h) (Or.inr ⟨by rfl, rfl⟩) ?_ ?_
   rotate_left
   ·
    simp only [Act.put, sA, sB, sC, i64_w, i32_w]
    rfl
   refine pure_ (i := 16) (N := some 108) (v := undef) (a' := ?_) (bA 36 131071) rfl rfl (any_of HT_.out (by kernel_rfl)) (fun _ _ _ h => h) (Or.inr ⟨by rfl, rfl⟩) ?_ ?_
   rotate_left
   ·
    simp only [Act.put, sA, sB, sC, i64_w, i32_w]
    rfl
   refine pure_ (i := 17) (N := some 109) (v := undef) (a' := ?_) (bA 36 262143) rfl rfl (any_of HT_.out (by kernel_rfl)) (fun _ _ _ h => h) (Or.inr ⟨by rfl, rfl⟩) ?_ ?_
   rotate_left
   ·
    simp only [Act.put, sA, sB, sC, i64_w, i32_w]
    rfl
   refine pure_ (i := 18) (N := some 110) (v := undef) (a' := ?_) (bA 36 524287) rfl rfl (any_of HT_.out (by kernel_rfl)) (fun _ _ _ h => h) (Or.inr ⟨by rfl, rfl⟩) ?_ ?_
   rotate_left
   ·
    simp only [Act.put, sA, sB, sC, i64_w, i32_w]
    rfl
   refine pure_ (i := 19) (N := some 111) (v := undef) (a' := ?_) (bA 36 1048575) rfl rfl (any_of HT_.out (by kernel_rfl)) (fun _ _ _ h => h) (Or.inr ⟨by rfl, rfl⟩) ?_ ?_
   rotate_left
   ·
    simp only [Act.put, sA, sB, sC, i64_w, i32_w]
    rfl
   refine pure_ (i := 20) (N := some 112) (v := undef) (a' := ?_) (bA 36 2097151) rfl rfl (any_of HT_.out (by kernel_rfl)) (fun _ _ _ h => h) (Or.inr ⟨by rfl, rfl⟩) ?_ ?_
   rotate_left
   ·
    simp only [Act.put, sA, sB, sC, i64_w, i32_w]
    rfl
   refine pure_ (i := 21) (N := some 113) (v := undef) (a' := ?_) (bA 36 4194303) rfl rfl (any_of HT_.out (by kernel_rfl)) (fun _ _ _ h => h) (Or.inr ⟨by rfl, rfl⟩) ?_ ?_
   rotate_left
   ·
    simp only [Act.put, sA, sB, sC, i64_w, i32_w]
    rfl
   refine pure_ (i := 22) (N := some 114) (v := undef) (a' := ?_) (bA 36 8388607) rfl rfl (any_of HT_.out (by kernel_rfl)) (fun _ _ _ h => h) (Or.inr ⟨by rfl, rfl⟩) ?_ ?_
   rotate_left
   ·
    simp only [Act.put, sA, sB, sC, i64_w, i32_w]
    rfl
   refine pure_ (i := 23) (N := some 115) (v := undef) (a' := ?_) (bA 36 16777215) rfl rfl (any_of HT_.out (by kernel_rfl)) (fun _ _ _ h => h) (Or.inr ⟨by rfl, rfl⟩) ?_ ?_
   rotate_left
   ·
    simp only [Act.put, sA, sB, sC, i64_w, i32_w]
    rfl
   refine pure_ (i := 24) (N := some 116) (v := undef) (a' := ?_) (bA 36 33554431) rfl rfl (any_of HT_.out (by kernel_rfl)) (fun _ _ _ h => h) (Or.inr ⟨by rfl, rfl⟩) ?_ ?_
   rotate_left
   ·
    simp only [Act.put, sA, sB, sC, i64_w, i32_w]
    rfl
   refine pure_ (i := 25) (N := some 117) (v := ?_) (a' := ?_) (bA 36 67108863) rfl rfl (any_of HT_.out (by kernel_rfl)) (fun _ _ _ h => h) (Or.inl ⟨by rfl, ?_⟩) ?_ ?_
   rotate_left
   ·
    intro w'
    go_simp
    with_reducible rfl
   rotate_left
   ·
    simp only [Act.put, sA, sB, sC, i64_w, i32_w]
    rfl
   refine pure_ (i := 26) (N := some 118) (v := ?_) (a' := ?_) (bA 36 134217727) rfl rfl (any_of HT_.out (by kernel_rfl)) (fun _ _ _ h => h) (Or.inl ⟨by rfl, ?_⟩) ?_ ?_
   rotate_left
   ·
    intro w'
    go_simp
    with_reducible rfl
   rotate_left
   ·
    simp only [Act.put, sA, sB, sC, i64_w, i32_w]
    rfl
   refine pure_ (i := 27) (N := some 119) (v := undef) (a' := ?_) (bA 36 268435455) rfl rfl (any_of HT_.out (by kernel_rfl)) (fun _ _ _ h => h) (Or.inr ⟨by rfl, rfl⟩) ?_ ?_
   rotate_left
   ·
    simp only [Act.put, sA, sB, sC, i64_w, i32_w]
    rfl
   refine pure_ (i := 28) (N := some 120) (v := undef) (a' := ?_) (bA 36 536870911) rfl rfl (any_of HT_.out (by kernel_rfl)) (fun _ _ _ h => h) (Or.inr ⟨by rfl, rfl⟩) ?_ ?_
   rotate_left
   ·
    simp only [Act.put, sA, sB, sC, i64_w, i32_w]
    rfl
   refine pure_ (i := 29) (N := some 121) (v := undef) (a' := ?_) (bA 36 1073741823) rfl rfl (any_of HT_.out (by kernel_rfl)) (fun _ _ _ h => h) (Or.inr ⟨by rfl, rfl⟩) ?_ ?_
   rotate_left
   ·
    simp only [Act.put, sA, sB, sC, i64_w, i32_w]
    rfl
   refine pure_ (i := 30) (N := some 122) (v := undef) (a' := ?_) (bA 36 2147483647) rfl rfl (any_of HT_.out (by kernel_rfl)) (fun _ _ _ h => h) (Or.inr ⟨by rfl, rfl⟩) ?_ ?_
   rotate_left
   ·
    simp only [Act.put, sA, sB, sC, i64_w, i32_w]
    rfl
   refine pure_ (i := 31) (N := some 123) (v := undef) (a' := ?_) (bA 36 4294967295) rfl rfl (any_of HT_.out (by kernel_rfl)) (fun _ _ _ h => h) (Or.inr ⟨by rfl, rfl⟩) ?_ ?_
   rotate_left
   ·
    simp only [Act.put, sA, sB, sC, i64_w, i32_w]
    rfl
   refine pure_ (i := 32) (N := some 124) (v := undef) (a' := ?_) (bA 36 8589934591) rfl rfl (any_of HT_.out (by kernel_rfl)) (fun _ _ _ h => h) (Or.inr ⟨by rfl, rfl⟩) ?_ ?_
   rotate_left
   ·
    simp only [Act.put, sA, sB, sC, i64_w, i32_w]
    rfl
   refine pure_ (i := 33) (N := some 125) (v := undef) (a' := ?_) (bA 36 17179869183) rfl rfl (any_of HT_.out (by kernel_rfl)) (fun _ _ _ h => h) (Or.inr ⟨by rfl, rfl⟩) ?_ ?_
   rotate_left
   ·
    simp only [Act.put, sA, sB, sC, i64_w, i32_w]
    rfl
   refine pure_ (i := 34) (N := some 126) (v := ?_) (a' := ?_) (bA 36 34359738367) rfl rfl (any_of HT_.out (by kernel_rfl)) (fun _ _ _ h => h) (Or.inl ⟨by rfl, ?_⟩) ?_ ?_
   rotate_left
   ·
    intro w'
    go_simp
    with_reducible rfl
   rotate_left
   ·
    simp only [Act.put, sA, sB, sC, i64_w, i32_w]
    rfl
   refine pure_ (i := 35) (N := some 127) (v := ?_) (a' := ?_) (bA 36 68719476735) rfl rfl (any_of HT_.out (by kernel_rfl)) (fun _ _ _ h => h) (Or.inl ⟨by rfl, ?_⟩) ?_ ?_
   rotate_left
   ·
    intro w'
    go_simp
    with_reducible rfl
   rotate_left
   ·
    simp only [Act.put, sA, sB, sC, i64_w, i32_w]
    rfl
   refine done_ (done_of HT_.out (by kernel_rfl)) ?_
   try go_wp2
   go_meet
   case rel => exact ⟨_, (true), (by first | rfl | (simp; done) | (simp [*]; done)), H', ⟨by first | omega | exact Nat.le_refl _⟩, ⟨by (with_reducible repeat (first | apply Kd.V_alloc | apply Kd.V_drewN | apply Kd.V_drew)); exact HO194.out⟩, ⟨by (with_reducible repeat (first | refine bN19 ?_ _ | refine bD19 ?_ | refine bK19 ?_ _)); exact BK188.out⟩, ⟨by (with_reducible repeat (first | refine bN19 ?_ _ | refine bD19 ?_ | refine bK19 ?_ _)); exact BK195.out⟩, ⟨by (with_reducible repeat (first | refine bN19 ?_ _ | refine bD19 ?_ | refine bK19 ?_ _)); exact BK196.out⟩, ⟨by (with_reducible repeat (first | refine bN19 ?_ _ | refine bD19 ?_ | refine bK19 ?_ _)); exact BK208.out⟩, ⟨by (with_reducible repeat (first | refine bN19 ?_ _ | refine bD19 ?_ | refine bK19 ?_ _)); exact BK218.out⟩, ⟨by repeat (first | (with_reducible first | exact HB.out | apply below_alloc | apply pw_below_drewN | apply below_drew1 | refine below_set ?_ GE188.out | refine below_set ?_ GE195.out | refine below_set ?_ GE196.out | refine below_set ?_ GE208.out | refine below_set ?_ GE218.out) | exact HB.out)⟩⟩
  rw [if_neg c50] at H
  have c50b0 : decide (0 < ((a0_10) % 256)) = false := decide_eq_false c50
  clear c50
  (first | rw [c50b0] | (simp only [i64_w, i32_w]; rw [c50b0]) | skip)
  have H' := aM19 H
  clear H
  try go_wp2
  have n0_ : Aside0 (Kd.V (Kd.int .u8) 5 ((((((((w43.setCell ⟨gb218, 0, none⟩ (.int .i64 t209)).setCell ⟨gb218, 1, none⟩ (.int .i64 t210)).setCell ⟨gb218, 2, none⟩ (.int .i64 t211)).setCell ⟨gb218, 3, none⟩ (.int .i64 t212)).setCell ⟨gb218, 4, none⟩ (.int .i64 t213)).setCell ⟨gb218, 5, none⟩ (.int .i64 t214)).setCell ⟨gb218, 6, none⟩ (.int .i64 t215)).setCell ⟨gb218, 7, none⟩ (.int .i64 t216)) w.heap.size (fun k_ => k_ ≠ gb188 ∧ k_ ≠ gb195 ∧ k_ ≠ gb196 ∧ k_ ≠ gb208 ∧ k_ ≠ gb218) (.slice Ao19 t192.length co19) t192) := ⟨by (with_reducible repeat (first | apply Kd.V_alloc | apply Kd.V_drewN | apply Kd.V_drew)); exact Kd.V_mono (Kd.V_far (p := ⟨gb218, 7, none⟩) (Kd.V_far (p := ⟨gb218, 6, none⟩) (Kd.V_far (p := ⟨gb218, 5, none⟩) (Kd.V_far (p := ⟨gb218, 4, none⟩) (Kd.V_far (p := ⟨gb218, 3, none⟩) (Kd.V_far (p := ⟨gb218, 2, none⟩) (Kd.V_far (p := ⟨gb218, 1, none⟩) (Kd.V_far (p := ⟨gb218, 0, none⟩) (Kd.V_mono HO194.out (fun k_ hk => (⟨hk, hk.2⟩ : _ ∧ k_ ≠ gb218))) (fun _ hk => hk.2) (.int .i64 t209)) (fun _ hk => hk.2) (.int .i64 t210)) (fun _ hk => hk.2) (.int .i64 t211)) (fun _ hk => hk.2) (.int .i64 t212)) (fun _ hk => hk.2) (.int .i64 t213)) (fun _ hk => hk.2) (.int .i64 t214)) (fun _ hk => hk.2) (.int .i64 t215)) (fun _ hk => hk.2) (.int .i64 t216)) (fun _ hk => ⟨hk.1.1.1.1, ⟨hk.1.1.1.2.1, ⟨hk.1.1.1.2.2, ⟨hk.1.1.2, hk.1.2⟩⟩⟩⟩)⟩
  have n1_ : Aside0 (((((((((w43.setCell ⟨gb218, 0, none⟩ (.int .i64 t209)).setCell ⟨gb218, 1, none⟩ (.int .i64 t210)).setCell ⟨gb218, 2, none⟩ (.int .i64 t211)).setCell ⟨gb218, 3, none⟩ (.int .i64 t212)).setCell ⟨gb218, 4, none⟩ (.int .i64 t213)).setCell ⟨gb218, 5, none⟩ (.int .i64 t214)).setCell ⟨gb218, 6, none⟩ (.int .i64 t215)).setCell ⟨gb218, 7, none⟩ (.int .i64 t216)).heap[gb188]? = some (.cells #[.int .i64 a0_0, .int .i64 a0_1, .int .i64 a0_2, .slice A0_3 l0_3.length c0_3, .int .i64 a0_4, .int .i64 a0_5, .int .i64 a0_6, .int .i64 a0_7, .int .i64 a0_8, .int .i64 a0_9, .int .i64 a0_10, .int .u8 a0_11] 36 (0, 0))) := ⟨by (with_reducible repeat (first | refine bN19 ?_ _ | refine bD19 ?_ | refine bK19 ?_ _)); refine blk_far ?_ NB188_218.out _; (with_reducible repeat (first | refine bN19 ?_ _ | refine bD19 ?_ | refine bK19 ?_ _)); refine blk_far ?_ NB188_218.out _; (with_reducible repeat (first | refine bN19 ?_ _ | refine bD19 ?_ | refine bK19 ?_ _)); refine blk_far ?_ NB188_218.out _; (with_reducible repeat (first | refine bN19 ?_ _ | refine bD19 ?_ | refine bK19 ?_ _)); refine blk_far ?_ NB188_218.out _; (with_reducible repeat (first | refine bN19 ?_ _ | refine bD19 ?_ | refine bK19 ?_ _)); refine blk_far ?_ NB188_218.out _; (with_reducible repeat (first | refine bN19 ?_ _ | refine bD19 ?_ | refine bK19 ?_ _)); refine blk_far ?_ NB188_218.out _; (with_reducible repeat (first | refine bN19 ?_ _ | refine bD19 ?_ | refine bK19 ?_ _)); refine blk_far ?_ NB188_218.out _; (with_reducible repeat (first | refine bN19 ?_ _ | refine bD19 ?_ | refine bK19 ?_ _)); refine blk_far ?_ NB188_218.out _; (with_reducible repeat (first | refine bN19 ?_ _ | refine bD19 ?_ | refine bK19 ?_ _)); exact BK188.out⟩
  have n2_ : Aside0 (((((((((w43.setCell ⟨gb218, 0, none⟩ (.int .i64 t209)).setCell ⟨gb218, 1, none⟩ (.int .i64 t210)).setCell ⟨gb218, 2, none⟩ (.int .i64 t211)).setCell ⟨gb218, 3, none⟩ (.int .i64 t212)).setCell ⟨gb218, 4, none⟩ (.int .i64 t213)).setCell ⟨gb218, 5, none⟩ (.int .i64 t214)).setCell ⟨gb218, 6, none⟩ (.int .i64 t215)).setCell ⟨gb218, 7, none⟩ (.int .i64 t216)).heap[gb195]? = some (.cells #[.int .i64 t189, .int .i64 t190, .int .i64 t191, .slice Ao19 t192.length co19] 25 (0, 0))) := ⟨by (with_reducible repeat (first | refine bN19 ?_ _ | refine bD19 ?_ | refine bK19 ?_ _)); refine blk_far ?_ NB195_218.out _; (with_reducible repeat (first | refine bN19 ?_ _ | refine bD19 ?_ | refine bK19 ?_ _)); refine blk_far ?_ NB195_218.out _; (with_reducible repeat (first | refine bN19 ?_ _ | refine bD19 ?_ | refine bK19 ?_ _)); refine blk_far ?_ NB195_218.out _; (with_reducible repeat (first | refine bN19 ?_ _ | refine bD19 ?_ | refine bK19 ?_ _)); refine blk_far ?_ NB195_218.out _; (with_reducible repeat (first | refine bN19 ?_ _ | refine bD19 ?_ | refine bK19 ?_ _)); refine blk_far ?_ NB195_218.out _; (with_reducible repeat (first | refine bN19 ?_ _ | refine bD19 ?_ | refine bK19 ?_ _)); refine blk_far ?_ NB195_218.out _; (with_reducible repeat (first | refine bN19 ?_ _ | refine bD19 ?_ | refine bK19 ?_ _)); refine blk_far ?_ NB195_218.out _; (with_reducible repeat (first | refine bN19 ?_ _ | refine bD19 ?_ | refine bK19 ?_ _)); refine blk_far ?_ NB195_218.out _; (with_reducible repeat (first | refine bN19 ?_ _ | refine bD19 ?_ | refine bK19 ?_ _)); exact BK195.out⟩
  have n3_ : Aside0 (((((((((w43.setCell ⟨gb218, 0, none⟩ (.int .i64 t209)).setCell ⟨gb218, 1, none⟩ (.int .i64 t210)).setCell ⟨gb218, 2, none⟩ (.int .i64 t211)).setCell ⟨gb218, 3, none⟩ (.int .i64 t212)).setCell ⟨gb218, 4, none⟩ (.int .i64 t213)).setCell ⟨gb218, 5, none⟩ (.int .i64 t214)).setCell ⟨gb218, 6, none⟩ (.int .i64 t215)).setCell ⟨gb218, 7, none⟩ (.int .i64 t216)).heap[gb196]? = some (.cells #[.int .i64 a0_4, .int .i64 a0_5, .int .i64 a0_6, .int .i64 a0_7, .int .i64 a0_8, .int .i64 a0_9] 27 (0, 0))) := ⟨by (with_reducible repeat (first | refine bN19 ?_ _ | refine bD19 ?_ | refine bK19 ?_ _)); refine blk_far ?_ NB196_218.out _; (with_reducible repeat (first | refine bN19 ?_ _ | refine bD19 ?_ | refine bK19 ?_ _)); refine blk_far ?_ NB196_218.out _; (with_reducible repeat (first | refine bN19 ?_ _ | refine bD19 ?_ | refine bK19 ?_ _)); refine blk_far ?_ NB196_218.out _; (with_reducible repeat (first | refine bN19 ?_ _ | refine bD19 ?_ | refine bK19 ?_ _)); refine blk_far ?_ NB196_218.out _; (with_reducible repeat (first | refine bN19 ?_ _ | refine bD19 ?_ | refine bK19 ?_ _)); refine blk_far ?_ NB196_218.out _; (with_reducible repeat (first | refine bN19 ?_ _ | refine bD19 ?_ | refine bK19 ?_ _)); refine blk_far ?_ NB196_218.out _; (with_reducible repeat (first | refine bN19 ?_ _ | refine bD19 ?_ | refine bK19 ?_ _)); refine blk_far ?_ NB196_218.out _; (with_reducible repeat (first | refine bN19 ?_ _ | refine bD19 ?_ | refine bK19 ?_ _)); refine blk_far ?_ NB196_218.out _; (with_reducible repeat (first | refine bN19 ?_ _ | refine bD19 ?_ | refine bK19 ?_ _)); exact BK196.out⟩
  have n4_ : Aside0 (((((((((w43.setCell ⟨gb218, 0, none⟩ (.int .i64 t209)).setCell ⟨gb218, 1, none⟩ (.int .i64 t210)).setCell ⟨gb218, 2, none⟩ (.int .i64 t211)).setCell ⟨gb218, 3, none⟩ (.int .i64 t212)).setCell ⟨gb218, 4, none⟩ (.int .i64 t213)).setCell ⟨gb218, 5, none⟩ (.int .i64 t214)).setCell ⟨gb218, 6, none⟩ (.int .i64 t215)).setCell ⟨gb218, 7, none⟩ (.int .i64 t216)).heap[gb208]? = some (.cells #[.int .i64 t199, .int .i64 t200, .int .i64 t201, .int .i64 t202, .int .i64 t203, .int .i64 t204, .int .i64 t205, .int .i64 t206] 38 (0, 0))) := ⟨by (with_reducible repeat (first | refine bN19 ?_ _ | refine bD19 ?_ | refine bK19 ?_ _)); refine blk_far ?_ NB208_218.out _; (with_reducible repeat (first | refine bN19 ?_ _ | refine bD19 ?_ | refine bK19 ?_ _)); refine blk_far ?_ NB208_218.out _; (with_reducible repeat (first | refine bN19 ?_ _ | refine bD19 ?_ | refine bK19 ?_ _)); refine blk_far ?_ NB208_218.out _; (with_reducible repeat (first | refine bN19 ?_ _ | refine bD19 ?_ | refine bK19 ?_ _)); refine blk_far ?_ NB208_218.out _; (with_reducible repeat (first | refine bN19 ?_ _ | refine bD19 ?_ | refine bK19 ?_ _)); refine blk_far ?_ NB208_218.out _; (with_reducible repeat (first | refine bN19 ?_ _ | refine bD19 ?_ | refine bK19 ?_ _)); refine blk_far ?_ NB208_218.out _; (with_reducible repeat (first | refine bN19 ?_ _ | refine bD19 ?_ | refine bK19 ?_ _)); refine blk_far ?_ NB208_218.out _; (with_reducible repeat (first | refine bN19 ?_ _ | refine bD19 ?_ | refine bK19 ?_ _)); refine blk_far ?_ NB208_218.out _; (with_reducible repeat (first | refine bN19 ?_ _ | refine bD19 ?_ | refine bK19 ?_ _)); exact BK208.out⟩
  have n5_ : Aside0 (((((((((w43.setCell ⟨gb218, 0, none⟩ (.int .i64 t209)).setCell ⟨gb218, 1, none⟩ (.int .i64 t210)).setCell ⟨gb218, 2, none⟩ (.int .i64 t211)).setCell ⟨gb218, 3, none⟩ (.int .i64 t212)).setCell ⟨gb218, 4, none⟩ (.int .i64 t213)).setCell ⟨gb218, 5, none⟩ (.int .i64 t214)).setCell ⟨gb218, 6, none⟩ (.int .i64 t215)).setCell ⟨gb218, 7, none⟩ (.int .i64 t216)).heap[gb218]? = some (.cells #[.int .i64 t209, .int .i64 t210, .int .i64 t211, .int .i64 t212, .int .i64 t213, .int .i64 t214, .int .i64 t215, .int .i64 t216] 38 (0, 0))) := ⟨by (with_reducible repeat (first | refine bN19 ?_ _ | refine bD19 ?_ | refine bK19 ?_ _)); refine blk_put (cs := #[.int .i64 t209, .int .i64 t210, .int .i64 t211, .int .i64 t212, .int .i64 t213, .int .i64 t214, .int .i64 t215, .int .i64 0]) ?_ 7 _ rfl; (with_reducible repeat (first | refine bN19 ?_ _ | refine bD19 ?_ | refine bK19 ?_ _)); refine blk_put (cs := #[.int .i64 t209, .int .i64 t210, .int .i64 t211, .int .i64 t212, .int .i64 t213, .int .i64 t214, .int .i64 0, .int .i64 0]) ?_ 6 _ rfl; (with_reducible repeat (first | refine bN19 ?_ _ | refine bD19 ?_ | refine bK19 ?_ _)); refine blk_put (cs := #[.int .i64 t209, .int .i64 t210, .int .i64 t211, .int .i64 t212, .int .i64 t213, .int .i64 0, .int .i64 0, .int .i64 0]) ?_ 5 _ rfl; (with_reducible repeat (first | refine bN19 ?_ _ | refine bD19 ?_ | refine bK19 ?_ _)); refine blk_put (cs := #[.int .i64 t209, .int .i64 t210, .int .i64 t211, .int .i64 t212, .int .i64 0, .int .i64 0, .int .i64 0, .int .i64 0]) ?_ 4 _ rfl; (with_reducible repeat (first | refine bN19 ?_ _ | refine bD19 ?_ | refine bK19 ?_ _)); refine blk_put (cs := #[.int .i64 t209, .int .i64 t210, .int .i64 t211, .int .i64 0, .int .i64 0, .int .i64 0, .int .i64 0, .int .i64 0]) ?_ 3 _ rfl; (with_reducible repeat (first | refine bN19 ?_ _ | refine bD19 ?_ | refine bK19 ?_ _)); refine blk_put (cs := #[.int .i64 t209, .int .i64 t210, .int .i64 0, .int .i64 0, .int .i64 0, .int .i64 0, .int .i64 0, .int .i64 0]) ?_ 2 _ rfl; (with_reducible repeat (first | refine bN19 ?_ _ | refine bD19 ?_ | refine bK19 ?_ _)); refine blk_put (cs := #[.int .i64 t209, .int .i64 0, .int .i64 0, .int .i64 0, .int .i64 0, .int .i64 0, .int .i64 0, .int .i64 0]) ?_ 1 _ rfl; (with_reducible repeat (first | refine bN19 ?_ _ | refine bD19 ?_ | refine bK19 ?_ _)); refine blk_put (cs := #[.int .i64 0, .int .i64 0, .int .i64 0, .int .i64 0, .int .i64 0, .int .i64 0, .int .i64 0, .int .i64 0]) ?_ 0 _ rfl; (with_reducible repeat (first | refine bN19 ?_ _ | refine bD19 ?_ | refine bK19 ?_ _)); exact BK218.out⟩
  have n6_ : Aside0 (Below w.heap.size w ((((((((w43.setCell ⟨gb218, 0, none⟩ (.int .i64 t209)).setCell ⟨gb218, 1, none⟩ (.int .i64 t210)).setCell ⟨gb218, 2, none⟩ (.int .i64 t211)).setCell ⟨gb218, 3, none⟩ (.int .i64 t212)).setCell ⟨gb218, 4, none⟩ (.int .i64 t213)).setCell ⟨gb218, 5, none⟩ (.int .i64 t214)).setCell ⟨gb218, 6, none⟩ (.int .i64 t215)).setCell ⟨gb218, 7, none⟩ (.int .i64 t216))) := ⟨by repeat (first | (with_reducible first | exact HB.out | apply below_alloc | apply pw_below_drewN | apply below_drew1 | refine below_set ?_ GE188.out | refine below_set ?_ GE195.out | refine below_set ?_ GE196.out | refine below_set ?_ GE208.out | refine below_set ?_ GE218.out) | exact HB.out)⟩
  (try clear HO194)
  (try clear BK188)
  (try clear BK195)
  (try clear BK196)
  (try clear BK208)
  (try clear BK218)
  (try clear HB)
  generalize ((((((((w43.setCell ⟨gb218, 0, none⟩ (.int .i64 t209)).setCell ⟨gb218, 1, none⟩ (.int .i64 t210)).setCell ⟨gb218, 2, none⟩ (.int .i64 t211)).setCell ⟨gb218, 3, none⟩ (.int .i64 t212)).setCell ⟨gb218, 4, none⟩ (.int .i64 t213)).setCell ⟨gb218, 5, none⟩ (.int .i64 t214)).setCell ⟨gb218, 6, none⟩ (.int .i64 t215)).setCell ⟨gb218, 7, none⟩ (.int .i64 t216)) = w66 at n0_ n1_ n2_ n3_ n4_ n5_ n6_ ⊢
  have HO194 := n0_
  have BK188 := n1_
  have BK195 := n2_
  have BK196 := n3_
  have BK208 := n4_
  have BK218 := n5_
  have HB := n6_
  clear n0_ n1_ n2_ n3_ n4_ n5_ n6_
  have n0_ := aM19 (Kd.V_drew HO194.out)
  have n1_ := aM19 (bD19 BK188.out)
  have n2_ := aM19 (bD19 BK195.out)
  have n3_ := aM19 (bD19 BK196.out)
  have n4_ := aM19 (bD19 BK208.out)
  have n5_ := aM19 (bD19 BK218.out)
  have n6_ := aM19 (below_drew1 HB.out)
  clear HO194
  clear BK188
  clear BK195
  clear BK196
  clear BK208
  clear BK218
  clear HB
  have HO194 := n0_
  have BK188 := n1_
  have BK195 := n2_
  have BK196 := n3_
  have BK208 := n4_
  have BK218 := n5_
  have HB := n6_
  clear n0_ n1_ n2_ n3_ n4_ n5_ n6_
  refine start_ (n := 36) (S := fun w' => True) (ds := []) (bA 36 0) (by kernel_rfl) rfl rfl trivial (fun hHeld => ?_); refine with_tabW bivouaclaw16_ShotAbove.tab10 bivouaclaw16_ShotAbove.bits10 (fun HT_ HW_ => ?_)
  generalize w66.drew = w67 at HO194 BK188 BK195 BK196 BK208 BK218 HB hHeld ⊢
  refine pure_ (i := 0) (N := some 92) (v := ?_) (a' := ?_) (bA 36 1) rfl rfl (any_of HT_.out (by kernel_rfl)) (fun _ _ _ h => h) (Or.inl ⟨by rfl, ?_⟩) ?_ ?_
  rotate_left
  ·
   intro w'
   go_simp
   with_reducible rfl
  rotate_left
  ·
   simp only [Act.put, sA, sB, sC, i64_w, i32_w]
   rfl
  refine pure_ (i := 1) (N := some 93) (v := ?_) (a' := ?_) (bA 36 3) rfl rfl (any_of HT_.out (by kernel_rfl)) (fun _ _ _ h => h) (Or.inl ⟨by rfl, ?_⟩) ?_ ?_
  rotate_left
  ·
   intro w'
   go_simp
   with_reducible rfl
  rotate_left
  ·
   simp only [Act.put, sA, sB, sC, i64_w, i32_w]
   rfl
  refine pure_ (i := 2) (N := some 94) (v := ?_) (a' := ?_) (bA 36 7) rfl rfl (any_of HT_.out (by kernel_rfl)) (fun _ _ _ h => h) (Or.inl ⟨by rfl, ?_⟩) ?_ ?_
  rotate_left
  ·
   intro w'
   go_simp
   with_reducible rfl
  rotate_left
  ·
   simp only [Act.put, sA, sB, sC, i64_w, i32_w]
   rfl
  refine pure_ (i := 3) (N := some 95) (v := undef) (a' := ?_) (bA 36 15) rfl rfl (any_of HT_.out (by kernel_rfl)) (fun _ _ _ h => h) (Or.inr ⟨by rfl, rfl⟩) ?_ ?_
  rotate_left
  ·
   simp only [Act.put, sA, sB, sC, i64_w, i32_w]
   rfl
  refine pure_ (i := 4) (N := some 96) (v := undef) (a' := ?_) (bA 36 31) rfl rfl (any_of HT_.out (by kernel_rfl)) (fun _ _ _ h => h) (Or.inr ⟨by rfl, rfl⟩) ?_ ?_
  rotate_left
  ·
   simp only [Act.put, sA, sB, sC, i64_w, i32_w]
   rfl
  refine pure_ (i := 5) (N := some 97) (v := undef) (a' := ?_) (bA 36 63) rfl rfl (any_of HT_.out (by kernel_rfl)) (fun _ _ _ h => h) (Or.inr ⟨by rfl, rfl⟩) ?_ ?_
  rotate_left
  ·
   simp only [Act.put, sA, sB, sC, i64_w, i32_w]
   rfl
  refine pure_ (i := 6) (N := some 98) (v := undef) (a' := ?_) (bA 36 127) rfl rfl (any_of HT_.out (by kernel_rfl)) (fun _ _ _ h => h) (Or.inr ⟨by rfl, rfl⟩) ?_ ?_
  rotate_left
  ·
   simp only [Act.put, sA, sB, sC, i64_w, i32_w]
   rfl
  refine pure_ (i := 7) (N := some 99) (v := undef) (a' := ?_) (bA 36 255) rfl rfl (any_of HT_.out (by kernel_rfl)) (fun _ _ _ h => h) (Or.inr ⟨by rfl, rfl⟩) ?_ ?_
  rotate_left
  ·
   simp only [Act.put, sA, sB, sC, i64_w, i32_w]
   rfl
  refine pure_ (i := 8) (N := some 100) (v := undef) (a' := ?_) (bA 36 511) rfl rfl (any_of HT_.out (by kernel_rfl)) (fun _ _ _ h => h) (Or.inr ⟨by rfl, rfl⟩) ?_ ?_
  rotate_left
  ·
   simp only [Act.put, sA, sB, sC, i64_w, i32_w]
   rfl
  refine pure_ (i := 9) (N := some 101) (v := undef) (a' := ?_) (bA 36 1023) rfl rfl (any_of HT_.out (by kernel_rfl)) (fun _ _ _ h => h) (Or.inr ⟨by rfl, rfl⟩) ?_ ?_
  rotate_left
  ·
   simp only [Act.put, sA, sB, sC, i64_w, i32_w]
   rfl
  refine pure_ (i := 10) (N := some 102) (v := undef) (a' := ?_) (bA 36 2047) rfl rfl (any_of HT_.out (by kernel_rfl)) (fun _ _ _ h => h) (Or.inr ⟨by rfl, rfl⟩) ?_ ?_
  rotate_left
  ·
   simp only [Act.put, sA, sB, sC, i64_w, i32_w]
   rfl
  refine pure_ (i := 11) (N := some 103) (v := undef) (a' := ?_) (bA 36 4095) rfl rfl (any_of HT_.out (by kernel_rfl)) (fun _ _ _ h => h) (Or.inr ⟨by rfl, rfl⟩) ?_ ?_
  rotate_left
  ·
   simp only [Act.put, sA, sB, sC, i64_w, i32_w]
   rfl
  refine pure_ (i := 12) (N := some 104) (v := undef) (a' := ?_) (bA 36 8191) rfl rfl (any_of HT_.out (by kernel_rfl)) (fun _ _ _ h => h) (Or.inr ⟨by rfl, rfl⟩) ?_ ?_
  rotate_left
  ·
   simp only [Act.put, sA, sB, sC, i64_w, i32_w]
   rfl
  refine pure_ (i := 13) (N := some 105) (v := undef) (a' := ?_) (bA 36 16383) rfl rfl (any_of HT_.out (by kernel_rfl)) (fun _ _ _ h => h) (Or.inr ⟨by rfl, rfl⟩) ?_ ?_
  rotate_left
  ·
   simp only [Act.put, sA, sB, sC, i64_w, i32_w]
   rfl
  refine pure_ (i := 14) (N := some 106) (v := undef) (a' := ?_) (bA 36 32767) rfl rfl (any_of HT_.out (by kernel_rfl)) (fun _ _ _ h => h) (Or.inr ⟨by rfl, rfl⟩) ?_ ?_
  rotate_left
  ·
   simp only [Act.put, sA, sB, sC, i64_w, i32_w]
   rfl
  refine pure_ (i := 15) (N := some 107) (v := undef) (a' := ?_) (bA 36 65535) rfl rfl (any_of HT_.out (by kernel_rfl)) (fun _ _ _ h => h) (Or.inr ⟨by rfl, rfl⟩) ?_ ?_
  rotate_left
  ·
   simp only [Act.put, sA, sB, sC, i64_w, i32_w]
   rfl
  refine pure_ (i := 16) (N := some 108) (v := undef) (a' := ?_) (bA 36 131071) rfl rfl (any_of HT_.out (by kernel_rfl)) (fun _ _ _ h => h) (Or.inr ⟨by rfl, rfl⟩) ?_ ?_
  rotate_left
  ·
   simp only [Act.put, sA, sB, sC, i64_w, i32_w]
   rfl
  refine pure_ (i := 17) (N := some 109) (v := undef) (a' := ?_) (bA 36 262143) rfl rfl (any_of HT_.out (by kernel_rfl)) (fun _ _ _ h => h) (Or.inr ⟨by rfl, rfl⟩) ?_ ?_
  rotate_left
  ·
   simp only [Act.put, sA, sB, sC, i64_w, i32_w]
   rfl
  refine pure_ (i := 18) (N := some 110) (v := undef) (a' := ?_) (bA 36 524287) rfl rfl (any_of HT_.out (by kernel_rfl)) (fun _ _ _ h => h) (Or.inr ⟨by rfl, rfl⟩) ?_ ?_
  rotate_left
  ·
   simp only [Act.put, sA, sB, sC, i64_w, i32_w]
   rfl
  refine pure_ (i := 19) (N := some 111) (v := undef) (a' := ?_) (bA 36 1048575) rfl rfl (any_of HT_.out (by kernel_rfl)) (fun _ _ _ h => h) (Or.inr ⟨by rfl, rfl⟩) ?_ ?_
  rotate_left
  ·
   simp only [Act.put, sA, sB, sC, i64_w, i32_w]
   rfl
  refine pure_ (i := 20) (N := some 112) (v := undef) (a' := ?_) (bA 36 2097151) rfl rfl (any_of HT_.out (by kernel_rfl)) (fun _ _ _ h => h) (Or.inr ⟨by rfl, rfl⟩) ?_ ?_
  rotate_left
  ·
   simp only [Act.put, sA, sB, sC, i64_w, i32_w]
   rfl
  refine pure_ (i := 21) (N := some 113) (v := undef) (a' := ?_) (bA 36 4194303) rfl rfl (any_of HT_.out (by kernel_rfl)) (fun _ _ _ h => h) (Or.inr ⟨by rfl, rfl⟩) ?_ ?_
  rotate_left
  ·
   simp only [Act.put, sA, sB, sC, i64_w, i32_w]
   rfl
  refine pure_ (i := 22) (N := some 114) (v := undef) (a' := ?_) (bA 36 8388607) rfl rfl (any_of HT_.out (by kernel_rfl)) (fun _ _ _ h => h) (Or.inr ⟨by rfl, rfl⟩) ?_ ?_
  rotate_left
  ·
   simp only [Act.put, sA, sB, sC, i64_w, i32_w]
   rfl
  refine pure_ (i := 23) (N := some 115) (v := undef) (a' := ?_) (bA 36 16777215) rfl rfl (any_of HT_.out (by kernel_rfl)) (fun _ _ _ h => h) (Or.inr ⟨by rfl, rfl⟩) ?_ ?_
  rotate_left
  ·
   simp only [Act.put, sA, sB, sC, i64_w, i32_w]
   rfl
  refine pure_ (i := 24) (N := some 116) (v := undef) (a' := ?_) (bA 36 33554431) rfl rfl (any_of HT_.out (by kernel_rfl)) (fun _ _ _ h => h) (Or.inr ⟨by rfl, rfl⟩) ?_ ?_
  rotate_left
  ·
   simp only [Act.put, sA, sB, sC, i64_w, i32_w]
   rfl
  refine pure_ (i := 25) (N := some 117) (v := undef) (a' := ?_) (bA 36 67108863) rfl rfl (any_of HT_.out (by kernel_rfl)) (fun _ _ _ h => h) (Or.inr ⟨by rfl, rfl⟩) ?_ ?_
  rotate_left
  ·
   simp only [Act.put, sA, sB, sC, i64_w, i32_w]
   rfl
  refine pure_ (i := 26) (N := some 118) (v := undef) (a' := ?_) (bA 36 134217727) rfl rfl (any_of HT_.out (by kernel_rfl)) (fun _ _ _ h => h) (Or.inr ⟨by rfl, rfl⟩) ?_ ?_
  rotate_left
  ·
   simp only [Act.put, sA, sB, sC, i64_w, i32_w]
   rfl
  refine pure_ (i := 27) (N := some 119) (v := undef) (a' := ?_) (bA 36 268435455) rfl rfl (any_of HT_.out (by kernel_rfl)) (fun _ _ _ h => h) (Or.inr ⟨by rfl, rfl⟩) ?_ ?_
  rotate_left
  ·
   simp only [Act.put, sA, sB, sC, i64_w, i32_w]
   rfl
  refine pure_ (i := 28) (N := some 120) (v := undef) (a' := ?_) (bA 36 536870911) rfl rfl (any_of HT_.out (by kernel_rfl)) (fun _ _ _ h => h) (Or.inr ⟨by rfl, rfl⟩) ?_ ?_
  rotate_left
  ·
   simp only [Act.put, sA, sB, sC, i64_w, i32_w]
   rfl
  refine pure_ (i := 29) (N := some 121) (v := undef) (a' := ?_) (bA 36 1073741823) rfl rfl (any_of HT_.out (by kernel_rfl)) (fun _ _ _ h => h) (Or.inr ⟨by rfl, rfl⟩) ?_ ?_
  rotate_left
  ·
   simp only [Act.put, sA, sB, sC, i64_w, i32_w]
   rfl
  refine pure_ (i := 30) (N := some 122) (v := undef) (a' := ?_) (bA 36 2147483647) rfl rfl (any_of HT_.out (by kernel_rfl)) (fun _ _ _ h => h) (Or.inr ⟨by rfl, rfl⟩) ?_ ?_
  rotate_left
  ·
   simp only [Act.put, sA, sB, sC, i64_w, i32_w]
   rfl
  refine pure_ (i := 31) (N := some 123) (v := undef) (a' := ?_) (bA 36 4294967295) rfl rfl (any_of HT_.out (by kernel_rfl)) (fun _ _ _ h => h) (Or.inr ⟨by rfl, rfl⟩) ?_ ?_
  rotate_left
  ·
   simp only [Act.put, sA, sB, sC, i64_w, i32_w]
   rfl
  refine pure_ (i := 32) (N := some 124) (v := undef) (a' := ?_) (bA 36 8589934591) rfl rfl (any_of HT_.out (by kernel_rfl)) (fun _ _ _ h => h) (Or.inr ⟨by rfl, rfl⟩) ?_ ?_
  rotate_left
  ·
   simp only [Act.put, sA, sB, sC, i64_w, i32_w]
   rfl
  refine pure_ (i := 33) (N := some 125) (v := undef) (a' := ?_) (bA 36 17179869183) rfl rfl (any_of HT_.out (by kernel_rfl)) (fun _ _ _ h => h) (Or.inr ⟨by rfl, rfl⟩) ?_ ?_
  rotate_left
  ·
   simp only [Act.put, sA, sB, sC, i64_w, i32_w]
   rfl
  refine pure_ (i := 34) (N := some 126) (v := undef) (a' := ?_) (bA 36 34359738367) rfl rfl (any_of HT_.out (by kernel_rfl)) (fun _ _ _ h => h) (Or.inr ⟨by rfl, rfl⟩) ?_ ?_
  rotate_left
  ·
   simp only [Act.put, sA, sB, sC, i64_w, i32_w]
   rfl
  refine pure_ (i := 35) (N := some 127) (v := ?_) (a' := ?_) (bA 36 68719476735) rfl rfl (any_of HT_.out (by kernel_rfl)) (fun _ _ _ h => h) (Or.inl ⟨by rfl, ?_⟩) ?_ ?_
  rotate_left
  ·
   intro w'
   go_simp
   with_reducible rfl
  rotate_left
  ·
   simp only [Act.put, sA, sB, sC, i64_w, i32_w]
   rfl
  refine done_ (done_of HT_.out (by kernel_rfl)) ?_
  try go_wp2
  go_meet
  case rel => exact ⟨_, (false), (by first | rfl | (simp; done) | (simp [*]; done)), H', ⟨by first | omega | exact Nat.le_refl _⟩, ⟨by (with_reducible repeat (first | apply Kd.V_alloc | apply Kd.V_drewN | apply Kd.V_drew)); exact HO194.out⟩, ⟨by (with_reducible repeat (first | refine bN19 ?_ _ | refine bD19 ?_ | refine bK19 ?_ _)); exact BK188.out⟩, ⟨by (with_reducible repeat (first | refine bN19 ?_ _ | refine bD19 ?_ | refine bK19 ?_ _)); exact BK195.out⟩, ⟨by (with_reducible repeat (first | refine bN19 ?_ _ | refine bD19 ?_ | refine bK19 ?_ _)); exact BK196.out⟩, ⟨by (with_reducible repeat (first | refine bN19 ?_ _ | refine bD19 ?_ | refine bK19 ?_ _)); exact BK208.out⟩, ⟨by (with_reducible repeat (first | refine bN19 ?_ _ | refine bD19 ?_ | refine bK19 ?_ _)); exact BK218.out⟩, ⟨by repeat (first | (with_reducible first | exact HB.out | apply below_alloc | apply pw_below_drewN | apply below_drew1 | refine below_set ?_ GE188.out | refine below_set ?_ GE195.out | refine below_set ?_ GE196.out | refine below_set ?_ GE208.out | refine below_set ?_ GE218.out) | exact HB.out)⟩⟩
 clear HC9
 try clear c2
 try clear p2
 try clear c5
 try clear p6
 try clear c22
 try clear c50
 try clear c50b0
 try clear c52
 try clear p64
 obtain ⟨kq, x127_8, rfl, HA, HJ8, HO_196003, BK188, BK195, BK196, BK208, BK218, HB⟩ := hcut
 cases kq with
 | zero => exact absurd HA.out (by simp [bivouaclaw16_ShotAbove.j0])
 | succ kj8 =>
  have H := HA.out
  clear HA
  simp only [bivouaclaw16_ShotAbove.j0] at H
  by_cases c68 : x127_8 = true
  ·
   subst c68
   have H1 : (none) = some r := by rw [if_pos rfl] at H; exact H
   clear H
   have H := H1
   clear H1
   exact absurd H (by simp)
  replace c68 := Bool.eq_false_iff.mpr c68
  subst c68
  have H1 : (if t217 = 0 then (if t199 = (wrap64 (((a0_10) % 256))) then (if t209 ≥ t199 then (if a0_11 > 0 then ((bivouaclaw16_awake.f).bind fun t224 => (some t224)) else (if (t209 == t199 && (t210 == t200 && ((t211 == t201 && (t212 == t202 && (t213 == t203 && (t214 == t204 && (t215 == t205 && (t216 == t206))))))))) = true then ((bivouaclaw16_awake.f).bind fun t225 => (some t225)) else (none))) else (none)) else (none)) else (none)) = some r := by rw [if_neg (show ¬ (false = true) by decide)] at H; exact H
  clear H
  have H := H1
  clear H1
  by_cases c69 : t217 = 0
  ·
   rw [if_pos c69] at H
   have c69b0 : (t217 == 0) = true := beq_iff_eq.mpr c69
   have c69b1 : (t217 != 0) = false := bne_eq_false_iff_eq.mpr c69
   clear c69
   by_cases c70 : t199 = (wrap64 (((a0_10) % 256)))
   ·
    rw [if_pos c70] at H
    have c70b0 : (t199 == (wrap64 (((a0_10) % 256)))) = true := beq_iff_eq.mpr c70
    have c70b1 : (t199 != (wrap64 (((a0_10) % 256)))) = false := bne_eq_false_iff_eq.mpr c70
    have c70b2 : (t199 == (a0_10 % 256)) = true := by rw [show wrap64 (a0_10 % 256) = a0_10 % 256 by unfold wrap64; omega] at c70b0; exact c70b0
    have c70b3 : (t199 != (a0_10 % 256)) = false := by rw [show wrap64 (a0_10 % 256) = a0_10 % 256 by unfold wrap64; omega] at c70b1; exact c70b1
    clear c70
    by_cases c71 : t209 ≥ t199
    ·
     rw [if_pos c71] at H
     have c71b0 : decide (t199 ≤ t209) = true := decide_eq_true c71
     clear c71
     by_cases c72 : a0_11 > 0
     ·
      rw [if_pos c72] at H
      have c72b0 : decide (0 < a0_11) = true := decide_eq_true c72
      clear c72
      replace H := Option.bind_eq_some_iff.mp H
      obtain ⟨t224, A730, H⟩ := H
      replace H : (some t224) = some r := H
      have A73 := aM19 A730
      clear A730
      obtain rfl := Option.some.inj H
      have hnb74 := NB208_188.out
      have hnc74 := NB188_208.out
      have hnb75 := NB208_195.out
      have hnc75 := NB195_208.out
      have hnb76 := NB208_196.out
      have hnc76 := NB196_208.out
      have hnb77 := NB208_218.out
      have hnc77 := NB218_208.out
      have hcz78_0 : wc.cell? ⟨gb208, 0, none⟩ = some (.int .i64 t199) := (bC19 BK208.out 0).trans rfl
      have hcz78_1 : wc.cell? ⟨gb208, 1, none⟩ = some (.int .i64 t200) := (bC19 BK208.out 1).trans rfl
      have hcz78_2 : wc.cell? ⟨gb208, 2, none⟩ = some (.int .i64 t201) := (bC19 BK208.out 2).trans rfl
      have hcz78_3 : wc.cell? ⟨gb208, 3, none⟩ = some (.int .i64 t202) := (bC19 BK208.out 3).trans rfl
      have hcz78_4 : wc.cell? ⟨gb208, 4, none⟩ = some (.int .i64 t203) := (bC19 BK208.out 4).trans rfl
      have hcz78_5 : wc.cell? ⟨gb208, 5, none⟩ = some (.int .i64 t204) := (bC19 BK208.out 5).trans rfl
      have hcz78_6 : wc.cell? ⟨gb208, 6, none⟩ = some (.int .i64 t205) := (bC19 BK208.out 6).trans rfl
      have hcz78_7 : wc.cell? ⟨gb208, 7, none⟩ = some (.int .i64 t206) := (bC19 BK208.out 7).trans rfl
      have hfz78_0 := bF19 BK208.out 0
      have hfz78_1 := bF19 BK208.out 1
      have hfz78_2 := bF19 BK208.out 2
      have hfz78_3 := bF19 BK208.out 3
      have hfz78_4 := bF19 BK208.out 4
      have hfz78_5 := bF19 BK208.out 5
      have hfz78_6 := bF19 BK208.out 6
      have hfz78_7 := bF19 BK208.out 7
      have hnb79 := NB218_188.out
      have hnc79 := NB188_218.out
      have hnb80 := NB218_195.out
      have hnc80 := NB195_218.out
      have hnb81 := NB218_196.out
      have hnc81 := NB196_218.out
      have hcz82_0 : wc.cell? ⟨gb218, 0, none⟩ = some (.int .i64 t209) := (bC19 BK218.out 0).trans rfl
      have hcz82_1 : wc.cell? ⟨gb218, 1, none⟩ = some (.int .i64 t210) := (bC19 BK218.out 1).trans rfl
      have hcz82_2 : wc.cell? ⟨gb218, 2, none⟩ = some (.int .i64 t211) := (bC19 BK218.out 2).trans rfl
      have hcz82_3 : wc.cell? ⟨gb218, 3, none⟩ = some (.int .i64 t212) := (bC19 BK218.out 3).trans rfl
      have hcz82_4 : wc.cell? ⟨gb218, 4, none⟩ = some (.int .i64 t213) := (bC19 BK218.out 4).trans rfl
      have hcz82_5 : wc.cell? ⟨gb218, 5, none⟩ = some (.int .i64 t214) := (bC19 BK218.out 5).trans rfl
      have hcz82_6 : wc.cell? ⟨gb218, 6, none⟩ = some (.int .i64 t215) := (bC19 BK218.out 6).trans rfl
      have hcz82_7 : wc.cell? ⟨gb218, 7, none⟩ = some (.int .i64 t216) := (bC19 BK218.out 7).trans rfl
      have hfz82_0 := bF19 BK218.out 0
      have hfz82_1 := bF19 BK218.out 1
      have hfz82_2 := bF19 BK218.out 2
      have hfz82_3 := bF19 BK218.out 3
      have hfz82_4 := bF19 BK218.out 4
      have hfz82_5 := bF19 BK218.out 5
      have hfz82_6 := bF19 BK218.out 6
      have hfz82_7 := bF19 BK218.out 7
      go_wp2_with (first | (go_at_call 10; (with_reducible refine (bivouaclaw16_awake.calls  t224 _ A73.out).mono ?_); rintro e w83 ⟨rfl, hb⟩; have n0_ := aM19 (Kd.V_below (by (with_reducible repeat (first | apply Kd.V_alloc | apply Kd.V_drewN | apply Kd.V_drew)); exact HO_196003.out) hb); have n1_ := aM19 (blk_below (g := gb188) (o := .cells #[.int .i64 a0_0, .int .i64 a0_1, .int .i64 a0_2, .slice A0_3 l0_3.length c0_3, .int .i64 a0_4, .int .i64 a0_5, .int .i64 a0_6, .int .i64 a0_7, .int .i64 a0_8, .int .i64 a0_9, .int .i64 a0_10, .int .u8 a0_11] 36 (0, 0)) (by (with_reducible repeat (first | refine bN19 ?_ _ | refine bD19 ?_ | refine bK19 ?_ _)); exact BK188.out) hb); have n2_ := aM19 (blk_below (g := gb195) (o := .cells #[.int .i64 t189, .int .i64 t190, .int .i64 t191, .slice Ao19 t192.length co19] 25 (0, 0)) (by (with_reducible repeat (first | refine bN19 ?_ _ | refine bD19 ?_ | refine bK19 ?_ _)); exact BK195.out) hb); have n3_ := aM19 (blk_below (g := gb196) (o := .cells #[.int .i64 a0_4, .int .i64 a0_5, .int .i64 a0_6, .int .i64 a0_7, .int .i64 a0_8, .int .i64 a0_9] 27 (0, 0)) (by (with_reducible repeat (first | refine bN19 ?_ _ | refine bD19 ?_ | refine bK19 ?_ _)); exact BK196.out) hb); have n4_ := aM19 (blk_below (g := gb208) (o := .cells #[.int .i64 t199, .int .i64 t200, .int .i64 t201, .int .i64 t202, .int .i64 t203, .int .i64 t204, .int .i64 t205, .int .i64 t206] 38 (0, 0)) (by (with_reducible repeat (first | refine bN19 ?_ _ | refine bD19 ?_ | refine bK19 ?_ _)); exact BK208.out) hb); have n5_ := aM19 (blk_below (g := gb218) (o := .cells #[.int .i64 t209, .int .i64 t210, .int .i64 t211, .int .i64 t212, .int .i64 t213, .int .i64 t214, .int .i64 t215, .int .i64 t216] 38 (0, 0)) (by (with_reducible repeat (first | refine bN19 ?_ _ | refine bD19 ?_ | refine bK19 ?_ _)); exact BK218.out) hb); have n6_ := aM19 (below_step (by repeat (first | (with_reducible first | exact HB.out | apply below_alloc | apply pw_below_drewN | apply below_drew1 | refine below_set ?_ GE188.out | refine below_set ?_ GE195.out | refine below_set ?_ GE196.out | refine below_set ?_ GE208.out | refine below_set ?_ GE218.out) | exact HB.out)) hb); clear HO_196003; clear BK188; clear BK195; clear BK196; clear BK208; clear BK218; clear HB; have HO_196003 := n0_; have BK188 := n1_; have BK195 := n2_; have BK196 := n3_; have BK208 := n4_; have BK218 := n5_; have HB := n6_; clear n0_ n1_ n2_ n3_ n4_ n5_ n6_; (try clear hb); (try clear hb2); (try clear hk); (try clear hi)))
      go_ret
      exact ⟨by first | rfl | (simp [errW_none, errW_some] <;> rfl) | (simp [*, errW_none, errW_some] <;> rfl) | (rw [Int.tdiv_eq_ediv_of_nonneg (by assumption)]; rfl), by repeat (first | (with_reducible first | exact HB.out | apply below_alloc | apply pw_below_drewN | apply below_drew1 | refine below_set ?_ GE188.out | refine below_set ?_ GE195.out | refine below_set ?_ GE196.out | refine below_set ?_ GE208.out | refine below_set ?_ GE218.out) | exact HB.out)⟩
     rw [if_neg c72] at H
     have c72b0 : decide (0 < a0_11) = false := decide_eq_false c72
     clear c72
     by_cases c84 : (t209 == t199 && (t210 == t200 && ((t211 == t201 && (t212 == t202 && (t213 == t203 && (t214 == t204 && (t215 == t205 && (t216 == t206))))))))) = true
     ·
      rw [if_pos c84] at H
      have c84b0 : (t209 == t199 && (t210 == t200 && ((t211 == t201 && (t212 == t202 && (t213 == t203 && (t214 == t204 && (t215 == t205 && (t216 == t206))))))))) = true := c84
      (try (have c84b1 : decide (t209 = t199 && (t210 == t200 && ((t211 == t201 && (t212 == t202 && (t213 == t203 && (t214 == t204 && (t215 == t205 && (t216 == t206))))))))) = true := by simpa using c84))
      (try (have c84b2 : (t209 == t199 && (t210 == t200 && ((t211 == t201 && (t212 == t202 && (t213 == t203 && (t214 == t204 && (t215 == t205 && (t216 == t206))))))))) = true := by simpa using c84))
      clear c84
      replace H := Option.bind_eq_some_iff.mp H
      obtain ⟨t225, A850, H⟩ := H
      replace H : (some t225) = some r := H
      have A85 := aM19 A850
      clear A850
      obtain rfl := Option.some.inj H
      have hnb86 := NB208_188.out
      have hnc86 := NB188_208.out
      have hnb87 := NB208_195.out
      have hnc87 := NB195_208.out
      have hnb88 := NB208_196.out
      have hnc88 := NB196_208.out
      have hnb89 := NB208_218.out
      have hnc89 := NB218_208.out
      have hcz90_0 : wc.cell? ⟨gb208, 0, none⟩ = some (.int .i64 t199) := (bC19 BK208.out 0).trans rfl
      have hcz90_1 : wc.cell? ⟨gb208, 1, none⟩ = some (.int .i64 t200) := (bC19 BK208.out 1).trans rfl
      have hcz90_2 : wc.cell? ⟨gb208, 2, none⟩ = some (.int .i64 t201) := (bC19 BK208.out 2).trans rfl
      have hcz90_3 : wc.cell? ⟨gb208, 3, none⟩ = some (.int .i64 t202) := (bC19 BK208.out 3).trans rfl
      have hcz90_4 : wc.cell? ⟨gb208, 4, none⟩ = some (.int .i64 t203) := (bC19 BK208.out 4).trans rfl
      have hcz90_5 : wc.cell? ⟨gb208, 5, none⟩ = some (.int .i64 t204) := (bC19 BK208.out 5).trans rfl
      have hcz90_6 : wc.cell? ⟨gb208, 6, none⟩ = some (.int .i64 t205) := (bC19 BK208.out 6).trans rfl
      have hcz90_7 : wc.cell? ⟨gb208, 7, none⟩ = some (.int .i64 t206) := (bC19 BK208.out 7).trans rfl
      have hfz90_0 := bF19 BK208.out 0
      have hfz90_1 := bF19 BK208.out 1
      have hfz90_2 := bF19 BK208.out 2
      have hfz90_3 := bF19 BK208.out 3
      have hfz90_4 := bF19 BK208.out 4
      have hfz90_5 := bF19 BK208.out 5
      have hfz90_6 := bF19 BK208.out 6
      have hfz90_7 := bF19 BK208.out 7
      have hnb91 := NB218_188.out
      have hnc91 := NB188_218.out
      have hnb92 := NB218_195.out
      have hnc92 := NB195_218.out
      have hnb93 := NB218_196.out
      have hnc93 := NB196_218.out
      have hcz94_0 : wc.cell? ⟨gb218, 0, none⟩ = some (.int .i64 t209) := (bC19 BK218.out 0).trans rfl
      have hcz94_1 : wc.cell? ⟨gb218, 1, none⟩ = some (.int .i64 t210) := (bC19 BK218.out 1).trans rfl
      have hcz94_2 : wc.cell? ⟨gb218, 2, none⟩ = some (.int .i64 t211) := (bC19 BK218.out 2).trans rfl
      have hcz94_3 : wc.cell? ⟨gb218, 3, none⟩ = some (.int .i64 t212) := (bC19 BK218.out 3).trans rfl
      have hcz94_4 : wc.cell? ⟨gb218, 4, none⟩ = some (.int .i64 t213) := (bC19 BK218.out 4).trans rfl
      have hcz94_5 : wc.cell? ⟨gb218, 5, none⟩ = some (.int .i64 t214) := (bC19 BK218.out 5).trans rfl
      have hcz94_6 : wc.cell? ⟨gb218, 6, none⟩ = some (.int .i64 t215) := (bC19 BK218.out 6).trans rfl
      have hcz94_7 : wc.cell? ⟨gb218, 7, none⟩ = some (.int .i64 t216) := (bC19 BK218.out 7).trans rfl
      have hfz94_0 := bF19 BK218.out 0
      have hfz94_1 := bF19 BK218.out 1
      have hfz94_2 := bF19 BK218.out 2
      have hfz94_3 := bF19 BK218.out 3
      have hfz94_4 := bF19 BK218.out 4
      have hfz94_5 := bF19 BK218.out 5
      have hfz94_6 := bF19 BK218.out 6
      have hfz94_7 := bF19 BK218.out 7
      go_wp2_with (first | (go_at_call 10; (with_reducible refine (bivouaclaw16_awake.calls  t225 _ A85.out).mono ?_); rintro e w95 ⟨rfl, hb⟩; have n0_ := aM19 (Kd.V_below (by (with_reducible repeat (first | apply Kd.V_alloc | apply Kd.V_drewN | apply Kd.V_drew)); exact HO_196003.out) hb); have n1_ := aM19 (blk_below (g := gb188) (o := .cells #[.int .i64 a0_0, .int .i64 a0_1, .int .i64 a0_2, .slice A0_3 l0_3.length c0_3, .int .i64 a0_4, .int .i64 a0_5, .int .i64 a0_6, .int .i64 a0_7, .int .i64 a0_8, .int .i64 a0_9, .int .i64 a0_10, .int .u8 a0_11] 36 (0, 0)) (by (with_reducible repeat (first | refine bN19 ?_ _ | refine bD19 ?_ | refine bK19 ?_ _)); exact BK188.out) hb); have n2_ := aM19 (blk_below (g := gb195) (o := .cells #[.int .i64 t189, .int .i64 t190, .int .i64 t191, .slice Ao19 t192.length co19] 25 (0, 0)) (by (with_reducible repeat (first | refine bN19 ?_ _ | refine bD19 ?_ | refine bK19 ?_ _)); exact BK195.out) hb); have n3_ := aM19 (blk_below (g := gb196) (o := .cells #[.int .i64 a0_4, .int .i64 a0_5, .int .i64 a0_6, .int .i64 a0_7, .int .i64 a0_8, .int .i64 a0_9] 27 (0, 0)) (by (with_reducible repeat (first | refine bN19 ?_ _ | refine bD19 ?_ | refine bK19 ?_ _)); exact BK196.out) hb); have n4_ := aM19 (blk_below (g := gb208) (o := .cells #[.int .i64 t199, .int .i64 t200, .int .i64 t201, .int .i64 t202, .int .i64 t203, .int .i64 t204, .int .i64 t205, .int .i64 t206] 38 (0, 0)) (by (with_reducible repeat (first | refine bN19 ?_ _ | refine bD19 ?_ | refine bK19 ?_ _)); exact BK208.out) hb); have n5_ := aM19 (blk_below (g := gb218) (o := .cells #[.int .i64 t209, .int .i64 t210, .int .i64 t211, .int .i64 t212, .int .i64 t213, .int .i64 t214, .int .i64 t215, .int .i64 t216] 38 (0, 0)) (by (with_reducible repeat (first | refine bN19 ?_ _ | refine bD19 ?_ | refine bK19 ?_ _)); exact BK218.out) hb); have n6_ := aM19 (below_step (by repeat (first | (with_reducible first | exact HB.out | apply below_alloc | apply pw_below_drewN | apply below_drew1 | refine below_set ?_ GE188.out | refine below_set ?_ GE195.out | refine below_set ?_ GE196.out | refine below_set ?_ GE208.out | refine below_set ?_ GE218.out) | exact HB.out)) hb); clear HO_196003; clear BK188; clear BK195; clear BK196; clear BK208; clear BK218; clear HB; have HO_196003 := n0_; have BK188 := n1_; have BK195 := n2_; have BK196 := n3_; have BK208 := n4_; have BK218 := n5_; have HB := n6_; clear n0_ n1_ n2_ n3_ n4_ n5_ n6_; (try clear hb); (try clear hb2); (try clear hk); (try clear hi)))
      go_ret
      exact ⟨by first | rfl | (simp [errW_none, errW_some] <;> rfl) | (simp [*, errW_none, errW_some] <;> rfl) | (rw [Int.tdiv_eq_ediv_of_nonneg (by assumption)]; rfl), by repeat (first | (with_reducible first | exact HB.out | apply below_alloc | apply pw_below_drewN | apply below_drew1 | refine below_set ?_ GE188.out | refine below_set ?_ GE195.out | refine below_set ?_ GE196.out | refine below_set ?_ GE208.out | refine below_set ?_ GE218.out) | exact HB.out)⟩
     rw [if_neg c84] at H
     exact absurd H (by simp)
    rw [if_neg c71] at H
    exact absurd H (by simp)
   rw [if_neg c70] at H
   exact absurd H (by simp)
  rw [if_neg c69] at H
  exact absurd H (by simp)
end Go.Proofs.Ytfcocbkfodmmbaa.PA
