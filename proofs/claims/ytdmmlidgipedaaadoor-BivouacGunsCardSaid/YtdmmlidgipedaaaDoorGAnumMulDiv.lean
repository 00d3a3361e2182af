/- The contract of num_MulDiv: what its call comes to, for every argument, in any memory. -/
import Derived.Test.YtdmmlidgipedaaaDoorPAx0
import Derived.Test.YtdmmlidgipedaaaDoorPAx11
import Derived.Test.YtdmmlidgipedaaaDoorGAtrigHeading
import Derived.Test.YtdmmlidgipedaaaDoorGAtrigSin
namespace Go.Proofs.YtdmmlidgipedaaaDoor.PA
open Go.RowKit Go.Proofs.YtdmmlidgipedaaaDoorW.PrintWords Go.Proofs.YtdmmlidgipedaaaDoorW.PrintLast Go.Proofs.YtdmmlidgipedaaaDoorW.PrintMore
set_option linter.unusedVariables false
set_option linter.unusedSimpArgs false

theorem mulDiv64_calls (lo : Int) (w : World) (h0 : 0 ≤ lo) (h1 : lo < 18446744073709551616) :
    Calls Tryd.prog 37 #[.int .u64 0, .int .u64 lo, .int .u64 65536] w fun e w' => e = .returned (.tuple #[.int .u64 (lo / 65536), .int .u64 (lo % 65536)]) ∧ Drawn0 w w' := by
  go_enter Tryd.func37, Tryd.ntmps37
  go_wp2
  all_goals go_region
  all_goals go_wp2
  all_goals go_ret2
  all_goals exact ⟨by first | rfl | (simp; done), by repeat (first | exact Drawn0.refl _ | apply Drawn0.step)⟩
/-- Is a product below nought? -/
def mulNeg (a b : Int) : Bool := (decide (a < 0) != decide (b < 0)) && (!decide (a = 0)) && (!decide (b = 0))
set_option maxHeartbeats 8000000 in
theorem mulBelow_calls (a b : Int) (ga gb gc : Nat) (w : World) (ha : w.cell? ⟨ga, 0, none⟩ = some (.int .i64 a)) (hb : w.cell? ⟨gb, 0, none⟩ = some (.int .i64 b)) (hc : w.cell? ⟨gc, 0, none⟩ = some (.int .i64 65536)) :
    Calls Tryd.prog 36 #[.pointer (some ⟨ga, 0, none⟩), .pointer (some ⟨gb, 0, none⟩), .pointer (some ⟨gc, 0, none⟩)] w fun e w' => e = .returned (.bool (mulNeg a b)) ∧ Drawn0 w w' := by
  have da1 : (a != 0) = !(decide (a = 0)) := by simp [bne, BEq.beq]
  have db1 : (b != 0) = !(decide (b = 0)) := by simp [bne, BEq.beq]
  have hm : Aside0 (mulNeg a b = ((decide (a < 0) != decide (b < 0)) && (!decide (a = 0)) && (!decide (b = 0)))) := ⟨rfl⟩
  generalize hsa : decide (a < 0) = sa at hm
  generalize hsb : decide (b < 0) = sb at hm
  generalize decide (a = 0) = za at hm da1
  generalize decide (b = 0) = zb at hm db1
  cases sa <;> cases sb <;> cases za <;> cases zb
  all_goals
    go_enter Tryd.func36, Tryd.ntmps36
    go_wp2
    go_ret
    exact ⟨by rw [hm.out]; first | rfl | (simp; done), by repeat (first | exact Drawn0.refl _ | apply Drawn0.step)⟩
theorem u64_w (i : Int) : IntKind.u64.wrap i = i % 18446744073709551616 := by
  simp [IntKind.wrap, IntKind.signed, IntKind.bits]
theorem num_size_eq (a : Int) (h0 : -2147483648 ≤ a) (h1 : a ≤ 2147483648) : num_size.f a = some (a.natAbs : Int) := by
  unfold num_size.f
  simp only [u64_w]
  split <;> congr 1 <;> omega
theorem and32 {x : Int} (h0 : 0 ≤ x) (h1 : x ≤ 2147483648) : Go.bits .and .u64 x 4294967295 = x := by
  obtain ⟨n, rfl⟩ := Int.eq_ofNat_of_zero_le h0
  have hn : n ≤ 2147483648 := by omega
  have h1 : (BitVec.ofInt 64 (n : Int)).toNat = n := by
    rw [BitVec.ofInt_natCast, BitVec.toNat_ofNat]; exact Nat.mod_eq_of_lt (by omega)
  have h2 : (BitVec.ofInt 64 (4294967295 : Int)).toNat = 4294967295 := by decide +kernel
  show IntKind.u64.wrap ((BitVec.ofInt 64 (n : Int) &&& BitVec.ofInt 64 (4294967295 : Int)).toNat : Int) = _
  rw [BitVec.toNat_and, h1, h2, u64_w]
  have h3 : n &&& 4294967295 = n % 4294967296 := Nat.and_two_pow_sub_one_eq_mod n 32
  rw [h3]
  omega
theorem mul_bound {a b A B : Int} (ha : 0 ≤ a) (ha' : a ≤ A) (hb : 0 ≤ b) (hb' : b ≤ B) : 0 ≤ a * b ∧ a * b ≤ A * B :=
  ⟨Int.mul_nonneg ha hb, Int.mul_le_mul ha' hb' hb (by omega)⟩
theorem bits_Mul64_eq (x y : Int) (x0 : 0 ≤ x) (x1 : x ≤ 2147483648) (y0 : 0 ≤ y) (y1 : y ≤ 2147483648) : bits_Mul64.f x y = some (0, x * y) := by
  have hx : x / 4294967296 = 0 := by omega
  have hy : y / 4294967296 = 0 := by omega
  obtain ⟨m0, m1⟩ := mul_bound x0 x1 y0 y1
  unfold bits_Mul64.f
  simp only [hx, hy, and32 x0 x1, and32 y0 y1, Int.zero_mul, Int.mul_zero, u64_w, Int.zero_emod, Int.zero_add, Int.add_zero]
  generalize x * y = z at m0 m1
  have hz : z % 18446744073709551616 = z := by omega
  have hz2 : 0 ≤ z / 4294967296 ∧ z / 4294967296 ≤ 1073741824 := by omega
  rw [hz]
  have h3 : Go.bits .and .u64 (z / 4294967296 % 18446744073709551616) 4294967295 = z / 4294967296 := by
    rw [show z / 4294967296 % 18446744073709551616 = z / 4294967296 by omega]
    exact and32 (by omega) (by omega)
  rw [h3]
  congr 2
  omega
/-- A product by 2^16, rounded down, of numbers that are not great. -/
def num_MulDiv.f (a0 : Int) (a1 : Int) (a2 : Int) : Option (Int × Int) :=
  if a2 = 65536 ∧ (-2147483648 ≤ a0 ∧ a0 ≤ 2147483648) ∧ (-2147483648 ≤ a1 ∧ a1 ≤ 2147483648) then some (a0 * a1 / 65536, 0) else none
theorem mul_sign (a b : Int) : a * b = if mulNeg a b = true then -((a.natAbs : Int) * (b.natAbs : Int)) else (a.natAbs : Int) * (b.natAbs : Int) := by
  unfold mulNeg
  by_cases ca : a < 0 <;> by_cases cb : b < 0 <;> by_cases da : a = 0 <;> by_cases db : b = 0 <;> simp only [ca, cb, da, db, decide_true, decide_false] <;> simp
  all_goals first | omega | skip
  · rw [show (a.natAbs : Int) = -a by omega, show (b.natAbs : Int) = -b by omega]; exact (Int.neg_mul_neg a b).symm
  · rw [show (a.natAbs : Int) = -a by omega, show (b.natAbs : Int) = b by omega, Int.neg_mul, Int.neg_neg]
  · rw [show (a.natAbs : Int) = a by omega, show (b.natAbs : Int) = -b by omega, Int.mul_neg, Int.neg_neg]
  · rw [show (a.natAbs : Int) = a by omega, show (b.natAbs : Int) = b by omega]
set_option maxHeartbeats 8000000 in
set_option maxRecDepth 100000 in
theorem num_MulDiv.calls (a0 : Int) (a1 : Int) (a2 : Int) (r1 : Int) (r2 : Int) (w : World) (h : num_MulDiv.f a0 a1 a2 = some (r1, r2)) :
    Calls Tryd.prog 33 #[.int .i64 a0, .int .i64 a1, .int .i64 a2] w fun e w' => e = .returned (.tuple #[.int .i64 r1, .int .i64 r2]) ∧ Below w.heap.size w w' := by
  unfold num_MulDiv.f at h
  split at h
  rotate_left
  · cases h
  rename_i hc
  obtain ⟨rfl, ⟨x0, x1⟩, y0, y1⟩ := hc
  obtain ⟨rfl, rfl⟩ : a0 * a1 / 65536 = r1 ∧ 0 = r2 := by simpa using h
  clear h
  have hmf : ∀ (fn : Fn) (first cap : Array Value) (w : World), (Instr.makeFunc fn first cap).run Tryd.prog w = .ok (.func fn first cap) w := fun _ _ _ _ => rfl
  have HB := Aside0.mk (Below.refl w.heap.size w)
  have HS0 := Aside0.mk (num_size_eq a0 x0 x1)
  have HS1 := Aside0.mk (num_size_eq a1 y0 y1)
  have HSG := Aside0.mk (mul_sign a0 a1)
  obtain ⟨A, hA⟩ : ∃ A, (a0.natAbs : Int) = A := ⟨_, rfl⟩
  obtain ⟨B, hB⟩ : ∃ B, (a1.natAbs : Int) = B := ⟨_, rfl⟩
  have A0 : 0 ≤ A := by omega
  have A1 : A ≤ 2147483648 := by omega
  have B0 : 0 ≤ B := by omega
  have B1 : B ≤ 2147483648 := by omega
  rw [hA] at HS0 HSG
  rw [hB] at HS1 HSG
  have HM := Aside0.mk (bits_Mul64_eq A B A0 A1 B0 B1)
  obtain ⟨m0, m1⟩ := mul_bound A0 A1 B0 B1
  have HZ : Aside0 (mulNeg a0 a1 = true → 1 ≤ A * B) := ⟨fun h => by
    unfold mulNeg at h
    simp only [Bool.and_eq_true, Bool.not_eq_true', decide_eq_false_iff_not] at h
    have := Int.mul_le_mul (show (1 : Int) ≤ A by omega) (show (1 : Int) ≤ B by omega) (by omega) (by omega)
    omega⟩
  generalize A * B = z at HM HSG HZ m0 m1
  have HSD : Aside0 (num_size.f 65536 = some 65536) := ⟨by rw [num_size_eq 65536 (by omega) (by omega)]; rfl⟩
  clear x0 x1 y0 y1 hA hB A0 A1 B0 B1
  obtain ⟨sg, hsg⟩ : ∃ sg, mulNeg a0 a1 = sg := ⟨_, rfl⟩
  rw [hsg] at HSG HZ
  have HN := Aside0.mk hsg
  clear hsg
  have hq0 : 0 ≤ z / 65536 := by omega
  have hq1 : z / 65536 ≤ 70368744177664 := by omega
  go_enter Tryd.func33, Tryd.ntmps33
  go_upto_region 4 with (first | ((with_reducible refine gate_dst (N := 3) rfl ?_); refine box_event ?hg (N := 3) ?hd (cs := #[.int .i64 a0]) (t := 2) ?hr ?_; (case hd => rfl); (case hg => rfl); (case hr => first | (go_simp; done) | (go_simp; rfl)); intro ga hg ww1 hbox hb; have Ga : Aside0 (w.heap.size ≤ ga) := ⟨by have := HB.out.size; omega⟩; have Ka := Aside0.mk hbox; have KK := Aside0.mk (below_step HB.out hb); clear HB; have HB := KK; clear KK; clear hb hbox hg; have za_0 : ww1.cell? ⟨ga, 0, none⟩ = some (.int .i64 a0) := (blk_cell Ka.out 0).trans rfl; have fa_0 := blk_frozen Ka.out 0) | ((with_reducible refine gate_dst (N := 4) rfl ?_); refine box_event ?hg (N := 4) ?hd (cs := #[.int .i64 a1]) (t := 2) ?hr ?_; (case hd => rfl); (case hg => rfl); (case hr => first | (go_simp; done) | (go_simp; rfl)); intro gb hg ww2 hbox hb; have Na_b : Aside0 (ga ≠ gb) := ⟨by have := blk_lt Ka.out; omega⟩; have KK := Aside0.mk (blk_below Ka.out hb); clear Ka; have Ka := KK; clear KK; have Gb : Aside0 (w.heap.size ≤ gb) := ⟨by have := HB.out.size; omega⟩; have Kb := Aside0.mk hbox; have KK := Aside0.mk (below_step HB.out hb); clear HB; have HB := KK; clear KK; clear hb hbox hg; clear za_0 fa_0; have za_0 : ww2.cell? ⟨ga, 0, none⟩ = some (.int .i64 a0) := (blk_cell Ka.out 0).trans rfl; have zb_0 : ww2.cell? ⟨gb, 0, none⟩ = some (.int .i64 a1) := (blk_cell Kb.out 0).trans rfl; have fb_0 := blk_frozen Kb.out 0) | ((with_reducible refine gate_dst (N := 5) rfl ?_); refine box_event ?hg (N := 5) ?hd (cs := #[.int .i64 65536]) (t := 2) ?hr ?_; (case hd => rfl); (case hg => rfl); (case hr => first | (go_simp; done) | (go_simp; rfl)); intro gc hg ww3 hbox hb; have Na_c : Aside0 (ga ≠ gc) := ⟨by have := blk_lt Ka.out; omega⟩; have Nb_c : Aside0 (gb ≠ gc) := ⟨by have := blk_lt Kb.out; omega⟩; have KK := Aside0.mk (blk_below Ka.out hb); clear Ka; have Ka := KK; clear KK; have KK := Aside0.mk (blk_below Kb.out hb); clear Kb; have Kb := KK; clear KK; have Gc : Aside0 (w.heap.size ≤ gc) := ⟨by have := HB.out.size; omega⟩; have Kc := Aside0.mk hbox; have KK := Aside0.mk (below_step HB.out hb); clear HB; have HB := KK; clear KK; clear hb hbox hg; clear za_0 zb_0 fb_0; have za_0 : ww3.cell? ⟨ga, 0, none⟩ = some (.int .i64 a0) := (blk_cell Ka.out 0).trans rfl; have zb_0 : ww3.cell? ⟨gb, 0, none⟩ = some (.int .i64 a1) := (blk_cell Kb.out 0).trans rfl; have zc_0 : ww3.cell? ⟨gc, 0, none⟩ = some (.int .i64 65536) := (blk_cell Kc.out 0).trans rfl; have fc_0 := blk_frozen Kc.out 0) | ((with_reducible refine gate_dst (N := 8) rfl ?_); refine box_event ?hg (N := 8) ?hd (cs := #[.int .u64 0, .int .u64 0]) (t := 72) ?hr ?_; (case hd => rfl); (case hg => rfl); (case hr => first | (go_simp; done) | (go_simp; rfl)); intro gp hg ww4 hbox hb; have Na_p : Aside0 (ga ≠ gp) := ⟨by have := blk_lt Ka.out; omega⟩; have Nb_p : Aside0 (gb ≠ gp) := ⟨by have := blk_lt Kb.out; omega⟩; have Nc_p : Aside0 (gc ≠ gp) := ⟨by have := blk_lt Kc.out; omega⟩; have KK := Aside0.mk (blk_below Ka.out hb); clear Ka; have Ka := KK; clear KK; have KK := Aside0.mk (blk_below Kb.out hb); clear Kb; have Kb := KK; clear KK; have KK := Aside0.mk (blk_below Kc.out hb); clear Kc; have Kc := KK; clear KK; have Gp : Aside0 (w.heap.size ≤ gp) := ⟨by have := HB.out.size; omega⟩; have Kp := Aside0.mk hbox; have KK := Aside0.mk (below_step HB.out hb); clear HB; have HB := KK; clear KK; clear hb hbox hg; clear za_0 zb_0 zc_0 fc_0; have za_0 : ww4.cell? ⟨ga, 0, none⟩ = some (.int .i64 a0) := (blk_cell Ka.out 0).trans rfl; have zb_0 : ww4.cell? ⟨gb, 0, none⟩ = some (.int .i64 a1) := (blk_cell Kb.out 0).trans rfl; have zc_0 : ww4.cell? ⟨gc, 0, none⟩ = some (.int .i64 65536) := (blk_cell Kc.out 0).trans rfl; have zp_0 : ww4.cell? ⟨gp, 0, none⟩ = some (.int .u64 0) := (blk_cell Kp.out 0).trans rfl; have fp_0 := blk_frozen Kp.out 0; have zp_1 : ww4.cell? ⟨gp, 1, none⟩ = some (.int .u64 0) := (blk_cell Kp.out 1).trans rfl; have fp_1 := blk_frozen Kp.out 1))
  (try simp only [Act.put, List.setIfInBounds_toArray, List.set_cons_zero, List.set_cons_succ])
  have fp0 := blk_frozen Kp.out 0
  have fp1 := blk_frozen Kp.out 1
  go_cut [] from 15 (fun wc => Aside0 (wc.heap[ga]? = some (.cells #[.int .i64 a0] 2 (0, 0))) ∧ Aside0 (wc.heap[gb]? = some (.cells #[.int .i64 a1] 2 (0, 0))) ∧ Aside0 (wc.heap[gc]? = some (.cells #[.int .i64 65536] 2 (0, 0))) ∧ Aside0 (wc.heap[gp]? = some (.cells #[.int .u64 0, .int .u64 z] 72 (0, 0))) ∧ Aside0 (Below w.heap.size w wc))
  case first =>
    go_region_with (first | (go_at_call_of 35 (Value.int .i64 a0); refine (num_size.calls a0 A _ HS0.out).mono ?_; rintro e w' ⟨rfl, ⟨nd, rfl⟩⟩) | (go_at_call_of 35 (Value.int .i64 a1); refine (num_size.calls a1 B _ HS1.out).mono ?_; rintro e w' ⟨rfl, ⟨nd, rfl⟩⟩) | (go_at_call 34; refine (bits_Mul64.calls A B 0 z _ HM.out).mono ?_; rintro e w' ⟨rfl, ⟨nd, rfl⟩⟩))
    all_goals (go_wp2; go_meet; case rel => exact ⟨⟨blk_far (blk_far (blk_drewN Ka.out _) Na_p.out _) Na_p.out _⟩, ⟨blk_far (blk_far (blk_drewN Kb.out _) Nb_p.out _) Nb_p.out _⟩, ⟨blk_far (blk_far (blk_drewN Kc.out _) Nc_p.out _) Nc_p.out _⟩, ⟨blk_put (blk_put (blk_drewN Kp.out _) 0 _ rfl) 1 _ rfl⟩, ⟨below_set (below_set (pw_below_drewN HB.out _) Gp.out) Gp.out⟩⟩)
  case rest =>
    clear Ka Kb Kc Kp HB fp0 fp1 za_0 zb_0 zc_0 zp_0 zp_1
    obtain ⟨Ka, Kb, Kc, Kp, HB⟩ := hcut
    have za_0 : wc.cell? ⟨ga, 0, none⟩ = some (.int .i64 a0) := (blk_cell Ka.out 0).trans rfl
    have zb_0 : wc.cell? ⟨gb, 0, none⟩ = some (.int .i64 a1) := (blk_cell Kb.out 0).trans rfl
    have zc_0 : wc.cell? ⟨gc, 0, none⟩ = some (.int .i64 65536) := (blk_cell Kc.out 0).trans rfl
    have zp_0 : wc.cell? ⟨gp, 0, none⟩ = some (.int .u64 0) := (blk_cell Kp.out 0).trans rfl
    have zp_1 : wc.cell? ⟨gp, 1, none⟩ = some (.int .u64 z) := (blk_cell Kp.out 1).trans rfl
    skip
    cases sg
    · have c1 : decide (z / 65536 > 9223372036854775807) = false := decide_eq_false (by omega)
      have c2 : decide (9223372036854775807 < z / 65536) = false := decide_eq_false (by omega)
      go_wp2_with (first | (go_at_call 35; refine (num_size.calls 65536 65536 _ HSD.out).mono ?_; rintro e w' ⟨rfl, ⟨nd, rfl⟩⟩) | (go_at_call 37; refine (mulDiv64_calls z _ m0 (by omega)).mono ?_; rintro e w' ⟨rfl, ⟨nd, rfl⟩⟩) | (go_at_call 36; refine (mulBelow_calls a0 a1 ga gb gc _ ?_ ?_ ?_).mono ?_; (first | assumption | (simpa using za_0)); (first | assumption | (simpa using zb_0)); (first | assumption | (simpa using zc_0)); rw [HN.out]; rintro e w' ⟨rfl, ⟨nd, rfl⟩⟩))
      go_ret2
      exact ⟨by rw [HSG.out]; first | rfl | (have hc := HC.out; rw [if_pos rfl]; simp [u64_w, wrap64]; omega) | (simp; done) | (have hc := HC.out; congr 3; simp [u64_w, wrap64]; omega), pw_below_drewN HB.out _⟩
    · have z1 : 1 ≤ z := HZ.out rfl
      by_cases c : z % 65536 = 0
      · have c1 : (z % 65536 != 0) = false := bne_eq_false_iff_eq.mpr c
        have c2 : (z / 65536 == 0) = false := beq_eq_false_iff_ne.mpr (by omega)
        have c3 : decide (z / 65536 > 9223372036854775808) = false := decide_eq_false (by omega)
        have c4 : decide (9223372036854775808 < z / 65536) = false := decide_eq_false (by omega)
        have HC := Aside0.mk c
        clear c
        go_wp2_with (first | (go_at_call 35; refine (num_size.calls 65536 65536 _ HSD.out).mono ?_; rintro e w' ⟨rfl, ⟨nd, rfl⟩⟩) | (go_at_call 37; refine (mulDiv64_calls z _ m0 (by omega)).mono ?_; rintro e w' ⟨rfl, ⟨nd, rfl⟩⟩) | (go_at_call 36; refine (mulBelow_calls a0 a1 ga gb gc _ ?_ ?_ ?_).mono ?_; (first | assumption | (simpa using za_0)); (first | assumption | (simpa using zb_0)); (first | assumption | (simpa using zc_0)); rw [HN.out]; rintro e w' ⟨rfl, ⟨nd, rfl⟩⟩))
        go_ret2
        exact ⟨by rw [HSG.out]; first | rfl | (have hc := HC.out; rw [if_pos rfl]; simp [u64_w, wrap64]; omega) | (simp; done) | (have hc := HC.out; congr 3; simp [u64_w, wrap64]; omega), pw_below_drewN HB.out _⟩
      · have c1 : (z % 65536 != 0) = true := bne_iff_ne.mpr c
        have c2 : (z / 65536 + 1 == 0) = false := beq_eq_false_iff_ne.mpr (by omega)
        have c3 : decide (z / 65536 + 1 > 9223372036854775808) = false := decide_eq_false (by omega)
        have c4 : decide (9223372036854775808 < z / 65536 + 1) = false := decide_eq_false (by omega)
        have HC := Aside0.mk c
        clear c
        go_wp2_with (first | (go_at_call 35; refine (num_size.calls 65536 65536 _ HSD.out).mono ?_; rintro e w' ⟨rfl, ⟨nd, rfl⟩⟩) | (go_at_call 37; refine (mulDiv64_calls z _ m0 (by omega)).mono ?_; rintro e w' ⟨rfl, ⟨nd, rfl⟩⟩) | (go_at_call 36; refine (mulBelow_calls a0 a1 ga gb gc _ ?_ ?_ ?_).mono ?_; (first | assumption | (simpa using za_0)); (first | assumption | (simpa using zb_0)); (first | assumption | (simpa using zc_0)); rw [HN.out]; rintro e w' ⟨rfl, ⟨nd, rfl⟩⟩))
        go_ret2
        exact ⟨by rw [HSG.out]; first | rfl | (have hc := HC.out; rw [if_pos rfl]; simp [u64_w, wrap64]; omega) | (simp; done) | (have hc := HC.out; congr 3; simp [u64_w, wrap64]; omega), pw_below_drewN HB.out _⟩

end Go.Proofs.YtdmmlidgipedaaaDoor.PA
